/- Texts of the proof of FreezeThaws: the data machine, the models of the Go functions, their contracts. -/
import Derived.Test.YtonaidnipimjgaaGreatFreezeThawsA3
set_option linter.unusedVariables false
set_option linter.unusedSimpArgs false
/- Go functions compute their models, printed by a program. -/
namespace Go.Dm
open Go.Proofs
set_option linter.unusedVariables false
theorem AaR (p0 : List Am) (p1 : List Am) (RES : Bool) (hm : AbN p0 p1 = some RES) : Spec Tryz.prog 132 [.p (Fj p0),.p (Fj p1)] [] (pB RES) [] [] := by
 unfold AbN at hm
 refine SO Tryz.func132 rfl rfl [(0,.p (Fj p0)),(1,.p (Fj p1))] [] ?_
 intro cx hnt
 refine Sq (RD hnt (.no :: []) [] [] [] [] tv ?_)
 refine Sq (Sq (RD hnt (nn 5 []) [] [(10,pB (((p0.length : Nat) : Int) != ((p1.length : Nat) : Int)))] [] [] tv ?_))
 refine Ag hm ?_ ?_
 ·intro h1 hm
  refine Sq (RK hnt (.no :: []) [(4,pB false)] [] tv ?_)
  obtain rfl := sj hm
  exact DW.ret (Ai [] [] (pB false))
 ·intro h1 hm
  refine Sk ?_
  refine Sq (Sq (RD hnt (.no :: []) [10] [(5,pI 0)] [] [] tv ?_))
  refine Bk ?_
  obtain ⟨hc1,hm⟩ := go1 hm
  refine DW.rangeO (fun (k1 : Nat) (s1 : Unit) => Aj [(0,.p (Fj p0)),(1,.p (Fj p1)),(5,pI ((k1 : Nat) : Int))] []) Bx hm Conv.eqK ?_
  intro k1 s1 n1 hk1 hs1 he1
  refine Sq (Sq (RD hnt (nn 4 []) [] [(14,pB (decide (((k1 : Nat) : Int) < ((p0.length : Nat) : Int))))] [] [] tv ?_))
  refine Cn (decide (((k1 : Nat) : Int) < ((p0.length : Nat) : Int))) ?_ ?_
  ·intro h10
   have hlt1 : k1 < p0.length := by have := of_decide_eq_true h10; omega
   have hm := hs1 hlt1
   unfold AcR at hm
   refine Sk ?_
   refine Sq (Bk ?_)
   obtain ⟨g11,hm⟩ := go1 hm
   refine Sq (RD hnt (nn 9 []) [14] [(25,pB (!(eqFrost (p0.getD k1 (default : Am)) (p1.getD k1 Bx))))] [] [] (an (nn0 k1) (an (ltc hlt1) (an (nn0 k1) (an (ltc g11) tv)))) ?_)
   refine Ag hm ?_ ?_
   ·intro h12 hm
    refine Sq (RK hnt (.no :: []) [(4,pB false)] [] tv ?_)
    obtain rfl := sj hm
    exact DW.ret (Ai [] [] (pB false))
   ·intro h12 hm
    refine Sk ?_
    refine DW.done ?_
    show DW _ _ _ _ _
    refine RD hnt (nn 3 []) [25] [(5,pI (w64 (((k1 : Nat) : Int) + 1)))] [] [] tv ?_
    exact jD () ⟨hlt1,hm⟩ (Conv.tp [(5,pI (w64 (((k1 : Nat) : Int) + 1)))] [] (by kernel_rfl) (.cons rfl (.of_eq (congrArg pI (Bo hlt1 hc1))) .nil) .nil)
  ·intro h10
   have hge1 : ¬ k1 < p0.length := by have := of_decide_eq_false h10; omega
   have hm := he1 hge1
   unfold AcO at hm
   refine DW.exit ?_
   refine An ?_
   refine Ax ?_
   refine Ak ?_
   show DW _ _ _ _ _
   refine Sq (RK hnt (.no :: []) [(4,pB true)] [] tv ?_)
   obtain rfl := sj hm
   exact DW.ret (Ai [] [] (pB true))
abbrev o65 (ks : List Nat) (b : Bool) (RES : Bool) (sm : List Nat := []) : Orc := .call 132 ks b (pB RES) [] [] sm

theorem Adb (p0 : List Int) (p1 : List Int) (RES : Bool) (hm : Xl p0 p1 = some RES) : Spec Tryz.prog 133 [.p (slI p0),.p (slI p1)] [] (pB RES) [] [] := by
 unfold Xl at hm
 refine SO Tryz.func133 rfl rfl [(0,.p (slI p0)),(1,.p (slI p1))] [] ?_
 intro cx hnt
 refine Sq (RD hnt (.no :: []) [] [] [] [] tv ?_)
 refine Sq (Sq (RD hnt (nn 5 []) [] [(10,pB (((p0.length : Nat) : Int) != ((p1.length : Nat) : Int)))] [] [] tv ?_))
 refine Ag hm ?_ ?_
 ·intro h1 hm
  refine Sq (RK hnt (.no :: []) [(4,pB false)] [] tv ?_)
  obtain rfl := sj hm
  exact DW.ret (Ai [] [] (pB false))
 ·intro h1 hm
  refine Sk ?_
  refine Sq (Sq (RD hnt (.no :: []) [10] [(5,pI 0)] [] [] tv ?_))
  refine Bk ?_
  obtain ⟨hc1,hm⟩ := go1 hm
  refine DW.rangeO (fun (k1 : Nat) (s1 : Unit) => Aj [(0,.p (slI p0)),(1,.p (slI p1)),(5,pI ((k1 : Nat) : Int))] []) 0 hm Conv.eqK ?_
  intro k1 s1 n1 hk1 hs1 he1
  refine Sq (Sq (RD hnt (nn 4 []) [] [(14,pB (decide (((k1 : Nat) : Int) < ((p0.length : Nat) : Int))))] [] [] tv ?_))
  refine Cn (decide (((k1 : Nat) : Int) < ((p0.length : Nat) : Int))) ?_ ?_
  ·intro h10
   have hlt1 : k1 < p0.length := by have := of_decide_eq_true h10; omega
   have hm := hs1 hlt1
   unfold Aac at hm
   refine Sk ?_
   refine Sq (Bk ?_)
   obtain ⟨g11,hm⟩ := go1 hm
   refine Sq (RD hnt (nn 9 []) [14] [(25,pB ((p0.getD k1 0) != (p1.getD k1 0)))] [] [] (an (nn0 k1) (an (ltc hlt1) (an (nn0 k1) (an (ltc g11) tv)))) ?_)
   refine Ag hm ?_ ?_
   ·intro h12 hm
    refine Sq (RK hnt (.no :: []) [(4,pB false)] [] tv ?_)
    obtain rfl := sj hm
    exact DW.ret (Ai [] [] (pB false))
   ·intro h12 hm
    refine Sk ?_
    refine DW.done ?_
    show DW _ _ _ _ _
    refine RD hnt (nn 3 []) [25] [(5,pI (w64 (((k1 : Nat) : Int) + 1)))] [] [] tv ?_
    exact jD () ⟨hlt1,hm⟩ (Conv.tp [(5,pI (w64 (((k1 : Nat) : Int) + 1)))] [] (by kernel_rfl) (.cons rfl (.of_eq (congrArg pI (Bo hlt1 hc1))) .nil) .nil)
  ·intro h10
   have hge1 : ¬ k1 < p0.length := by have := of_decide_eq_false h10; omega
   have hm := he1 hge1
   unfold Aag at hm
   refine DW.exit ?_
   refine An ?_
   refine Ax ?_
   refine Ak ?_
   show DW _ _ _ _ _
   refine Sq (RK hnt (.no :: []) [(4,pB true)] [] tv ?_)
   obtain rfl := sj hm
   exact DW.ret (Ai [] [] (pB true))
abbrev o66 (ks : List Nat) (b : Bool) (RES : Bool) (sm : List Nat := []) : Orc := .call 133 ks b (pB RES) [] [] sm

theorem De (p0 : Ac) (p1 : Ac) (RES : Bool) (hm : Rg p0 p1 = some RES) : Spec Tryz.prog 61 [.p (.agg (Bb p0)),.p (.agg (Bb p1))] [] (pB RES) [] [] := by
 unfold Rg at hm
 refine SO Tryz.func61 rfl rfl [(0,.p (.agg (Bb p0))),(1,.p (.agg (Bb p1)))] [] ?_
 intro cx hnt
 refine Sq (RK hnt (nn 3 []) [(2,rr 1016),(3,rr 1024)] [(1016,bx (pm (Bb p0))),(1024,bx (pm (Bb p1)))] tv ?_)
 obtain ⟨r1,hr1,hm⟩ := bo hm
 refine Sq ?_
 refine Jn (ι := Bool) (fun (y1 : Bool) => Aj [(4,pB y1)] []) (fun y1 => Lt y1 = some RES) ?_ ?_
 ·intro y1 hm
  unfold Lt at hm
  obtain rfl := sj hm
  exact DW.ret (Ai [] [] (pB y1))
 ·rcases bt r1 with h2 | h2
  ·replace hm := Bh h2 hm
   obtain ⟨r3,hr3,hm⟩ := bo hm
   refine RK hnt (nn 4 (o65 [] true r1 :: nn 5 (o66 [] true r3 :: pT :: .no :: []))) [(4,pB r3)] [] (an (AaR p0.frosts p1.frosts r1 hr1) (an5 h2 (an (Adb p0.stopped p1.stopped r3 hr3) (an h2 tv)))) ?_
   exact jD r3 hm .refl
  ·replace hm := Bg h2 hm
   refine RK hnt (nn 4 (o65 [] true r1 :: .no :: sk 5 (pF :: .no :: []))) [(4,pB false)] [] (an (AaR p0.frosts p1.frosts r1 hr1) (an6 h2 tv)) ?_
   exact jD false hm .refl
abbrev o64 (ks : List Nat) (b : Bool) (RES : Bool) (sm : List Nat := []) : Orc := .call 61 ks b (pB RES) [] [] sm

theorem Sz (RES : Bool) (hm : Nk = some RES) : Spec Tryz.prog 49 [] [] (pB RES) [] [] := by
 unfold Nk at hm
 refine SO Tryz.func49 rfl rfl [] [] ?_
 intro cx hnt
 refine Sq (RK hnt (.no :: []) [] [] tv ?_)
 obtain ⟨r1,hr1,hm⟩ := bo hm
 refine Sq (RK hnt (o4 [] true r1 :: nn 2 []) [(1,rr 1008)] [(1008,bx [ow 1080 r1.tree.nodes.length,pI r1.tree.next,ow 1081 r1.tasks.length,pI r1.next]),(1080,ob0 (Af r1.tree.nodes)),(1081,ob0 (Ap r1.tasks))] (an (Ael r1 hr1) tv) ?_)
 refine Sq (DW.cv [] [] [1080] [(1008,bx [.p (Ba r1.tree.nodes),pI r1.tree.next,ow 1081 r1.tasks.length,pI r1.next])] (Conv.frz [1080]) ?_)
 refine DW.cv [] [] [1081] [(1008,bx (pm (Ab r1)))] (Conv.frz [1081]) ?_
 obtain ⟨r4,hr4,hm⟩ := bo hm
 obtain ⟨r5,hr5,hm⟩ := bo hm
 refine RD hnt (nn 2 (o5 [] true r4 :: o20 [] false r5 :: nn 6 [])) [] [(2,rr 1016),(3,pI r5.2)] [] [(1016,bx [ow 1120 r5.1.frosts.length,ow 1121 r5.1.stopped.length]),(1120,ob0 (Ar r5.1.frosts)),(1121,ob0 (roI r5.1.stopped))] (an (Tf r1 r4 hr4) (an (Po r1 r4 2 true r5 hr5) tv)) ?_
 refine Sq (DW.cv [] [] [1120] [(1016,bx [.p (Fj r5.1.frosts),ow 1121 r5.1.stopped.length])] (Conv.frz [1120]) ?_)
 refine DW.cv [] [] [1121] [(1016,bx (pm (Bb r5.1)))] (Conv.frz [1121]) ?_
 obtain ⟨r8,hr8,hm⟩ := bo hm
 refine RD hnt (nn 3 (o43 [] false r8 :: nn 6 [])) [] [(4,rr 1032),(5,pI r8.2)] [] [(1032,bx [ow 1176 r8.1.frosts.length,ow 1177 r8.1.stopped.length]),(1176,ob0 (Ar r8.1.frosts)),(1177,ob0 (roI r8.1.stopped))] (an (Spec.args (xs := [.p (.agg (Ab r1)),.p (.agg (Bb r5.1)),.p (.sl .unk 1 1 (cut 1 [vi 1]))]) (Sd r1 r5.1 [1] r8 hr8) (.cons .rfl (.cons .rfl (.cons (.p (PLe.typed (RowIs.lit (enc := Br) (d := 0) (n := 1) (f := (cut 1 [vi 1])) [1] rfl (fun | 0,_ => rfl | n + 1,h => absurd h (by omega))))) .nil)))) tv) ?_
 refine Sq (DW.cv [] [] [1176] [(1032,bx [.p (Fj r8.1.frosts),ow 1177 r8.1.stopped.length])] (Conv.frz [1176]) ?_)
 refine DW.cv [] [] [1177] [(1032,bx (pm (Bb r8.1)))] (Conv.frz [1177]) ?_
 obtain ⟨r11,hr11,hm⟩ := bo hm
 refine RK hnt (nn 2 (o43 [] true r11 :: nn 6 [])) [(1,rr 1008),(2,rr 1016),(3,pI r5.2),(4,rr 1032),(5,pI r8.2),(6,rr 1048),(7,pI r11.2)] [(1008,bx (pm (Ab r1))),(1016,bx (pm (Bb r5.1))),(1032,bx (pm (Bb r8.1))),(1048,bx [ow 1224 r11.1.frosts.length,ow 1225 r11.1.stopped.length]),(1224,ob0 (Ar r11.1.frosts)),(1225,ob0 (roI r11.1.stopped))] (an (Spec.args (xs := [.p (.agg (Ab r1)),.p (.agg (Bb r8.1)),.p (.sl .nil 0 0 (fun _ => []))]) (Sd r1 r8.1 [] r11 hr11) (.cons .rfl (.cons .rfl (.cons (.p PLe.nilL) .nil)))) tv) ?_
 refine Sq (RD hnt (nn 2 []) [] [] [] [(1008,bx [.p (Ba r1.tree.nodes),pI r1.tree.next,.p (.sl .nil 0 0 (fun _ => [])),pI r1.next])] tv ?_)
 obtain ⟨r12,hr12,hm⟩ := bo hm
 obtain ⟨r13,hr13,hm⟩ := bo hm
 refine Sq (RD hnt (nn 2 (o5 [] true r12 :: o20 [] false r13 :: nn 6 [])) [1] [(8,rr 1064),(9,pI r13.2)] [1008] [(1064,bx [ow 1288 r13.1.frosts.length,ow 1289 r13.1.stopped.length]),(1288,ob0 (Ar r13.1.frosts)),(1289,ob0 (roI r13.1.stopped))] (an (Spec.args (xs := [.p (.agg [Ba r1.tree.nodes,vi r1.tree.next,.sl .nil 0 0 (fun _ => []),vi r1.next])]) (Tf ({ tree := r1.tree,tasks := [],next := r1.next } : Aa) r12 hr12) (.cons (.p (.agg (.cons .rfl (.cons .rfl (.cons PLe.nilL (.cons .rfl .nil)))))) .nil)) (an (Spec.args (xs := [.p (.agg [Ba r1.tree.nodes,vi r1.tree.next,.sl .nil 0 0 (fun _ => []),vi r1.next]),.p (.agg (Bb r12)),pI 3,pB true]) (Po ({ tree := r1.tree,tasks := [],next := r1.next } : Aa) r12 3 true r13 hr13) (.cons (.p (.agg (.cons .rfl (.cons .rfl (.cons PLe.nilL (.cons .rfl .nil)))))) (.cons .rfl (.cons .rfl (.cons .rfl .nil))))) tv)) ?_)
 refine Sq ?_
 refine Jn (ι := Bool) (fun (y1 : Bool) => Aj [(0,pB y1)] []) (fun y1 => Ei y1 = some RES) ?_ ?_
 ·intro y1 hm
  unfold Ei at hm
  obtain rfl := sj hm
  exact DW.ret (Ai [] [] (pB y1))
 ·rcases bt (r5.2 == 0) with h14 | h14
  ·replace hm := Bh h14 hm
   obtain ⟨r15,hr15,hm⟩ := bo hm
   rcases bt (!r15.frozen) with h16 | h16
   ·replace hm := Bh h16 hm
    rcases bt (r8.2 == 0) with h17 | h17
    ·replace hm := Bh h17 hm
     obtain ⟨r18,hr18,hm⟩ := bo hm
     rcases bt r18 with h19 | h19
     ·replace hm := Bh h19 hm
      rcases bt (r11.2 == 0) with h20 | h20
      ·replace hm := Bh h20 hm
       obtain ⟨r21,hr21,hm⟩ := bo hm
       rcases bt r21.frozen with h22 | h22
       ·replace hm := Bh h22 hm
        obtain ⟨r23,hr23,hm⟩ := bo hm
        rcases bt r23.frozen with h24 | h24
        ·replace hm := Bh h24 hm
         obtain ⟨r25,hr25,hm⟩ := bo hm
         rcases bt (r25.changes == 1) with h26 | h26
         ·replace hm := Bh h26 hm
          obtain ⟨r27,hr27,hm⟩ := bo hm
          rcases bt (!r27.frozen) with h28 | h28
          ·replace hm := Bh h28 hm
           obtain ⟨r29,hr29,hm⟩ := bo hm
           rcases bt r29 with h30 | h30
           ·replace hm := Bh h30 hm
            rcases bt (r13.2 == 0) with h31 | h31
            ·replace hm := Bh h31 hm
             obtain ⟨r32,hr32,hm⟩ := bo hm
             refine RK hnt (nn 4 (o26 [] true r15 :: nn 2 (pT :: nn 3 (pT :: nn 3 (o64 [] true r18 :: pT :: nn 3 (pT :: nn 2 (o26 [] true r21 :: .no :: pT :: nn 2 (o26 [] true r23 :: .no :: pT :: nn 2 (o26 [] true r25 :: nn 2 (pT :: nn 2 (o26 [] true r27 :: nn 2 (pT :: nn 2 (o32 [] true r29 :: pT :: nn 3 (pT :: nn 2 (o26 [] true r32 :: .no :: pT :: .no :: []))))))))))))))) [(0,pB r32.frozen)] [] (an2 h14 (an (Az r5.1 2 r15 hr15) (an3 h14 (an3 h16 (an3 h17 (an (De r5.1 r8.1 r18 hr18) (an h17 (an3 h19 (an2 h20 (an (Az r11.1 2 r21 hr21) (an2 h20 (an2 h22 (an (Az r11.1 3 r23 hr23) (an2 h22 (an2 h24 (an (Az r11.1 3 r25 hr25) (an3 h24 (an2 h26 (an (Az r11.1 1 r27 hr27) (an3 h26 (an2 h28 (an (Jg r11.1 1 r29 hr29) (an h28 (an3 h30 (an2 h31 (an (Az r13.1 3 r32 hr32) (an2 h31 tv))))))))))))))))))))))))))) ?_
             exact jD r32.frozen hm .refl
            ·replace hm := Bg h31 hm
             refine RK hnt (nn 4 (o26 [] true r15 :: nn 2 (pT :: nn 3 (pT :: nn 3 (o64 [] true r18 :: pT :: nn 3 (pT :: nn 2 (o26 [] true r21 :: .no :: pT :: nn 2 (o26 [] true r23 :: .no :: pT :: nn 2 (o26 [] true r25 :: nn 2 (pT :: nn 2 (o26 [] true r27 :: nn 2 (pT :: nn 2 (o32 [] true r29 :: pT :: nn 3 (pT :: .no :: sk 3 (pF :: .no :: []))))))))))))))) [(0,pB false)] [] (an2 h14 (an (Az r5.1 2 r15 hr15) (an3 h14 (an3 h16 (an3 h17 (an (De r5.1 r8.1 r18 hr18) (an h17 (an3 h19 (an2 h20 (an (Az r11.1 2 r21 hr21) (an2 h20 (an2 h22 (an (Az r11.1 3 r23 hr23) (an2 h22 (an2 h24 (an (Az r11.1 3 r25 hr25) (an3 h24 (an2 h26 (an (Az r11.1 1 r27 hr27) (an3 h26 (an2 h28 (an (Jg r11.1 1 r29 hr29) (an h28 (an3 h30 (an4 h31 tv))))))))))))))))))))))))) ?_
             exact jD false hm .refl
           ·replace hm := Bg h30 hm
            refine RK hnt (nn 4 (o26 [] true r15 :: nn 2 (pT :: nn 3 (pT :: nn 3 (o64 [] true r18 :: pT :: nn 3 (pT :: nn 2 (o26 [] true r21 :: .no :: pT :: nn 2 (o26 [] true r23 :: .no :: pT :: nn 2 (o26 [] true r25 :: nn 2 (pT :: nn 2 (o26 [] true r27 :: nn 2 (pT :: nn 2 (o32 [] true r29 :: pT :: .no :: sk 2 (pF :: .no :: sk 3 (pF :: .no :: []))))))))))))))) [(0,pB false)] [] (an2 h14 (an (Az r5.1 2 r15 hr15) (an3 h14 (an3 h16 (an3 h17 (an (De r5.1 r8.1 r18 hr18) (an h17 (an3 h19 (an2 h20 (an (Az r11.1 2 r21 hr21) (an2 h20 (an2 h22 (an (Az r11.1 3 r23 hr23) (an2 h22 (an2 h24 (an (Az r11.1 3 r25 hr25) (an3 h24 (an2 h26 (an (Az r11.1 1 r27 hr27) (an3 h26 (an2 h28 (an (Jg r11.1 1 r29 hr29) (an h28 (an3 h30 (an4 ff tv))))))))))))))))))))))))) ?_
            exact jD false hm .refl
          ·replace hm := Bg h28 hm
           refine RK hnt (nn 4 (o26 [] true r15 :: nn 2 (pT :: nn 3 (pT :: nn 3 (o64 [] true r18 :: pT :: nn 3 (pT :: nn 2 (o26 [] true r21 :: .no :: pT :: nn 2 (o26 [] true r23 :: .no :: pT :: nn 2 (o26 [] true r25 :: nn 2 (pT :: nn 2 (o26 [] true r27 :: nn 2 (pT :: .no :: sk 2 (pF :: .no :: sk 2 (pF :: .no :: sk 3 (pF :: .no :: []))))))))))))))) [(0,pB false)] [] (an2 h14 (an (Az r5.1 2 r15 hr15) (an3 h14 (an3 h16 (an3 h17 (an (De r5.1 r8.1 r18 hr18) (an h17 (an3 h19 (an2 h20 (an (Az r11.1 2 r21 hr21) (an2 h20 (an2 h22 (an (Az r11.1 3 r23 hr23) (an2 h22 (an2 h24 (an (Az r11.1 3 r25 hr25) (an3 h24 (an2 h26 (an (Az r11.1 1 r27 hr27) (an3 h26 (an3 h28 (an ff (an6 ff tv))))))))))))))))))))))) ?_
           exact jD false hm .refl
         ·replace hm := Bg h26 hm
          refine RK hnt (nn 4 (o26 [] true r15 :: nn 2 (pT :: nn 3 (pT :: nn 3 (o64 [] true r18 :: pT :: nn 3 (pT :: nn 2 (o26 [] true r21 :: .no :: pT :: nn 2 (o26 [] true r23 :: .no :: pT :: nn 2 (o26 [] true r25 :: nn 2 (pT :: .no :: sk 4 (pF :: .no :: sk 2 (pF :: .no :: sk 2 (pF :: .no :: sk 3 (pF :: .no :: [])))))))))))))) [(0,pB false)] [] (an2 h14 (an (Az r5.1 2 r15 hr15) (an3 h14 (an3 h16 (an3 h17 (an (De r5.1 r8.1 r18 hr18) (an h17 (an3 h19 (an2 h20 (an (Az r11.1 2 r21 hr21) (an2 h20 (an2 h22 (an (Az r11.1 3 r23 hr23) (an2 h22 (an2 h24 (an (Az r11.1 3 r25 hr25) (an3 h24 (an5 h26 (an4 ff (an6 ff tv)))))))))))))))))))) ?_
          exact jD false hm .refl
        ·replace hm := Bg h24 hm
         refine RK hnt (nn 4 (o26 [] true r15 :: nn 2 (pT :: nn 3 (pT :: nn 3 (o64 [] true r18 :: pT :: nn 3 (pT :: nn 2 (o26 [] true r21 :: .no :: pT :: nn 2 (o26 [] true r23 :: .no :: pT :: .no :: sk 4 (pF :: .no :: sk 4 (pF :: .no :: sk 2 (pF :: .no :: sk 2 (pF :: .no :: sk 3 (pF :: .no :: []))))))))))))) [(0,pB false)] [] (an2 h14 (an (Az r5.1 2 r15 hr15) (an3 h14 (an3 h16 (an3 h17 (an (De r5.1 r8.1 r18 hr18) (an h17 (an3 h19 (an2 h20 (an (Az r11.1 2 r21 hr21) (an2 h20 (an2 h22 (an (Az r11.1 3 r23 hr23) (an2 h22 (an5 h24 (an3 ff (an6 ff (an6 ff tv)))))))))))))))))) ?_
         exact jD false hm .refl
       ·replace hm := Bg h22 hm
        refine RK hnt (nn 4 (o26 [] true r15 :: nn 2 (pT :: nn 3 (pT :: nn 3 (o64 [] true r18 :: pT :: nn 3 (pT :: nn 2 (o26 [] true r21 :: .no :: pT :: .no :: sk 3 (pF :: .no :: sk 4 (pF :: .no :: sk 4 (pF :: .no :: sk 2 (pF :: .no :: sk 2 (pF :: .no :: sk 3 (pF :: .no :: []))))))))))))) [(0,pB false)] [] (an2 h14 (an (Az r5.1 2 r15 hr15) (an3 h14 (an3 h16 (an3 h17 (an (De r5.1 r8.1 r18 hr18) (an h17 (an3 h19 (an2 h20 (an (Az r11.1 2 r21 hr21) (an2 h20 (an4 h22 (an2 ff (an6 ff (an6 ff (an6 ff tv)))))))))))))))) ?_
        exact jD false hm .refl
      ·replace hm := Bg h20 hm
       refine RK hnt (nn 4 (o26 [] true r15 :: nn 2 (pT :: nn 3 (pT :: nn 3 (o64 [] true r18 :: pT :: nn 3 (pT :: .no :: sk 3 (pF :: .no :: sk 3 (pF :: .no :: sk 4 (pF :: .no :: sk 4 (pF :: .no :: sk 2 (pF :: .no :: sk 2 (pF :: .no :: sk 3 (pF :: .no :: []))))))))))))) [(0,pB false)] [] (an2 h14 (an (Az r5.1 2 r15 hr15) (an3 h14 (an3 h16 (an3 h17 (an (De r5.1 r8.1 r18 hr18) (an h17 (an3 h19 (an4 h20 (an6 ff (an6 ff (an6 ff (an6 ff tv))))))))))))) ?_
       exact jD false hm .refl
     ·replace hm := Bg h19 hm
      refine RK hnt (nn 4 (o26 [] true r15 :: nn 2 (pT :: nn 3 (pT :: nn 3 (o64 [] true r18 :: pT :: .no :: sk 2 (pF :: .no :: sk 3 (pF :: .no :: sk 3 (pF :: .no :: sk 4 (pF :: .no :: sk 4 (pF :: .no :: sk 2 (pF :: .no :: sk 2 (pF :: .no :: sk 3 (pF :: .no :: []))))))))))))) [(0,pB false)] [] (an2 h14 (an (Az r5.1 2 r15 hr15) (an3 h14 (an3 h16 (an3 h17 (an (De r5.1 r8.1 r18 hr18) (an h17 (an3 h19 (an4 ff (an6 ff (an6 ff (an6 ff (an6 ff tv))))))))))))) ?_
      exact jD false hm .refl
    ·replace hm := Bg h17 hm
     refine RK hnt (nn 4 (o26 [] true r15 :: nn 2 (pT :: nn 3 (pT :: .no :: sk 3 (pF :: .no :: sk 2 (pF :: .no :: sk 3 (pF :: .no :: sk 3 (pF :: .no :: sk 4 (pF :: .no :: sk 4 (pF :: .no :: sk 2 (pF :: .no :: sk 2 (pF :: .no :: sk 3 (pF :: .no :: []))))))))))))) [(0,pB false)] [] (an2 h14 (an (Az r5.1 2 r15 hr15) (an3 h14 (an3 h16 (an4 h17 (an ff (an6 ff (an6 ff (an6 ff (an6 ff (an6 ff tv))))))))))) ?_
     exact jD false hm .refl
   ·replace hm := Bg h16 hm
    refine RK hnt (nn 4 (o26 [] true r15 :: nn 2 (pT :: .no :: sk 2 (pF :: .no :: sk 3 (pF :: .no :: sk 2 (pF :: .no :: sk 3 (pF :: .no :: sk 3 (pF :: .no :: sk 4 (pF :: .no :: sk 4 (pF :: .no :: sk 2 (pF :: .no :: sk 2 (pF :: .no :: sk 3 (pF :: .no :: []))))))))))))) [(0,pB false)] [] (an2 h14 (an (Az r5.1 2 r15 hr15) (an3 h14 (an3 h16 (an5 ff (an6 ff (an6 ff (an6 ff (an6 ff (an6 ff tv)))))))))) ?_
    exact jD false hm .refl
  ·replace hm := Bg h14 hm
   refine RK hnt (nn 3 (sk 4 (pF :: .no :: sk 2 (pF :: .no :: sk 3 (pF :: .no :: sk 2 (pF :: .no :: sk 3 (pF :: .no :: sk 3 (pF :: .no :: sk 4 (pF :: .no :: sk 4 (pF :: .no :: sk 2 (pF :: .no :: sk 2 (pF :: .no :: sk 3 (pF :: .no :: []))))))))))))) [(0,pB false)] [] (an5 h14 (an2 ff (an6 ff (an6 ff (an6 ff (an6 ff (an6 ff (an6 ff tv)))))))) ?_
   exact jD false hm .refl
abbrev o3 (ks : List Nat) (b : Bool) (RES : Bool) (sm : List Nat := []) : Orc := .call 49 ks b (pB RES) [] [] sm

theorem Afu (p0 : List Int) (RES : Aw) (hm : AbF p0 = some RES) : Spec Tryz.prog 15 [.p (slI p0)] [] (rr 0) [] [.box (pm (Aq RES))] := by
 unfold AbF at hm
 refine SO Tryz.func15 rfl rfl [(0,.p (slI p0))] [] ?_
 intro cx hnt
 refine Sq (RK hnt (.no :: []) [(0,.p (slI p0))] [] tv ?_)
 refine Sq (RK hnt (nn 4 []) [(2,rr 1040)] [(1040,bx [.p (slI p0),pI 0])] tv ?_)
 obtain rfl := sj hm
 exact DW.ret (Ai [.box [.p (slI p0),pI 0]] [1040] (rr 0))
abbrev o67 (ks : List Nat) (b : Bool) (RES : Aw) (sm : List Nat := []) : Orc := .call 15 ks b (rr 0) [] [.box (pm (Aq RES))] sm

abbrev Ace := ({ id := 1,parent := 0,name := ByteArray.empty,control := 0,kind := 0,owner := 0 } : Ah)
theorem Abj (RES : Ae) (hm : Xk = some RES) : Spec Tryz.prog 107 [] [] (.agg [ow 0 RES.nodes.length,pI RES.next]) [] [Af RES.nodes] := by
 unfold Xk at hm
 refine SO Tryz.func107 rfl rfl [] [] ?_
 intro cx hnt
 refine Sq (RK hnt (.no :: []) [(0,rr 1000)] [(1000,bx [.p (.sl .nil 0 0 (fun _ => [])),pI 0])] tv ?_)
 refine Sq (RN hnt (nn 4 []) [(0,rr 1000)] [(1000,bx [ow 1016 [(Ace)].length,pI 2]),(1016,ob0 (Af [(Ace)]))] [] [(1000,.box [ow 1016 1,pI 2]),(1016,.row 6 1 (cut 6 [vi 1,vi 0,vs ByteArray.empty,vi 0,vi 0,vi 0]))] tv (by kernel_rfl) .nil (.cons rfl (.box (.cons (MLe.ownLen (enc := Al) (d := Bf) (f := (cut 6 [vi 1,vi 0,vs ByteArray.empty,vi 0,vi 0,vi 0])) (RowIs.lit (enc := Al) (d := Bf) (n := 1) (f := (cut 6 [vi 1,vi 0,vs ByteArray.empty,vi 0,vi 0,vi 0])) [(Ace)] rfl (fun | 0,_ => rfl | n + 1,h => absurd h (by omega)))) (.cons .rfl .nil))) (.cons rfl (BLe.typed (RowIs.lit (enc := Al) (d := Bf) (n := 1) (f := (cut 6 [vi 1,vi 0,vs ByteArray.empty,vi 0,vi 0,vi 0])) [(Ace)] rfl (fun | 0,_ => rfl | n + 1,h => absurd h (by omega)))) .nil)) ?_)
 obtain rfl := sj hm
 exact DW.ret (Ai [Af [(Ace)]] [1016] (.agg [ow 0 [(Ace)].length,pI 2]))
abbrev o70 (ks : List Nat) (b : Bool) (RES : Ae) (sm : List Nat := []) : Orc := .call 107 ks b (.agg [ow 0 RES.nodes.length,pI RES.next]) [] [Af RES.nodes] sm

theorem AfT (RES : Aa) (hm : AcW = some RES) : Spec Tryz.prog 37 [] [] (.agg [ow 0 RES.tree.nodes.length,pI RES.tree.next,ow 1 RES.tasks.length,pI RES.next]) [] [Af RES.tree.nodes,Ap RES.tasks] := by
 unfold AcW at hm
 refine SO Tryz.func37 rfl rfl [] [] ?_
 intro cx hnt
 refine Sq (RK hnt (.no :: []) [(0,rr 1000)] [(1000,bx [.p (.sl .nil 0 0 (fun _ => [])),pI 0,.p (.sl .nil 0 0 (fun _ => [])),pI 0])] tv ?_)
 obtain ⟨r1,hr1,hm⟩ := bo hm
 refine Sq (RK hnt (o70 [] true r1 :: nn 2 []) [(0,rr 1000)] [(1000,bx [ow 1008 r1.nodes.length,pI r1.next,.p (.sl .nil 0 0 (fun _ => [])),pI 1]),(1008,ob0 (Af r1.nodes))] (an (Abj r1 hr1) tv) ?_)
 refine DW.cv [] [] [] [(1000,bx [ow 1008 r1.nodes.length,pI r1.next,ow 100000 0,pI 1]),(100000,ob0 (Ap []))] (Conv.ads [(.o 1000 2,100000,4,elems Au Bs [])]) ?_
 obtain rfl := sj hm
 exact DW.ret (Ai [Af r1.nodes,Ap []] [1008,100000] (.agg [ow 0 r1.nodes.length,pI r1.next,ow 1 0,pI 1]))
abbrev o69 (ks : List Nat) (b : Bool) (RES : Aa) (sm : List Nat := []) : Orc := .call 37 ks b (.agg [ow 0 RES.tree.nodes.length,pI RES.tree.next,ow 1 RES.tasks.length,pI RES.next]) [] [Af RES.tree.nodes,Ap RES.tasks] sm

abbrev c72e1 (p0 : Aw) := (p0.l.getD (Int.toNat (w64 ((w64 (p0.atF + 1)) - 1))) 0)
theorem Bw (p0 : Aw) (p1 : Int) (RES : Int × Aw) (hm : Bv p0 p1 = some RES) : Spec Tryz.prog 50 [rr 0,pI p1] [.box (pm (Aq p0))] (pI RES.1) [.box (pm (Aq RES.2))] [] := by
 unfold Bv at hm
 refine SO Tryz.func50 rfl rfl [(0,rr 0),(1,pI p1)] [(0,bx (pm (Aq p0)))] ?_
 intro cx hnt
 refine Sq (RD hnt (.no :: []) [] [] [] [] tv ?_)
 refine Sq (Sq (DW.regJ (sl2 := [(0,rr 0),(1,pI p1),(19,pB ((decide (p0.atF ≥ ((p0.l.length : Nat) : Int))) || (decide (p1 < 1))))]) (ob2 := [(0,bx (pm (Aq p0)))]) ?_ ?_))
 ·rcases bt (decide (p0.atF ≥ ((p0.l.length : Nat) : Int))) with h1 | h1
  ·exact RT hnt (nn 11 (sk 2 (pT :: []))) [(19,pB true)] (an3 h1 tv) (by kernel_rfl) (.cons rfl (.of_eq (by rw [h1]; try rfl)) .nil)
  ·exact RT hnt (nn 13 (pF :: [])) [(19,pB (decide (p1 < 1)))] (an3 h1 tv) (by kernel_rfl) (.cons rfl (.of_eq (by rw [h1]; try rfl)) .nil)
 ·refine Ag hm ?_ ?_
  ·intro h2 hm
   refine Sq (RD hnt (.no :: []) [0,1,19] [(4,pI 0)] [] [] tv ?_)
   obtain rfl := sj hm
   exact DW.ret (Ai [.box (pm (Aq p0))] [] (pI 0))
  ·intro h2 hm
   refine Sk ?_
   refine Sq (RD hnt (nn 8 []) [19] [] [] [(0,bx [.p (slI p0.l),pI (w64 (p0.atF + 1))])] tv ?_)
   obtain ⟨g3,g4,hm⟩ := go2 hm
   refine Sq (RD hnt (nn 14 []) [0] [(5,pI (Int.tmod (c72e1 p0) p1))] [] [] (an g3.1 (an g3.2 (an g4 tv))) ?_)
   refine Sq (Sq (RD hnt (nn 2 []) [] [(41,pB (decide ((Int.tmod (c72e1 p0) p1) < 0)))] [] [] tv ?_))
   refine Jn (ι := Int) (fun (y1 : Int) => Aj [(5,pI y1)] [(0,bx [.p (slI p0.l),pI (w64 (p0.atF + 1))])]) (fun y1 => (Kn p0) y1 = some RES) ?_ ?_
   ·intro y1 hm
    unfold Kn at hm
    refine Sq (RD hnt (nn 2 []) [5] [(4,pI y1)] [] [] tv ?_)
    obtain rfl := sj hm
    exact DW.ret (Ai [.box [.p (slI p0.l),pI (w64 (p0.atF + 1))]] [] (pI y1))
   ·refine Ag hm ?_ ?_
    ·intro h5 hm
     refine RD hnt (nn 4 []) [1,41] [(5,pI (w64 ((Int.tmod (c72e1 p0) p1) + p1)))] [] [] tv ?_
     exact jD (w64 ((Int.tmod (c72e1 p0) p1) + p1)) hm Conv.eqK
    ·intro h5 hm
     refine Sk ?_
     exact jD (Int.tmod (c72e1 p0) p1) hm Conv.t0
abbrev o72 (ks : List Nat) (b : Bool) (RES : Int × Aw) (sm : List Nat := []) : Orc := .call 50 ks b (pI RES.1) [.box (pm (Aq RES.2))] [] sm

theorem Abw (p0 : Aw) (RES : ByteArray × Aw) (hm : Mf p0 = some RES) : Spec Tryz.prog 110 [rr 0] [.box (pm (Aq p0))] (pS RES.1) [.box (pm (Aq RES.2))] [] := by
 unfold Mf at hm
 refine SO Tryz.func110 rfl rfl [(0,rr 0)] [(0,bx (pm (Aq p0)))] ?_
 intro cx hnt
 refine Sq (RD hnt (.no :: []) [] [] [] [] tv ?_)
 obtain ⟨r3,hr3,hm⟩ := bo hm
 obtain ⟨g4,g5,hm⟩ := go2 hm
 refine Sq (RK hnt (.asR (ow 1024 [(bs [97]),(bs [98]),(bs [99]),(bs [119,101,98]),(bs [100,98,45,49]),(bs [88,95,57])].length) [(bs [97]),(bs [98]),(bs [99]),(bs [119,101,98]),(bs [100,98,45,49]),(bs [88,95,57])].length (elems encS ByteArray.empty [(bs [97]),(bs [98]),(bs [99]),(bs [119,101,98]),(bs [100,98,45,49]),(bs [88,95,57])]) :: .no :: o72 [0] true r3 :: nn 3 []) [(2,pS ([(bs [97]),(bs [98]),(bs [99]),(bs [119,101,98]),(bs [100,98,45,49]),(bs [88,95,57])].getD (Int.toNat r3.1) ByteArray.empty))] [(0,bx (pm (Aq r3.2)))] (an (congrArg (MV.own 1024 0 0) (RowIs.asP (enc := encS) (d := ByteArray.empty) (L := [(bs [97]),(bs [98]),(bs [99]),(bs [119,101,98]),(bs [100,98,45,49]),(bs [88,95,57])]) (RowIs.lit (enc := encS) (d := ByteArray.empty) (n := 6) (f := (cut 1 [vs (bs [97]),vs (bs [98]),vs (bs [99]),vs (bs [119,101,98]),vs (bs [100,98,45,49]),vs (bs [88,95,57])])) [(bs [97]),(bs [98]),(bs [99]),(bs [119,101,98]),(bs [100,98,45,49]),(bs [88,95,57])] rfl (fun | 0,_ => rfl | 1,_ => rfl | 2,_ => rfl | 3,_ => rfl | 4,_ => rfl | 5,_ => rfl | n + 6,h => absurd h (by omega)))).1) (an (RowIs.asP (enc := encS) (d := ByteArray.empty) (L := [(bs [97]),(bs [98]),(bs [99]),(bs [119,101,98]),(bs [100,98,45,49]),(bs [88,95,57])]) (RowIs.lit (enc := encS) (d := ByteArray.empty) (n := 6) (f := (cut 1 [vs (bs [97]),vs (bs [98]),vs (bs [99]),vs (bs [119,101,98]),vs (bs [100,98,45,49]),vs (bs [88,95,57])])) [(bs [97]),(bs [98]),(bs [99]),(bs [119,101,98]),(bs [100,98,45,49]),(bs [88,95,57])] rfl (fun | 0,_ => rfl | 1,_ => rfl | 2,_ => rfl | 3,_ => rfl | 4,_ => rfl | 5,_ => rfl | n + 6,h => absurd h (by omega)))) (an (Bw p0 6 r3 hr3) (an tv (an g4.1 (an g4.2 (an g5 tv))))))) ?_)
 obtain rfl := sj hm
 exact DW.ret (Ai [.box (pm (Aq r3.2))] [] (pS ([(bs [97]),(bs [98]),(bs [99]),(bs [119,101,98]),(bs [100,98,45,49]),(bs [88,95,57])].getD (Int.toNat r3.1) ByteArray.empty)))
abbrev o73 (ks : List Nat) (b : Bool) (RES : ByteArray × Aw) (sm : List Nat := []) : Orc := .call 110 ks b (pS RES.1) [.box (pm (Aq RES.2))] [] sm

abbrev Yb (p0 : ByteArray) (k1 : Int) : Nat × MV := (57,pB (!((((Bj p0 (Int.toNat k1)) : Nat) : Int) == 45)))
theorem Zs (p0 : ByteArray) (RES : Bool) (hm : Pw p0 = some RES) : Spec Tryz.prog 174 [pS p0] [] (pB RES) [] [] := by
 unfold Pw at hm
 refine SO Tryz.func174 rfl rfl [(0,pS p0)] [] ?_
 intro cx hnt
 refine Sq (RK hnt (.no :: []) [(0,pS p0)] [] tv ?_)
 refine Sq (Sq ?_)
 refine Jn (ι := Bool) (fun (y1 : Bool) => Aj [(0,pS p0),(17,pB y1)] []) (fun y1 => (Mt p0) y1 = some RES) ?_ ?_
 ·intro y1 hm
  unfold Mt at hm
  refine Ag hm ?_ ?_
  ·intro h4 hm
   refine Sq (RK hnt (.no :: []) [(2,pB false)] [] tv ?_)
   obtain rfl := sj hm
   exact DW.ret (Ai [] [] (pB false))
  ·intro h4 hm
   refine Sk ?_
   refine Sq (Sq (RK hnt (.no :: []) [(0,pS p0),(3,pI 0)] [] tv ?_))
   refine Bk ?_
   obtain ⟨hc1,hm⟩ := go1 hm
   refine DW.forO (fun (k1 : Int) (s1 : Unit) => Aj [(0,pS p0),(3,pI k1)] []) (lo := 0) (hi := ((p0.size : Nat) : Int)) hm .refl ?_
   intro k1 s1 n1 hk1 hs1 he1
   refine Sq (Sq (RD hnt (nn 4 []) [] [(21,pB (decide (k1 < ((p0.size : Nat) : Int))))] [] [] tv ?_))
   refine Cn (decide (k1 < ((p0.size : Nat) : Int))) ?_ ?_
   ·intro h55
    have hlt1 : k1 < ((p0.size : Nat) : Int) := by have := of_decide_eq_true h55; omega
    have hm := hs1 hlt1
    unfold Xa at hm
    refine Sk ?_
    refine Sq (Bk ?_)
    obtain ⟨g56,hm⟩ := go1 hm
    refine Sq (RD hnt (nn 4 []) [21] [(4,.p (vk .u8 (((Bj p0 (Int.toNat k1)) : Nat) : Int)))] [] [] (an g56.1 (an g56.2 tv)) ?_)
    refine Sq (DW.regJ (sl2 := [(0,pS p0),(3,pI k1),(57,pB (!((((((decide ((((Bj p0 (Int.toNat k1)) : Nat) : Int) ≥ 97)) && (decide ((((Bj p0 (Int.toNat k1)) : Nat) : Int) ≤ 122))) || ((decide ((((Bj p0 (Int.toNat k1)) : Nat) : Int) ≥ 65)) && (decide ((((Bj p0 (Int.toNat k1)) : Nat) : Int) ≤ 90)))) || ((decide ((((Bj p0 (Int.toNat k1)) : Nat) : Int) ≥ 48)) && (decide ((((Bj p0 (Int.toNat k1)) : Nat) : Int) ≤ 57)))) || ((((Bj p0 (Int.toNat k1)) : Nat) : Int) == 95)) || ((((Bj p0 (Int.toNat k1)) : Nat) : Int) == 45))))]) (ob2 := []) ?_ ?_)
    ·rcases bt (decide ((((Bj p0 (Int.toNat k1)) : Nat) : Int) ≥ 97)) with h57 | h57
     ·rcases bt (decide ((((Bj p0 (Int.toNat k1)) : Nat) : Int) ≤ 122)) with h58 | h58
      ·exact RT hnt (nn 5 (pT :: .no :: sk 6 (pT :: .no :: sk 6 (pT :: .no :: sk 2 (pT :: .no :: sk 2 (pT :: .no :: [])))))) [(57,pB false)] (an3 h57 (an5 h58 (an5 tt (an6 tt tv)))) (by kernel_rfl) (.cons rfl (.of_eq (by rw [h57,h58]; try rfl)) .nil)
      ·rcases bt (decide ((((Bj p0 (Int.toNat k1)) : Nat) : Int) ≥ 65)) with h59 | h59
       ·rcases bt (decide ((((Bj p0 (Int.toNat k1)) : Nat) : Int) ≤ 90)) with h60 | h60
        ·exact RT hnt (nn 5 (pT :: nn 6 (pT :: pF :: .no :: sk 6 (pT :: .no :: sk 2 (pT :: .no :: sk 2 (pT :: .no :: [])))))) [(57,pB false)] (an3 h57 (an3 h58 (an2 h59 (an h58 (an h59 (an h58 (an5 h60 (an6 tt tv)))))))) (by kernel_rfl) (.cons rfl (.of_eq (by rw [h57,h58,h59,h60]; try rfl)) .nil)
        ·rcases bt (decide ((((Bj p0 (Int.toNat k1)) : Nat) : Int) ≥ 48)) with h61 | h61
         ·rcases bt (decide ((((Bj p0 (Int.toNat k1)) : Nat) : Int) ≤ 57)) with h62 | h62
          ·exact RT hnt (nn 5 (pT :: nn 6 (pT :: pF :: nn 6 (pT :: pF :: .no :: sk 2 (pT :: .no :: sk 2 (pT :: .no :: [])))))) [(57,pB false)] (an3 h57 (an3 h58 (an2 h59 (an h58 (an h59 (an h58 (an3 h60 (an2 h61 (an h60 (an h61 (an h60 (an3 h62 (an3 tt tv))))))))))))) (by kernel_rfl) (.cons rfl (.of_eq (by rw [h57,h58,h59,h60,h61,h62]; try rfl)) .nil)
          ·rcases bt ((((Bj p0 (Int.toNat k1)) : Nat) : Int) == 95) with h63 | h63
           ·exact RT hnt (nn 5 (pT :: nn 6 (pT :: pF :: nn 6 (pT :: pF :: nn 3 (pF :: .no :: sk 2 (pT :: .no :: [])))))) [(57,pB false)] (an3 h57 (an3 h58 (an2 h59 (an h58 (an h59 (an h58 (an3 h60 (an2 h61 (an h60 (an h61 (an h60 (an3 h62 (an3 h63 tv))))))))))))) (by kernel_rfl) (.cons rfl (.of_eq (by rw [h57,h58,h59,h60,h61,h62,h63]; try rfl)) .nil)
           ·exact RT hnt (nn 5 (pT :: nn 6 (pT :: pF :: nn 6 (pT :: pF :: nn 3 (pF :: nn 3 (pF :: .no :: [])))))) [(Yb p0 k1)] (an3 h57 (an3 h58 (an2 h59 (an h58 (an h59 (an h58 (an3 h60 (an2 h61 (an h60 (an h61 (an h60 (an3 h62 (an3 h63 tv))))))))))))) (by kernel_rfl) (.cons rfl (.of_eq (by rw [h57,h58,h59,h60,h61,h62,h63]; try rfl)) .nil)
         ·rcases bt ((((Bj p0 (Int.toNat k1)) : Nat) : Int) == 95) with h64 | h64
          ·exact RT hnt (nn 5 (pT :: nn 6 (pT :: pF :: nn 4 (sk 2 (pF :: pF :: nn 3 (pF :: .no :: sk 2 (pT :: .no :: []))))))) [(57,pB false)] (an3 h57 (an3 h58 (an2 h59 (an h58 (an h59 (an h58 (an3 h60 (an2 h61 (an h60 (an h61 (an h60 (an3 ff (an3 h64 tv))))))))))))) (by kernel_rfl) (.cons rfl (.of_eq (by rw [h57,h58,h59,h60,h61,h64]; try rfl)) .nil)
          ·exact RT hnt (nn 5 (pT :: nn 6 (pT :: pF :: nn 4 (sk 2 (pF :: pF :: nn 3 (pF :: nn 3 (pF :: .no :: []))))))) [(Yb p0 k1)] (an3 h57 (an3 h58 (an2 h59 (an h58 (an h59 (an h58 (an3 h60 (an2 h61 (an h60 (an h61 (an h60 (an3 ff (an3 h64 tv))))))))))))) (by kernel_rfl) (.cons rfl (.of_eq (by rw [h57,h58,h59,h60,h61,h64]; try rfl)) .nil)
       ·rcases bt (decide ((((Bj p0 (Int.toNat k1)) : Nat) : Int) ≥ 48)) with h65 | h65
        ·rcases bt (decide ((((Bj p0 (Int.toNat k1)) : Nat) : Int) ≤ 57)) with h66 | h66
         ·exact RT hnt (nn 5 (pT :: nn 4 (sk 2 (pF :: pF :: nn 6 (pT :: pF :: .no :: sk 2 (pT :: .no :: sk 2 (pT :: .no :: []))))))) [(57,pB false)] (an3 h57 (an3 h58 (an2 h59 (an h58 (an h59 (an h58 (an3 ff (an2 h65 (an ff (an h65 (an ff (an3 h66 (an3 tt tv))))))))))))) (by kernel_rfl) (.cons rfl (.of_eq (by rw [h57,h58,h59,h65,h66]; try rfl)) .nil)
         ·rcases bt ((((Bj p0 (Int.toNat k1)) : Nat) : Int) == 95) with h67 | h67
          ·exact RT hnt (nn 5 (pT :: nn 4 (sk 2 (pF :: pF :: nn 6 (pT :: pF :: nn 3 (pF :: .no :: sk 2 (pT :: .no :: []))))))) [(57,pB false)] (an3 h57 (an3 h58 (an2 h59 (an h58 (an h59 (an h58 (an3 ff (an2 h65 (an ff (an h65 (an ff (an3 h66 (an3 h67 tv))))))))))))) (by kernel_rfl) (.cons rfl (.of_eq (by rw [h57,h58,h59,h65,h66,h67]; try rfl)) .nil)
          ·exact RT hnt (nn 5 (pT :: nn 4 (sk 2 (pF :: pF :: nn 6 (pT :: pF :: nn 3 (pF :: nn 3 (pF :: .no :: []))))))) [(Yb p0 k1)] (an3 h57 (an3 h58 (an2 h59 (an h58 (an h59 (an h58 (an3 ff (an2 h65 (an ff (an h65 (an ff (an3 h66 (an3 h67 tv))))))))))))) (by kernel_rfl) (.cons rfl (.of_eq (by rw [h57,h58,h59,h65,h66,h67]; try rfl)) .nil)
        ·rcases bt ((((Bj p0 (Int.toNat k1)) : Nat) : Int) == 95) with h68 | h68
         ·exact RT hnt (nn 5 (pT :: nn 4 (sk 2 (pF :: pF :: nn 4 (sk 2 (pF :: pF :: nn 3 (pF :: .no :: sk 2 (pT :: .no :: [])))))))) [(57,pB false)] (an3 h57 (an3 h58 (an2 h59 (an h58 (an h59 (an h58 (an3 ff (an2 h65 (an ff (an h65 (an4 ff (an3 h68 tv)))))))))))) (by kernel_rfl) (.cons rfl (.of_eq (by rw [h57,h58,h59,h65,h68]; try rfl)) .nil)
         ·exact RT hnt (nn 5 (pT :: nn 4 (sk 2 (pF :: pF :: nn 4 (sk 2 (pF :: pF :: nn 3 (pF :: nn 3 (pF :: .no :: [])))))))) [(Yb p0 k1)] (an3 h57 (an3 h58 (an2 h59 (an h58 (an h59 (an h58 (an3 ff (an2 h65 (an ff (an h65 (an4 ff (an3 h68 tv)))))))))))) (by kernel_rfl) (.cons rfl (.of_eq (by rw [h57,h58,h59,h65,h68]; try rfl)) .nil)
     ·rcases bt (decide ((((Bj p0 (Int.toNat k1)) : Nat) : Int) ≥ 65)) with h69 | h69
      ·rcases bt (decide ((((Bj p0 (Int.toNat k1)) : Nat) : Int) ≤ 90)) with h70 | h70
       ·exact RT hnt (nn 3 (sk 2 (pF :: nn 6 (pT :: pF :: .no :: sk 6 (pT :: .no :: sk 2 (pT :: .no :: sk 2 (pT :: .no :: []))))))) [(57,pB false)] (an3 h57 (an3 ff (an2 h69 (an ff (an h69 (an ff (an5 h70 (an6 tt tv)))))))) (by kernel_rfl) (.cons rfl (.of_eq (by rw [h57,h69,h70]; try rfl)) .nil)
       ·rcases bt (decide ((((Bj p0 (Int.toNat k1)) : Nat) : Int) ≥ 48)) with h71 | h71
        ·rcases bt (decide ((((Bj p0 (Int.toNat k1)) : Nat) : Int) ≤ 57)) with h72 | h72
         ·exact RT hnt (nn 3 (sk 2 (pF :: nn 6 (pT :: pF :: nn 6 (pT :: pF :: .no :: sk 2 (pT :: .no :: sk 2 (pT :: .no :: []))))))) [(57,pB false)] (an3 h57 (an3 ff (an2 h69 (an ff (an h69 (an ff (an3 h70 (an2 h71 (an h70 (an h71 (an h70 (an3 h72 (an3 tt tv))))))))))))) (by kernel_rfl) (.cons rfl (.of_eq (by rw [h57,h69,h70,h71,h72]; try rfl)) .nil)
         ·rcases bt ((((Bj p0 (Int.toNat k1)) : Nat) : Int) == 95) with h73 | h73
          ·exact RT hnt (nn 3 (sk 2 (pF :: nn 6 (pT :: pF :: nn 6 (pT :: pF :: nn 3 (pF :: .no :: sk 2 (pT :: .no :: []))))))) [(57,pB false)] (an3 h57 (an3 ff (an2 h69 (an ff (an h69 (an ff (an3 h70 (an2 h71 (an h70 (an h71 (an h70 (an3 h72 (an3 h73 tv))))))))))))) (by kernel_rfl) (.cons rfl (.of_eq (by rw [h57,h69,h70,h71,h72,h73]; try rfl)) .nil)
          ·exact RT hnt (nn 3 (sk 2 (pF :: nn 6 (pT :: pF :: nn 6 (pT :: pF :: nn 3 (pF :: nn 3 (pF :: .no :: []))))))) [(Yb p0 k1)] (an3 h57 (an3 ff (an2 h69 (an ff (an h69 (an ff (an3 h70 (an2 h71 (an h70 (an h71 (an h70 (an3 h72 (an3 h73 tv))))))))))))) (by kernel_rfl) (.cons rfl (.of_eq (by rw [h57,h69,h70,h71,h72,h73]; try rfl)) .nil)
        ·rcases bt ((((Bj p0 (Int.toNat k1)) : Nat) : Int) == 95) with h74 | h74
         ·exact RT hnt (nn 3 (sk 2 (pF :: nn 6 (pT :: pF :: nn 4 (sk 2 (pF :: pF :: nn 3 (pF :: .no :: sk 2 (pT :: .no :: [])))))))) [(57,pB false)] (an3 h57 (an3 ff (an2 h69 (an ff (an h69 (an ff (an3 h70 (an2 h71 (an h70 (an h71 (an h70 (an3 ff (an3 h74 tv))))))))))))) (by kernel_rfl) (.cons rfl (.of_eq (by rw [h57,h69,h70,h71,h74]; try rfl)) .nil)
         ·exact RT hnt (nn 3 (sk 2 (pF :: nn 6 (pT :: pF :: nn 4 (sk 2 (pF :: pF :: nn 3 (pF :: nn 3 (pF :: .no :: [])))))))) [(Yb p0 k1)] (an3 h57 (an3 ff (an2 h69 (an ff (an h69 (an ff (an3 h70 (an2 h71 (an h70 (an h71 (an h70 (an3 ff (an3 h74 tv))))))))))))) (by kernel_rfl) (.cons rfl (.of_eq (by rw [h57,h69,h70,h71,h74]; try rfl)) .nil)
      ·rcases bt (decide ((((Bj p0 (Int.toNat k1)) : Nat) : Int) ≥ 48)) with h75 | h75
       ·rcases bt (decide ((((Bj p0 (Int.toNat k1)) : Nat) : Int) ≤ 57)) with h76 | h76
        ·exact RT hnt (nn 3 (sk 2 (pF :: nn 4 (sk 2 (pF :: pF :: nn 6 (pT :: pF :: .no :: sk 2 (pT :: .no :: sk 2 (pT :: .no :: [])))))))) [(57,pB false)] (an3 h57 (an3 ff (an2 h69 (an ff (an h69 (an4 ff (an2 h75 (an ff (an h75 (an ff (an3 h76 (an3 tt tv)))))))))))) (by kernel_rfl) (.cons rfl (.of_eq (by rw [h57,h69,h75,h76]; try rfl)) .nil)
        ·rcases bt ((((Bj p0 (Int.toNat k1)) : Nat) : Int) == 95) with h77 | h77
         ·exact RT hnt (nn 3 (sk 2 (pF :: nn 4 (sk 2 (pF :: pF :: nn 6 (pT :: pF :: nn 3 (pF :: .no :: sk 2 (pT :: .no :: [])))))))) [(57,pB false)] (an3 h57 (an3 ff (an2 h69 (an ff (an h69 (an4 ff (an2 h75 (an ff (an h75 (an ff (an3 h76 (an3 h77 tv)))))))))))) (by kernel_rfl) (.cons rfl (.of_eq (by rw [h57,h69,h75,h76,h77]; try rfl)) .nil)
         ·exact RT hnt (nn 3 (sk 2 (pF :: nn 4 (sk 2 (pF :: pF :: nn 6 (pT :: pF :: nn 3 (pF :: nn 3 (pF :: .no :: [])))))))) [(Yb p0 k1)] (an3 h57 (an3 ff (an2 h69 (an ff (an h69 (an4 ff (an2 h75 (an ff (an h75 (an ff (an3 h76 (an3 h77 tv)))))))))))) (by kernel_rfl) (.cons rfl (.of_eq (by rw [h57,h69,h75,h76,h77]; try rfl)) .nil)
       ·rcases bt ((((Bj p0 (Int.toNat k1)) : Nat) : Int) == 95) with h78 | h78
        ·exact RT hnt (nn 3 (sk 2 (pF :: nn 4 (sk 2 (pF :: pF :: nn 4 (sk 2 (pF :: pF :: nn 3 (pF :: .no :: sk 2 (pT :: .no :: []))))))))) [(57,pB false)] (an3 h57 (an3 ff (an2 h69 (an ff (an h69 (an4 ff (an2 h75 (an ff (an h75 (an4 ff (an3 h78 tv))))))))))) (by kernel_rfl) (.cons rfl (.of_eq (by rw [h57,h69,h75,h78]; try rfl)) .nil)
        ·exact RT hnt (nn 3 (sk 2 (pF :: nn 4 (sk 2 (pF :: pF :: nn 4 (sk 2 (pF :: pF :: nn 3 (pF :: nn 3 (pF :: .no :: []))))))))) [(Yb p0 k1)] (an3 h57 (an3 ff (an2 h69 (an ff (an h69 (an4 ff (an2 h75 (an ff (an h75 (an4 ff (an3 h78 tv))))))))))) (by kernel_rfl) (.cons rfl (.of_eq (by rw [h57,h69,h75,h78]; try rfl)) .nil)
    ·refine Ag hm ?_ ?_
     ·intro h79 hm
      refine Sq (RK hnt (.no :: []) [(2,pB false)] [] tv ?_)
      obtain rfl := sj hm
      exact DW.ret (Ai [] [] (pB false))
     ·intro h79 hm
      refine Sk ?_
      refine DW.done ?_
      show DW _ _ _ _ _
      refine RK hnt (nn 3 []) [(0,pS p0),(3,pI (w64 (k1 + 1)))] [] tv ?_
      exact jD () ⟨hlt1,hm⟩ (Conv.tp [(3,pI (w64 (k1 + 1)))] [] (by kernel_rfl) (.cons rfl (.of_eq (congrArg pI (We (lo := 0) (hi := ((p0.size : Nat) : Int)) (by omega) hk1 hlt1 (by omega)))) .nil) .nil)
   ·intro h55
    have hge1 : ¬ k1 < ((p0.size : Nat) : Int) := by have := of_decide_eq_false h55; omega
    have hm := he1 hge1
    unfold AbB at hm
    refine DW.exit ?_
    refine An ?_
    refine Ax ?_
    refine Ak ?_
    show DW _ _ _ _ _
    refine Sq (RK hnt (.no :: []) [(2,pB true)] [] tv ?_)
    obtain rfl := sj hm
    exact DW.ret (Ai [] [] (pB true))
 ·rcases bt (((p0.size : Nat) : Int) == 0) with h1 | h1
  ·replace hm := Bh h1 hm
   refine RK hnt (nn 4 (sk 3 (pT :: .no :: sk 3 (pT :: [])))) [(0,pS p0),(17,pB true)] [] (an4 h1 (an4 tt tv)) ?_
   exact jD true hm .refl
  ·replace hm := Bg h1 hm
   rcases bt (decide (((p0.size : Nat) : Int) > 32)) with h2 | h2
   ·replace hm := Bh h2 hm
    refine RK hnt (nn 7 (pF :: .no :: sk 3 (pT :: []))) [(0,pS p0),(17,pB true)] [] (an4 h1 (an4 h2 tv)) ?_
    exact jD true hm .refl
   ·replace hm := Bg h2 hm
    obtain ⟨g3,hm⟩ := go1 hm
    refine RK hnt (nn 7 (pF :: nn 4 (pF :: []))) [(0,pS p0),(17,pB ((((Bj p0 0) : Nat) : Int) == 45))] [] (an4 h1 (an2 h2 (an (nn0 0) (an (ltc g3) (an2 h2 tv))))) ?_
    exact jD ((((Bj p0 0) : Nat) : Int) == 45) hm .refl
abbrev o77 (ks : List Nat) (b : Bool) (RES : Bool) (sm : List Nat := []) : Orc := .call 174 ks b (pB RES) [] [] sm

abbrev Dx (p0 : Ae) (p1 : Int) := (p0.nodes.getD (Int.toNat p1) Bf)
abbrev Acb (p0 : Ae) (p1 : Int) : Nat × Obj := (1040,bx (pm (Al (Dx p0 p1))))
abbrev Acd (p0 : Ae) : Nat × Obj := (1016,bx (pm (Ao p0)))
abbrev c76e4 (p0 : Ae) (k1 : Int) := (p0.nodes.getD (Int.toNat k1) Bf)
theorem Afr (p0 : Ae) (p1 : Int) (RES : Bool) (hm : Ub p0 p1 = some RES) : Spec Tryz.prog 169 [.p (.agg (Ao p0)),pI p1] [] (pB RES) [] [] := by
 unfold Ub at hm
 refine SO Tryz.func169 rfl rfl [(0,.p (.agg (Ao p0))),(1,pI p1)] [] ?_
 intro cx hnt
 refine Sq (RK hnt (nn 2 []) [(1,pI p1),(2,rr 1016)] [(Acd p0)] tv ?_)
 obtain ⟨g1,hm⟩ := go1 hm
 refine Sq (RD hnt (nn 7 []) [] [(5,rr 1040)] [] [(Acb p0 p1)] (an g1.1 (an g1.2 tv)) ?_)
 refine Sq (Sq (DW.regJ (sl2 := [(1,pI p1),(2,rr 1016),(5,rr 1040),(40,pB (((((((Dx p0 p1).kind != 0) && ((Dx p0 p1).kind != 1)) || (decide ((Dx p0 p1).control < 0))) || (decide ((Dx p0 p1).control > 31))) || (decide ((Dx p0 p1).owner < 0))) || (decide ((Dx p0 p1).owner > 1048576))))]) (ob2 := [(Acd p0),(Acb p0 p1)]) ?_ ?_))
 ·rcases bt ((Dx p0 p1).kind != 0) with h2 | h2
  ·rcases bt ((Dx p0 p1).kind != 1) with h3 | h3
   ·exact RT hnt (nn 7 (pT :: .no :: sk 3 (pT :: .no :: sk 3 (pT :: .no :: sk 3 (pT :: .no :: sk 3 (pT :: [])))))) [(40,pB true)] (an4 h2 (an4 h3 (an6 tt (an6 tt tv)))) (by kernel_rfl) (.cons rfl (.of_eq (by rw [h2,h3]; try rfl)) .nil)
   ·rcases bt (decide ((Dx p0 p1).control < 0)) with h4 | h4
    ·exact RT hnt (nn 7 (pT :: nn 4 (pF :: .no :: sk 3 (pT :: .no :: sk 3 (pT :: .no :: sk 3 (pT :: [])))))) [(40,pB true)] (an4 h2 (an4 h3 (an4 h4 (an2 tt (an6 tt tv))))) (by kernel_rfl) (.cons rfl (.of_eq (by rw [h2,h3,h4]; try rfl)) .nil)
    ·rcases bt (decide ((Dx p0 p1).control > 31)) with h5 | h5
     ·exact RT hnt (nn 7 (pT :: nn 4 (pF :: nn 4 (pF :: .no :: sk 3 (pT :: .no :: sk 3 (pT :: [])))))) [(40,pB true)] (an4 h2 (an4 h3 (an4 h4 (an4 h5 (an4 tt tv))))) (by kernel_rfl) (.cons rfl (.of_eq (by rw [h2,h3,h4,h5]; try rfl)) .nil)
     ·rcases bt (decide ((Dx p0 p1).owner < 0)) with h6 | h6
      ·exact RT hnt (nn 7 (pT :: nn 4 (pF :: nn 4 (pF :: nn 4 (pF :: .no :: sk 3 (pT :: [])))))) [(40,pB true)] (an4 h2 (an4 h3 (an4 h4 (an4 h5 (an4 h6 tv))))) (by kernel_rfl) (.cons rfl (.of_eq (by rw [h2,h3,h4,h5,h6]; try rfl)) .nil)
      ·exact RT hnt (nn 7 (pT :: nn 4 (pF :: nn 4 (pF :: nn 4 (pF :: nn 4 (pF :: [])))))) [(40,pB (decide ((Dx p0 p1).owner > 1048576)))] (an4 h2 (an4 h3 (an4 h4 (an4 h5 (an4 h6 tv))))) (by kernel_rfl) (.cons rfl (.of_eq (by rw [h2,h3,h4,h5,h6]; try rfl)) .nil)
  ·rcases bt (decide ((Dx p0 p1).control < 0)) with h7 | h7
   ·exact RT hnt (nn 4 (sk 3 (pF :: nn 4 (pF :: .no :: sk 3 (pT :: .no :: sk 3 (pT :: .no :: sk 3 (pT :: []))))))) [(40,pB true)] (an4 h2 (an4 ff (an4 h7 (an2 tt (an6 tt tv))))) (by kernel_rfl) (.cons rfl (.of_eq (by rw [h2,h7]; try rfl)) .nil)
   ·rcases bt (decide ((Dx p0 p1).control > 31)) with h8 | h8
    ·exact RT hnt (nn 4 (sk 3 (pF :: nn 4 (pF :: nn 4 (pF :: .no :: sk 3 (pT :: .no :: sk 3 (pT :: []))))))) [(40,pB true)] (an4 h2 (an4 ff (an4 h7 (an4 h8 (an4 tt tv))))) (by kernel_rfl) (.cons rfl (.of_eq (by rw [h2,h7,h8]; try rfl)) .nil)
    ·rcases bt (decide ((Dx p0 p1).owner < 0)) with h9 | h9
     ·exact RT hnt (nn 4 (sk 3 (pF :: nn 4 (pF :: nn 4 (pF :: nn 4 (pF :: .no :: sk 3 (pT :: []))))))) [(40,pB true)] (an4 h2 (an4 ff (an4 h7 (an4 h8 (an4 h9 tv))))) (by kernel_rfl) (.cons rfl (.of_eq (by rw [h2,h7,h8,h9]; try rfl)) .nil)
     ·exact RT hnt (nn 4 (sk 3 (pF :: nn 4 (pF :: nn 4 (pF :: nn 4 (pF :: nn 4 (pF :: []))))))) [(40,pB (decide ((Dx p0 p1).owner > 1048576)))] (an4 h2 (an4 ff (an4 h7 (an4 h8 (an4 h9 tv))))) (by kernel_rfl) (.cons rfl (.of_eq (by rw [h2,h7,h8,h9]; try rfl)) .nil)
 ·refine Ag hm ?_ ?_
  ·intro h10 hm
   refine Sq (RK hnt (.no :: []) [(4,pB false)] [] tv ?_)
   obtain rfl := sj hm
   exact DW.ret (Ai [] [] (pB false))
  ·intro h10 hm
   refine Sk ?_
   refine Sq (Sq (RD hnt (nn 2 []) [40] [(42,pB (p1 == 0))] [] [] tv ?_))
   refine Ag hm ?_ ?_
   ·intro h11 hm
    refine Sq (DW.regJ (sl2 := [(4,pB (((((Dx p0 p1).id == 1) && ((Dx p0 p1).parent == 0)) && (Dn (Dx p0 p1).name ByteArray.empty)) && ((Dx p0 p1).kind == 0)))]) (ob2 := []) ?_ ?_)
    ·rcases bt ((Dx p0 p1).id == 1) with h12 | h12
     ·rcases bt ((Dx p0 p1).parent == 0) with h13 | h13
      ·rcases bt (Dn (Dx p0 p1).name ByteArray.empty) with h14 | h14
       ·exact RT hnt (nn 7 (pT :: nn 4 (pT :: nn 4 (pT :: .no :: [])))) [(4,pB ((Dx p0 p1).kind == 0))] (an4 h12 (an4 h13 (an4 h14 tv))) (by kernel_rfl) (.cons rfl (.of_eq (by rw [h12,h13,h14]; try rfl)) .nil)
       ·exact RT hnt (nn 7 (pT :: nn 4 (pT :: .no :: sk 3 (pF :: .no :: [])))) [(4,pB false)] (an4 h12 (an4 h13 (an4 h14 tv))) (by kernel_rfl) (.cons rfl (.of_eq (by rw [h12,h13,h14]; try rfl)) .nil)
      ·exact RT hnt (nn 7 (pT :: .no :: sk 3 (pF :: .no :: sk 3 (pF :: .no :: [])))) [(4,pB false)] (an4 h12 (an4 h13 (an4 ff tv))) (by kernel_rfl) (.cons rfl (.of_eq (by rw [h12,h13]; try rfl)) .nil)
     ·exact RT hnt (nn 4 (sk 3 (pF :: .no :: sk 3 (pF :: .no :: sk 3 (pF :: .no :: []))))) [(4,pB false)] (an4 h12 (an2 ff (an6 ff tv))) (by kernel_rfl) (.cons rfl (.of_eq (by rw [h12]; try rfl)) .nil)
    ·refine DW.ret ?_
     obtain rfl := sj hm
     exact Ai [] [] (pB (((((Dx p0 p1).id == 1) && ((Dx p0 p1).parent == 0)) && (Dn (Dx p0 p1).name ByteArray.empty)) && ((Dx p0 p1).kind == 0)))
   ·intro h11 hm
    refine Sk ?_
    obtain ⟨g15,hm⟩ := go1 hm
    refine Sq (Sq ?_)
    refine Jn (ι := Bool) (fun (y1 : Bool) => Aj [(1,pI p1),(2,rr 1016),(5,rr 1040),(76,pB y1)] [(Acd p0),(Acb p0 p1)]) (fun y1 => (Qm p0 p1) y1 = some RES) ?_ ?_
    ·intro y1 hm
     unfold Qm at hm
     refine Ag hm ?_ ?_
     ·intro h18 hm
      refine Sq (RK hnt (.no :: []) [(4,pB false)] [] tv ?_)
      obtain rfl := sj hm
      exact DW.ret (Ai [] [] (pB false))
     ·intro h18 hm
      refine Sk ?_
      refine Sq (RD hnt (.no :: []) [76] [(6,pB false)] [] [] tv ?_)
      refine Sq (Sq (RD hnt (.no :: []) [] [(7,pI 0)] [] [] tv ?_))
      refine Bk ?_
      obtain ⟨hc1,hm⟩ := go1 hm
      refine DW.forO (fun (k1 : Int) (s1 : Bool) => Aj [(1,pI p1),(2,rr 1016),(5,rr 1040),(6,pB s1),(7,pI k1)] [(Acd p0),(Acb p0 p1)]) (lo := 0) (hi := p1) hm Conv.eqK ?_
      intro k1 s1 n1 hk1 hs1 he1
      refine Sq (Sq (RD hnt (nn 3 []) [] [(79,pB (decide (k1 < p1)))] [] [] tv ?_))
      refine Cn (decide (k1 < p1)) ?_ ?_
      ·intro h32
       have hlt1 : k1 < p1 := by have := of_decide_eq_true h32; omega
       have hm := hs1 hlt1
       unfold Yy at hm
       refine Sk ?_
       refine Sq (Bk ?_)
       refine Sq ?_
       refine Jn (ι := Bool) (fun (y5 : Bool) => Aj [(1,pI p1),(2,rr 1016),(5,rr 1040),(6,pB y5),(7,pI k1)] [(Acd p0),(Acb p0 p1)]) (fun y5 => (Nz p0 p1 k1 n1) y5 = some RES) ?_ ?_
       ·intro y5 hm
        unfold Nz at hm
        obtain ⟨g35,hm⟩ := go1 hm
        refine Sq ?_
        refine Jn (ι := Bool) (fun (y6 : Bool) => Aj [(1,pI p1),(2,rr 1016),(5,rr 1040),(6,pB y5),(7,pI k1),(113,pB y6)] [(Acd p0),(Acb p0 p1)]) (fun y6 => (Oa n1 y5) y6 = some RES) ?_ ?_
        ·intro y6 hm
         unfold Oa at hm
         refine Ag hm ?_ ?_
         ·intro h38 hm
          refine Sq (RK hnt (.no :: []) [(4,pB false)] [] tv ?_)
          obtain rfl := sj hm
          exact DW.ret (Ai [] [] (pB false))
         ·intro h38 hm
          refine Sk ?_
          refine DW.done ?_
          show DW _ _ _ _ _
          refine RD hnt (nn 3 []) [113] [(7,pI (w64 (k1 + 1)))] [] [] tv ?_
          exact jD y5 ⟨hlt1,hm⟩ (Conv.tp [(7,pI (w64 (k1 + 1)))] [] (by kernel_rfl) (.cons rfl (.of_eq (congrArg pI (We (lo := 0) (hi := p1) (by omega) hk1 hlt1 (by omega)))) .nil) .nil)
        ·rcases bt ((c76e4 p0 k1).parent == (Dx p0 p1).parent) with h36 | h36
         ·replace hm := Bh h36 hm
          obtain ⟨g37,hm⟩ := go1 hm
          refine RD hnt (nn 19 (pT :: [])) [] [(113,pB (Dn (c76e4 p0 k1).name (Dx p0 p1).name))] [] [] (an g35.1 (an g35.2 (an4 h36 (an g37.1 (an g37.2 (an6 h36 tv)))))) ?_
          exact jD (Dn (c76e4 p0 k1).name (Dx p0 p1).name) hm Conv.eqK
         ·replace hm := Bg h36 hm
          refine RD hnt (nn 10 (sk 9 (pF :: []))) [] [(113,pB false)] [] [] (an g35.1 (an g35.2 (an4 h36 (an6 h36 tv)))) ?_
          exact jD false hm Conv.eqK
       ·rcases bt s1 with h33 | h33
        ·replace hm := Bh h33 hm
         refine RD hnt (nn 2 (sk 9 (pT :: .no :: []))) [79] [(6,pB true)] [] [] (an4 h33 (an6 h33 tv)) ?_
         exact jD true hm Conv.eqK
        ·replace hm := Bg h33 hm
         obtain ⟨g34,hm⟩ := go1 hm
         refine RD hnt (nn 11 (pF :: .no :: [])) [79] [(6,pB ((c76e4 p0 k1).id == (Dx p0 p1).parent))] [] [] (an4 h33 (an g34.1 (an g34.2 (an6 h33 tv)))) ?_
         exact jD ((c76e4 p0 k1).id == (Dx p0 p1).parent) hm Conv.eqK
      ·intro h32
       have hge1 : ¬ k1 < p1 := by have := of_decide_eq_false h32; omega
       have hm := he1 hge1
       unfold AcS at hm
       refine DW.exit ?_
       refine An ?_
       refine Ax ?_
       refine Ak ?_
       show DW _ _ _ _ _
       refine Sq (RK hnt (nn 2 []) [(4,pB s1)] [] tv ?_)
       obtain rfl := sj hm
       exact DW.ret (Ai [] [] (pB s1))
    ·rcases bt (decide ((Dx p0 p1).id ≤ (p0.nodes.getD (Int.toNat (w64 (p1 - 1))) Bf).id)) with h16 | h16
     ·replace hm := Bh h16 hm
      refine RD hnt (nn 11 (sk 4 (pT :: []))) [42] [(76,pB true)] [] [] (an g15.1 (an g15.2 (an5 h16 tv))) ?_
      exact jD true hm Conv.eqK
     ·replace hm := Bg h16 hm
      obtain ⟨r17,hr17,hm⟩ := bo hm
      refine RD hnt (nn 13 (o77 [] true r17 :: .no :: pF :: [])) [42] [(76,pB (!r17))] [] [] (an g15.1 (an g15.2 (an3 h16 (an (Zs (Dx p0 p1).name r17 hr17) (an2 h16 tv))))) ?_
      exact jD (!r17) hm Conv.eqK
abbrev o76 (ks : List Nat) (b : Bool) (RES : Bool) (sm : List Nat := []) : Orc := .call 169 ks b (pB RES) [] [] sm

theorem AcG (p0 : Ae) (p1 : Int) (RES : List Int) (hm : Wb p0 p1 = some RES) : Spec Tryz.prog 128 [.p (.agg (Ao p0)),pI p1] [] (ow 0 RES.length) [] [roI RES] := by
 unfold Wb at hm
 refine SO Tryz.func128 rfl rfl [(0,.p (.agg (Ao p0))),(1,pI p1)] [] ?_
 intro cx hnt
 refine Sq (RK hnt (nn 2 []) [(1,pI p1),(2,rr 1016)] [(1016,bx (pm (Ao p0)))] tv ?_)
 refine Sq (RD hnt (.no :: []) [] [(5,.p (.sl .nil 0 0 (fun _ => [])))] [] [] tv ?_)
 refine Sq (Sq (RD hnt (nn 5 []) [] [(6,pI (w64 (((p0.nodes.length : Nat) : Int) - 1)))] [] [] tv ?_))
 refine Bk ?_
 refine DW.whileO (fun (s1 : (List Int) × Int × Int) => Aj [(1,pI s1.2.1),(2,rr 1016),(5,ow 1208 s1.1.length),(6,pI s1.2.2)] [(1016,bx (pm (Ao p0))),(1208,ob0 (roI s1.1))]) hm (Conv.ads [(.s 5,1208,1,elems Br 0 [])]) ?_
 intro s1 n1 hm
 unfold AbR at hm
 refine Sq (Sq (RD hnt (nn 2 []) [] [(12,pB (decide (s1.2.2 ≥ 0)))] [] [] tv ?_))
 refine Ag hm ?_ ?_
 ·intro h5 hm
  refine Sk ?_
  refine Sq ?_
  refine Jn (ι := (List Int) × Int) (fun (y2 : (List Int) × Int) => Aj [(1,pI y2.2),(2,rr 1016),(5,ow 1208 y2.1.length),(6,pI s1.2.2)] [(1016,bx (pm (Ao p0))),(1208,ob0 (roI y2.1))]) (fun y2 => (Rk s1 n1) y2 = some RES) ?_ ?_
  ·intro y2 hm
   unfold Rk at hm
   refine RD hnt (nn 3 []) [] [(6,pI (w64 (s1.2.2 - 1)))] [] [] tv ?_
   exact jD (y2.1,y2.2,(w64 (s1.2.2 - 1))) hm Conv.eqK
  ·refine Bk ?_
   obtain ⟨g6,hm⟩ := go1 hm
   refine Sq (RD hnt (nn 8 []) [12] [(22,pB ((p0.nodes.getD (Int.toNat s1.2.2) Bf).id == s1.2.1))] [] [] (an g6.1 (an g6.2 tv)) ?_)
   refine Ag hm ?_ ?_
   ·intro h7 hm
    obtain ⟨g8,hm⟩ := go1 hm
    refine Sq (RN hnt (nn 5 []) [(2,rr 1016),(5,ow 1208 (s1.1 ++ [s1.2.1]).length),(6,pI s1.2.2)] [(1016,bx (pm (Ao p0))),(1208,ob0 (roI (s1.1 ++ [s1.2.1])))] [(5,ow 1208 (s1.1.length + 1))] [(1208,.row 1 (s1.1.length + 1) (Dy s1.1.length (elI s1.1) (cut 1 [vi s1.2.1])))] (an (by omega : (s1.1.length + 1) * 8 ≤ 140737488355328) tv) (by kernel_rfl) (.cons rfl (MLe.ownLen (enc := Br) (d := 0) (f := (Dy s1.1.length (elI s1.1) (cut 1 [vi s1.2.1]))) (RowIs.cat RowIs.elems (RowIs.lit (enc := Br) (d := 0) (n := 1) (f := (cut 1 [vi s1.2.1])) [s1.2.1] rfl (fun | 0,_ => rfl | n + 1,h => absurd h (by omega))))) .nil) (.cons rfl (BLe.typed (RowIs.cat RowIs.elems (RowIs.lit (enc := Br) (d := 0) (n := 1) (f := (cut 1 [vi s1.2.1])) [s1.2.1] rfl (fun | 0,_ => rfl | n + 1,h => absurd h (by omega))))) .nil) ?_)
    obtain ⟨g9,hm⟩ := go1 hm
    refine RD hnt (nn 7 []) [] [(1,pI (p0.nodes.getD (Int.toNat s1.2.2) Bf).parent)] [] [] (an g9.1 (an g9.2 tv)) ?_
    exact bD ((s1.1 ++ [s1.2.1]),(p0.nodes.getD (Int.toNat s1.2.2) Bf).parent) hm Conv.eqK
   ·intro h7 hm
    refine Sk ?_
    exact bD (s1.1,s1.2.1) hm Conv.t0
 ·intro h5 hm
  refine DW.exit ?_
  refine An ?_
  refine Ax ?_
  refine Ak ?_
  show DW _ _ _ _ _
  refine Sq (RK hnt (nn 2 []) [(4,ow 1208 s1.1.length)] [(1208,ob0 (roI s1.1))] tv ?_)
  obtain rfl := sj hm
  exact DW.ret (Ai [roI s1.1] [1208] (ow 0 s1.1.length))
abbrev o78 (ks : List Nat) (b : Bool) (RES : List Int) (sm : List Nat := []) : Orc := .call 128 ks b (ow 0 RES.length) [] [roI RES] sm

abbrev c75e1 (p0 : Ae) : Nat × MV := (3,pI ((p0.nodes.length : Nat) : Int))
theorem Fr (p0 : Ae) (RES : Bool) (hm : Iu p0 = some RES) : Spec Tryz.prog 94 [.p (.agg (Ao p0))] [] (pB RES) [] [] := by
 unfold Iu at hm
 refine SO Tryz.func94 rfl rfl [(0,.p (.agg (Ao p0)))] [] ?_
 intro cx hnt
 refine Sq (RK hnt (nn 2 []) [(1,rr 1008)] [(1008,bx (pm (Ao p0)))] tv ?_)
 refine Sq (RD hnt (nn 4 []) [] [(c75e1 p0)] [] [] tv ?_)
 refine Sq (Sq (DW.regJ (sl2 := [(1,rr 1008),(c75e1 p0),(14,pB ((decide (((p0.nodes.length : Nat) : Int) < 1)) || (decide (((p0.nodes.length : Nat) : Int) > 64))))]) (ob2 := [(1008,bx (pm (Ao p0)))]) ?_ ?_))
 ·rcases bt (decide (((p0.nodes.length : Nat) : Int) < 1)) with h1 | h1
  ·exact RT hnt (nn 3 (sk 2 (pT :: []))) [(14,pB true)] (an3 h1 tv) (by kernel_rfl) (.cons rfl (.of_eq (by rw [h1]; try rfl)) .nil)
  ·exact RT hnt (nn 5 (pF :: [])) [(14,pB (decide (((p0.nodes.length : Nat) : Int) > 64)))] (an3 h1 tv) (by kernel_rfl) (.cons rfl (.of_eq (by rw [h1]; try rfl)) .nil)
 ·refine Ag hm ?_ ?_
  ·intro h2 hm
   refine Sq (RK hnt (.no :: []) [(2,pB false)] [] tv ?_)
   obtain rfl := sj hm
   exact DW.ret (Ai [] [] (pB false))
  ·intro h2 hm
   refine Sk ?_
   refine Sq (Sq (RD hnt (.no :: []) [14] [(4,pI 0)] [] [] tv ?_))
   refine Bk ?_
   obtain ⟨hc1,hm⟩ := go1 hm
   refine DW.rangeO (fun (k1 : Nat) (s1 : Unit) => Aj [(1,rr 1008),(c75e1 p0),(4,pI ((k1 : Nat) : Int))] [(1008,bx (pm (Ao p0)))]) Bf hm Conv.eqK ?_
   intro k1 s1 n1 hk1 hs1 he1
   refine Sq (Sq (RD hnt (nn 3 []) [] [(17,pB (decide (((k1 : Nat) : Int) < ((p0.nodes.length : Nat) : Int))))] [] [] tv ?_))
   refine Cn (decide (((k1 : Nat) : Int) < ((p0.nodes.length : Nat) : Int))) ?_ ?_
   ·intro h32
    have hlt1 : k1 < p0.nodes.length := by have := of_decide_eq_true h32; omega
    have hm := hs1 hlt1
    unfold Wk at hm
    refine Sk ?_
    refine Sq (Bk ?_)
    obtain ⟨r33,hr33,hm⟩ := bo hm
    refine Sq (RD hnt (nn 2 (o76 [] true r33 :: .no :: [])) [17] [(23,pB (!r33))] [] [] (an (Afr p0 ((k1 : Nat) : Int) r33 hr33) tv) ?_)
    refine Ag hm ?_ ?_
    ·intro h34 hm
     refine Sq (RK hnt (.no :: []) [(2,pB false)] [] tv ?_)
     obtain rfl := sj hm
     exact DW.ret (Ai [] [] (pB false))
    ·intro h34 hm
     refine Sk ?_
     refine DW.done ?_
     show DW _ _ _ _ _
     refine RD hnt (nn 3 []) [23] [(4,pI (w64 (((k1 : Nat) : Int) + 1)))] [] [] tv ?_
     exact jD () ⟨hlt1,hm⟩ (Conv.tp [(4,pI (w64 (((k1 : Nat) : Int) + 1)))] [] (by kernel_rfl) (.cons rfl (.of_eq (congrArg pI (Bo hlt1 hc1))) .nil) .nil)
   ·intro h32
    have hge1 : ¬ k1 < p0.nodes.length := by have := of_decide_eq_false h32; omega
    have hm := he1 hge1
    unfold Wg at hm
    refine DW.exit ?_
    refine An ?_
    refine Ax ?_
    refine Ak ?_
    show DW _ _ _ _ _
    refine Sq (Sq (RD hnt (.no :: []) [4,17] [(5,pI 0)] [] [] tv ?_))
    refine Bk ?_
    obtain ⟨hc4,hm⟩ := go1 hm
    refine DW.rangeO (fun (k4 : Nat) (s4 : Unit) => Aj [(1,rr 1008),(c75e1 p0),(5,pI ((k4 : Nat) : Int))] [(1008,bx (pm (Ao p0)))]) Bf hm Conv.eqK ?_
    intro k4 s4 n4 hk4 hs4 he4
    refine Sq (Sq (RD hnt (nn 3 []) [] [(26,pB (decide (((k4 : Nat) : Int) < ((p0.nodes.length : Nat) : Int))))] [] [] tv ?_))
    refine Cn (decide (((k4 : Nat) : Int) < ((p0.nodes.length : Nat) : Int))) ?_ ?_
    ·intro h49
     have hlt4 : k4 < p0.nodes.length := by have := of_decide_eq_true h49; omega
     have hm := hs4 hlt4
     unfold Xu at hm
     refine Sk ?_
     refine Sq (Bk ?_)
     obtain ⟨r50,hr50,hm⟩ := bo hm
     refine Sq (RD hnt (nn 7 (o78 [] true r50 :: nn 2 [])) [26] [(38,pB (decide (((r50.length : Nat) : Int) > 9)))] [] [] (an (nn0 k4) (an (ltc hlt4) (an (AcG p0 (p0.nodes.getD k4 (default : Ah)).id r50 hr50) tv))) ?_)
     refine Ag hm ?_ ?_
     ·intro h51 hm
      refine Sq (RK hnt (.no :: []) [(2,pB false)] [] tv ?_)
      obtain rfl := sj hm
      exact DW.ret (Ai [] [] (pB false))
     ·intro h51 hm
      refine Sk ?_
      refine DW.done ?_
      show DW _ _ _ _ _
      refine RD hnt (nn 3 []) [38] [(5,pI (w64 (((k4 : Nat) : Int) + 1)))] [] [] tv ?_
      exact jD () ⟨hlt4,hm⟩ (Conv.tp [(5,pI (w64 (((k4 : Nat) : Int) + 1)))] [] (by kernel_rfl) (.cons rfl (.of_eq (congrArg pI (Bo hlt4 hc4))) .nil) .nil)
    ·intro h49
     have hge4 : ¬ k4 < p0.nodes.length := by have := of_decide_eq_false h49; omega
     have hm := he4 hge4
     unfold Wf at hm
     refine DW.exit ?_
     refine An ?_
     refine Ax ?_
     refine Ak ?_
     show DW _ _ _ _ _
     obtain ⟨g52,hm⟩ := go1 hm
     refine Sq ?_
     refine Jn (ι := Bool) (fun (y7 : Bool) => Aj [(2,pB y7)] []) (fun y7 => Ov y7 = some RES) ?_ ?_
     ·intro y7 hm
      unfold Ov at hm
      obtain rfl := sj hm
      exact DW.ret (Ai [] [] (pB y7))
     ·rcases bt (decide (p0.next > (p0.nodes.getD (Int.toNat (w64 (((p0.nodes.length : Nat) : Int) - 1))) Bf).id)) with h53 | h53
      ·replace hm := Bh h53 hm
       refine RK hnt (nn 14 (pT :: .no :: [])) [(2,pB (decide (p0.next ≤ 2147483648)))] [] (an g52.1 (an g52.2 (an4 h53 tv))) ?_
       exact jD (decide (p0.next ≤ 2147483648)) hm .refl
      ·replace hm := Bg h53 hm
       refine RK hnt (nn 11 (sk 3 (pF :: .no :: []))) [(2,pB false)] [] (an g52.1 (an g52.2 (an4 h53 tv))) ?_
       exact jD false hm .refl
abbrev o75 (ks : List Nat) (b : Bool) (RES : Bool) (sm : List Nat := []) : Orc := .call 94 ks b (pB RES) [] [] sm

theorem Db (p0 : Ae) (p1 : Int) (RES : Ah × Bool) (hm : Dc p0 p1 = some RES) : Spec Tryz.prog 44 [.p (.agg (Ao p0)),pI p1] [] (.p (.tup [.agg (Al RES.1),vb RES.2])) [] [] := by
 unfold Dc at hm
 refine SO Tryz.func44 rfl rfl [(0,.p (.agg (Ao p0))),(1,pI p1)] [] ?_
 intro cx hnt
 refine Sq (RK hnt (nn 3 []) [(1,pI p1),(2,rr 1016),(4,rr 1032)] [(1016,bx (pm (Ao p0))),(1032,bx [pI 0,pI 0,pS ByteArray.empty,pI 0,pI 0,pI 0])] tv ?_)
 obtain ⟨r1,hr1,hm⟩ := bo hm
 refine Sq (Sq (RD hnt (.no :: o75 [] true r1 :: .no :: []) [] [(9,pB (!r1))] [] [] (an (Fr p0 r1 hr1) tv) ?_))
 refine Ag hm ?_ ?_
 ·intro h2 hm
  refine Sq (RD hnt (nn 3 []) [1,2,9] [(5,pB false)] [1016] [] tv ?_)
  obtain rfl := sj hm
  exact DW.ret (Ai [] [] (.p (.tup [.agg [vi 0,vi 0,vs ByteArray.empty,vi 0,vi 0,vi 0],vb false])))
 ·intro h2 hm
  refine Sk ?_
  refine Sq (Sq (RD hnt (.no :: []) [9] [(6,pI 0)] [] [] tv ?_))
  refine Bk ?_
  obtain ⟨hc1,hm⟩ := go1 hm
  refine DW.rangeO (fun (k1 : Nat) (s1 : Unit) => Aj [(1,pI p1),(2,rr 1016),(4,rr 1032),(6,pI ((k1 : Nat) : Int))] [(1016,bx (pm (Ao p0))),(1032,bx [pI 0,pI 0,pS ByteArray.empty,pI 0,pI 0,pI 0])]) Bf hm Conv.eqK ?_
  intro k1 s1 n1 hk1 hs1 he1
  refine Sq (Sq (RD hnt (nn 5 []) [] [(15,pB (decide (((k1 : Nat) : Int) < ((p0.nodes.length : Nat) : Int))))] [] [] tv ?_))
  refine Cn (decide (((k1 : Nat) : Int) < ((p0.nodes.length : Nat) : Int))) ?_ ?_
  ·intro h11
   have hlt1 : k1 < p0.nodes.length := by have := of_decide_eq_true h11; omega
   have hm := hs1 hlt1
   unfold AcP at hm
   refine Sk ?_
   refine Sq (Bk ?_)
   refine Sq (RD hnt (nn 8 []) [15] [(25,pB ((p0.nodes.getD k1 (default : Ah)).id == p1))] [] [] (an (nn0 k1) (an (ltc hlt1) tv)) ?_)
   refine Ag hm ?_ ?_
   ·intro h12 hm
    refine Sq (RK hnt (nn 7 []) [(4,rr 1032),(5,pB true)] [(1032,bx (pm (Al (p0.nodes.getD k1 (default : Ah)))))] (an (nn0 k1) (an (ltc hlt1) tv)) ?_)
    obtain rfl := sj hm
    exact DW.ret (Ai [] [] (.p (.tup [.agg (Al (p0.nodes.getD k1 (default : Ah))),vb true])))
   ·intro h12 hm
    refine Sk ?_
    refine DW.done ?_
    show DW _ _ _ _ _
    refine RD hnt (nn 3 []) [25] [(6,pI (w64 (((k1 : Nat) : Int) + 1)))] [] [] tv ?_
    exact jD () ⟨hlt1,hm⟩ (Conv.tp [(6,pI (w64 (((k1 : Nat) : Int) + 1)))] [] (by kernel_rfl) (.cons rfl (.of_eq (congrArg pI (Bo hlt1 hc1))) .nil) .nil)
  ·intro h11
   have hge1 : ¬ k1 < p0.nodes.length := by have := of_decide_eq_false h11; omega
   have hm := he1 hge1
   unfold AcU at hm
   refine DW.exit ?_
   refine An ?_
   refine Ax ?_
   refine Ak ?_
   show DW _ _ _ _ _
   refine Sq (RD hnt (nn 3 []) [1,2,6,15] [(5,pB false)] [1016] [] tv ?_)
   obtain rfl := sj hm
   exact DW.ret (Ai [] [] (.p (.tup [.agg [vi 0,vi 0,vs ByteArray.empty,vi 0,vi 0,vi 0],vb false])))
abbrev o80 (ks : List Nat) (b : Bool) (RES : Ah × Bool) (sm : List Nat := []) : Orc := .call 44 ks b (.p (.tup [.agg (Al RES.1),vb RES.2])) [] [] sm

theorem Cw (p0 : Ae) (p1 : Int) (RES : Bool) (hm : Fv p0 p1 = some RES) : Spec Tryz.prog 96 [.p (.agg (Ao p0)),pI p1] [] (pB RES) [] [] := by
 unfold Fv at hm
 refine SO Tryz.func96 rfl rfl [(0,.p (.agg (Ao p0))),(1,pI p1)] [] ?_
 intro cx hnt
 refine Sq (RK hnt (nn 2 []) [(1,pI p1),(2,rr 1016)] [(1016,bx (pm (Ao p0)))] tv ?_)
 obtain ⟨r1,hr1,hm⟩ := bo hm
 refine Sq (RK hnt (nn 2 (o80 [] true r1 :: nn 6 [])) [(6,pB r1.2)] [] (an (Db p0 p1 r1 hr1) tv) ?_)
 refine Sq (RK hnt (nn 2 []) [(4,pB r1.2)] [] tv ?_)
 obtain rfl := sj hm
 exact DW.ret (Ai [] [] (pB r1.2))
abbrev o79 (ks : List Nat) (b : Bool) (RES : Bool) (sm : List Nat := []) : Orc := .call 96 ks b (pB RES) [] [] sm

theorem Ou (p0 : Ae) (p1 : Int) (RES : List Int) (hm : Eu p0 p1 = some RES) : Spec Tryz.prog 54 [.p (.agg (Ao p0)),pI p1] [] (ow 0 RES.length) [] [roI RES] := by
 unfold Eu at hm
 refine SO Tryz.func54 rfl rfl [(0,.p (.agg (Ao p0))),(1,pI p1)] [] ?_
 intro cx hnt
 refine Sq (RK hnt (nn 2 []) [(1,pI p1),(2,rr 1016)] [(1016,bx (pm (Ao p0)))] tv ?_)
 obtain ⟨r1,hr1,hm⟩ := bo hm
 refine Sq (Sq (RD hnt (nn 2 (o79 [] true r1 :: .no :: [])) [] [(8,pB (!r1))] [] [] (an (Cw p0 p1 r1 hr1) tv) ?_))
 refine Ag hm ?_ ?_
 ·intro h2 hm
  refine Sq (RK hnt (.no :: []) [(4,.p (.sl .nil 0 0 (fun _ => [])))] [] tv ?_)
  refine DW.cv [] [(4,ow 100000 0)] [] [(100000,ob0 (roI []))] (Conv.ads [(.s 4,100000,1,elems Br 0 [])]) ?_
  obtain rfl := sj hm
  exact DW.ret (Ai [roI []] [100000] (ow 0 0))
 ·intro h2 hm
  refine Sk ?_
  obtain ⟨r3,hr3,hm⟩ := bo hm
  refine Sq (RK hnt (nn 2 (o78 [] true r3 :: .no :: [])) [(4,ow 1088 r3.length)] [(1088,ob0 (roI r3))] (an (AcG p0 p1 r3 hr3) tv) ?_)
  obtain rfl := sj hm
  exact DW.ret (Ai [roI r3] [1088] (ow 0 r3.length))
abbrev o82 (ks : List Nat) (b : Bool) (RES : List Int) (sm : List Nat := []) : Orc := .call 54 ks b (ow 0 RES.length) [] [roI RES] sm

theorem Ta (p0 : Ae) (p1 : Int) (RES : Int) (hm : Sj p0 p1 = some RES) : Spec Tryz.prog 175 [.p (.agg (Ao p0)),pI p1] [] (pI RES) [] [] := by
 unfold Sj at hm
 refine SO Tryz.func175 rfl rfl [(0,.p (.agg (Ao p0))),(1,pI p1)] [] ?_
 intro cx hnt
 refine Sq (RK hnt (nn 2 []) [(1,pI p1),(2,rr 1016)] [(1016,bx (pm (Ao p0)))] tv ?_)
 obtain ⟨r1,hr1,hm⟩ := bo hm
 refine Sq (RK hnt (nn 2 (o82 [] true r1 :: nn 3 [])) [(4,pI (w64 (((r1.length : Nat) : Int) - 1)))] [] (an (Ou p0 p1 r1 hr1) tv) ?_)
 obtain rfl := sj hm
 exact DW.ret (Ai [] [] (pI (w64 (((r1.length : Nat) : Int) - 1))))
abbrev o81 (ks : List Nat) (b : Bool) (RES : Int) (sm : List Nat := []) : Orc := .call 175 ks b (pI RES) [] [] sm

theorem Ra (p0 : Ae) (RES : Ae) (hm : Na p0 = some RES) : Spec Tryz.prog 166 [.p (.agg (Ao p0))] [] (.agg [ow 0 RES.nodes.length,pI RES.next]) [] [Af RES.nodes] := by
 unfold Na at hm
 refine SO Tryz.func166 rfl rfl [(0,.p (.agg (Ao p0)))] [] ?_
 intro cx hnt
 refine Sq (RK hnt (nn 2 []) [(1,rr 1008),(2,rr 1016)] [(1008,bx (pm (Ao p0))),(1016,bx [.p (.sl .nil 0 0 (fun _ => [])),pI 0])] tv ?_)
 obtain ⟨g1,hm⟩ := go1 hm
 refine Sq (RN hnt (nn 7 []) [(2,rr 1016)] [(1016,bx [ow 1040 p0.nodes.length,pI p0.next]),(1040,ob0 (Af p0.nodes))] [] [(1040,.row 6 p0.nodes.length (Um p0.nodes))] (an (by omega : p0.nodes.length * 56 ≤ 140737488355328) tv) (by kernel_rfl) .nil (.cons rfl (BLe.typed RowIs.elems) .nil) ?_)
 obtain rfl := sj hm
 exact DW.ret (Ai [Af p0.nodes] [1040] (.agg [ow 0 p0.nodes.length,pI p0.next]))
abbrev o83 (ks : List Nat) (b : Bool) (RES : Ae) (sm : List Nat := []) : Orc := .call 166 ks b (.agg [ow 0 RES.nodes.length,pI RES.next]) [] [Af RES.nodes] sm

abbrev Yi (p0 : Ae) (p1 : Int) (p2 : ByteArray) := ({ id := p0.next,parent := p1,name := p2,control := 0,kind := 0,owner := 0 } : Ah)
abbrev Ack : Nat × Obj := (1048,bx [.p (.sl .nil 0 0 (fun _ => [])),pI 0])
abbrev Acu (p0 : Ae) : Nat × Obj := (1024,bx (pm (Ao p0)))
abbrev c74e4 : Nat × Obj := (1048,bx [ow 100000 0,pI 0])
theorem AfD (p0 : Ae) (p1 : Int) (p2 : ByteArray) (RES : Ae × Int × Int) (hm : Wm p0 p1 p2 = some RES) : Spec Tryz.prog 108 [.p (.agg (Ao p0)),pI p1,pS p2] [] (.tup [.agg [ow 0 RES.1.nodes.length,pI RES.1.next],pI RES.2.1,pI RES.2.2]) [] [Af RES.1.nodes] := by
 unfold Wm at hm
 refine SO Tryz.func108 rfl rfl [(0,.p (.agg (Ao p0))),(1,pI p1),(2,pS p2)] [] ?_
 intro cx hnt
 refine Sq (RD hnt (nn 4 []) [0] [(3,rr 1024),(6,rr 1048)] [] [(Acu p0),(Ack)] tv ?_)
 obtain ⟨r1,hr1,hm⟩ := bo hm
 refine Sq (Sq ?_)
 refine Jn (ι := Bool) (fun (y1 : Bool) => Aj [(1,pI p1),(2,pS p2),(3,rr 1024),(6,rr 1048),(18,pB y1)] [(Acu p0),(Ack)]) (fun y1 => (Rv p0 p1 p2) y1 = some RES) ?_ ?_
 ·intro y1 hm
  unfold Rv at hm
  refine Ag hm ?_ ?_
  ·intro h4 hm
   refine Sq (RD hnt (nn 4 []) [1,2,3,18] [(7,pI 0),(8,pI 1)] [1024] [] tv ?_)
   refine DW.cv [] [] [] [(c74e4),(100000,ob0 (Af []))] (Conv.ads [(.o 1048 0,100000,6,elems Al Bf [])]) ?_
   obtain rfl := sj hm
   exact DW.ret (Ai [Af []] [100000] (.tup [.agg [ow 0 0,pI 0],pI 0,pI 1]))
  ·intro h4 hm
   refine Sk ?_
   obtain ⟨r5,hr5,hm⟩ := bo hm
   refine Sq (Sq (RD hnt (nn 2 (o79 [] true r5 :: .no :: [])) [18] [(23,pB (!r5))] [] [] (an (Cw p0 p1 r5 hr5) tv) ?_))
   refine Ag hm ?_ ?_
   ·intro h6 hm
    refine Sq (RD hnt (nn 4 []) [1,2,3,23] [(7,pI 0),(8,pI 4)] [1024] [] tv ?_)
    refine DW.cv [] [] [] [(c74e4),(100000,ob0 (Af []))] (Conv.ads [(.o 1048 0,100000,6,elems Al Bf [])]) ?_
    obtain rfl := sj hm
    exact DW.ret (Ai [Af []] [100000] (.tup [.agg [ow 0 0,pI 0],pI 0,pI 4]))
   ·intro h6 hm
    refine Sk ?_
    refine Sq (Sq (RD hnt (.no :: []) [23] [(9,pI 0)] [] [] tv ?_))
    refine Bk ?_
    obtain ⟨hc1,hm⟩ := go1 hm
    refine DW.rangeO (fun (k1 : Nat) (s1 : Unit) => Aj [(1,pI p1),(2,pS p2),(3,rr 1024),(6,rr 1048),(9,pI ((k1 : Nat) : Int))] [(Acu p0),(Ack)]) Bf hm Conv.eqK ?_
    intro k1 s1 n1 hk1 hs1 he1
    refine Sq (Sq (RD hnt (nn 5 []) [] [(29,pB (decide (((k1 : Nat) : Int) < ((p0.nodes.length : Nat) : Int))))] [] [] tv ?_))
    refine Cn (decide (((k1 : Nat) : Int) < ((p0.nodes.length : Nat) : Int))) ?_ ?_
    ·intro h29
     have hlt1 : k1 < p0.nodes.length := by have := of_decide_eq_true h29; omega
     have hm := hs1 hlt1
     unfold Aay at hm
     refine Sk ?_
     refine Sq (Bk ?_)
     refine Sq (DW.regJ (sl2 := [(1,pI p1),(2,pS p2),(3,rr 1024),(6,rr 1048),(9,pI ((k1 : Nat) : Int)),(49,pB (((p0.nodes.getD k1 (default : Ah)).parent == p1) && (Dn (p0.nodes.getD k1 (default : Ah)).name p2)))]) (ob2 := [(Acu p0),(Ack)]) ?_ ?_)
     ·rcases bt ((p0.nodes.getD k1 (default : Ah)).parent == p1) with h30 | h30
      ·exact RT hnt (nn 17 (pT :: [])) [(49,pB (Dn (p0.nodes.getD k1 (default : Ah)).name p2))] (an (nn0 k1) (an (ltc hlt1) (an4 h30 (an (nn0 k1) (an (ltc hlt1) (an5 h30 tv)))))) (by kernel_rfl) (.cons rfl (.of_eq (by rw [h30]; try rfl)) .nil)
      ·exact RT hnt (nn 9 (sk 8 (pF :: []))) [(49,pB false)] (an (nn0 k1) (an (ltc hlt1) (an3 h30 (an6 h30 tv)))) (by kernel_rfl) (.cons rfl (.of_eq (by rw [h30]; try rfl)) .nil)
     ·refine Ag hm ?_ ?_
      ·intro h31 hm
       refine Sq (RD hnt (nn 4 []) [1,2,3,9,49] [(7,pI 0),(8,pI 5)] [1024] [] tv ?_)
       refine DW.cv [] [] [] [(c74e4),(100000,ob0 (Af []))] (Conv.ads [(.o 1048 0,100000,6,elems Al Bf [])]) ?_
       obtain rfl := sj hm
       exact DW.ret (Ai [Af []] [100000] (.tup [.agg [ow 0 0,pI 0],pI 0,pI 5]))
      ·intro h31 hm
       refine Sk ?_
       refine DW.done ?_
       show DW _ _ _ _ _
       refine RD hnt (nn 3 []) [49] [(9,pI (w64 (((k1 : Nat) : Int) + 1)))] [] [] tv ?_
       exact jD () ⟨hlt1,hm⟩ (Conv.tp [(9,pI (w64 (((k1 : Nat) : Int) + 1)))] [] (by kernel_rfl) (.cons rfl (.of_eq (congrArg pI (Bo hlt1 hc1))) .nil) .nil)
    ·intro h29
     have hge1 : ¬ k1 < p0.nodes.length := by have := of_decide_eq_false h29; omega
     have hm := he1 hge1
     unfold AaG at hm
     refine DW.exit ?_
     refine An ?_
     refine Ax ?_
     refine Ak ?_
     show DW _ _ _ _ _
     obtain ⟨r32,hr32,hm⟩ := bo hm
     refine Sq (Sq ?_)
     refine Jn (ι := Bool) (fun (y6 : Bool) => Aj [(1,pI p1),(2,pS p2),(3,rr 1024),(6,rr 1048),(65,pB y6)] [(Acu p0),(Ack)]) (fun y6 => (Nj p0 p1 p2) y6 = some RES) ?_ ?_
     ·intro y6 hm
      unfold Nj at hm
      refine Ag hm ?_ ?_
      ·intro h35 hm
       refine Sq (RD hnt (nn 4 []) [1,2,3,65] [(7,pI 0),(8,pI 7)] [1024] [] tv ?_)
       refine DW.cv [] [] [] [(c74e4),(100000,ob0 (Af []))] (Conv.ads [(.o 1048 0,100000,6,elems Al Bf [])]) ?_
       obtain rfl := sj hm
       exact DW.ret (Ai [Af []] [100000] (.tup [.agg [ow 0 0,pI 0],pI 0,pI 7]))
      ·intro h35 hm
       refine Sk ?_
       obtain ⟨r36,hr36,hm⟩ := bo hm
       refine Sq (RD hnt (.no :: o83 [] true r36 :: nn 2 []) [65] [(10,rr 1080)] [] [(1080,bx [ow 1544 r36.nodes.length,pI r36.next]),(1544,ob0 (Af r36.nodes))] (an (Ra p0 r36 hr36) tv) ?_)
       obtain ⟨g37,hm⟩ := go1 hm
       refine Sq (RN hnt (nn 11 []) [(3,rr 1024),(6,rr 1048),(10,rr 1080)] [(Acu p0),(Ack),(1080,bx [ow 1544 (r36.nodes ++ [(Yi p0 p1 p2)]).length,pI r36.next]),(1544,ob0 (Af (r36.nodes ++ [(Yi p0 p1 p2)])))] [] [(1080,.box [ow 1544 (r36.nodes.length + 1),pI r36.next]),(1544,.row 6 (r36.nodes.length + 1) (Dy r36.nodes.length (Um r36.nodes) (cut 6 [vi p0.next,vi p1,vs p2,vi 0,vi 0,vi 0])))] (an (by omega : (r36.nodes.length + 1) * 56 ≤ 140737488355328) tv) (by kernel_rfl) .nil (.cons rfl (.box (.cons (MLe.ownLen (enc := Al) (d := Bf) (f := (Dy r36.nodes.length (Um r36.nodes) (cut 6 [vi p0.next,vi p1,vs p2,vi 0,vi 0,vi 0]))) (RowIs.cat RowIs.elems (RowIs.lit (enc := Al) (d := Bf) (n := 1) (f := (cut 6 [vi p0.next,vi p1,vs p2,vi 0,vi 0,vi 0])) [(Yi p0 p1 p2)] rfl (fun | 0,_ => rfl | n + 1,h => absurd h (by omega))))) (.cons .rfl .nil))) (.cons rfl (BLe.typed (RowIs.cat RowIs.elems (RowIs.lit (enc := Al) (d := Bf) (n := 1) (f := (cut 6 [vi p0.next,vi p1,vs p2,vi 0,vi 0,vi 0])) [(Yi p0 p1 p2)] rfl (fun | 0,_ => rfl | n + 1,h => absurd h (by omega))))) .nil)) ?_)
       refine Sq (RD hnt (nn 5 []) [] [] [] [(1080,bx [ow 1544 (r36.nodes ++ [(Yi p0 p1 p2)]).length,pI (w64 (r36.next + 1))])] tv ?_)
       refine Sq (RD hnt (nn 6 []) [3,10] [(7,pI p0.next),(8,pI 0)] [1024,1080] [(1048,bx [ow 1544 (r36.nodes ++ [(Yi p0 p1 p2)]).length,pI (w64 (r36.next + 1))])] tv ?_)
       obtain rfl := sj hm
       exact DW.ret (Ai [Af (r36.nodes ++ [(Yi p0 p1 p2)])] [1544] (.tup [.agg [ow 0 (r36.nodes ++ [(Yi p0 p1 p2)]).length,pI (w64 (r36.next + 1))],pI p0.next,pI 0]))
     ·rcases bt (decide (r32 ≥ 8)) with h33 | h33
      ·replace hm := Bh h33 hm
       refine RD hnt (nn 2 (o81 [] true r32 :: nn 2 (sk 4 (pT :: .no :: sk 3 (pT :: []))))) [9,29] [(65,pB true)] [] [] (an (Ta p0 p1 r32 hr32) (an5 h33 (an4 tt tv))) ?_
       exact jD true hm Conv.eqK
      ·replace hm := Bg h33 hm
       rcases bt (decide (((p0.nodes.length : Nat) : Int) ≥ 64)) with h34 | h34
       ·replace hm := Bh h34 hm
        refine RD hnt (nn 2 (o81 [] true r32 :: nn 6 (pF :: .no :: sk 3 (pT :: [])))) [9,29] [(65,pB true)] [] [] (an (Ta p0 p1 r32 hr32) (an5 h33 (an4 h34 tv))) ?_
        exact jD true hm Conv.eqK
       ·replace hm := Bg h34 hm
        refine RD hnt (nn 2 (o81 [] true r32 :: nn 6 (pF :: nn 4 (pF :: [])))) [9,29] [(65,pB (decide (p0.next > 2147483647)))] [] [] (an (Ta p0 p1 r32 hr32) (an5 h33 (an4 h34 tv))) ?_
        exact jD (decide (p0.next > 2147483647)) hm Conv.eqK
 ·rcases bt (!r1) with h2 | h2
  ·replace hm := Bh h2 hm
   refine RD hnt (.no :: o75 [] true r1 :: nn 2 (sk 3 (pT :: []))) [] [(18,pB true)] [] [] (an (Fr p0 r1 hr1) (an4 h2 tv)) ?_
   exact jD true hm Conv.eqK
  ·replace hm := Bg h2 hm
   obtain ⟨r3,hr3,hm⟩ := bo hm
   refine RD hnt (.no :: o75 [] true r1 :: nn 3 (o77 [] true r3 :: .no :: pF :: [])) [] [(18,pB (!r3))] [] [] (an (Fr p0 r1 hr1) (an2 h2 (an (Zs p2 r3 hr3) (an2 h2 tv)))) ?_
   exact jD (!r3) hm Conv.eqK
abbrev o74 (ks : List Nat) (b : Bool) (RES : Ae × Int × Int) (sm : List Nat := []) : Orc := .call 108 ks b (.tup [.agg [ow 0 RES.1.nodes.length,pI RES.1.next],pI RES.2.1,pI RES.2.2]) [] [Af RES.1.nodes] sm

theorem Fg (p0 : Aw) (p1 : Int) (RES : Bool × Aw) (hm : Ft p0 p1 = some RES) : Spec Tryz.prog 57 [rr 0,pI p1] [.box (pm (Aq p0))] (pB RES.1) [.box (pm (Aq RES.2))] [] := by
 unfold Ft at hm
 refine SO Tryz.func57 rfl rfl [(0,rr 0),(1,pI p1)] [(0,bx (pm (Aq p0)))] ?_
 intro cx hnt
 refine Sq (RD hnt (.no :: []) [] [] [] [] tv ?_)
 obtain ⟨r1,hr1,hm⟩ := bo hm
 refine Sq (RK hnt (nn 2 (o72 [0] true r1 :: nn 4 [])) [(4,pB (r1.1 == (w64 (p1 - 1))))] [(0,bx (pm (Aq r1.2)))] (an (Bw p0 p1 r1 hr1) (an tv tv)) ?_)
 obtain rfl := sj hm
 exact DW.ret (Ai [.box (pm (Aq r1.2))] [] (pB (r1.1 == (w64 (p1 - 1)))))
abbrev o84 (ks : List Nat) (b : Bool) (RES : Bool × Aw) (sm : List Nat := []) : Orc := .call 57 ks b (pB RES.1) [.box (pm (Aq RES.2))] [] sm

abbrev Tw (p0 : Ae) (k1 : Nat) := (p0.nodes.getD k1 (default : Ah))
theorem Pz (p0 : Ae) (p1 : Int) (RES : List Int) (hm : Gy p0 p1 = some RES) : Spec Tryz.prog 146 [.p (.agg (Ao p0)),pI p1] [] (ow 0 RES.length) [] [roI RES] := by
 unfold Gy at hm
 refine SO Tryz.func146 rfl rfl [(0,.p (.agg (Ao p0))),(1,pI p1)] [] ?_
 intro cx hnt
 refine Sq (RK hnt (nn 2 []) [(1,pI p1),(2,rr 1016)] [(1016,bx (pm (Ao p0)))] tv ?_)
 obtain ⟨r1,hr1,hm⟩ := bo hm
 refine Sq (Sq (RD hnt (nn 2 (o79 [] true r1 :: .no :: [])) [] [(10,pB (!r1))] [] [] (an (Cw p0 p1 r1 hr1) tv) ?_))
 refine Ag hm ?_ ?_
 ·intro h2 hm
  refine Sq (RK hnt (.no :: []) [(4,.p (.sl .nil 0 0 (fun _ => [])))] [] tv ?_)
  refine DW.cv [] [(4,ow 100000 0)] [] [(100000,ob0 (roI []))] (Conv.ads [(.s 4,100000,1,elems Br 0 [])]) ?_
  obtain rfl := sj hm
  exact DW.ret (Ai [roI []] [100000] (ow 0 0))
 ·intro h2 hm
  refine Sk ?_
  refine Sq (RD hnt (.no :: []) [10] [(5,.p (.sl .nil 0 0 (fun _ => [])))] [] [] tv ?_)
  refine Sq (Sq (RD hnt (.no :: []) [] [(6,pI 0)] [] [] tv ?_))
  refine Bk ?_
  obtain ⟨hc1,hm⟩ := go1 hm
  refine DW.rangeO (fun (k1 : Nat) (s1 : List Int) => Aj [(1,pI p1),(2,rr 1016),(5,ow 1272 s1.length),(6,pI ((k1 : Nat) : Int))] [(1016,bx (pm (Ao p0))),(1272,ob0 (roI s1))]) Bf hm (Conv.ads [(.s 5,1272,1,elems Br 0 [])]) ?_
  intro k1 s1 n1 hk1 hs1 he1
  refine Sq (Sq (RD hnt (nn 5 []) [] [(15,pB (decide (((k1 : Nat) : Int) < ((p0.nodes.length : Nat) : Int))))] [] [] tv ?_))
  refine Cn (decide (((k1 : Nat) : Int) < ((p0.nodes.length : Nat) : Int))) ?_ ?_
  ·intro h12
   have hlt1 : k1 < p0.nodes.length := by have := of_decide_eq_true h12; omega
   have hm := hs1 hlt1
   unfold Sa at hm
   refine Sk ?_
   refine Sq ?_
   refine Jn (ι := List Int) (fun (y3 : List Int) => Aj [(1,pI p1),(2,rr 1016),(5,ow 1272 y3.length),(6,pI ((k1 : Nat) : Int))] [(1016,bx (pm (Ao p0))),(1272,ob0 (roI y3))]) (fun y3 => (Lp n1) y3 = some RES) ?_ ?_
   ·intro y3 hm
    unfold Lp at hm
    refine RD hnt (nn 3 []) [] [(6,pI (w64 (((k1 : Nat) : Int) + 1)))] [] [] tv ?_
    exact jD y3 ⟨hlt1,hm⟩ (Conv.tp [(6,pI (w64 (((k1 : Nat) : Int) + 1)))] [] (by kernel_rfl) (.cons rfl (.of_eq (congrArg pI (Bo hlt1 hc1))) .nil) .nil)
   ·refine Bk ?_
    refine Sq (RD hnt (nn 8 []) [15] [(25,pB ((Tw p0 k1).parent == p1))] [] [] (an (nn0 k1) (an (ltc hlt1) tv)) ?_)
    refine Ag hm ?_ ?_
    ·intro h13 hm
     obtain ⟨g14,hm⟩ := go1 hm
     refine RN hnt (nn 10 []) [(1,pI p1),(2,rr 1016),(5,ow 1272 (s1 ++ [(Tw p0 k1).id]).length),(6,pI ((k1 : Nat) : Int))] [(1016,bx (pm (Ao p0))),(1272,ob0 (roI (s1 ++ [(Tw p0 k1).id])))] [(5,ow 1272 (s1.length + 1))] [(1272,.row 1 (s1.length + 1) (Dy s1.length (elI s1) (cut 1 [vi (Tw p0 k1).id])))] (an (nn0 k1) (an (ltc hlt1) (an (by omega : (s1.length + 1) * 8 ≤ 140737488355328) tv))) (by kernel_rfl) (.cons rfl (MLe.ownLen (enc := Br) (d := 0) (f := (Dy s1.length (elI s1) (cut 1 [vi (Tw p0 k1).id]))) (RowIs.cat RowIs.elems (RowIs.lit (enc := Br) (d := 0) (n := 1) (f := (cut 1 [vi (Tw p0 k1).id])) [(Tw p0 k1).id] rfl (fun | 0,_ => rfl | n + 1,h => absurd h (by omega))))) .nil) (.cons rfl (BLe.typed (RowIs.cat RowIs.elems (RowIs.lit (enc := Br) (d := 0) (n := 1) (f := (cut 1 [vi (Tw p0 k1).id])) [(Tw p0 k1).id] rfl (fun | 0,_ => rfl | n + 1,h => absurd h (by omega))))) .nil) ?_
     exact bD (s1 ++ [(Tw p0 k1).id]) hm .refl
    ·intro h13 hm
     refine Sk ?_
     exact bD s1 hm Conv.t0
  ·intro h12
   have hge1 : ¬ k1 < p0.nodes.length := by have := of_decide_eq_false h12; omega
   have hm := he1 hge1
   unfold Xx at hm
   refine DW.exit ?_
   refine An ?_
   refine Ax ?_
   refine Ak ?_
   show DW _ _ _ _ _
   refine Sq (RK hnt (nn 2 []) [(4,ow 1272 s1.length)] [(1272,ob0 (roI s1))] tv ?_)
   obtain rfl := sj hm
   exact DW.ret (Ai [roI s1] [1272] (ow 0 s1.length))
abbrev o86 (ks : List Nat) (b : Bool) (RES : List Int) (sm : List Nat := []) : Orc := .call 146 ks b (ow 0 RES.length) [] [roI RES] sm

abbrev Fn (p0 : Ae) (k1 : Nat) := (p0.nodes.getD k1 (default : Ah))
abbrev c85e2 : Nat × Obj := (1032,bx [.p (.sl .nil 0 0 (fun _ => [])),pI 0])
abbrev c85e3 : Nat × Obj := (1032,bx [ow 100000 0,pI 0])
theorem AdC (p0 : Ae) (p1 : Int) (RES : Ae × Int) (hm : Qh p0 p1 = some RES) : Spec Tryz.prog 111 [.p (.agg (Ao p0)),pI p1] [] (.tup [.agg [ow 0 RES.1.nodes.length,pI RES.1.next],pI RES.2]) [] [Af RES.1.nodes] := by
 unfold Qh at hm
 refine SO Tryz.func111 rfl rfl [(0,.p (.agg (Ao p0))),(1,pI p1)] [] ?_
 intro cx hnt
 refine Sq (RK hnt (nn 3 []) [(1,pI p1),(2,rr 1016),(4,rr 1032)] [(1016,bx (pm (Ao p0))),(c85e2)] tv ?_)
 refine Sq (Bk ?_)
 obtain ⟨r1,hr1,hm⟩ := bo hm
 refine Sq (RD hnt (.no :: o75 [] true r1 :: nn 2 []) [] [(8,pB (!r1))] [] [] (an (Fr p0 r1 hr1) tv) ?_)
 refine Ag hm ?_ ?_
 ·intro h2 hm
  refine Sq (RD hnt (nn 3 []) [1,2,8] [(5,pI 1)] [1016] [] tv ?_)
  refine DW.cv [] [] [] [(c85e3),(100000,ob0 (Af []))] (Conv.ads [(.o 1032 0,100000,6,elems Al Bf [])]) ?_
  obtain rfl := sj hm
  exact DW.ret (Ai [Af []] [100000] (.tup [.agg [ow 0 0,pI 0],pI 1]))
 ·intro h2 hm
  obtain ⟨r3,hr3,hm⟩ := bo hm
  refine Sq (RD hnt (nn 2 (o79 [] true r3 :: nn 2 [])) [8] [(13,pB (!r3))] [] [] (an (Cw p0 p1 r3 hr3) tv) ?_)
  refine Ag hm ?_ ?_
  ·intro h4 hm
   refine Sq (RD hnt (nn 3 []) [1,2,13] [(5,pI 4)] [1016] [] tv ?_)
   refine DW.cv [] [] [] [(c85e3),(100000,ob0 (Af []))] (Conv.ads [(.o 1032 0,100000,6,elems Al Bf [])]) ?_
   obtain rfl := sj hm
   exact DW.ret (Ai [Af []] [100000] (.tup [.agg [ow 0 0,pI 0],pI 4]))
  ·intro h4 hm
   refine Sq (RD hnt (nn 3 []) [13] [(19,pB (p1 == 1))] [] [] tv ?_)
   refine Ag hm ?_ ?_
   ·intro h5 hm
    refine Sq (RD hnt (nn 3 []) [1,2,19] [(5,pI 9)] [1016] [] tv ?_)
    refine DW.cv [] [] [] [(c85e3),(100000,ob0 (Af []))] (Conv.ads [(.o 1032 0,100000,6,elems Al Bf [])]) ?_
    obtain rfl := sj hm
    exact DW.ret (Ai [Af []] [100000] (.tup [.agg [ow 0 0,pI 0],pI 9]))
   ·intro h5 hm
    obtain ⟨r6,hr6,hm⟩ := bo hm
    refine Sq (RD hnt (nn 2 (o86 [] true r6 :: nn 3 [])) [19] [(23,pB (decide (((r6.length : Nat) : Int) > 0)))] [] [] (an (Pz p0 p1 r6 hr6) tv) ?_)
    refine Ag hm ?_ ?_
    ·intro h7 hm
     refine Sq (RD hnt (nn 3 []) [1,2,23] [(5,pI 6)] [1016] [] tv ?_)
     refine DW.cv [] [] [] [(c85e3),(100000,ob0 (Af []))] (Conv.ads [(.o 1032 0,100000,6,elems Al Bf [])]) ?_
     obtain rfl := sj hm
     exact DW.ret (Ai [Af []] [100000] (.tup [.agg [ow 0 0,pI 0],pI 6]))
    ·intro h7 hm
     refine Sk ?_
     refine DW.done ?_
     show DW _ _ _ _ _
     refine Sq (RD hnt (nn 5 []) [23] [(6,rr 1048)] [] [(1048,bx [.p (.sl .nil 0 0 (fun _ => [])),pI p0.next])] tv ?_)
     refine Sq (Sq (RD hnt (.no :: []) [] [(7,pI 0)] [] [] tv ?_))
     refine Bk ?_
     obtain ⟨hc1,hm⟩ := go1 hm
     refine DW.rangeO (fun (k1 : Nat) (s1 : List Ah) => Aj [(1,pI p1),(2,rr 1016),(4,rr 1032),(6,rr 1048),(7,pI ((k1 : Nat) : Int))] [(1016,bx (pm (Ao p0))),(c85e2),(1048,bx [ow 1448 s1.length,pI p0.next]),(1448,ob0 (Af s1))]) Bf hm (Conv.ads [(.o 1048 0,1448,6,elems Al Bf [])]) ?_
     intro k1 s1 n1 hk1 hs1 he1
     refine Sq (Sq (RD hnt (nn 5 []) [] [(37,pB (decide (((k1 : Nat) : Int) < ((p0.nodes.length : Nat) : Int))))] [] [] tv ?_))
     refine Cn (decide (((k1 : Nat) : Int) < ((p0.nodes.length : Nat) : Int))) ?_ ?_
     ·intro h17
      have hlt1 : k1 < p0.nodes.length := by have := of_decide_eq_true h17; omega
      have hm := hs1 hlt1
      unfold Rb at hm
      refine Sk ?_
      refine Sq ?_
      refine Jn (ι := List Ah) (fun (y3 : List Ah) => Aj [(1,pI p1),(2,rr 1016),(4,rr 1032),(6,rr 1048),(7,pI ((k1 : Nat) : Int))] [(1016,bx (pm (Ao p0))),(c85e2),(1048,bx [ow 1448 y3.length,pI p0.next]),(1448,ob0 (Af y3))]) (fun y3 => (Nu n1) y3 = some RES) ?_ ?_
      ·intro y3 hm
       unfold Nu at hm
       refine RD hnt (nn 3 []) [] [(7,pI (w64 (((k1 : Nat) : Int) + 1)))] [] [] tv ?_
       exact jD y3 ⟨hlt1,hm⟩ (Conv.tp [(7,pI (w64 (((k1 : Nat) : Int) + 1)))] [] (by kernel_rfl) (.cons rfl (.of_eq (congrArg pI (Bo hlt1 hc1))) .nil) .nil)
      ·refine Bk ?_
       refine Sq (RD hnt (nn 8 []) [37] [(47,pB ((Fn p0 k1).id != p1))] [] [] (an (nn0 k1) (an (ltc hlt1) tv)) ?_)
       refine Ag hm ?_ ?_
       ·intro h18 hm
        obtain ⟨g19,hm⟩ := go1 hm
        refine RN hnt (nn 11 []) [(1,pI p1),(2,rr 1016),(4,rr 1032),(6,rr 1048),(7,pI ((k1 : Nat) : Int))] [(1016,bx (pm (Ao p0))),(c85e2),(1048,bx [ow 1448 (s1 ++ [(Fn p0 k1)]).length,pI p0.next]),(1448,ob0 (Af (s1 ++ [(Fn p0 k1)])))] [] [(1048,.box [ow 1448 (s1.length + 1),pI p0.next]),(1448,.row 6 (s1.length + 1) (Dy s1.length (Um s1) (cut 6 [vi (Fn p0 k1).id,vi (Fn p0 k1).parent,vs (Fn p0 k1).name,vi (Fn p0 k1).control,vi (Fn p0 k1).kind,vi (Fn p0 k1).owner])))] (an (nn0 k1) (an (ltc hlt1) (an (by omega : (s1.length + 1) * 56 ≤ 140737488355328) tv))) (by kernel_rfl) .nil (.cons rfl (.box (.cons (MLe.ownLen (enc := Al) (d := Bf) (f := (Dy s1.length (Um s1) (cut 6 [vi (Fn p0 k1).id,vi (Fn p0 k1).parent,vs (Fn p0 k1).name,vi (Fn p0 k1).control,vi (Fn p0 k1).kind,vi (Fn p0 k1).owner]))) (RowIs.cat RowIs.elems (RowIs.lit (enc := Al) (d := Bf) (n := 1) (f := (cut 6 [vi (Fn p0 k1).id,vi (Fn p0 k1).parent,vs (Fn p0 k1).name,vi (Fn p0 k1).control,vi (Fn p0 k1).kind,vi (Fn p0 k1).owner])) [(Fn p0 k1)] rfl (fun | 0,_ => rfl | n + 1,h => absurd h (by omega))))) (.cons .rfl .nil))) (.cons rfl (BLe.typed (RowIs.cat RowIs.elems (RowIs.lit (enc := Al) (d := Bf) (n := 1) (f := (cut 6 [vi (Fn p0 k1).id,vi (Fn p0 k1).parent,vs (Fn p0 k1).name,vi (Fn p0 k1).control,vi (Fn p0 k1).kind,vi (Fn p0 k1).owner])) [(Fn p0 k1)] rfl (fun | 0,_ => rfl | n + 1,h => absurd h (by omega))))) .nil)) ?_
        exact bD (s1 ++ [(Fn p0 k1)]) hm .refl
       ·intro h18 hm
        refine Sk ?_
        exact bD s1 hm Conv.t0
     ·intro h17
      have hge1 : ¬ k1 < p0.nodes.length := by have := of_decide_eq_false h17; omega
      have hm := he1 hge1
      unfold Qt at hm
      refine DW.exit ?_
      refine An ?_
      refine Ax ?_
      refine Ak ?_
      show DW _ _ _ _ _
      refine Sq (RK hnt (nn 3 []) [(4,rr 1032),(5,pI 0)] [(1032,bx [ow 1448 s1.length,pI p0.next]),(1448,ob0 (Af s1))] tv ?_)
      obtain rfl := sj hm
      exact DW.ret (Ai [Af s1] [1448] (.tup [.agg [ow 0 s1.length,pI p0.next],pI 0]))
abbrev o85 (ks : List Nat) (b : Bool) (RES : Ae × Int) (sm : List Nat := []) : Orc := .call 111 ks b (.tup [.agg [ow 0 RES.1.nodes.length,pI RES.1.next],pI RES.2]) [] [Af RES.1.nodes] sm

abbrev c71e1 : Nat × Obj := (1032,bx [.p (.sl .nil 0 0 (fun _ => [])),pI 0])
theorem AbC (p0 : Aw) (p1 : Int) (RES : Ae × Aw) (hm : Mi p0 p1 = some RES) : Spec Tryz.prog 39 [rr 0,pI p1] [.box (pm (Aq p0))] (.p (.agg (Ao RES.1))) [.box (pm (Aq RES.2))] [] := by
 unfold Mi at hm
 refine SO Tryz.func39 rfl rfl [(0,rr 0),(1,pI p1)] [(0,bx (pm (Aq p0)))] ?_
 intro cx hnt
 refine Sq (RD hnt (.no :: []) [] [(4,rr 1032)] [] [(c71e1)] tv ?_)
 obtain ⟨r1,hr1,hm⟩ := bo hm
 refine Sq (RD hnt (o70 [] true r1 :: nn 2 []) [] [(5,rr 1040)] [] [(1040,bx [ow 1104 r1.nodes.length,pI r1.next]),(1104,ob0 (Af r1.nodes))] (an (Abj r1 hr1) tv) ?_)
 obtain ⟨r2,hr2,hm⟩ := bo hm
 refine Sq (Sq (RD hnt (nn 3 (o72 [0] true r2 :: .no :: [])) [1] [(6,pI r2.1)] [] [(0,bx (pm (Aq r2.2)))] (an (Bw p0 (w64 (p1 + 1)) r2 hr2) (an tv tv)) ?_))
 refine Bk ?_
 refine DW.whileO (fun (s1 : Aw × Ae × Int) => Aj [(0,rr 0),(4,rr 1032),(5,rr 1040),(6,pI s1.2.2)] [(0,bx (pm (Aq s1.1))),(c71e1),(1040,bx (pm (Ao s1.2.1)))]) hm (Conv.frz [1104]) ?_
 intro s1 n1 hm
 unfold Ri at hm
 refine Sq (Sq (RD hnt (nn 2 []) [] [(19,pB (decide (s1.2.2 > 0)))] [] [] tv ?_))
 refine Ag hm ?_ ?_
 ·intro h18 hm
  refine Sk ?_
  refine Sq ?_
  refine Jn (ι := Aw × Ae) (fun (y3 : Aw × Ae) => Aj [(0,rr 0),(4,rr 1032),(5,rr 1040),(6,pI s1.2.2)] [(0,bx (pm (Aq y3.1))),(c71e1),(1040,bx (pm (Ao y3.2)))]) (fun y3 => (Hg s1 n1) y3 = some RES) ?_ ?_
  ·intro y3 hm
   unfold Hg at hm
   refine RD hnt (nn 3 []) [] [(6,pI (w64 (s1.2.2 - 1)))] [] [] tv ?_
   exact jD (y3.1,y3.2,(w64 (s1.2.2 - 1))) hm Conv.eqK
  ·refine Bk ?_
   obtain ⟨r19,hr19,hm⟩ := bo hm
   obtain ⟨g20,hm⟩ := go1 hm
   refine Sq (RD hnt (nn 6 (o72 [0] true r19 :: nn 4 [])) [19] [(7,pI (s1.2.1.nodes.getD (Int.toNat r19.1) Bf).id)] [] [(0,bx (pm (Aq r19.2)))] (an (Bw s1.1 ((s1.2.1.nodes.length : Nat) : Int) r19 hr19) (an tv (an g20.1 (an g20.2 tv)))) ?_)
   obtain ⟨r21,hr21,hm⟩ := bo hm
   obtain ⟨r22,hr22,hm⟩ := bo hm
   refine Sq (Sq (RD hnt (nn 3 (o73 [0] true r21 :: o74 [] true r22 :: nn 8 [])) [7] [(8,rr 1064),(10,pI r22.2.2)] [] [(0,bx (pm (Aq r21.2))),(1064,bx [ow 1296 r22.1.nodes.length,pI r22.1.next]),(1296,ob0 (Af r22.1.nodes))] (an (Abw r19.2 r21 hr21) (an tv (an (AfD s1.2.1 (s1.2.1.nodes.getD (Int.toNat r19.1) Bf).id r21.1 r22 hr22) tv))) ?_))
   refine Sq (RD hnt (nn 2 []) [10] [(42,pB (r22.2.2 == 0))] [] [] tv ?_)
   refine Jn (ι := Ae) (fun (y4 : Ae) => Aj [(0,rr 0),(4,rr 1032),(5,rr 1040),(6,pI s1.2.2)] [(0,bx (pm (Aq r21.2))),(c71e1),(1040,bx (pm (Ao y4)))]) (fun y4 => (Il s1 n1 r21) y4 = some RES) ?_ ?_
   ·intro y4 hm
    unfold Il at hm
    obtain ⟨r24,hr24,hm⟩ := bo hm
    refine Sq (RD hnt (.no :: o84 [0] true r24 :: []) [] [(45,pB r24.1)] [] [(0,bx (pm (Aq r24.2)))] (an (Fg r21.2 6 r24 hr24) (an tv tv)) ?_)
    refine Ag hm ?_ ?_
    ·intro h25 hm
     obtain ⟨r26,hr26,hm⟩ := bo hm
     obtain ⟨g27,hm⟩ := go1 hm
     obtain ⟨r28,hr28,hm⟩ := bo hm
     refine Sq (RD hnt (nn 7 (o72 [0] true r26 :: nn 3 (o85 [] true r28 :: nn 6 []))) [45] [(11,rr 1088),(12,pI r28.2)] [] [(0,bx (pm (Aq r26.2))),(1088,bx [ow 1464 r28.1.nodes.length,pI r28.1.next]),(1464,ob0 (Af r28.1.nodes))] (an (Bw r24.2 ((y4.nodes.length : Nat) : Int) r26 hr26) (an tv (an g27.1 (an g27.2 (an (AdC y4 (y4.nodes.getD (Int.toNat r26.1) Bf).id r28 hr28) tv))))) ?_)
     refine Sq (RD hnt (nn 2 []) [12] [(62,pB (r28.2 == 0))] [] [] tv ?_)
     refine Ag hm ?_ ?_
     ·intro h29 hm
      refine RD hnt (nn 2 []) [11,62] [] [1088] [(1040,bx [ow 1464 r28.1.nodes.length,pI r28.1.next])] tv ?_
      exact bD (r26.2,r28.1) hm (Conv.frz [1464])
     ·intro h29 hm
      refine Sk ?_
      exact bD (r26.2,y4) hm Conv.t0
    ·intro h25 hm
     refine Sk ?_
     exact bD (r24.2,y4) hm Conv.t0
   ·refine Ag hm ?_ ?_
    ·intro h23 hm
     refine RD hnt (nn 2 []) [8,42] [] [1064] [(1040,bx [ow 1296 r22.1.nodes.length,pI r22.1.next])] tv ?_
     exact jD r22.1 hm (Conv.frz [1296])
    ·intro h23 hm
     refine Sk ?_
     exact jD s1.2.1 hm Conv.t0
 ·intro h18 hm
  refine DW.exit ?_
  refine An ?_
  refine Ax ?_
  refine Ak ?_
  show DW _ _ _ _ _
  refine Sq (RD hnt (nn 2 []) [0,5,6,19] [] [1040] [(1032,bx (pm (Ao s1.2.1)))] tv ?_)
  obtain rfl := sj hm
  exact DW.ret (Ai [.box (pm (Aq s1.1))] [] (.p (.agg (Ao s1.2.1))))
abbrev o71 (ks : List Nat) (b : Bool) (RES : Ae × Aw) (sm : List Nat := []) : Orc := .call 39 ks b (.p (.agg (Ao RES.1))) [.box (pm (Aq RES.2))] [] sm

theorem Of (p0 : Aw) (p1 : Ae) (RES : Int × Aw) (hm : Hn p0 p1 = some RES) : Spec Tryz.prog 20 [rr 0,.p (.agg (Ao p1))] [.box (pm (Aq p0))] (pI RES.1) [.box (pm (Aq RES.2))] [] := by
 unfold Hn at hm
 refine SO Tryz.func20 rfl rfl [(0,rr 0),(1,.p (.agg (Ao p1)))] [(0,bx (pm (Aq p0)))] ?_
 intro cx hnt
 refine Sq (RD hnt (nn 2 []) [1] [(3,rr 1024)] [] [(1024,bx (pm (Ao p1)))] tv ?_)
 obtain ⟨r1,hr1,hm⟩ := bo hm
 refine Sq (Sq ?_)
 refine Jn (ι := Bool) (fun (y1 : Bool) => Aj [(0,rr 0),(3,rr 1024),(12,pB y1)] [(0,bx (pm (Aq r1.2))),(1024,bx (pm (Ao p1)))]) (fun y1 => (Hx p1 r1) y1 = some RES) ?_ ?_
 ·intro y1 hm
  unfold Hx at hm
  refine Ag hm ?_ ?_
  ·intro h3 hm
   obtain ⟨r4,hr4,hm⟩ := bo hm
   refine Sq (RK hnt (.no :: o72 [0] true r4 :: nn 2 []) [(4,pI (w64 (r4.1 - 1)))] [(0,bx (pm (Aq r4.2)))] (an (Bw r1.2 9 r4 hr4) (an tv tv)) ?_)
   obtain rfl := sj hm
   exact DW.ret (Ai [.box (pm (Aq r4.2))] [] (pI (w64 (r4.1 - 1))))
  ·intro h3 hm
   refine Sk ?_
   obtain ⟨r5,hr5,hm⟩ := bo hm
   obtain ⟨g6,hm⟩ := go1 hm
   refine Sq (RK hnt (nn 6 (o72 [0] true r5 :: nn 4 [])) [(4,pI (p1.nodes.getD (Int.toNat r5.1) Bf).id)] [(0,bx (pm (Aq r5.2)))] (an (Bw r1.2 ((p1.nodes.length : Nat) : Int) r5 hr5) (an tv (an g6.1 (an g6.2 tv)))) ?_)
   obtain rfl := sj hm
   exact DW.ret (Ai [.box (pm (Aq r5.2))] [] (pI (p1.nodes.getD (Int.toNat r5.1) Bf).id))
 ·rcases bt r1.1 with h2 | h2
  ·replace hm := Bh h2 hm
   refine RD hnt (.no :: o84 [0] true r1 :: .no :: sk 4 (pT :: [])) [] [(12,pB true)] [] [(0,bx (pm (Aq r1.2)))] (an (Fg p0 15 r1 hr1) (an tv (an5 h2 tv))) ?_
   exact jD true hm Conv.eqK
  ·replace hm := Bg h2 hm
   refine RD hnt (.no :: o84 [0] true r1 :: nn 5 (pF :: [])) [] [(12,pB (((p1.nodes.length : Nat) : Int) == 0))] [] [(0,bx (pm (Aq r1.2)))] (an (Fg p0 15 r1 hr1) (an tv (an5 h2 tv))) ?_
   exact jD (((p1.nodes.length : Nat) : Int) == 0) hm Conv.eqK
abbrev o88 (ks : List Nat) (b : Bool) (RES : Int × Aw) (sm : List Nat := []) : Orc := .call 20 ks b (pI RES.1) [.box (pm (Aq RES.2))] [] sm

theorem Vn (p0 : Aw) (RES : Int × Aw) (hm : Hi p0 = some RES) : Spec Tryz.prog 90 [rr 0] [.box (pm (Aq p0))] (pI RES.1) [.box (pm (Aq RES.2))] [] := by
 unfold Hi at hm
 refine SO Tryz.func90 rfl rfl [(0,rr 0)] [(0,bx (pm (Aq p0)))] ?_
 intro cx hnt
 refine Sq (RD hnt (.no :: []) [] [] [] [] tv ?_)
 obtain ⟨r3,hr3,hm⟩ := bo hm
 obtain ⟨g4,g5,hm⟩ := go2 hm
 refine Sq (RK hnt (.asR (ow 1024 [1,9,31,2,25,4,0,32,(-1)].length) [1,9,31,2,25,4,0,32,(-1)].length (elems Br 0 [1,9,31,2,25,4,0,32,(-1)]) :: .no :: o72 [0] true r3 :: nn 3 []) [(2,pI ([1,9,31,2,25,4,0,32,(-1)].getD (Int.toNat r3.1) 0))] [(0,bx (pm (Aq r3.2)))] (an (congrArg (MV.own 1024 0 0) (RowIs.asP (enc := Br) (d := 0) (L := [1,9,31,2,25,4,0,32,(-1)]) (RowIs.lit (enc := Br) (d := 0) (n := 9) (f := (cut 1 [vi 1,vi 9,vi 31,vi 2,vi 25,vi 4,vi 0,vi 32,vi (-1)])) [1,9,31,2,25,4,0,32,(-1)] rfl (fun | 0,_ => rfl | 1,_ => rfl | 2,_ => rfl | 3,_ => rfl | 4,_ => rfl | 5,_ => rfl | 6,_ => rfl | 7,_ => rfl | 8,_ => rfl | n + 9,h => absurd h (by omega)))).1) (an (RowIs.asP (enc := Br) (d := 0) (L := [1,9,31,2,25,4,0,32,(-1)]) (RowIs.lit (enc := Br) (d := 0) (n := 9) (f := (cut 1 [vi 1,vi 9,vi 31,vi 2,vi 25,vi 4,vi 0,vi 32,vi (-1)])) [1,9,31,2,25,4,0,32,(-1)] rfl (fun | 0,_ => rfl | 1,_ => rfl | 2,_ => rfl | 3,_ => rfl | 4,_ => rfl | 5,_ => rfl | 6,_ => rfl | 7,_ => rfl | 8,_ => rfl | n + 9,h => absurd h (by omega)))) (an (Bw p0 9 r3 hr3) (an tv (an g4.1 (an g4.2 (an g5 tv))))))) ?_)
 obtain rfl := sj hm
 exact DW.ret (Ai [.box (pm (Aq r3.2))] [] (pI ([1,9,31,2,25,4,0,32,(-1)].getD (Int.toNat r3.1) 0)))
abbrev o89 (ks : List Nat) (b : Bool) (RES : Int × Aw) (sm : List Nat := []) : Orc := .call 90 ks b (pI RES.1) [.box (pm (Aq RES.2))] [] sm

theorem Adq (p0 : List As) (p1 : Int) (RES : As × Bool) (hm : Qe p0 p1 = some RES) : Spec Tryz.prog 95 [.p (Bd p0),pI p1] [] (.p (.tup [.agg (Au RES.1),vb RES.2])) [] [] := by
 unfold Qe at hm
 refine SO Tryz.func95 rfl rfl [(0,.p (Bd p0)),(1,pI p1)] [] ?_
 intro cx hnt
 refine Sq (RD hnt (nn 2 []) [] [(4,rr 1032)] [] [(1032,bx [pI 0,pI 0,pI 0,pI 0])] tv ?_)
 refine Sq (Sq (RD hnt (.no :: []) [] [(6,pI 0)] [] [] tv ?_))
 refine Bk ?_
 obtain ⟨hc1,hm⟩ := go1 hm
 refine DW.rangeO (fun (k1 : Nat) (s1 : Unit) => Aj [(0,.p (Bd p0)),(1,pI p1),(4,rr 1032),(6,pI ((k1 : Nat) : Int))] [(1032,bx [pI 0,pI 0,pI 0,pI 0])]) Bs hm Conv.eqK ?_
 intro k1 s1 n1 hk1 hs1 he1
 refine Sq (Sq (RD hnt (nn 4 []) [] [(10,pB (decide (((k1 : Nat) : Int) < ((p0.length : Nat) : Int))))] [] [] tv ?_))
 refine Cn (decide (((k1 : Nat) : Int) < ((p0.length : Nat) : Int))) ?_ ?_
 ·intro h11
  have hlt1 : k1 < p0.length := by have := of_decide_eq_true h11; omega
  have hm := hs1 hlt1
  unfold Abb at hm
  refine Sk ?_
  refine Sq (Bk ?_)
  refine Sq (RD hnt (nn 7 []) [10] [(19,pB ((p0.getD k1 (default : As)).id == p1))] [] [] (an (nn0 k1) (an (ltc hlt1) tv)) ?_)
  refine Ag hm ?_ ?_
  ·intro h12 hm
   refine Sq (RK hnt (nn 13 []) [(4,rr 1032),(5,pB ((p0.getD k1 (default : As)).process == p1))] [(1032,bx (pm (Au (p0.getD k1 (default : As)))))] (an (nn0 k1) (an (ltc hlt1) (an (nn0 k1) (an (ltc hlt1) tv)))) ?_)
   obtain rfl := sj hm
   exact DW.ret (Ai [] [] (.p (.tup [.agg (Au (p0.getD k1 (default : As))),vb ((p0.getD k1 (default : As)).process == p1)])))
  ·intro h12 hm
   refine Sk ?_
   refine DW.done ?_
   show DW _ _ _ _ _
   refine RD hnt (nn 3 []) [19] [(6,pI (w64 (((k1 : Nat) : Int) + 1)))] [] [] tv ?_
   exact jD () ⟨hlt1,hm⟩ (Conv.tp [(6,pI (w64 (((k1 : Nat) : Int) + 1)))] [] (by kernel_rfl) (.cons rfl (.of_eq (congrArg pI (Bo hlt1 hc1))) .nil) .nil)
 ·intro h11
  have hge1 : ¬ k1 < p0.length := by have := of_decide_eq_false h11; omega
  have hm := he1 hge1
  unfold AaS at hm
  refine DW.exit ?_
  refine An ?_
  refine Ax ?_
  refine Ak ?_
  show DW _ _ _ _ _
  refine Sq (RD hnt (nn 3 []) [0,1,6,10] [(5,pB false)] [] [] tv ?_)
  obtain rfl := sj hm
  exact DW.ret (Ai [] [] (.p (.tup [.agg [vi 0,vi 0,vi 0,vi 0],vb false])))
abbrev o94 (ks : List Nat) (b : Bool) (RES : As × Bool) (sm : List Nat := []) : Orc := .call 95 ks b (.p (.tup [.agg (Au RES.1),vb RES.2])) [] [] sm

abbrev Ia (p0 : Aa) (k1 : Nat) := (p0.tasks.getD k1 (default : As))
abbrev c93e2 (p0 : Aa) : Nat × MV := (3,pI ((p0.tasks.length : Nat) : Int))
theorem Gh (p0 : Aa) (RES : Bool) (hm : Fy p0 = some RES) : Spec Tryz.prog 19 [.p (.agg (Ab p0))] [] (pB RES) [] [] := by
 unfold Fy at hm
 refine SO Tryz.func19 rfl rfl [(0,.p (.agg (Ab p0)))] [] ?_
 intro cx hnt
 refine Sq (RK hnt (nn 2 []) [(1,rr 1008)] [(1008,bx (pm (Ab p0)))] tv ?_)
 refine Sq (RD hnt (nn 4 []) [] [(c93e2 p0)] [] [] tv ?_)
 obtain ⟨r1,hr1,hm⟩ := bo hm
 refine Sq (Sq ?_)
 refine Jn (ι := Bool) (fun (y1 : Bool) => Aj [(1,rr 1008),(c93e2 p0),(44,pB y1)] [(1008,bx (pm (Ab p0)))]) (fun y1 => (Hu p0) y1 = some RES) ?_ ?_
 ·intro y1 hm
  unfold Hu at hm
  refine Ag hm ?_ ?_
  ·intro h8 hm
   refine Sq (RK hnt (.no :: []) [(2,pB false)] [] tv ?_)
   obtain rfl := sj hm
   exact DW.ret (Ai [] [] (pB false))
  ·intro h8 hm
   refine Sk ?_
   refine Sq (Sq (RD hnt (.no :: []) [44] [(4,pI 0)] [] [] tv ?_))
   refine Bk ?_
   obtain ⟨hc1,hm⟩ := go1 hm
   refine DW.rangeO (fun (k1 : Nat) (s1 : Unit) => Aj [(1,rr 1008),(c93e2 p0),(4,pI ((k1 : Nat) : Int))] [(1008,bx (pm (Ab p0)))]) Bs hm Conv.eqK ?_
   intro k1 s1 n1 hk1 hs1 he1
   refine Sq (Sq (RD hnt (nn 3 []) [] [(47,pB (decide (((k1 : Nat) : Int) < ((p0.tasks.length : Nat) : Int))))] [] [] tv ?_))
   refine Cn (decide (((k1 : Nat) : Int) < ((p0.tasks.length : Nat) : Int))) ?_ ?_
   ·intro h45
    have hlt1 : k1 < p0.tasks.length := by have := of_decide_eq_true h45; omega
    have hm := hs1 hlt1
    unfold Rz at hm
    refine Sk ?_
    refine Sq (Bk ?_)
    refine Sq (RD hnt (nn 7 []) [47] [(5,rr 1040)] [] [(1040,bx (pm (Au (Ia p0 k1))))] (an (nn0 k1) (an (ltc hlt1) tv)) ?_)
    obtain ⟨r46,hr46,hm⟩ := bo hm
    refine Sq (RD hnt (nn 4 (o94 [] true r46 :: nn 6 [])) [] [(6,rr 1048),(7,pB r46.2)] [] [(1048,bx (pm (Au r46.1)))] (an (Adq p0.tasks (Ia p0 k1).process r46 hr46) tv) ?_)
    refine Sq ?_
    refine Jn (ι := Bool) (fun (y4 : Bool) => Aj [(1,rr 1008),(c93e2 p0),(4,pI ((k1 : Nat) : Int)),(110,pB y4)] [(1008,bx (pm (Ab p0)))]) (fun y4 => (Cc n1) y4 = some RES) ?_ ?_
    ·intro y4 hm
     unfold Cc at hm
     refine Ag hm ?_ ?_
     ·intro h61 hm
      refine Sq (RK hnt (.no :: []) [(2,pB false)] [] tv ?_)
      obtain rfl := sj hm
      exact DW.ret (Ai [] [] (pB false))
     ·intro h61 hm
      refine Sk ?_
      refine DW.done ?_
      show DW _ _ _ _ _
      refine RD hnt (nn 3 []) [110] [(4,pI (w64 (((k1 : Nat) : Int) + 1)))] [] [] tv ?_
      exact jD () ⟨hlt1,hm⟩ (Conv.tp [(4,pI (w64 (((k1 : Nat) : Int) + 1)))] [] (by kernel_rfl) (.cons rfl (.of_eq (congrArg pI (Bo hlt1 hc1))) .nil) .nil)
    ·rcases bt (decide ((Ia p0 k1).id < 1)) with h47 | h47
     ·replace hm := Bh h47 hm
      refine RD hnt (nn 4 (sk 14 (pT :: .no :: sk 6 (pT :: .no :: sk 3 (pT :: .no :: sk 3 (pT :: .no :: sk 2 (pT :: .no :: sk 5 (pT :: [])))))))) [5,6,7] [(110,pB true)] [1040,1048] [] (an5 h47 (an6 tt (an6 tt (an6 tt (an6 tt tv))))) ?_
      exact jD true hm Conv.eqK
     ·replace hm := Bg h47 hm
      rcases bt (decide (((k1 : Nat) : Int) > 0)) with h48 | h48
      ·replace hm := Bh h48 hm
       obtain ⟨g49,hm⟩ := go1 hm
       rcases bt (decide ((p0.tasks.getD (Int.toNat (w64 (((k1 : Nat) : Int) - 1))) Bs).id ≥ (Ia p0 k1).id)) with h50 | h50
       ·replace hm := Bh h50 hm
        refine RD hnt (nn 17 (pT :: pF :: .no :: sk 6 (pT :: .no :: sk 3 (pT :: .no :: sk 3 (pT :: .no :: sk 2 (pT :: .no :: sk 5 (pT :: []))))))) [5,6,7] [(110,pB true)] [1040,1048] [] (an3 h47 (an5 h48 (an g49.1 (an g49.2 (an5 h48 (an h47 (an h48 (an h47 (an h50 (an6 h50 (an5 tt (an6 tt (an6 tt tv))))))))))))) ?_
        exact jD true hm Conv.eqK
       ·replace hm := Bg h50 hm
        obtain ⟨r51,hr51,hm⟩ := bo hm
        rcases bt (!r51) with h52 | h52
        ·replace hm := Bh h52 hm
         refine RD hnt (nn 17 (pT :: pF :: nn 5 (o79 [] true r51 :: .no :: pF :: .no :: sk 3 (pT :: .no :: sk 3 (pT :: .no :: sk 2 (pT :: .no :: sk 5 (pT :: []))))))) [5,6,7] [(110,pB true)] [1040,1048] [] (an3 h47 (an5 h48 (an g49.1 (an g49.2 (an5 h48 (an h47 (an h48 (an h47 (an5 h50 (an (Cw p0.tree (Ia p0 k1).group r51 hr51) (an2 h50 (an4 h52 (an tt (an6 tt (an6 tt tv))))))))))))))) ?_
         exact jD true hm Conv.eqK
        ·replace hm := Bg h52 hm
         rcases bt (decide ((Ia p0 k1).user < 0)) with h53 | h53
         ·replace hm := Bh h53 hm
          refine RD hnt (nn 17 (pT :: pF :: nn 5 (o79 [] true r51 :: .no :: pF :: nn 4 (pF :: .no :: sk 3 (pT :: .no :: sk 2 (pT :: .no :: sk 5 (pT :: []))))))) [5,6,7] [(110,pB true)] [1040,1048] [] (an3 h47 (an5 h48 (an g49.1 (an g49.2 (an5 h48 (an h47 (an h48 (an h47 (an5 h50 (an (Cw p0.tree (Ia p0 k1).group r51 hr51) (an2 h50 (an4 h52 (an4 h53 (an3 tt (an6 tt tv))))))))))))))) ?_
          exact jD true hm Conv.eqK
         ·replace hm := Bg h53 hm
          rcases bt (decide ((Ia p0 k1).user > 1048576)) with h54 | h54
          ·replace hm := Bh h54 hm
           refine RD hnt (nn 17 (pT :: pF :: nn 5 (o79 [] true r51 :: .no :: pF :: nn 4 (pF :: nn 4 (pF :: .no :: sk 2 (pT :: .no :: sk 5 (pT :: []))))))) [5,6,7] [(110,pB true)] [1040,1048] [] (an3 h47 (an5 h48 (an g49.1 (an g49.2 (an5 h48 (an h47 (an h48 (an h47 (an5 h50 (an (Cw p0.tree (Ia p0 k1).group r51 hr51) (an2 h50 (an4 h52 (an4 h53 (an3 h54 (an6 tt tv))))))))))))))) ?_
           exact jD true hm Conv.eqK
          ·replace hm := Bg h54 hm
           rcases bt (!r46.2) with h55 | h55
           ·replace hm := Bh h55 hm
            refine RD hnt (nn 17 (pT :: pF :: nn 5 (o79 [] true r51 :: .no :: pF :: nn 4 (pF :: nn 4 (pF :: nn 3 (pF :: .no :: sk 5 (pT :: []))))))) [5,6,7] [(110,pB true)] [1040,1048] [] (an3 h47 (an5 h48 (an g49.1 (an g49.2 (an5 h48 (an h47 (an h48 (an h47 (an5 h50 (an (Cw p0.tree (Ia p0 k1).group r51 hr51) (an2 h50 (an4 h52 (an4 h53 (an3 h54 (an6 h55 tv))))))))))))))) ?_
            exact jD true hm Conv.eqK
           ·replace hm := Bg h55 hm
            refine RD hnt (nn 17 (pT :: pF :: nn 5 (o79 [] true r51 :: .no :: pF :: nn 4 (pF :: nn 4 (pF :: nn 3 (pF :: nn 6 (pF :: []))))))) [5,6,7] [(110,pB (r46.1.user != (Ia p0 k1).user))] [1040,1048] [] (an3 h47 (an5 h48 (an g49.1 (an g49.2 (an5 h48 (an h47 (an h48 (an h47 (an5 h50 (an (Cw p0.tree (Ia p0 k1).group r51 hr51) (an2 h50 (an4 h52 (an4 h53 (an3 h54 (an6 h55 tv))))))))))))))) ?_
            exact jD (r46.1.user != (Ia p0 k1).user) hm Conv.eqK
      ·replace hm := Bg h48 hm
       obtain ⟨r56,hr56,hm⟩ := bo hm
       rcases bt (!r56) with h57 | h57
       ·replace hm := Bh h57 hm
        refine RD hnt (nn 7 (sk 10 (pF :: pF :: nn 5 (o79 [] true r56 :: .no :: pF :: .no :: sk 3 (pT :: .no :: sk 3 (pT :: .no :: sk 2 (pT :: .no :: sk 5 (pT :: [])))))))) [5,6,7] [(110,pB true)] [1040,1048] [] (an3 h47 (an4 h48 (an6 h48 (an h47 (an h48 (an h47 (an5 ff (an (Cw p0.tree (Ia p0 k1).group r56 hr56) (an2 ff (an4 h57 (an tt (an6 tt (an6 tt tv))))))))))))) ?_
        exact jD true hm Conv.eqK
       ·replace hm := Bg h57 hm
        rcases bt (decide ((Ia p0 k1).user < 0)) with h58 | h58
        ·replace hm := Bh h58 hm
         refine RD hnt (nn 7 (sk 10 (pF :: pF :: nn 5 (o79 [] true r56 :: .no :: pF :: nn 4 (pF :: .no :: sk 3 (pT :: .no :: sk 2 (pT :: .no :: sk 5 (pT :: [])))))))) [5,6,7] [(110,pB true)] [1040,1048] [] (an3 h47 (an4 h48 (an6 h48 (an h47 (an h48 (an h47 (an5 ff (an (Cw p0.tree (Ia p0 k1).group r56 hr56) (an2 ff (an4 h57 (an4 h58 (an3 tt (an6 tt tv))))))))))))) ?_
         exact jD true hm Conv.eqK
        ·replace hm := Bg h58 hm
         rcases bt (decide ((Ia p0 k1).user > 1048576)) with h59 | h59
         ·replace hm := Bh h59 hm
          refine RD hnt (nn 7 (sk 10 (pF :: pF :: nn 5 (o79 [] true r56 :: .no :: pF :: nn 4 (pF :: nn 4 (pF :: .no :: sk 2 (pT :: .no :: sk 5 (pT :: [])))))))) [5,6,7] [(110,pB true)] [1040,1048] [] (an3 h47 (an4 h48 (an6 h48 (an h47 (an h48 (an h47 (an5 ff (an (Cw p0.tree (Ia p0 k1).group r56 hr56) (an2 ff (an4 h57 (an4 h58 (an3 h59 (an6 tt tv))))))))))))) ?_
          exact jD true hm Conv.eqK
         ·replace hm := Bg h59 hm
          rcases bt (!r46.2) with h60 | h60
          ·replace hm := Bh h60 hm
           refine RD hnt (nn 7 (sk 10 (pF :: pF :: nn 5 (o79 [] true r56 :: .no :: pF :: nn 4 (pF :: nn 4 (pF :: nn 3 (pF :: .no :: sk 5 (pT :: [])))))))) [5,6,7] [(110,pB true)] [1040,1048] [] (an3 h47 (an4 h48 (an6 h48 (an h47 (an h48 (an h47 (an5 ff (an (Cw p0.tree (Ia p0 k1).group r56 hr56) (an2 ff (an4 h57 (an4 h58 (an3 h59 (an6 h60 tv))))))))))))) ?_
           exact jD true hm Conv.eqK
          ·replace hm := Bg h60 hm
           refine RD hnt (nn 7 (sk 10 (pF :: pF :: nn 5 (o79 [] true r56 :: .no :: pF :: nn 4 (pF :: nn 4 (pF :: nn 3 (pF :: nn 6 (pF :: [])))))))) [5,6,7] [(110,pB (r46.1.user != (Ia p0 k1).user))] [1040,1048] [] (an3 h47 (an4 h48 (an6 h48 (an h47 (an h48 (an h47 (an5 ff (an (Cw p0.tree (Ia p0 k1).group r56 hr56) (an2 ff (an4 h57 (an4 h58 (an3 h59 (an6 h60 tv))))))))))))) ?_
           exact jD (r46.1.user != (Ia p0 k1).user) hm Conv.eqK
   ·intro h45
    have hge1 : ¬ k1 < p0.tasks.length := by have := of_decide_eq_false h45; omega
    have hm := he1 hge1
    unfold Wh at hm
    refine DW.exit ?_
    refine An ?_
    refine Ax ?_
    refine Ak ?_
    show DW _ _ _ _ _
    refine Sq (RK hnt (.no :: []) [(2,pB true)] [] tv ?_)
    obtain rfl := sj hm
    exact DW.ret (Ai [] [] (pB true))
 ·rcases bt (!r1) with h2 | h2
  ·replace hm := Bh h2 hm
   refine RD hnt (nn 2 (o75 [] true r1 :: nn 2 (sk 2 (pT :: .no :: sk 3 (pT :: .no :: sk 3 (pT :: .no :: sk 14 (pT :: []))))))) [] [(44,pB true)] [] [] (an (Fr p0.tree r1 hr1) (an3 h2 (an tt (an6 tt (an6 tt tv))))) ?_
   exact jD true hm Conv.eqK
  ·replace hm := Bg h2 hm
   rcases bt (decide (((p0.tasks.length : Nat) : Int) > 128)) with h3 | h3
   ·replace hm := Bh h3 hm
    refine RD hnt (nn 2 (o75 [] true r1 :: nn 4 (pF :: .no :: sk 3 (pT :: .no :: sk 3 (pT :: .no :: sk 14 (pT :: [])))))) [] [(44,pB true)] [] [] (an (Fr p0.tree r1 hr1) (an3 h2 (an4 h3 (an3 tt (an6 tt tv))))) ?_
    exact jD true hm Conv.eqK
   ·replace hm := Bg h3 hm
    rcases bt (decide (p0.next < 1)) with h4 | h4
    ·replace hm := Bh h4 hm
     refine RD hnt (nn 2 (o75 [] true r1 :: nn 4 (pF :: nn 4 (pF :: .no :: sk 3 (pT :: .no :: sk 14 (pT :: [])))))) [] [(44,pB true)] [] [] (an (Fr p0.tree r1 hr1) (an3 h2 (an4 h3 (an4 h4 (an5 tt tv))))) ?_
     exact jD true hm Conv.eqK
    ·replace hm := Bg h4 hm
     rcases bt (decide (p0.next > 2147483648)) with h5 | h5
     ·replace hm := Bh h5 hm
      refine RD hnt (nn 2 (o75 [] true r1 :: nn 4 (pF :: nn 4 (pF :: nn 4 (pF :: .no :: sk 14 (pT :: [])))))) [] [(44,pB true)] [] [] (an (Fr p0.tree r1 hr1) (an3 h2 (an4 h3 (an4 h4 (an5 h5 tv))))) ?_
      exact jD true hm Conv.eqK
     ·replace hm := Bg h5 hm
      rcases bt (decide (((p0.tasks.length : Nat) : Int) > 0)) with h6 | h6
      ·replace hm := Bh h6 hm
       obtain ⟨g7,hm⟩ := go1 hm
       refine RD hnt (nn 2 (o75 [] true r1 :: nn 4 (pF :: nn 4 (pF :: nn 4 (pF :: nn 14 (pT :: pF :: [])))))) [] [(44,pB (decide (p0.next ≤ (p0.tasks.getD (Int.toNat (w64 (((p0.tasks.length : Nat) : Int) - 1))) Bs).id)))] [] [] (an (Fr p0.tree r1 hr1) (an3 h2 (an4 h3 (an4 h4 (an3 h5 (an h6 (an6 h6 (an g7.1 (an g7.2 (an3 h6 (an h5 (an h6 (an h5 tv))))))))))))) ?_
       exact jD (decide (p0.next ≤ (p0.tasks.getD (Int.toNat (w64 (((p0.tasks.length : Nat) : Int) - 1))) Bs).id)) hm Conv.eqK
      ·replace hm := Bg h6 hm
       refine RD hnt (nn 2 (o75 [] true r1 :: nn 4 (pF :: nn 4 (pF :: nn 4 (pF :: nn 4 (sk 10 (pF :: pF :: []))))))) [] [(44,pB false)] [] [] (an (Fr p0.tree r1 hr1) (an3 h2 (an4 h3 (an4 h4 (an3 h5 (an4 h6 (an6 h6 (an h5 (an h6 (an h5 tv)))))))))) ?_
       exact jD false hm Conv.eqK
abbrev o93 (ks : List Nat) (b : Bool) (RES : Bool) (sm : List Nat := []) : Orc := .call 19 ks b (pB RES) [] [] sm

theorem AdJ (p0 : Ae) (p1 : Int) (RES : Int) (hm : Qg p0 p1 = some RES) : Spec Tryz.prog 250 [.p (.agg (Ao p0)),pI p1] [] (pI RES) [] [] := by
 unfold Qg at hm
 refine SO Tryz.func250 rfl rfl [(0,.p (.agg (Ao p0))),(1,pI p1)] [] ?_
 intro cx hnt
 refine Sq (RK hnt (nn 2 []) [(1,pI p1),(2,rr 1016)] [(1016,bx (pm (Ao p0)))] tv ?_)
 obtain ⟨r1,hr1,hm⟩ := bo hm
 refine Sq (RD hnt (nn 2 (o80 [] true r1 :: nn 6 [])) [] [(5,rr 1040),(6,pB r1.2)] [] [(1040,bx (pm (Al r1.1)))] (an (Db p0 p1 r1 hr1) tv) ?_)
 refine Sq (Sq (DW.regJ (sl2 := [(2,rr 1016),(5,rr 1040),(20,pB ((!r1.2) || (p1 == 1)))]) (ob2 := [(1016,bx (pm (Ao p0))),(1040,bx (pm (Al r1.1)))]) ?_ ?_))
 ·rcases bt (!r1.2) with h2 | h2
  ·exact RT hnt (nn 3 (sk 2 (pT :: []))) [(20,pB true)] (an3 h2 tv) (by kernel_rfl) (.cons rfl (.of_eq (by rw [h2]; try rfl)) .nil)
  ·exact RT hnt (nn 5 (pF :: [])) [(20,pB (p1 == 1))] (an3 h2 tv) (by kernel_rfl) (.cons rfl (.of_eq (by rw [h2]; try rfl)) .nil)
 ·refine Ag hm ?_ ?_
  ·intro h3 hm
   refine Sq (RK hnt (.no :: []) [(4,pI 0)] [] tv ?_)
   obtain rfl := sj hm
   exact DW.ret (Ai [] [] (pI 0))
  ·intro h3 hm
   refine Sk ?_
   obtain ⟨r4,hr4,hm⟩ := bo hm
   refine Sq (RD hnt (nn 3 (o80 [] true r4 :: nn 6 [])) [2,20] [(7,rr 1056)] [1016] [(1056,bx (pm (Al r4.1)))] (an (Db p0 r1.1.parent r4 hr4) tv) ?_)
   refine Sq (Sq (RD hnt (nn 3 []) [5] [(30,pB (r1.1.kind == 1))] [1040] [] tv ?_))
   refine Ag hm ?_ ?_
   ·intro h5 hm
    refine Sq (RK hnt (nn 4 []) [(4,pI (Ea .i64 r4.1.control 6))] [] tv ?_)
    obtain rfl := sj hm
    exact DW.ret (Ai [] [] (pI (Ea .i64 r4.1.control 6)))
   ·intro h5 hm
    refine Sk ?_
    refine Sq (RK hnt (nn 3 []) [(4,pI r4.1.control)] [] tv ?_)
    obtain rfl := sj hm
    exact DW.ret (Ai [] [] (pI r4.1.control))
abbrev o96 (ks : List Nat) (b : Bool) (RES : Int) (sm : List Nat := []) : Orc := .call 250 ks b (pI RES) [] [] sm

theorem Jd (p0 : Ae) (p1 : Int) (RES : Int) (hm : Ki p0 p1 = some RES) : Spec Tryz.prog 235 [.p (.agg (Ao p0)),pI p1] [] (pI RES) [] [] := by
 unfold Ki at hm
 refine SO Tryz.func235 rfl rfl [(0,.p (.agg (Ao p0))),(1,pI p1)] [] ?_
 intro cx hnt
 refine Sq (RK hnt (nn 2 []) [(1,pI p1),(2,rr 1016)] [(1016,bx (pm (Ao p0)))] tv ?_)
 obtain ⟨r1,hr1,hm⟩ := bo hm
 refine Sq (RD hnt (nn 2 (o80 [] true r1 :: nn 6 [])) [] [(5,rr 1040),(6,pB r1.2)] [] [(1040,bx (pm (Al r1.1)))] (an (Db p0 p1 r1 hr1) tv) ?_)
 refine Sq (Sq (RD hnt (nn 2 []) [6] [(15,pB (!r1.2))] [] [] tv ?_))
 refine Ag hm ?_ ?_
 ·intro h2 hm
  refine Sq (RK hnt (.no :: []) [(4,pI 0)] [] tv ?_)
  obtain rfl := sj hm
  exact DW.ret (Ai [] [] (pI 0))
 ·intro h2 hm
  refine Sk ?_
  refine Sq (RD hnt (.no :: []) [15] [(7,pI 31)] [] [] tv ?_)
  refine Sq (Sq (RD hnt (nn 2 []) [] [(17,pB (p1 != 1))] [] [] tv ?_))
  refine Jn (ι := Int) (fun (y1 : Int) => Aj [(5,rr 1040),(7,pI y1)] [(1040,bx (pm (Al r1.1)))]) (fun y1 => (Ir r1) y1 = some RES) ?_ ?_
  ·intro y1 hm
   unfold Ir at hm
   refine Sq (Sq (RK hnt (nn 3 []) [(7,pI y1),(23,pB (r1.1.kind == 1))] [] tv ?_))
   refine Jn (ι := Int) (fun (y2 : Int) => Aj [(7,pI y2)] []) (fun y2 => Kz y2 = some RES) ?_ ?_
   ·intro y2 hm
    unfold Kz at hm
    refine Sq (RK hnt (nn 2 []) [(4,pI y2)] [] tv ?_)
    obtain rfl := sj hm
    exact DW.ret (Ai [] [] (pI y2))
   ·refine Ag hm ?_ ?_
    ·intro h5 hm
     refine RK hnt (nn 3 []) [(7,pI (Ea .i64 y1 6))] [] tv ?_
     exact jD (Ea .i64 y1 6) hm .refl
    ·intro h5 hm
     refine Sk ?_
     exact jD y1 hm Conv.t0
  ·refine Ag hm ?_ ?_
   ·intro h3 hm
    obtain ⟨r4,hr4,hm⟩ := bo hm
    refine RD hnt (nn 2 (o96 [] true r4 :: .no :: [])) [1,2,17] [(7,pI r4)] [1016] [] (an (AdJ p0 p1 r4 hr4) tv) ?_
    exact jD r4 hm Conv.eqK
   ·intro h3 hm
    refine Sk ?_
    exact jD 31 hm Conv.t0
abbrev o95 (ks : List Nat) (b : Bool) (RES : Int) (sm : List Nat := []) : Orc := .call 235 ks b (pI RES) [] [] sm
end Go.Dm


/- Go functions compute their models, printed by a program. -/
namespace Go.Dm
open Go.Proofs
set_option linter.unusedVariables false
abbrev Tn (p0 : Aa) (k1 : Nat) := (p0.tasks.getD k1 (default : As))
theorem My (p0 : Aa) (p1 : Int) (RES : List Int) (hm : Hm p0 p1 = some RES) : Spec Tryz.prog 26 [.p (.agg (Ab p0)),pI p1] [] (ow 0 RES.length) [] [roI RES] := by
 unfold Hm at hm
 refine SO Tryz.func26 rfl rfl [(0,.p (.agg (Ab p0))),(1,pI p1)] [] ?_
 intro cx hnt
 refine Sq (RK hnt (nn 2 []) [(1,pI p1),(2,rr 1016)] [(1016,bx (pm (Ab p0)))] tv ?_)
 obtain ⟨r1,hr1,hm⟩ := bo hm
 refine Sq (Sq (RD hnt (.no :: o93 [] true r1 :: .no :: []) [] [(9,pB (!r1))] [] [] (an (Gh p0 r1 hr1) tv) ?_))
 refine Ag hm ?_ ?_
 ·intro h2 hm
  refine Sq (RK hnt (.no :: []) [(4,.p (.sl .nil 0 0 (fun _ => [])))] [] tv ?_)
  refine DW.cv [] [(4,ow 100000 0)] [] [(100000,ob0 (roI []))] (Conv.ads [(.s 4,100000,1,elems Br 0 [])]) ?_
  obtain rfl := sj hm
  exact DW.ret (Ai [roI []] [100000] (ow 0 0))
 ·intro h2 hm
  refine Sk ?_
  refine Sq (RD hnt (.no :: []) [9] [(5,.p (.sl .nil 0 0 (fun _ => [])))] [] [] tv ?_)
  refine Sq (Sq (RD hnt (.no :: []) [] [(6,pI 0)] [] [] tv ?_))
  refine Bk ?_
  obtain ⟨hc1,hm⟩ := go1 hm
  refine DW.rangeO (fun (k1 : Nat) (s1 : List Int) => Aj [(1,pI p1),(2,rr 1016),(5,ow 1264 s1.length),(6,pI ((k1 : Nat) : Int))] [(1016,bx (pm (Ab p0))),(1264,ob0 (roI s1))]) Bs hm (Conv.ads [(.s 5,1264,1,elems Br 0 [])]) ?_
  intro k1 s1 n1 hk1 hs1 he1
  refine Sq (Sq (RD hnt (nn 5 []) [] [(14,pB (decide (((k1 : Nat) : Int) < ((p0.tasks.length : Nat) : Int))))] [] [] tv ?_))
  refine Cn (decide (((k1 : Nat) : Int) < ((p0.tasks.length : Nat) : Int))) ?_ ?_
  ·intro h12
   have hlt1 : k1 < p0.tasks.length := by have := of_decide_eq_true h12; omega
   have hm := hs1 hlt1
   unfold Wj at hm
   refine Sk ?_
   refine Sq ?_
   refine Jn (ι := List Int) (fun (y3 : List Int) => Aj [(1,pI p1),(2,rr 1016),(5,ow 1264 y3.length),(6,pI ((k1 : Nat) : Int))] [(1016,bx (pm (Ab p0))),(1264,ob0 (roI y3))]) (fun y3 => (Pa n1) y3 = some RES) ?_ ?_
   ·intro y3 hm
    unfold Pa at hm
    refine RD hnt (nn 3 []) [] [(6,pI (w64 (((k1 : Nat) : Int) + 1)))] [] [] tv ?_
    exact jD y3 ⟨hlt1,hm⟩ (Conv.tp [(6,pI (w64 (((k1 : Nat) : Int) + 1)))] [] (by kernel_rfl) (.cons rfl (.of_eq (congrArg pI (Bo hlt1 hc1))) .nil) .nil)
   ·refine Bk ?_
    refine Sq (RD hnt (nn 8 []) [14] [(24,pB ((Tn p0 k1).group == p1))] [] [] (an (nn0 k1) (an (ltc hlt1) tv)) ?_)
    refine Ag hm ?_ ?_
    ·intro h13 hm
     obtain ⟨g14,hm⟩ := go1 hm
     refine RN hnt (nn 10 []) [(1,pI p1),(2,rr 1016),(5,ow 1264 (s1 ++ [(Tn p0 k1).id]).length),(6,pI ((k1 : Nat) : Int))] [(1016,bx (pm (Ab p0))),(1264,ob0 (roI (s1 ++ [(Tn p0 k1).id])))] [(5,ow 1264 (s1.length + 1))] [(1264,.row 1 (s1.length + 1) (Dy s1.length (elI s1) (cut 1 [vi (Tn p0 k1).id])))] (an (nn0 k1) (an (ltc hlt1) (an (by omega : (s1.length + 1) * 8 ≤ 140737488355328) tv))) (by kernel_rfl) (.cons rfl (MLe.ownLen (enc := Br) (d := 0) (f := (Dy s1.length (elI s1) (cut 1 [vi (Tn p0 k1).id]))) (RowIs.cat RowIs.elems (RowIs.lit (enc := Br) (d := 0) (n := 1) (f := (cut 1 [vi (Tn p0 k1).id])) [(Tn p0 k1).id] rfl (fun | 0,_ => rfl | n + 1,h => absurd h (by omega))))) .nil) (.cons rfl (BLe.typed (RowIs.cat RowIs.elems (RowIs.lit (enc := Br) (d := 0) (n := 1) (f := (cut 1 [vi (Tn p0 k1).id])) [(Tn p0 k1).id] rfl (fun | 0,_ => rfl | n + 1,h => absurd h (by omega))))) .nil) ?_
     exact bD (s1 ++ [(Tn p0 k1).id]) hm .refl
    ·intro h13 hm
     refine Sk ?_
     exact bD s1 hm Conv.t0
  ·intro h12
   have hge1 : ¬ k1 < p0.tasks.length := by have := of_decide_eq_false h12; omega
   have hm := he1 hge1
   unfold AbX at hm
   refine DW.exit ?_
   refine An ?_
   refine Ax ?_
   refine Ak ?_
   show DW _ _ _ _ _
   refine Sq (RK hnt (nn 2 []) [(4,ow 1264 s1.length)] [(1264,ob0 (roI s1))] tv ?_)
   obtain rfl := sj hm
   exact DW.ret (Ai [roI s1] [1264] (ow 0 s1.length))
abbrev o97 (ks : List Nat) (b : Bool) (RES : List Int) (sm : List Nat := []) : Orc := .call 26 ks b (ow 0 RES.length) [] [roI RES] sm

abbrev Vu (p0 : Aa) (k1 : Nat) := (p0.tree.nodes.getD k1 (default : Ah))
theorem Mo (p0 : Aa) (RES : Bool) (hm : Ps p0 = some RES) : Spec Tryz.prog 209 [.p (.agg (Ab p0))] [] (pB RES) [] [] := by
 unfold Ps at hm
 refine SO Tryz.func209 rfl rfl [(0,.p (.agg (Ab p0)))] [] ?_
 intro cx hnt
 refine Sq (RK hnt (nn 2 []) [(1,rr 1008)] [(1008,bx (pm (Ab p0)))] tv ?_)
 obtain ⟨r1,hr1,hm⟩ := bo hm
 refine Sq (Sq (RD hnt (.no :: o93 [] true r1 :: .no :: []) [] [(7,pB (!r1))] [] [] (an (Gh p0 r1 hr1) tv) ?_))
 refine Ag hm ?_ ?_
 ·intro h2 hm
  refine Sq (RK hnt (.no :: []) [(2,pB false)] [] tv ?_)
  obtain rfl := sj hm
  exact DW.ret (Ai [] [] (pB false))
 ·intro h2 hm
  refine Sk ?_
  refine Sq (Sq (RD hnt (.no :: []) [7] [(3,pI 0)] [] [] tv ?_))
  refine Bk ?_
  obtain ⟨hc1,hm⟩ := go1 hm
  refine DW.rangeO (fun (k1 : Nat) (s1 : Unit) => Aj [(1,rr 1008),(3,pI ((k1 : Nat) : Int))] [(1008,bx (pm (Ab p0)))]) Bf hm Conv.eqK ?_
  intro k1 s1 n1 hk1 hs1 he1
  refine Sq (Sq (RD hnt (nn 6 []) [] [(13,pB (decide (((k1 : Nat) : Int) < ((p0.tree.nodes.length : Nat) : Int))))] [] [] tv ?_))
  refine Cn (decide (((k1 : Nat) : Int) < ((p0.tree.nodes.length : Nat) : Int))) ?_ ?_
  ·intro h19
   have hlt1 : k1 < p0.tree.nodes.length := by have := of_decide_eq_true h19; omega
   have hm := hs1 hlt1
   unfold Wy at hm
   refine Sk ?_
   refine Sq (Bk ?_)
   refine Sq (RD hnt (nn 8 []) [13] [(4,rr 1032)] [] [(1032,bx (pm (Al (Vu p0 k1))))] (an (nn0 k1) (an (ltc hlt1) tv)) ?_)
   obtain ⟨r20,hr20,hm⟩ := bo hm
   refine Sq ?_
   refine Jn (ι := Bool) (fun (y3 : Bool) => Aj [(1,rr 1008),(3,pI ((k1 : Nat) : Int)),(49,pB y3)] [(1008,bx (pm (Ab p0)))]) (fun y3 => (Ja n1) y3 = some RES) ?_ ?_
   ·intro y3 hm
    unfold Ja at hm
    refine Ag hm ?_ ?_
    ·intro h25 hm
     refine Sq (RK hnt (.no :: []) [(2,pB false)] [] tv ?_)
     obtain rfl := sj hm
     exact DW.ret (Ai [] [] (pB false))
    ·intro h25 hm
     refine Sk ?_
     refine DW.done ?_
     show DW _ _ _ _ _
     refine RD hnt (nn 3 []) [49] [(3,pI (w64 (((k1 : Nat) : Int) + 1)))] [] [] tv ?_
     exact jD () ⟨hlt1,hm⟩ (Conv.tp [(3,pI (w64 (((k1 : Nat) : Int) + 1)))] [] (by kernel_rfl) (.cons rfl (.of_eq (congrArg pI (Bo hlt1 hc1))) .nil) .nil)
   ·rcases bt ((Ea .i64 (Vu p0 k1).control r20) != 0) with h21 | h21
    ·replace hm := Bh h21 hm
     refine RD hnt (nn 6 (o95 [] true r20 :: nn 3 (sk 17 (pT :: [])))) [4] [(49,pB true)] [1032] [] (an (Jd p0.tree (Vu p0 k1).id r20 hr20) (an2 h21 (an6 h21 tv))) ?_
     exact jD true hm Conv.eqK
    ·replace hm := Bg h21 hm
     rcases bt ((Vu p0 k1).id != 1) with h22 | h22
     ·replace hm := Bh h22 hm
      rcases bt ((kand .i64 (Vu p0 k1).control 6) != 0) with h23 | h23
      ·replace hm := Bh h23 hm
       obtain ⟨r24,hr24,hm⟩ := bo hm
       refine RD hnt (nn 6 (o95 [] true r20 :: nn 11 (pT :: nn 4 (o97 [] true r24 :: nn 2 (pT :: pF :: []))))) [4] [(49,pB (decide (((r24.length : Nat) : Int) > 0)))] [1032] [] (an (Jd p0.tree (Vu p0 k1).id r20 hr20) (an4 h21 (an4 h22 (an h21 (an h22 (an h21 (an4 h23 (an (My p0 (Vu p0 k1).id r24 hr24) (an2 h23 (an h21 (an h23 (an h21 tv)))))))))))) ?_
       exact jD (decide (((r24.length : Nat) : Int) > 0)) hm Conv.eqK
      ·replace hm := Bg h23 hm
       refine RD hnt (nn 6 (o95 [] true r20 :: nn 11 (pT :: .no :: sk 6 (pF :: pF :: [])))) [4] [(49,pB false)] [1032] [] (an (Jd p0.tree (Vu p0 k1).id r20 hr20) (an4 h21 (an4 h22 (an h21 (an h22 (an h21 (an6 h23 (an h21 (an h23 (an h21 tv)))))))))) ?_
       exact jD false hm Conv.eqK
     ·replace hm := Bg h22 hm
      refine RD hnt (nn 6 (o95 [] true r20 :: nn 7 (sk 4 (pF :: .no :: sk 6 (pF :: pF :: []))))) [4] [(49,pB false)] [1032] [] (an (Jd p0.tree (Vu p0 k1).id r20 hr20) (an4 h21 (an4 h22 (an h21 (an h22 (an h21 (an6 ff (an h21 (an ff (an h21 tv)))))))))) ?_
      exact jD false hm Conv.eqK
  ·intro h19
   have hge1 : ¬ k1 < p0.tree.nodes.length := by have := of_decide_eq_false h19; omega
   have hm := he1 hge1
   unfold Abv at hm
   refine DW.exit ?_
   refine An ?_
   refine Ax ?_
   refine Ak ?_
   show DW _ _ _ _ _
   refine Sq (RK hnt (.no :: []) [(2,pB true)] [] tv ?_)
   obtain rfl := sj hm
   exact DW.ret (Ai [] [] (pB true))
abbrev o92 (ks : List Nat) (b : Bool) (RES : Bool) (sm : List Nat := []) : Orc := .call 209 ks b (pB RES) [] [] sm

theorem Nq (p0 : Aa) (p1 : Int) (RES : As × Bool) (hm : Gq p0 p1 = some RES) : Spec Tryz.prog 23 [.p (.agg (Ab p0)),pI p1] [] (.p (.tup [.agg (Au RES.1),vb RES.2])) [] [] := by
 unfold Gq at hm
 refine SO Tryz.func23 rfl rfl [(0,.p (.agg (Ab p0))),(1,pI p1)] [] ?_
 intro cx hnt
 refine Sq (RK hnt (nn 3 []) [(1,pI p1),(2,rr 1016),(4,rr 1032)] [(1016,bx (pm (Ab p0))),(1032,bx [pI 0,pI 0,pI 0,pI 0])] tv ?_)
 obtain ⟨r1,hr1,hm⟩ := bo hm
 refine Sq (Sq (RD hnt (.no :: o93 [] true r1 :: .no :: []) [] [(9,pB (!r1))] [] [] (an (Gh p0 r1 hr1) tv) ?_))
 refine Ag hm ?_ ?_
 ·intro h2 hm
  refine Sq (RD hnt (nn 3 []) [1,2,9] [(5,pB false)] [1016] [] tv ?_)
  obtain rfl := sj hm
  exact DW.ret (Ai [] [] (.p (.tup [.agg [vi 0,vi 0,vi 0,vi 0],vb false])))
 ·intro h2 hm
  refine Sk ?_
  refine Sq (Sq (RD hnt (.no :: []) [9] [(6,pI 0)] [] [] tv ?_))
  refine Bk ?_
  obtain ⟨hc1,hm⟩ := go1 hm
  refine DW.rangeO (fun (k1 : Nat) (s1 : Unit) => Aj [(1,pI p1),(2,rr 1016),(4,rr 1032),(6,pI ((k1 : Nat) : Int))] [(1016,bx (pm (Ab p0))),(1032,bx [pI 0,pI 0,pI 0,pI 0])]) Bs hm Conv.eqK ?_
  intro k1 s1 n1 hk1 hs1 he1
  refine Sq (Sq (RD hnt (nn 5 []) [] [(15,pB (decide (((k1 : Nat) : Int) < ((p0.tasks.length : Nat) : Int))))] [] [] tv ?_))
  refine Cn (decide (((k1 : Nat) : Int) < ((p0.tasks.length : Nat) : Int))) ?_ ?_
  ·intro h11
   have hlt1 : k1 < p0.tasks.length := by have := of_decide_eq_true h11; omega
   have hm := hs1 hlt1
   unfold AcI at hm
   refine Sk ?_
   refine Sq (Bk ?_)
   refine Sq (RD hnt (nn 8 []) [15] [(25,pB ((p0.tasks.getD k1 (default : As)).id == p1))] [] [] (an (nn0 k1) (an (ltc hlt1) tv)) ?_)
   refine Ag hm ?_ ?_
   ·intro h12 hm
    refine Sq (RK hnt (nn 7 []) [(4,rr 1032),(5,pB true)] [(1032,bx (pm (Au (p0.tasks.getD k1 (default : As)))))] (an (nn0 k1) (an (ltc hlt1) tv)) ?_)
    obtain rfl := sj hm
    exact DW.ret (Ai [] [] (.p (.tup [.agg (Au (p0.tasks.getD k1 (default : As))),vb true])))
   ·intro h12 hm
    refine Sk ?_
    refine DW.done ?_
    show DW _ _ _ _ _
    refine RD hnt (nn 3 []) [25] [(6,pI (w64 (((k1 : Nat) : Int) + 1)))] [] [] tv ?_
    exact jD () ⟨hlt1,hm⟩ (Conv.tp [(6,pI (w64 (((k1 : Nat) : Int) + 1)))] [] (by kernel_rfl) (.cons rfl (.of_eq (congrArg pI (Bo hlt1 hc1))) .nil) .nil)
  ·intro h11
   have hge1 : ¬ k1 < p0.tasks.length := by have := of_decide_eq_false h11; omega
   have hm := he1 hge1
   unfold AcM at hm
   refine DW.exit ?_
   refine An ?_
   refine Ax ?_
   refine Ak ?_
   show DW _ _ _ _ _
   refine Sq (RD hnt (nn 3 []) [1,2,6,15] [(5,pB false)] [1016] [] tv ?_)
   obtain rfl := sj hm
   exact DW.ret (Ai [] [] (.p (.tup [.agg [vi 0,vi 0,vi 0,vi 0],vb false])))
abbrev o98 (ks : List Nat) (b : Bool) (RES : As × Bool) (sm : List Nat := []) : Orc := .call 23 ks b (.p (.tup [.agg (Au RES.1),vb RES.2])) [] [] sm

theorem Om (p0 : Ae) (p1 : Int) (RES : Int × Bool) (hm : Jy p0 p1 = some RES) : Spec Tryz.prog 165 [.p (.agg (Ao p0)),pI p1] [] (.p (.tup [vi RES.1,vb RES.2])) [] [] := by
 unfold Jy at hm
 refine SO Tryz.func165 rfl rfl [(0,.p (.agg (Ao p0))),(1,pI p1)] [] ?_
 intro cx hnt
 refine Sq (RK hnt (nn 3 []) [(1,pI p1),(2,rr 1016)] [(1016,bx (pm (Ao p0)))] tv ?_)
 obtain ⟨r1,hr1,hm⟩ := bo hm
 refine Sq (RD hnt (nn 2 (o82 [] true r1 :: .no :: [])) [1] [(6,ow 1096 r1.length)] [] [(1096,ob0 (roI r1))] (an (Ou p0 p1 r1 hr1) tv) ?_)
 refine Sq (Sq (RD hnt (.no :: []) [] [(7,pI 0)] [] [] tv ?_))
 refine Bk ?_
 obtain ⟨hc1,hm⟩ := go1 hm
 refine DW.rangeO (fun (k1 : Nat) (s1 : Unit) => Aj [(2,rr 1016),(6,ow 1096 r1.length),(7,pI ((k1 : Nat) : Int))] [(1016,bx (pm (Ao p0))),(1096,ob0 (roI r1))]) 0 hm Conv.eqK ?_
 intro k1 s1 n1 hk1 hs1 he1
 refine Sq (Sq (RD hnt (nn 4 []) [] [(16,pB (decide (((k1 : Nat) : Int) < ((r1.length : Nat) : Int))))] [] [] tv ?_))
 refine Cn (decide (((k1 : Nat) : Int) < ((r1.length : Nat) : Int))) ?_ ?_
 ·intro h16
  have hlt1 : k1 < r1.length := by have := of_decide_eq_true h16; omega
  have hm := hs1 hlt1
  unfold Uw at hm
  refine Sk ?_
  refine Sq (Bk ?_)
  obtain ⟨r17,hr17,hm⟩ := bo hm
  refine Sq (RD hnt (nn 5 (o80 [] true r17 :: nn 6 [])) [16] [(8,rr 1064)] [] [(1064,bx (pm (Al r17.1)))] (an (nn0 k1) (an (ltc hlt1) (an (by omega : k1 < r1.length) (an (Db p0 (r1.getD k1 0) r17 hr17) tv)))) ?_)
  refine Sq (RD hnt (nn 3 []) [8] [(30,pB (r17.1.kind != 1))] [1064] [] tv ?_)
  refine Ag hm ?_ ?_
  ·intro h18 hm
   refine Sq (RK hnt (nn 6 []) [(4,pI (r1.getD k1 0)),(5,pB true)] [] (an (nn0 k1) (an (ltc hlt1) (an (by omega : k1 < r1.length) tv))) ?_)
   obtain rfl := sj hm
   exact DW.ret (Ai [] [] (.p (.tup [vi (r1.getD k1 0),vb true])))
  ·intro h18 hm
   refine Sk ?_
   refine DW.done ?_
   show DW _ _ _ _ _
   refine RD hnt (nn 3 []) [30] [(7,pI (w64 (((k1 : Nat) : Int) + 1)))] [] [] tv ?_
   exact jD () ⟨hlt1,hm⟩ (Conv.tp [(7,pI (w64 (((k1 : Nat) : Int) + 1)))] [] (by kernel_rfl) (.cons rfl (.of_eq (congrArg pI (Bo hlt1 hc1))) .nil) .nil)
 ·intro h16
  have hge1 : ¬ k1 < r1.length := by have := of_decide_eq_false h16; omega
  have hm := he1 hge1
  unfold AaO at hm
  refine DW.exit ?_
  refine An ?_
  refine Ax ?_
  refine Ak ?_
  show DW _ _ _ _ _
  refine Sq (RK hnt (nn 2 []) [(4,pI 0),(5,pB false)] [] tv ?_)
  obtain rfl := sj hm
  exact DW.ret (Ai [] [] (.p (.tup [vi 0,vb false])))
abbrev o99 (ks : List Nat) (b : Bool) (RES : Int × Bool) (sm : List Nat := []) : Orc := .call 165 ks b (.p (.tup [vi RES.1,vb RES.2])) [] [] sm

theorem Aeo (rec : Ae → Int → Option Int) (ih : ∀ (p0 : Ae) (p1 : Int) (RES : Int),rec p0 p1 = some RES → Spec Tryz.prog 163 [.p (.agg (Ao p0)),pI p1] [] (pI RES) [] []) (p0 : Ae) (p1 : Int) (RES : Int) (hm : Pm rec p0 p1 = some RES) : Spec Tryz.prog 163 [.p (.agg (Ao p0)),pI p1] [] (pI RES) [] [] := by
 unfold Pm at hm
 refine SO Tryz.func163 rfl rfl [(0,.p (.agg (Ao p0))),(1,pI p1)] [] ?_
 intro cx hnt
 refine Sq (RK hnt (nn 2 []) [(1,pI p1),(2,rr 1016)] [(1016,bx (pm (Ao p0)))] tv ?_)
 obtain ⟨r1,hr1,hm⟩ := bo hm
 refine Sq (RD hnt (nn 2 (o80 [] true r1 :: nn 6 [])) [] [(5,rr 1040),(6,pB r1.2)] [] [(1040,bx (pm (Al r1.1)))] (an (Db p0 p1 r1 hr1) tv) ?_)
 refine Sq (Sq (RD hnt (nn 2 []) [6] [(20,pB (!r1.2))] [] [] tv ?_))
 refine Ag hm ?_ ?_
 ·intro h2 hm
  refine Sq (RK hnt (.no :: []) [(4,pI 0)] [] tv ?_)
  obtain rfl := sj hm
  exact DW.ret (Ai [] [] (pI 0))
 ·intro h2 hm
  refine Sk ?_
  refine Sq (Sq (RD hnt (nn 3 []) [20] [(23,pB (r1.1.kind == 1))] [] [] tv ?_))
  refine Ag hm ?_ ?_
  ·intro h3 hm
   refine Sq (RK hnt (.no :: []) [(4,pI 2)] [] tv ?_)
   obtain rfl := sj hm
   exact DW.ret (Ai [] [] (pI 2))
  ·intro h3 hm
   refine Sk ?_
   obtain ⟨r4,hr4,hm⟩ := bo hm
   refine Sq (Sq (RD hnt (nn 3 (o80 [] true r4 :: nn 6 [])) [5,23] [(7,rr 1056),(8,pB r4.2)] [1040] [(1056,bx (pm (Al r4.1)))] (an (Db p0 r1.1.parent r4 hr4) tv) ?_))
   refine Sq ?_
   refine Jn (ι := Bool) (fun (y1 : Bool) => Aj [(1,pI p1),(2,rr 1016),(43,pB y1)] [(1016,bx (pm (Ao p0)))]) (fun y1 => (Lw p0 p1) y1 = some RES) ?_ ?_
   ·intro y1 hm
    unfold Lw at hm
    refine Ag hm ?_ ?_
    ·intro h8 hm
     refine Sq (RK hnt (.no :: []) [(4,pI 3)] [] tv ?_)
     obtain rfl := sj hm
     exact DW.ret (Ai [] [] (pI 3))
    ·intro h8 hm
     refine Sk ?_
     obtain ⟨r9,hr9,hm⟩ := bo hm
     refine Sq (RD hnt (nn 2 (o86 [] true r9 :: .no :: [])) [1,43] [(9,ow 1368 r9.length)] [] [(1368,ob0 (roI r9))] (an (Pz p0 p1 r9 hr9) tv) ?_)
     refine Sq (Sq (RD hnt (.no :: []) [] [(10,pI 0)] [] [] tv ?_))
     refine Bk ?_
     obtain ⟨hc1,hm⟩ := go1 hm
     refine DW.rangeO (fun (k1 : Nat) (s1 : Unit) => Aj [(2,rr 1016),(9,ow 1368 r9.length),(10,pI ((k1 : Nat) : Int))] [(1016,bx (pm (Ao p0))),(1368,ob0 (roI r9))]) 0 hm Conv.eqK ?_
     intro k1 s1 n1 hk1 hs1 he1
     refine Sq (Sq (RD hnt (nn 4 []) [] [(50,pB (decide (((k1 : Nat) : Int) < ((r9.length : Nat) : Int))))] [] [] tv ?_))
     refine Cn (decide (((k1 : Nat) : Int) < ((r9.length : Nat) : Int))) ?_ ?_
     ·intro h20
      have hlt1 : k1 < r9.length := by have := of_decide_eq_true h20; omega
      have hm := hs1 hlt1
      unfold Zn at hm
      refine Sk ?_
      refine Sq (Bk ?_)
      obtain ⟨r21,hr21,hm⟩ := bo hm
      refine Sq (RD hnt (nn 5 (o80 [] true r21 :: nn 6 [])) [50] [(11,rr 1088)] [] [(1088,bx (pm (Al r21.1)))] (an (nn0 k1) (an (ltc hlt1) (an (by omega : k1 < r9.length) (an (Db p0 (r9.getD k1 0) r21 hr21) tv)))) ?_)
      refine Sq (RD hnt (nn 3 []) [11] [(64,pB (r21.1.kind == 1))] [1088] [] tv ?_)
      refine Ag hm ?_ ?_
      ·intro h22 hm
       refine Sq (RK hnt (.no :: []) [(4,pI 1)] [] tv ?_)
       obtain rfl := sj hm
       exact DW.ret (Ai [] [] (pI 1))
      ·intro h22 hm
       refine Sk ?_
       refine DW.done ?_
       show DW _ _ _ _ _
       refine RD hnt (nn 3 []) [64] [(10,pI (w64 (((k1 : Nat) : Int) + 1)))] [] [] tv ?_
       exact jD () ⟨hlt1,hm⟩ (Conv.tp [(10,pI (w64 (((k1 : Nat) : Int) + 1)))] [] (by kernel_rfl) (.cons rfl (.of_eq (congrArg pI (Bo hlt1 hc1))) .nil) .nil)
     ·intro h20
      have hge1 : ¬ k1 < r9.length := by have := of_decide_eq_false h20; omega
      have hm := he1 hge1
      unfold AcB at hm
      refine DW.exit ?_
      refine An ?_
      refine Ax ?_
      refine Ak ?_
      show DW _ _ _ _ _
      refine Sq (RK hnt (.no :: []) [(4,pI 0)] [] tv ?_)
      obtain rfl := sj hm
      exact DW.ret (Ai [] [] (pI 0))
   ·rcases bt r4.2 with h5 | h5
    ·replace hm := Bh h5 hm
     rcases bt (r4.1.kind == 1) with h6 | h6
     ·replace hm := Bh h6 hm
      refine RD hnt (nn 6 (sk 5 (pT :: pT :: []))) [7,8] [(43,pB true)] [1056] [] (an4 h5 (an5 h6 (an h5 (an h6 (an h5 tv))))) ?_
      exact jD true hm Conv.eqK
     ·replace hm := Bg h6 hm
      obtain ⟨r7,hr7,hm⟩ := bo hm
      refine RD hnt (nn 9 (.call 163 [] true (pI r7) [] [] [] :: .no :: pF :: pT :: [])) [7,8] [(43,pB (r7 == 3))] [1056] [] (an4 h5 (an4 h6 (an (ih p0 r4.1.id r7 hr7) (an h6 (an h5 (an h6 (an h5 tv))))))) ?_
      exact jD (r7 == 3) hm Conv.eqK
    ·replace hm := Bg h5 hm
     refine RD hnt (nn 2 (sk 10 (pF :: []))) [7,8] [(43,pB false)] [1056] [] (an6 h5 tv) ?_
     exact jD false hm Conv.eqK
theorem Zx : ∀ (n : Nat) (p0 : Ae) (p1 : Int) (RES : Int),Jw n p0 p1 = some RES → Spec Tryz.prog 163 [.p (.agg (Ao p0)),pI p1] [] (pI RES) [] []
  | 0,p0,p1,RES,hm => by simp [Jw] at hm
  | n + 1,p0,p1,RES,hm => Aeo (Jw n) (Zx n) p0 p1 RES hm
theorem Hc (p0 : Ae) (p1 : Int) (RES : Int) (hm : Lr p0 p1 = some RES) : Spec Tryz.prog 163 [.p (.agg (Ao p0)),pI p1] [] (pI RES) [] [] := Zx El p0 p1 RES hm
abbrev o100 (ks : List Nat) (b : Bool) (RES : Int) (sm : List Nat := []) : Orc := .call 163 ks b (pI RES) [] [] sm

abbrev Tz (p0 : Aa) (k4 : Nat) := (p0.tree.nodes.getD k4 (default : Ah))
abbrev c91e2 (p0 : Aa) : Nat × Obj := (1008,bx (pm (Ab p0)))
theorem Lj (p0 : Aa) (RES : Bool) (hm : Jz p0 = some RES) : Spec Tryz.prog 162 [.p (.agg (Ab p0))] [] (pB RES) [] [] := by
 unfold Jz at hm
 refine SO Tryz.func162 rfl rfl [(0,.p (.agg (Ab p0)))] [] ?_
 intro cx hnt
 refine Sq (RK hnt (nn 2 []) [(1,rr 1008)] [(c91e2 p0)] tv ?_)
 obtain ⟨r1,hr1,hm⟩ := bo hm
 refine Sq (Sq (RD hnt (.no :: o92 [] true r1 :: .no :: []) [] [(16,pB (!r1))] [] [] (an (Mo p0 r1 hr1) tv) ?_))
 refine Ag hm ?_ ?_
 ·intro h2 hm
  refine Sq (RK hnt (.no :: []) [(2,pB false)] [] tv ?_)
  obtain rfl := sj hm
  exact DW.ret (Ai [] [] (pB false))
 ·intro h2 hm
  refine Sk ?_
  refine Sq (Sq (RD hnt (.no :: []) [16] [(3,pI 0)] [] [] tv ?_))
  refine Bk ?_
  obtain ⟨hc1,hm⟩ := go1 hm
  refine DW.rangeO (fun (k1 : Nat) (s1 : Unit) => Aj [(1,rr 1008),(3,pI ((k1 : Nat) : Int))] [(c91e2 p0)]) Bs hm Conv.eqK ?_
  intro k1 s1 n1 hk1 hs1 he1
  refine Sq (Sq (RD hnt (nn 5 []) [] [(21,pB (decide (((k1 : Nat) : Int) < ((p0.tasks.length : Nat) : Int))))] [] [] tv ?_))
  refine Cn (decide (((k1 : Nat) : Int) < ((p0.tasks.length : Nat) : Int))) ?_ ?_
  ·intro h99
   have hlt1 : k1 < p0.tasks.length := by have := of_decide_eq_true h99; omega
   have hm := hs1 hlt1
   unfold Zl at hm
   refine Sk ?_
   refine Sq (Bk ?_)
   obtain ⟨r100,hr100,hm⟩ := bo hm
   refine Sq (RD hnt (nn 7 (o98 [] true r100 :: nn 6 [])) [21] [(4,rr 1032)] [] [(1032,bx (pm (Au r100.1)))] (an (nn0 k1) (an (ltc hlt1) (an (Nq p0 (p0.tasks.getD k1 (default : As)).process r100 hr100) tv))) ?_)
   obtain ⟨r101,hr101,hm⟩ := bo hm
   refine Sq (RD hnt (nn 8 (o99 [] true r101 :: nn 5 [])) [] [(6,pI r101.1)] [] [] (an (nn0 k1) (an (ltc hlt1) (an (Om p0.tree (p0.tasks.getD k1 (default : As)).group r101 hr101) tv))) ?_)
   obtain ⟨r102,hr102,hm⟩ := bo hm
   refine Sq (RD hnt (nn 4 (o99 [] true r102 :: nn 5 [])) [4] [(8,pI r102.1)] [1032] [] (an (Om p0.tree r100.1.group r102 hr102) tv) ?_)
   refine Sq (RD hnt (nn 3 []) [6,8] [(57,pB (r101.1 != r102.1))] [] [] tv ?_)
   refine Ag hm ?_ ?_
   ·intro h103 hm
    refine Sq (RK hnt (.no :: []) [(2,pB false)] [] tv ?_)
    obtain rfl := sj hm
    exact DW.ret (Ai [] [] (pB false))
   ·intro h103 hm
    refine Sk ?_
    refine DW.done ?_
    show DW _ _ _ _ _
    refine RD hnt (nn 3 []) [57] [(3,pI (w64 (((k1 : Nat) : Int) + 1)))] [] [] tv ?_
    exact jD () ⟨hlt1,hm⟩ (Conv.tp [(3,pI (w64 (((k1 : Nat) : Int) + 1)))] [] (by kernel_rfl) (.cons rfl (.of_eq (congrArg pI (Bo hlt1 hc1))) .nil) .nil)
  ·intro h99
   have hge1 : ¬ k1 < p0.tasks.length := by have := of_decide_eq_false h99; omega
   have hm := he1 hge1
   unfold Ze at hm
   refine DW.exit ?_
   refine An ?_
   refine Ax ?_
   refine Ak ?_
   show DW _ _ _ _ _
   refine Sq (Sq (RD hnt (.no :: []) [3,21] [(10,pI 0)] [] [] tv ?_))
   refine Bk ?_
   obtain ⟨hc4,hm⟩ := go1 hm
   refine DW.rangeO (fun (k4 : Nat) (s4 : Unit) => Aj [(1,rr 1008),(10,pI ((k4 : Nat) : Int))] [(c91e2 p0)]) Bf hm Conv.eqK ?_
   intro k4 s4 n4 hk4 hs4 he4
   refine Sq (Sq (RD hnt (nn 6 []) [] [(63,pB (decide (((k4 : Nat) : Int) < ((p0.tree.nodes.length : Nat) : Int))))] [] [] tv ?_))
   refine Cn (decide (((k4 : Nat) : Int) < ((p0.tree.nodes.length : Nat) : Int))) ?_ ?_
   ·intro h132
    have hlt4 : k4 < p0.tree.nodes.length := by have := of_decide_eq_true h132; omega
    have hm := hs4 hlt4
    unfold Zj at hm
    refine Sk ?_
    refine Sq (Bk ?_)
    refine Sq (RD hnt (nn 8 []) [63] [(11,rr 1088)] [] [(1088,bx (pm (Al (Tz p0 k4))))] (an (nn0 k4) (an (ltc hlt4) tv)) ?_)
    obtain ⟨r133,hr133,hm⟩ := bo hm
    refine Sq (RD hnt (nn 4 (o80 [] true r133 :: nn 6 [])) [] [(12,rr 1096)] [] [(1096,bx (pm (Al r133.1)))] (an (Db p0.tree (Tz p0 k4).parent r133 hr133) tv) ?_)
    obtain ⟨r134,hr134,hm⟩ := bo hm
    refine Sq (Sq ?_)
    refine Jn (ι := Bool) (fun (y17 : Bool) => Aj [(1,rr 1008),(10,pI ((k4 : Nat) : Int)),(11,rr 1088),(12,rr 1096),(98,pB y17)] [(c91e2 p0),(1088,bx (pm (Al (Tz p0 k4)))),(1096,bx (pm (Al r133.1)))]) (fun y17 => (Kl p0 (Tz p0 k4) n4 r133) y17 = some RES) ?_ ?_
    ·intro y17 hm
     unfold Kl at hm
     refine Ag hm ?_ ?_
     ·intro h138 hm
      refine Sq (RK hnt (.no :: []) [(2,pB false)] [] tv ?_)
      obtain rfl := sj hm
      exact DW.ret (Ai [] [] (pB false))
     ·intro h138 hm
      refine Sk ?_
      refine Sq ?_
      refine Jn (ι := Bool) (fun (y18 : Bool) => Aj [(1,rr 1008),(10,pI ((k4 : Nat) : Int)),(120,pB y18)] [(c91e2 p0)]) (fun y18 => (Jc n4) y18 = some RES) ?_ ?_
      ·intro y18 hm
       unfold Jc at hm
       refine Ag hm ?_ ?_
       ·intro h144 hm
        refine Sq (RK hnt (.no :: []) [(2,pB false)] [] tv ?_)
        obtain rfl := sj hm
        exact DW.ret (Ai [] [] (pB false))
       ·intro h144 hm
        refine Sk ?_
        refine DW.done ?_
        show DW _ _ _ _ _
        refine RD hnt (nn 3 []) [120] [(10,pI (w64 (((k4 : Nat) : Int) + 1)))] [] [] tv ?_
        exact jD () ⟨hlt4,hm⟩ (Conv.tp [(10,pI (w64 (((k4 : Nat) : Int) + 1)))] [] (by kernel_rfl) (.cons rfl (.of_eq (congrArg pI (Bo hlt4 hc4))) .nil) .nil)
      ·rcases bt ((Tz p0 k4).kind == 1) with h139 | h139
       ·replace hm := Bh h139 hm
        rcases bt (r133.1.id != 1) with h140 | h140
        ·replace hm := Bh h140 hm
         rcases bt ((kand .i64 r133.1.control 6) != 0) with h141 | h141
         ·replace hm := Bh h141 hm
          refine RD hnt (nn 12 (pT :: .no :: sk 6 (pT :: pT :: []))) [11,12,98] [(120,pB true)] [1088,1096] [] (an4 h139 (an4 h140 (an h139 (an h140 (an h139 (an6 h141 (an h139 (an h141 (an h139 tv))))))))) ?_
          exact jD true hm Conv.eqK
         ·replace hm := Bg h141 hm
          obtain ⟨r142,hr142,hm⟩ := bo hm
          refine RD hnt (nn 12 (pT :: nn 5 (o100 [] true r142 :: .no :: pF :: pT :: []))) [11,12,98] [(120,pB (r142 == 3))] [1088,1096] [] (an4 h139 (an4 h140 (an h139 (an h140 (an h139 (an5 h141 (an (Hc p0.tree r133.1.id r142 hr142) (an h141 (an h139 (an h141 (an h139 tv))))))))))) ?_
          exact jD (r142 == 3) hm Conv.eqK
        ·replace hm := Bg h140 hm
         obtain ⟨r143,hr143,hm⟩ := bo hm
         refine RD hnt (nn 8 (sk 4 (pF :: nn 5 (o100 [] true r143 :: .no :: pF :: pT :: [])))) [11,12,98] [(120,pB (r143 == 3))] [1088,1096] [] (an4 h139 (an4 h140 (an h139 (an h140 (an h139 (an5 ff (an (Hc p0.tree r133.1.id r143 hr143) (an ff (an h139 (an ff (an h139 tv))))))))))) ?_
         exact jD (r143 == 3) hm Conv.eqK
       ·replace hm := Bg h139 hm
        refine RD hnt (nn 4 (sk 17 (pF :: []))) [11,12,98] [(120,pB false)] [1088,1096] [] (an2 h139 (an6 h139 tv)) ?_
        exact jD false hm Conv.eqK
    ·rcases bt (r134 == 3) with h135 | h135
     ·replace hm := Bh h135 hm
      rcases bt ((Tz p0 k4).control != 0) with h136 | h136
      ·replace hm := Bh h136 hm
       refine RD hnt (nn 4 (o100 [] true r134 :: nn 6 (sk 6 (pT :: pT :: [])))) [] [(98,pB true)] [] [] (an (Hc p0.tree (Tz p0 k4).id r134 hr134) (an4 h135 (an6 h136 (an h135 (an h136 (an h135 tv)))))) ?_
       exact jD true hm Conv.eqK
      ·replace hm := Bg h136 hm
       obtain ⟨r137,hr137,hm⟩ := bo hm
       refine RD hnt (nn 4 (o100 [] true r134 :: nn 9 (o97 [] true r137 :: nn 2 (pF :: pT :: [])))) [] [(98,pB (decide (((r137.length : Nat) : Int) > 0)))] [] [] (an (Hc p0.tree (Tz p0 k4).id r134 hr134) (an4 h135 (an4 h136 (an (My p0 (Tz p0 k4).id r137 hr137) (an2 h136 (an h135 (an h136 (an h135 tv)))))))) ?_
       exact jD (decide (((r137.length : Nat) : Int) > 0)) hm Conv.eqK
     ·replace hm := Bg h135 hm
      refine RD hnt (nn 4 (o100 [] true r134 :: nn 2 (sk 11 (pF :: [])))) [] [(98,pB false)] [] [] (an (Hc p0.tree (Tz p0 k4).id r134 hr134) (an6 h135 tv)) ?_
      exact jD false hm Conv.eqK
   ·intro h132
    have hge4 : ¬ k4 < p0.tree.nodes.length := by have := of_decide_eq_false h132; omega
    have hm := he4 hge4
    unfold AcV at hm
    refine DW.exit ?_
    refine An ?_
    refine Ax ?_
    refine Ak ?_
    show DW _ _ _ _ _
    refine Sq (RK hnt (.no :: []) [(2,pB true)] [] tv ?_)
    obtain rfl := sj hm
    exact DW.ret (Ai [] [] (pB true))
abbrev o91 (ks : List Nat) (b : Bool) (RES : Bool) (sm : List Nat := []) : Orc := .call 162 ks b (pB RES) [] [] sm

theorem Pg (p0 : Int) (RES : Bool) (hm : Xm p0 = some RES) : Spec Tryz.prog 234 [pI p0] [] (pB RES) [] [] := by
 unfold Xm at hm
 refine SO Tryz.func234 rfl rfl [(0,pI p0)] [] ?_
 intro cx hnt
 refine Sq (RK hnt (.no :: []) [(0,pI p0)] [] tv ?_)
 refine Sq (DW.regJ (sl2 := [(2,pB ((decide (p0 ≥ 0)) && (decide (p0 ≤ 31))))]) (ob2 := []) ?_ ?_)
 ·rcases bt (decide (p0 ≥ 0)) with h1 | h1
  ·exact RT hnt (nn 5 (pT :: .no :: [])) [(2,pB (decide (p0 ≤ 31)))] (an3 h1 tv) (by kernel_rfl) (.cons rfl (.of_eq (by rw [h1]; try rfl)) .nil)
  ·exact RT hnt (nn 3 (sk 2 (pF :: .no :: []))) [(2,pB false)] (an3 h1 tv) (by kernel_rfl) (.cons rfl (.of_eq (by rw [h1]; try rfl)) .nil)
 ·refine DW.ret ?_
  obtain rfl := sj hm
  exact Ai [] [] (pB ((decide (p0 ≥ 0)) && (decide (p0 ≤ 31))))
abbrev o102 (ks : List Nat) (b : Bool) (RES : Bool) (sm : List Nat := []) : Orc := .call 234 ks b (pB RES) [] [] sm

theorem Qx (p0 : Aa) (RES : Aa) (hm : Nc p0 = some RES) : Spec Tryz.prog 88 [.p (.agg (Ab p0))] [] (.agg [ow 0 RES.tree.nodes.length,pI RES.tree.next,ow 1 RES.tasks.length,pI RES.next]) [] [Af RES.tree.nodes,Ap RES.tasks] := by
 unfold Nc at hm
 refine SO Tryz.func88 rfl rfl [(0,.p (.agg (Ab p0)))] [] ?_
 intro cx hnt
 refine Sq (RK hnt (nn 2 []) [(1,rr 1008),(2,rr 1016)] [(1008,bx (pm (Ab p0))),(1016,bx [.p (.sl .nil 0 0 (fun _ => [])),pI 0,.p (.sl .nil 0 0 (fun _ => [])),pI 0])] tv ?_)
 obtain ⟨r1,hr1,hm⟩ := bo hm
 obtain ⟨g2,hm⟩ := go1 hm
 refine Sq (RN hnt (nn 2 (o83 [] true r1 :: nn 7 [])) [(2,rr 1016)] [(1016,bx [ow 1040 r1.nodes.length,pI r1.next,ow 1064 p0.tasks.length,pI p0.next]),(1040,ob0 (Af r1.nodes)),(1064,ob0 (Ap p0.tasks))] [] [(1064,.row 4 p0.tasks.length (Aab p0.tasks))] (an (Ra p0.tree r1 hr1) (an (by omega : p0.tasks.length * 32 ≤ 140737488355328) tv)) (by kernel_rfl) .nil (.cons rfl (BLe.typed RowIs.elems) .nil) ?_)
 obtain rfl := sj hm
 exact DW.ret (Ai [Af r1.nodes,Ap p0.tasks] [1040,1064] (.agg [ow 0 r1.nodes.length,pI r1.next,ow 1 p0.tasks.length,pI p0.next]))
abbrev o103 (ks : List Nat) (b : Bool) (RES : Aa) (sm : List Nat := []) : Orc := .call 88 ks b (.agg [ow 0 RES.tree.nodes.length,pI RES.tree.next,ow 1 RES.tasks.length,pI RES.next]) [] [Af RES.tree.nodes,Ap RES.tasks] sm

abbrev Adv : Nat × Obj := (1032,bx [.p (.sl .nil 0 0 (fun _ => [])),pI 0])
theorem Xh (p0 : Ae) (p1 : Ah) (RES : Ae) (hm : Rf p0 p1 = some RES) : Spec Tryz.prog 161 [.p (.agg (Ao p0)),.p (.agg (Al p1))] [] (.agg [ow 0 RES.nodes.length,pI RES.next]) [] [Af RES.nodes] := by
 unfold Rf at hm
 refine SO Tryz.func161 rfl rfl [(0,.p (.agg (Ao p0))),(1,.p (.agg (Al p1)))] [] ?_
 intro cx hnt
 refine Sq (RK hnt (nn 3 []) [(2,rr 1016),(3,rr 1024),(4,rr 1032)] [(1016,bx (pm (Ao p0))),(1024,bx (pm (Al p1))),(Adv)] tv ?_)
 obtain ⟨r1,hr1,hm⟩ := bo hm
 refine Sq (RD hnt (.no :: o83 [] true r1 :: nn 2 []) [2] [(5,rr 1040)] [1016] [(1040,bx [ow 1064 r1.nodes.length,pI r1.next]),(1064,ob0 (Af r1.nodes))] (an (Ra p0 r1 hr1) tv) ?_)
 refine Sq (Sq (RD hnt (.no :: []) [] [(6,pI 0)] [] [] tv ?_))
 refine Bk ?_
 refine DW.whileO (fun (s1 : (List Ah) × Int) => Aj [(3,rr 1024),(4,rr 1032),(5,rr 1040),(6,pI s1.2)] [(1024,bx (pm (Al p1))),(Adv),(1040,bx [ow 1064 s1.1.length,pI r1.next]),(1064,ob0 (Af s1.1))]) hm Conv.eqK ?_
 intro s1 n1 hm
 unfold Aas at hm
 refine Sq (Sq (RD hnt (nn 5 []) [] [(13,pB (decide (s1.2 < ((s1.1.length : Nat) : Int))))] [] [] tv ?_))
 refine Ag hm ?_ ?_
 ·intro h8 hm
  refine Sk ?_
  refine Sq ?_
  refine Jn (ι := List Ah) (fun (y2 : List Ah) => Aj [(3,rr 1024),(4,rr 1032),(5,rr 1040),(6,pI s1.2)] [(1024,bx (pm (Al p1))),(Adv),(1040,bx [ow 1064 y2.length,pI r1.next]),(1064,ob0 (Af y2))]) (fun y2 => (So s1 n1) y2 = some RES) ?_ ?_
  ·intro y2 hm
   unfold So at hm
   refine RD hnt (nn 3 []) [] [(6,pI (w64 (s1.2 + 1)))] [] [] tv ?_
   exact jD (y2,(w64 (s1.2 + 1))) hm Conv.eqK
  ·refine Bk ?_
   obtain ⟨g9,g10,hm⟩ := go2 hm
   refine Sq (RD hnt (nn 9 []) [13] [(24,pB ((s1.1.getD (Int.toNat s1.2) Bf).id == p1.id))] [] [] (an g9.1 (an g9.2 (an g10 tv))) ?_)
   refine Ag hm ?_ ?_
   ·intro h11 hm
    obtain ⟨g12,g13,hm⟩ := go2 hm
    refine RN hnt (nn 6 []) [(3,rr 1024),(4,rr 1032),(5,rr 1040),(6,pI s1.2)] [(1024,bx (pm (Al p1))),(Adv),(1040,bx [ow 1064 (s1.1.set (Int.toNat s1.2) p1).length,pI r1.next]),(1064,ob0 (Af (s1.1.set (Int.toNat s1.2) p1)))] [] [(1040,.box [ow 1064 s1.1.length,pI r1.next]),(1064,.row 6 s1.1.length (Bz (Um s1.1) (Int.toNat s1.2) [vi p1.id,vi p1.parent,vs p1.name,vi p1.control,vi p1.kind,vi p1.owner]))] (an g12.1 (an g12.2 (an g13 tv))) (by kernel_rfl) .nil (.cons rfl (.box (.cons (MLe.ownLen (enc := Al) (d := Bf) (f := (Bz (Um s1.1) (Int.toNat s1.2) [vi p1.id,vi p1.parent,vs p1.name,vi p1.control,vi p1.kind,vi p1.owner])) (RowIs.upd RowIs.elems p1 rfl)) (.cons .rfl .nil))) (.cons rfl (BLe.typed (RowIs.upd RowIs.elems p1 rfl)) .nil)) ?_
    exact bD (s1.1.set (Int.toNat s1.2) p1) hm .refl
   ·intro h11 hm
    refine Sk ?_
    exact bD s1.1 hm Conv.t0
 ·intro h8 hm
  refine DW.exit ?_
  refine An ?_
  refine Ax ?_
  refine Ak ?_
  show DW _ _ _ _ _
  refine Sq (RD hnt (nn 2 []) [3,5,6,13] [] [1024,1040] [(1032,bx [ow 1064 s1.1.length,pI r1.next])] tv ?_)
  obtain rfl := sj hm
  exact DW.ret (Ai [Af s1.1] [1064] (.agg [ow 0 s1.1.length,pI r1.next]))
abbrev o104 (ks : List Nat) (b : Bool) (RES : Ae) (sm : List Nat := []) : Orc := .call 161 ks b (.agg [ow 0 RES.nodes.length,pI RES.next]) [] [Af RES.nodes] sm

abbrev AdN : Nat × Obj := (1064,bx [.p (.sl .nil 0 0 (fun _ => [])),pI 0,.p (.sl .nil 0 0 (fun _ => [])),pI 0])
abbrev AbP : Nat × Obj := (1064,bx [ow 100000 0,pI 0,ow 100001 0,pI 0])
abbrev c101e3 (r8 : Ah × Bool) (p3 : Int) (p2 : Int) : Nat × Obj := (1080,bx [pI r8.1.id,pI r8.1.parent,pS r8.1.name,pI (kor .i64 (Ea .i64 r8.1.control p3) p2),pI r8.1.kind,pI r8.1.owner])
theorem AeK (p0 : Aa) (p1 : Int) (p2 : Int) (p3 : Int) (RES : Aa × Int) (hm : Ss p0 p1 p2 p3 = some RES) : Spec Tryz.prog 208 [.p (.agg (Ab p0)),pI p1,pI p2,pI p3] [] (.tup [.agg [ow 0 RES.1.tree.nodes.length,pI RES.1.tree.next,ow 1 RES.1.tasks.length,pI RES.1.next],pI RES.2]) [] [Af RES.1.tree.nodes,Ap RES.1.tasks] := by
 unfold Ss at hm
 refine SO Tryz.func208 rfl rfl [(0,.p (.agg (Ab p0))),(1,pI p1),(2,pI p2),(3,pI p3)] [] ?_
 intro cx hnt
 refine Sq (RD hnt (nn 3 []) [0] [(4,rr 1032),(8,rr 1064)] [] [(1032,bx (pm (Ab p0))),(AdN)] tv ?_)
 obtain ⟨r1,hr1,hm⟩ := bo hm
 refine Sq (Sq ?_)
 refine Jn (ι := Bool) (fun (y1 : Bool) => Aj [(1,pI p1),(2,pI p2),(3,pI p3),(4,rr 1032),(8,rr 1064),(37,pB y1)] [(1032,bx (pm (Ab p0))),(AdN)]) (fun y1 => (Ht p0 p1 p2 p3) y1 = some RES) ?_ ?_
 ·intro y1 hm
  unfold Ht at hm
  refine Ag hm ?_ ?_
  ·intro h7 hm
   refine Sq (RD hnt (nn 3 []) [1,2,3,4,37] [(9,pI 1)] [1032] [] tv ?_)
   refine DW.cv [] [] [] [(AbP),(100000,ob0 (Af [])),(100001,ob0 (Ap []))] (Conv.ads [(.o 1064 0,100000,6,elems Al Bf []),(.o 1064 2,100001,4,elems Au Bs [])]) ?_
   obtain rfl := sj hm
   exact DW.ret (Ai [Af [],Ap []] [100000,100001] (.tup [.agg [ow 0 0,pI 0,ow 1 0,pI 0],pI 1]))
  ·intro h7 hm
   refine Sk ?_
   obtain ⟨r8,hr8,hm⟩ := bo hm
   refine Sq (RD hnt (nn 3 (o80 [] true r8 :: nn 6 [])) [37] [(10,rr 1080),(11,pB r8.2)] [] [(1080,bx (pm (Al r8.1)))] (an (Db p0.tree p1 r8 hr8) tv) ?_)
   refine Sq (Sq (RD hnt (nn 2 []) [11] [(47,pB (!r8.2))] [] [] tv ?_))
   refine Ag hm ?_ ?_
   ·intro h9 hm
    refine Sq (RD hnt (nn 3 []) [1,2,3,4,10,47] [(9,pI 4)] [1032,1080] [] tv ?_)
    refine DW.cv [] [] [] [(AbP),(100000,ob0 (Af [])),(100001,ob0 (Ap []))] (Conv.ads [(.o 1064 0,100000,6,elems Al Bf []),(.o 1064 2,100001,4,elems Au Bs [])]) ?_
    obtain rfl := sj hm
    exact DW.ret (Ai [Af [],Ap []] [100000,100001] (.tup [.agg [ow 0 0,pI 0,ow 1 0,pI 0],pI 4]))
   ·intro h9 hm
    refine Sk ?_
    obtain ⟨r10,hr10,hm⟩ := bo hm
    refine Sq (Sq (RD hnt (nn 4 (o95 [] true r10 :: nn 2 [])) [47] [(55,pB ((Ea .i64 p2 r10) != 0))] [] [] (an (Jd p0.tree p1 r10 hr10) tv) ?_))
    refine Ag hm ?_ ?_
    ·intro h11 hm
     refine Sq (RD hnt (nn 3 []) [1,2,3,4,10,55] [(9,pI 9)] [1032,1080] [] tv ?_)
     refine DW.cv [] [] [] [(AbP),(100000,ob0 (Af [])),(100001,ob0 (Ap []))] (Conv.ads [(.o 1064 0,100000,6,elems Al Bf []),(.o 1064 2,100001,4,elems Au Bs [])]) ?_
     obtain rfl := sj hm
     exact DW.ret (Ai [Af [],Ap []] [100000,100001] (.tup [.agg [ow 0 0,pI 0,ow 1 0,pI 0],pI 9]))
    ·intro h11 hm
     refine Sk ?_
     obtain ⟨r12,hr12,hm⟩ := bo hm
     refine Sq (RD hnt (nn 3 (o86 [] true r12 :: .no :: [])) [55] [(12,ow 1480 r12.length)] [] [(1480,ob0 (roI r12))] (an (Pz p0.tree p1 r12 hr12) tv) ?_)
     refine Sq (Sq (RD hnt (.no :: []) [] [(13,pI 0)] [] [] tv ?_))
     refine Bk ?_
     obtain ⟨hc1,hm⟩ := go1 hm
     refine DW.rangeO (fun (k1 : Nat) (s1 : Unit) => Aj [(1,pI p1),(2,pI p2),(3,pI p3),(4,rr 1032),(8,rr 1064),(10,rr 1080),(12,ow 1480 r12.length),(13,pI ((k1 : Nat) : Int))] [(1032,bx (pm (Ab p0))),(AdN),(1080,bx (pm (Al r8.1))),(1480,ob0 (roI r12))]) 0 hm Conv.eqK ?_
     intro k1 s1 n1 hk1 hs1 he1
     refine Sq (Sq (RD hnt (nn 4 []) [] [(64,pB (decide (((k1 : Nat) : Int) < ((r12.length : Nat) : Int))))] [] [] tv ?_))
     refine Cn (decide (((k1 : Nat) : Int) < ((r12.length : Nat) : Int))) ?_ ?_
     ·intro h35
      have hlt1 : k1 < r12.length := by have := of_decide_eq_true h35; omega
      have hm := hs1 hlt1
      unfold Xi at hm
      refine Sk ?_
      refine Sq (Bk ?_)
      obtain ⟨r36,hr36,hm⟩ := bo hm
      refine Sq (RD hnt (nn 6 (o80 [] true r36 :: nn 6 [])) [64] [(14,rr 1112)] [] [(1112,bx (pm (Al r36.1)))] (an (nn0 k1) (an (ltc hlt1) (an (by omega : k1 < r12.length) (an (Db p0.tree (r12.getD k1 0) r36 hr36) tv)))) ?_)
      refine Sq (RD hnt (nn 5 []) [14] [(81,pB ((kand .i64 r36.1.control p3) != 0))] [1112] [] tv ?_)
      refine Ag hm ?_ ?_
      ·intro h37 hm
       refine Sq (RD hnt (nn 3 []) [1,2,3,4,10,12,13,81] [(9,pI 9)] [1032,1080,1480] [] tv ?_)
       refine DW.cv [] [] [] [(AbP),(100000,ob0 (Af [])),(100001,ob0 (Ap []))] (Conv.ads [(.o 1064 0,100000,6,elems Al Bf []),(.o 1064 2,100001,4,elems Au Bs [])]) ?_
       obtain rfl := sj hm
       exact DW.ret (Ai [Af [],Ap []] [100000,100001] (.tup [.agg [ow 0 0,pI 0,ow 1 0,pI 0],pI 9]))
      ·intro h37 hm
       refine Sk ?_
       refine DW.done ?_
       show DW _ _ _ _ _
       refine RD hnt (nn 3 []) [81] [(13,pI (w64 (((k1 : Nat) : Int) + 1)))] [] [] tv ?_
       exact jD () ⟨hlt1,hm⟩ (Conv.tp [(13,pI (w64 (((k1 : Nat) : Int) + 1)))] [] (by kernel_rfl) (.cons rfl (.of_eq (congrArg pI (Bo hlt1 hc1))) .nil) .nil)
     ·intro h35
      have hge1 : ¬ k1 < r12.length := by have := of_decide_eq_false h35; omega
      have hm := he1 hge1
      unfold Xq at hm
      refine DW.exit ?_
      refine An ?_
      refine Ax ?_
      refine Ak ?_
      show DW _ _ _ _ _
      refine Sq (RD hnt (nn 3 []) [12,13,64] [(16,pI r8.1.control)] [1480] [] tv ?_)
      refine Sq (RD hnt (nn 7 []) [2,3] [] [] [(c101e3 r8 p3 p2)] tv ?_)
      refine Sq (Sq (RD hnt (nn 4 []) [] [(17,pI (kand .i64 (kor .i64 (Ea .i64 r8.1.control p3) p2) 6))] [] [] tv ?_))
      refine Sq ?_
      refine Jn (ι := Bool) (fun (y4 : Bool) => Aj [(4,rr 1032),(8,rr 1064),(10,rr 1080),(108,pB y4)] [(1032,bx (pm (Ab p0))),(AdN),(c101e3 r8 p3 p2)]) (fun y4 => (Ko p0 p2 p3 r8) y4 = some RES) ?_ ?_
      ·intro y4 hm
       unfold Ko at hm
       refine Ag hm ?_ ?_
       ·intro h41 hm
        refine Sq (RD hnt (nn 3 []) [4,10,108] [(9,pI 6)] [1032,1080] [] tv ?_)
        refine DW.cv [] [] [] [(AbP),(100000,ob0 (Af [])),(100001,ob0 (Ap []))] (Conv.ads [(.o 1064 0,100000,6,elems Al Bf []),(.o 1064 2,100001,4,elems Au Bs [])]) ?_
        obtain rfl := sj hm
        exact DW.ret (Ai [Af [],Ap []] [100000,100001] (.tup [.agg [ow 0 0,pI 0,ow 1 0,pI 0],pI 6]))
       ·intro h41 hm
        refine Sk ?_
        obtain ⟨r42,hr42,hm⟩ := bo hm
        refine Sq (RD hnt (.no :: o103 [] true r42 :: nn 2 []) [108] [(18,rr 1144)] [] [(1144,bx [ow 1888 r42.tree.nodes.length,pI r42.tree.next,ow 1889 r42.tasks.length,pI r42.next]),(1888,ob0 (Af r42.tree.nodes)),(1889,ob0 (Ap r42.tasks))] (an (Qx p0 r42 hr42) tv) ?_)
        obtain ⟨r43,hr43,hm⟩ := bo hm
        refine Sq (RD hnt (nn 3 (o104 [] true r43 :: nn 2 [])) [4,10] [] [1032,1080,1888] [(1144,bx [ow 1920 r43.nodes.length,pI r43.next,ow 1889 r42.tasks.length,pI r42.next]),(1920,ob0 (Af r43.nodes))] (an (Xh p0.tree ({ id := r8.1.id,parent := r8.1.parent,name := r8.1.name,control := (kor .i64 (Ea .i64 r8.1.control p3) p2),kind := r8.1.kind,owner := r8.1.owner } : Ah) r43 hr43) tv) ?_)
        refine Sq (RD hnt (nn 3 []) [18] [(9,pI 0)] [1144] [(1064,bx [ow 1920 r43.nodes.length,pI r43.next,ow 1889 r42.tasks.length,pI r42.next])] tv ?_)
        obtain rfl := sj hm
        exact DW.ret (Ai [Af r43.nodes,Ap r42.tasks] [1920,1889] (.tup [.agg [ow 0 r43.nodes.length,pI r43.next,ow 1 r42.tasks.length,pI r42.next],pI 0]))
      ·rcases bt ((Ea .i64 (kand .i64 (kor .i64 (Ea .i64 r8.1.control p3) p2) 6) r8.1.control) != 0) with h38 | h38
       ·replace hm := Bh h38 hm
        rcases bt (p1 != 1) with h39 | h39
        ·replace hm := Bh h39 hm
         obtain ⟨r40,hr40,hm⟩ := bo hm
         refine RD hnt (nn 7 (pT :: nn 3 (o97 [] true r40 :: nn 2 (pT :: [])))) [1,16,17] [(108,pB (decide (((r40.length : Nat) : Int) > 0)))] [] [] (an3 h38 (an3 h39 (an (My p0 p1 r40 hr40) (an3 h39 tv)))) ?_
         exact jD (decide (((r40.length : Nat) : Int) > 0)) hm Conv.eqK
        ·replace hm := Bg h39 hm
         refine RD hnt (nn 7 (pT :: .no :: sk 5 (pF :: []))) [1,16,17] [(108,pB false)] [] [] (an3 h38 (an6 h39 tv)) ?_
         exact jD false hm Conv.eqK
       ·replace hm := Bg h38 hm
        refine RD hnt (nn 5 (sk 2 (pF :: .no :: sk 5 (pF :: [])))) [1,16,17] [(108,pB false)] [] [] (an3 h38 (an6 ff tv)) ?_
        exact jD false hm Conv.eqK
 ·rcases bt (!r1) with h2 | h2
  ·replace hm := Bh h2 hm
   refine RD hnt (.no :: o92 [] true r1 :: nn 2 (sk 3 (pT :: .no :: sk 3 (pT :: .no :: sk 4 (pT :: []))))) [] [(37,pB true)] [] [] (an (Mo p0 r1 hr1) (an4 h2 (an3 tt (an6 tt tv)))) ?_
   exact jD true hm Conv.eqK
  ·replace hm := Bg h2 hm
   obtain ⟨r3,hr3,hm⟩ := bo hm
   rcases bt (!r3) with h4 | h4
   ·replace hm := Bh h4 hm
    refine RD hnt (.no :: o92 [] true r1 :: nn 3 (o102 [] true r3 :: .no :: pF :: .no :: sk 3 (pT :: .no :: sk 4 (pT :: [])))) [] [(37,pB true)] [] [] (an (Mo p0 r1 hr1) (an2 h2 (an (Pg p2 r3 hr3) (an2 h2 (an4 h4 (an5 tt tv)))))) ?_
    exact jD true hm Conv.eqK
   ·replace hm := Bg h4 hm
    obtain ⟨r5,hr5,hm⟩ := bo hm
    rcases bt (!r5) with h6 | h6
    ·replace hm := Bh h6 hm
     refine RD hnt (.no :: o92 [] true r1 :: nn 3 (o102 [] true r3 :: .no :: pF :: nn 2 (o102 [] true r5 :: .no :: pF :: .no :: sk 4 (pT :: [])))) [] [(37,pB true)] [] [] (an (Mo p0 r1 hr1) (an2 h2 (an (Pg p2 r3 hr3) (an2 h2 (an2 h4 (an (Pg p3 r5 hr5) (an2 h4 (an5 h6 tv)))))))) ?_
     exact jD true hm Conv.eqK
    ·replace hm := Bg h6 hm
     refine RD hnt (.no :: o92 [] true r1 :: nn 3 (o102 [] true r3 :: .no :: pF :: nn 2 (o102 [] true r5 :: .no :: pF :: nn 5 (pF :: [])))) [] [(37,pB ((kand .i64 p2 p3) != 0))] [] [] (an (Mo p0 r1 hr1) (an2 h2 (an (Pg p2 r3 hr3) (an2 h2 (an2 h4 (an (Pg p3 r5 hr5) (an2 h4 (an5 h6 tv)))))))) ?_
     exact jD ((kand .i64 p2 p3) != 0) hm Conv.eqK
abbrev o101 (ks : List Nat) (b : Bool) (RES : Aa × Int) (sm : List Nat := []) : Orc := .call 208 ks b (.tup [.agg [ow 0 RES.1.tree.nodes.length,pI RES.1.tree.next,ow 1 RES.1.tasks.length,pI RES.1.next],pI RES.2]) [] [Af RES.1.tree.nodes,Ap RES.1.tasks] sm

abbrev c90e1 : Nat × Obj := (1064,bx [ow 100000 0,pI 0,ow 100001 0,pI 0])
theorem AdW (p0 : Aa) (p1 : Int) (p2 : Int) (p3 : Int) (RES : Aa × Int) (hm : Qp p0 p1 p2 p3 = some RES) : Spec Tryz.prog 159 [.p (.agg (Ab p0)),pI p1,pI p2,pI p3] [] (.tup [.agg [ow 0 RES.1.tree.nodes.length,pI RES.1.tree.next,ow 1 RES.1.tasks.length,pI RES.1.next],pI RES.2]) [] [Af RES.1.tree.nodes,Ap RES.1.tasks] := by
 unfold Qp at hm
 refine SO Tryz.func159 rfl rfl [(0,.p (.agg (Ab p0))),(1,pI p1),(2,pI p2),(3,pI p3)] [] ?_
 intro cx hnt
 refine Sq (RD hnt (nn 3 []) [0] [(4,rr 1032),(8,rr 1064)] [] [(1032,bx (pm (Ab p0))),(1064,bx [.p (.sl .nil 0 0 (fun _ => [])),pI 0,.p (.sl .nil 0 0 (fun _ => [])),pI 0])] tv ?_)
 obtain ⟨r1,hr1,hm⟩ := bo hm
 refine Sq (Sq (RD hnt (.no :: o91 [] true r1 :: .no :: []) [] [(14,pB (!r1))] [] [] (an (Lj p0 r1 hr1) tv) ?_))
 refine Ag hm ?_ ?_
 ·intro h2 hm
  refine Sq (RD hnt (nn 3 []) [1,2,3,4,14] [(9,pI 1)] [1032] [] tv ?_)
  refine DW.cv [] [] [] [(c90e1),(100000,ob0 (Af [])),(100001,ob0 (Ap []))] (Conv.ads [(.o 1064 0,100000,6,elems Al Bf []),(.o 1064 2,100001,4,elems Au Bs [])]) ?_
  obtain rfl := sj hm
  exact DW.ret (Ai [Af [],Ap []] [100000,100001] (.tup [.agg [ow 0 0,pI 0,ow 1 0,pI 0],pI 1]))
 ·intro h2 hm
  refine Sk ?_
  obtain ⟨r3,hr3,hm⟩ := bo hm
  refine Sq (RD hnt (nn 4 (o101 [] true r3 :: nn 6 [])) [1,2,3,4,14] [(10,rr 1080),(11,pI r3.2)] [1032] [(1080,bx [ow 1168 r3.1.tree.nodes.length,pI r3.1.tree.next,ow 1169 r3.1.tasks.length,pI r3.1.next]),(1168,ob0 (Af r3.1.tree.nodes)),(1169,ob0 (Ap r3.1.tasks))] (an (AeK p0 p1 p2 p3 r3 hr3) tv) ?_)
  refine Sq (Sq (RD hnt (nn 2 []) [] [(25,pB (r3.2 != 0))] [] [] tv ?_))
  refine Ag hm ?_ ?_
  ·intro h4 hm
   refine Sq (RD hnt (nn 4 []) [10,11,25] [(9,pI r3.2)] [1080,1168,1169] [] tv ?_)
   refine DW.cv [] [] [] [(c90e1),(100000,ob0 (Af [])),(100001,ob0 (Ap []))] (Conv.ads [(.o 1064 0,100000,6,elems Al Bf []),(.o 1064 2,100001,4,elems Au Bs [])]) ?_
   obtain rfl := sj hm
   exact DW.ret (Ai [Af [],Ap []] [100000,100001] (.tup [.agg [ow 0 0,pI 0,ow 1 0,pI 0],pI r3.2]))
  ·intro h4 hm
   refine Sk ?_
   obtain ⟨r5,hr5,hm⟩ := bo hm
   refine Sq (Sq (RD hnt (.no :: o91 [] true r5 :: .no :: []) [11,25] [(30,pB (!r5))] [] [] (an (Lj r3.1 r5 hr5) tv) ?_))
   refine Ag hm ?_ ?_
   ·intro h6 hm
    refine Sq (RD hnt (nn 3 []) [10,30] [(9,pI 10)] [1080,1168,1169] [] tv ?_)
    refine DW.cv [] [] [] [(c90e1),(100000,ob0 (Af [])),(100001,ob0 (Ap []))] (Conv.ads [(.o 1064 0,100000,6,elems Al Bf []),(.o 1064 2,100001,4,elems Au Bs [])]) ?_
    obtain rfl := sj hm
    exact DW.ret (Ai [Af [],Ap []] [100000,100001] (.tup [.agg [ow 0 0,pI 0,ow 1 0,pI 0],pI 10]))
   ·intro h6 hm
    refine Sk ?_
    refine Sq (RD hnt (nn 3 []) [10,30] [(9,pI 0)] [1080] [(1064,bx [ow 1168 r3.1.tree.nodes.length,pI r3.1.tree.next,ow 1169 r3.1.tasks.length,pI r3.1.next])] tv ?_)
    obtain rfl := sj hm
    exact DW.ret (Ai [Af r3.1.tree.nodes,Ap r3.1.tasks] [1168,1169] (.tup [.agg [ow 0 r3.1.tree.nodes.length,pI r3.1.tree.next,ow 1 r3.1.tasks.length,pI r3.1.next],pI 0]))
abbrev o90 (ks : List Nat) (b : Bool) (RES : Aa × Int) (sm : List Nat := []) : Orc := .call 159 ks b (.tup [.agg [ow 0 RES.1.tree.nodes.length,pI RES.1.tree.next,ow 1 RES.1.tasks.length,pI RES.1.next],pI RES.2]) [] [Af RES.1.tree.nodes,Ap RES.1.tasks] sm

abbrev AdK : Nat × Obj := (1032,bx [.p (.sl .nil 0 0 (fun _ => [])),pI 0,.p (.sl .nil 0 0 (fun _ => [])),pI 0])
abbrev Aaj : Nat × Obj := (1032,bx [ow 100000 0,pI 0,ow 100001 0,pI 0])
theorem Ada (p0 : Aa) (p1 : Int) (RES : Aa × Int) (hm : Pb p0 p1 = some RES) : Spec Tryz.prog 160 [.p (.agg (Ab p0)),pI p1] [] (.tup [.agg [ow 0 RES.1.tree.nodes.length,pI RES.1.tree.next,ow 1 RES.1.tasks.length,pI RES.1.next],pI RES.2]) [] [Af RES.1.tree.nodes,Ap RES.1.tasks] := by
 unfold Pb at hm
 refine SO Tryz.func160 rfl rfl [(0,.p (.agg (Ab p0))),(1,pI p1)] [] ?_
 intro cx hnt
 refine Sq (RK hnt (nn 3 []) [(1,pI p1),(2,rr 1016),(4,rr 1032)] [(1016,bx (pm (Ab p0))),(AdK)] tv ?_)
 obtain ⟨r1,hr1,hm⟩ := bo hm
 refine Sq (Sq (RD hnt (.no :: o91 [] true r1 :: .no :: []) [] [(13,pB (!r1))] [] [] (an (Lj p0 r1 hr1) tv) ?_))
 refine Ag hm ?_ ?_
 ·intro h2 hm
  refine Sq (RD hnt (nn 3 []) [1,2,13] [(5,pI 1)] [1016] [] tv ?_)
  refine DW.cv [] [] [] [(Aaj),(100000,ob0 (Af [])),(100001,ob0 (Ap []))] (Conv.ads [(.o 1032 0,100000,6,elems Al Bf []),(.o 1032 2,100001,4,elems Au Bs [])]) ?_
  obtain rfl := sj hm
  exact DW.ret (Ai [Af [],Ap []] [100000,100001] (.tup [.agg [ow 0 0,pI 0,ow 1 0,pI 0],pI 1]))
 ·intro h2 hm
  refine Sk ?_
  obtain ⟨r3,hr3,hm⟩ := bo hm
  refine Sq (RD hnt (nn 3 (o80 [] true r3 :: nn 6 [])) [13] [(6,rr 1048),(7,pB r3.2)] [] [(1048,bx (pm (Al r3.1)))] (an (Db p0.tree p1 r3 hr3) tv) ?_)
  refine Sq (Sq (RD hnt (nn 2 []) [7] [(23,pB (!r3.2))] [] [] tv ?_))
  refine Ag hm ?_ ?_
  ·intro h4 hm
   refine Sq (RD hnt (nn 3 []) [1,2,6,23] [(5,pI 4)] [1016,1048] [] tv ?_)
   refine DW.cv [] [] [] [(Aaj),(100000,ob0 (Af [])),(100001,ob0 (Ap []))] (Conv.ads [(.o 1032 0,100000,6,elems Al Bf []),(.o 1032 2,100001,4,elems Au Bs [])]) ?_
   obtain rfl := sj hm
   exact DW.ret (Ai [Af [],Ap []] [100000,100001] (.tup [.agg [ow 0 0,pI 0,ow 1 0,pI 0],pI 4]))
  ·intro h4 hm
   refine Sk ?_
   refine Sq (Sq (DW.regJ (sl2 := [(1,pI p1),(2,rr 1016),(4,rr 1032),(6,rr 1048),(31,pB ((p1 == 1) || (r3.1.kind == 1)))]) (ob2 := [(1016,bx (pm (Ab p0))),(AdK),(1048,bx (pm (Al r3.1)))]) ?_ ?_))
   ·rcases bt (p1 == 1) with h5 | h5
    ·exact RT hnt (nn 3 (sk 3 (pT :: []))) [(31,pB true)] (an4 h5 tv) (by kernel_rfl) (.cons rfl (.of_eq (by rw [h5]; try rfl)) .nil)
    ·exact RT hnt (nn 6 (pF :: [])) [(31,pB (r3.1.kind == 1))] (an4 h5 tv) (by kernel_rfl) (.cons rfl (.of_eq (by rw [h5]; try rfl)) .nil)
   ·refine Ag hm ?_ ?_
    ·intro h6 hm
     refine Sq (RD hnt (nn 3 []) [1,2,6,31] [(5,pI 9)] [1016,1048] [] tv ?_)
     refine DW.cv [] [] [] [(Aaj),(100000,ob0 (Af [])),(100001,ob0 (Ap []))] (Conv.ads [(.o 1032 0,100000,6,elems Al Bf []),(.o 1032 2,100001,4,elems Au Bs [])]) ?_
     obtain rfl := sj hm
     exact DW.ret (Ai [Af [],Ap []] [100000,100001] (.tup [.agg [ow 0 0,pI 0,ow 1 0,pI 0],pI 9]))
    ·intro h6 hm
     refine Sk ?_
     obtain ⟨r7,hr7,hm⟩ := bo hm
     refine Sq (RD hnt (nn 4 (o80 [] true r7 :: nn 6 [])) [31] [(8,rr 1064)] [] [(1064,bx (pm (Al r7.1)))] (an (Db p0.tree r3.1.parent r7 hr7) tv) ?_)
     obtain ⟨r8,hr8,hm⟩ := bo hm
     refine Sq (Sq ?_)
     refine Jn (ι := Bool) (fun (y1 : Bool) => Aj [(1,pI p1),(2,rr 1016),(4,rr 1032),(6,rr 1048),(57,pB y1)] [(1016,bx (pm (Ab p0))),(AdK),(1048,bx (pm (Al r3.1)))]) (fun y1 => (Ii p0 p1 r3) y1 = some RES) ?_ ?_
     ·intro y1 hm
      unfold Ii at hm
      refine Ag hm ?_ ?_
      ·intro h11 hm
       refine Sq (RD hnt (nn 3 []) [1,2,6,57] [(5,pI 10)] [1016,1048] [] tv ?_)
       refine DW.cv [] [] [] [(Aaj),(100000,ob0 (Af [])),(100001,ob0 (Ap []))] (Conv.ads [(.o 1032 0,100000,6,elems Al Bf []),(.o 1032 2,100001,4,elems Au Bs [])]) ?_
       obtain rfl := sj hm
       exact DW.ret (Ai [Af [],Ap []] [100000,100001] (.tup [.agg [ow 0 0,pI 0,ow 1 0,pI 0],pI 10]))
      ·intro h11 hm
       refine Sk ?_
       refine Sq (Sq (RD hnt (nn 4 []) [57] [(62,pB ((kand .i64 r3.1.control 6) != 0))] [] [] tv ?_))
       refine Ag hm ?_ ?_
       ·intro h12 hm
        refine Sq (RD hnt (nn 3 []) [1,2,6,62] [(5,pI 9)] [1016,1048] [] tv ?_)
        refine DW.cv [] [] [] [(Aaj),(100000,ob0 (Af [])),(100001,ob0 (Ap []))] (Conv.ads [(.o 1032 0,100000,6,elems Al Bf []),(.o 1032 2,100001,4,elems Au Bs [])]) ?_
        obtain rfl := sj hm
        exact DW.ret (Ai [Af [],Ap []] [100000,100001] (.tup [.agg [ow 0 0,pI 0,ow 1 0,pI 0],pI 9]))
       ·intro h12 hm
        refine Sk ?_
        refine Sq (RD hnt (nn 2 []) [62] [] [] [(1048,bx [pI r3.1.id,pI r3.1.parent,pS r3.1.name,pI r3.1.control,pI 1,pI r3.1.owner])] tv ?_)
        obtain ⟨r13,hr13,hm⟩ := bo hm
        refine Sq (RD hnt (.no :: o103 [] true r13 :: nn 2 []) [] [(10,rr 1080)] [] [(1080,bx [ow 1528 r13.tree.nodes.length,pI r13.tree.next,ow 1529 r13.tasks.length,pI r13.next]),(1528,ob0 (Af r13.tree.nodes)),(1529,ob0 (Ap r13.tasks))] (an (Qx p0 r13 hr13) tv) ?_)
        obtain ⟨r14,hr14,hm⟩ := bo hm
        refine Sq (RD hnt (nn 3 (o104 [] true r14 :: nn 2 [])) [6] [] [1048,1528] [(1080,bx [ow 1560 r14.nodes.length,pI r14.next,ow 1529 r13.tasks.length,pI r13.next]),(1560,ob0 (Af r14.nodes))] (an (Xh p0.tree ({ id := r3.1.id,parent := r3.1.parent,name := r3.1.name,control := r3.1.control,kind := 1,owner := r3.1.owner } : Ah) r14 hr14) tv) ?_)
        obtain ⟨r15,hr15,hm⟩ := bo hm
        refine Sq (Sq ?_)
        refine Jn (ι := Bool) (fun (y2 : Bool) => Aj [(4,rr 1032),(10,rr 1080),(81,pB y2)] [(AdK),(1080,bx [ow 1560 r14.nodes.length,pI r14.next,ow 1529 r13.tasks.length,pI r13.next]),(1529,ob0 (Ap r13.tasks)),(1560,ob0 (Af r14.nodes))]) (fun y2 => (Mg r13 r14) y2 = some RES) ?_ ?_
        ·intro y2 hm
         unfold Mg at hm
         refine Ag hm ?_ ?_
         ·intro h18 hm
          refine Sq (RD hnt (nn 3 []) [10,81] [(5,pI 6)] [1080,1529,1560] [] tv ?_)
          refine DW.cv [] [] [] [(Aaj),(100000,ob0 (Af [])),(100001,ob0 (Ap []))] (Conv.ads [(.o 1032 0,100000,6,elems Al Bf []),(.o 1032 2,100001,4,elems Au Bs [])]) ?_
          obtain rfl := sj hm
          exact DW.ret (Ai [Af [],Ap []] [100000,100001] (.tup [.agg [ow 0 0,pI 0,ow 1 0,pI 0],pI 6]))
         ·intro h18 hm
          refine Sk ?_
          refine Sq (RD hnt (nn 3 []) [10,81] [(5,pI 0)] [1080] [(1032,bx [ow 1560 r14.nodes.length,pI r14.next,ow 1529 r13.tasks.length,pI r13.next])] tv ?_)
          obtain rfl := sj hm
          exact DW.ret (Ai [Af r14.nodes,Ap r13.tasks] [1560,1529] (.tup [.agg [ow 0 r14.nodes.length,pI r14.next,ow 1 r13.tasks.length,pI r13.next],pI 0]))
        ·rcases bt (decide (((r15.length : Nat) : Int) > 0)) with h16 | h16
         ·replace hm := Bh h16 hm
          refine RD hnt (nn 2 (o97 [] true r15 :: nn 3 (sk 3 (pT :: [])))) [1,2] [(81,pB true)] [1016] [] (an (My p0 p1 r15 hr15) (an4 h16 tv)) ?_
          exact jD true hm Conv.eqK
         ·replace hm := Bg h16 hm
          obtain ⟨r17,hr17,hm⟩ := bo hm
          refine RD hnt (nn 2 (o97 [] true r15 :: nn 4 (o91 [] true r17 :: .no :: pF :: []))) [1,2] [(81,pB (!r17))] [1016] [] (an (My p0 p1 r15 hr15) (an2 h16 (an (Lj ({ tree := r14,tasks := r13.tasks,next := r13.next } : Aa) r17 hr17) (an2 h16 tv)))) ?_
          exact jD (!r17) hm Conv.eqK
     ·rcases bt (r8 == 3) with h9 | h9
      ·replace hm := Bh h9 hm
       refine RD hnt (nn 4 (o100 [] true r8 :: nn 2 (sk 9 (pT :: [])))) [8] [(57,pB true)] [1064] [] (an (Hc p0.tree r7.1.id r8 hr8) (an6 h9 tv)) ?_
       exact jD true hm Conv.eqK
      ·replace hm := Bg h9 hm
       rcases bt (r7.1.id != 1) with h10 | h10
       ·replace hm := Bh h10 hm
        refine RD hnt (nn 4 (o100 [] true r8 :: nn 10 (pT :: pF :: []))) [8] [(57,pB ((kand .i64 r7.1.control 6) != 0))] [1064] [] (an (Hc p0.tree r7.1.id r8 hr8) (an4 h9 (an4 h10 (an h9 (an h10 (an h9 tv)))))) ?_
        exact jD ((kand .i64 r7.1.control 6) != 0) hm Conv.eqK
       ·replace hm := Bg h10 hm
        refine RD hnt (nn 4 (o100 [] true r8 :: nn 6 (sk 4 (pF :: pF :: [])))) [8] [(57,pB false)] [1064] [] (an (Hc p0.tree r7.1.id r8 hr8) (an4 h9 (an4 h10 (an h9 (an h10 (an h9 tv)))))) ?_
        exact jD false hm Conv.eqK
abbrev o105 (ks : List Nat) (b : Bool) (RES : Aa × Int) (sm : List Nat := []) : Orc := .call 160 ks b (.tup [.agg [ow 0 RES.1.tree.nodes.length,pI RES.1.tree.next,ow 1 RES.1.tasks.length,pI RES.1.next],pI RES.2]) [] [Af RES.1.tree.nodes,Ap RES.1.tasks] sm

abbrev c87e1 : Nat × Obj := (1032,bx [.p (.sl .nil 0 0 (fun _ => [])),pI 0,.p (.sl .nil 0 0 (fun _ => [])),pI 0])
theorem AbJ (p0 : Aw) (p1 : Aa) (RES : Aa × Aw) (hm : Ms p0 p1 = some RES) : Spec Tryz.prog 82 [rr 0,.p (.agg (Ab p1))] [.box (pm (Aq p0))] (.p (.agg (Ab RES.1))) [.box (pm (Aq RES.2))] [] := by
 unfold Ms at hm
 refine SO Tryz.func82 rfl rfl [(0,rr 0),(1,.p (.agg (Ab p1)))] [(0,bx (pm (Aq p0)))] ?_
 intro cx hnt
 refine Sq (RD hnt (nn 2 []) [1] [(3,rr 1024),(4,rr 1032)] [] [(1024,bx (pm (Ab p1))),(c87e1)] tv ?_)
 obtain ⟨r1,hr1,hm⟩ := bo hm
 refine Sq (RD hnt (nn 3 (o88 [0] true r1 :: .no :: [])) [] [(5,pI r1.1)] [] [(0,bx (pm (Aq r1.2)))] (an (Of p0 p1.tree r1 hr1) (an tv tv)) ?_)
 obtain ⟨r2,hr2,hm⟩ := bo hm
 refine Sq (Sq (RD hnt (.no :: o72 [0] true r2 :: []) [] [(17,pI r2.1)] [] [(0,bx (pm (Aq r2.2)))] (an (Bw r1.2 5 r2 hr2) (an tv tv)) ?_))
 refine Jn (ι := Aw × Aa) (fun (y1 : Aw × Aa) => Aj [(3,rr 1024),(4,rr 1032)] [(0,bx (pm (Aq y1.1))),(1024,bx (pm (Ab y1.2))),(c87e1)]) (fun y1 => Gc y1 = some RES) ?_ ?_
 ·intro y1 hm
  unfold Gc at hm
  refine Sq (RD hnt (nn 2 []) [3] [] [1024] [(1032,bx (pm (Ab y1.2)))] tv ?_)
  obtain rfl := sj hm
  exact DW.ret (Ai [.box (pm (Aq y1.1))] [] (.p (.agg (Ab y1.2))))
 ·refine Bk ?_
  refine Sq (Sq (RD hnt (nn 2 []) [] [(18,pB (r2.1 == 0))] [] [] tv ?_))
  refine Jn (ι := Bool) (fun (y2 : Bool) => Aj [(0,rr 0),(3,rr 1024),(4,rr 1032),(5,pI r1.1),(17,pI r2.1),(18,pB y2)] [(0,bx (pm (Aq r2.2))),(1024,bx (pm (Ab p1))),(c87e1)]) (fun y2 => (Ig p1 r1 r2) y2 = some RES) ?_ ?_
  ·intro y2 hm
   unfold Ig at hm
   refine Ag hm ?_ ?_
   ·intro h4 hm
    obtain ⟨r5,hr5,hm⟩ := bo hm
    obtain ⟨r6,hr6,hm⟩ := bo hm
    refine Sq (RD hnt (nn 3 (o89 [0] true r5 :: o90 [] true r6 :: nn 6 [])) [0,5,17,18] [(6,rr 1048),(7,pI r6.2)] [] [(0,bx (pm (Aq r5.2))),(1048,bx [ow 1208 r6.1.tree.nodes.length,pI r6.1.tree.next,ow 1209 r6.1.tasks.length,pI r6.1.next]),(1208,ob0 (Af r6.1.tree.nodes)),(1209,ob0 (Ap r6.1.tasks))] (an (Vn r2.2 r5 hr5) (an tv (an (AdW p1 r1.1 r5.1 0 r6 hr6) tv))) ?_)
    refine Sq (RD hnt (nn 2 []) [7] [(30,pB (r6.2 == 0))] [] [] tv ?_)
    refine Ag hm ?_ ?_
    ·intro h7 hm
     refine Sq (RD hnt (nn 2 []) [3,6,30] [] [1024,1048] [(1032,bx [ow 1208 r6.1.tree.nodes.length,pI r6.1.tree.next,ow 1209 r6.1.tasks.length,pI r6.1.next])] tv ?_)
     obtain rfl := sj hm
     exact DW.ret (Ai [.box (pm (Aq r5.2))] [] (.p (.agg (Ab r6.1))))
    ·intro h7 hm
     refine Sk ?_
     exact bD (r5.2,p1) hm Conv.t0
   ·intro h4 hm
    refine Sq (RD hnt (nn 2 []) [18] [(32,pB (r2.1 == 2))] [] [] tv ?_)
    refine Ag hm ?_ ?_
    ·intro h8 hm
     obtain ⟨r9,hr9,hm⟩ := bo hm
     refine Sq (RD hnt (nn 2 (o105 [] true r9 :: nn 6 [])) [0,5,17,32] [(8,rr 1064),(9,pI r9.2)] [] [(1064,bx [ow 1296 r9.1.tree.nodes.length,pI r9.1.tree.next,ow 1297 r9.1.tasks.length,pI r9.1.next]),(1296,ob0 (Af r9.1.tree.nodes)),(1297,ob0 (Ap r9.1.tasks))] (an (Ada p1 r1.1 r9 hr9) tv) ?_)
     refine Sq (RD hnt (nn 2 []) [9] [(41,pB (r9.2 == 0))] [] [] tv ?_)
     refine Ag hm ?_ ?_
     ·intro h10 hm
      refine Sq (RD hnt (nn 2 []) [3,8,41] [] [1024,1064] [(1032,bx [ow 1296 r9.1.tree.nodes.length,pI r9.1.tree.next,ow 1297 r9.1.tasks.length,pI r9.1.next])] tv ?_)
      obtain rfl := sj hm
      exact DW.ret (Ai [.box (pm (Aq r2.2))] [] (.p (.agg (Ab r9.1))))
     ·intro h10 hm
      refine Sk ?_
      exact bD (r2.2,p1) hm Conv.t0
    ·intro h8 hm
     refine Sq (RD hnt (nn 2 []) [17,32] [(43,pB (r2.1 == 3))] [] [] tv ?_)
     refine Ag hm ?_ ?_
     ·intro h11 hm
      obtain ⟨r12,hr12,hm⟩ := bo hm
      refine Sq (RD hnt (nn 3 (o80 [] true r12 :: nn 6 [])) [43] [(10,rr 1080),(11,pB r12.2)] [] [(1080,bx (pm (Al r12.1)))] (an (Db p1.tree r1.1 r12 hr12) tv) ?_)
      refine Sq (DW.regJ (sl2 := [(0,rr 0),(3,rr 1024),(4,rr 1032),(10,rr 1080),(56,pB (r12.2 && (r1.1 != 1)))]) (ob2 := [(0,bx (pm (Aq r2.2))),(1024,bx (pm (Ab p1))),(c87e1),(1080,bx (pm (Al r12.1)))]) ?_ ?_)
      ·rcases bt r12.2 with h13 | h13
       ·exact RT hnt (nn 4 (pT :: [])) [(56,pB (r1.1 != 1))] (an3 h13 tv) (by kernel_rfl) (.cons rfl (.of_eq (by rw [h13]; try rfl)) .nil)
       ·exact RT hnt (nn 2 (sk 2 (pF :: []))) [(56,pB false)] (an3 h13 tv) (by kernel_rfl) (.cons rfl (.of_eq (by rw [h13]; try rfl)) .nil)
      ·refine Ag hm ?_ ?_
       ·intro h14 hm
        obtain ⟨r15,hr15,hm⟩ := bo hm
        refine Sq (RD hnt (.no :: o72 [0] true r15 :: nn 2 []) [0,56] [] [] [(0,bx (pm (Aq r15.2))),(1080,bx [pI r12.1.id,pI r12.1.parent,pS r12.1.name,pI r12.1.control,pI r12.1.kind,pI r15.1])] (an (Bw r2.2 3 r15 hr15) (an tv tv)) ?_)
        obtain ⟨r16,hr16,hm⟩ := bo hm
        refine RD hnt (nn 3 (o104 [] true r16 :: nn 2 [])) [10] [] [1080] [(1024,bx [ow 1504 r16.nodes.length,pI r16.next,.p (Bd p1.tasks),pI p1.next]),(1504,ob0 (Af r16.nodes))] (an (Xh p1.tree ({ id := r12.1.id,parent := r12.1.parent,name := r12.1.name,control := r12.1.control,kind := r12.1.kind,owner := r15.1 } : Ah) r16 hr16) tv) ?_
        exact bD (r15.2,({ tree := r16,tasks := p1.tasks,next := p1.next } : Aa)) hm (Conv.frz [1504])
       ·intro h14 hm
        refine Sk ?_
        exact bD (r2.2,p1) hm Conv.t0
     ·intro h11 hm
      refine Sk ?_
      exact bD (r2.2,p1) hm Conv.t0
  ·refine Ag hm ?_ ?_
   ·intro h3 hm
    refine Sk ?_
    exact jD (r2.1 == 0) hm Conv.eqK
   ·intro h3 hm
    refine RD hnt (nn 2 []) [] [(18,pB (r2.1 == 1))] [] [] tv ?_
    exact jD (r2.1 == 1) hm Conv.eqK
abbrev o87 (ks : List Nat) (b : Bool) (RES : Aa × Aw) (sm : List Nat := []) : Orc := .call 82 ks b (.p (.agg (Ab RES.1))) [.box (pm (Aq RES.2))] [] sm

theorem Ym (p0 : Aa) (p1 : Int) (RES : Int) (hm : Nx p0 p1 = some RES) : Spec Tryz.prog 83 [.p (.agg (Ab p0)),pI p1] [] (pI RES) [] [] := by
 unfold Nx at hm
 refine SO Tryz.func83 rfl rfl [(0,.p (.agg (Ab p0))),(1,pI p1)] [] ?_
 intro cx hnt
 refine Sq (RK hnt (nn 2 []) [(1,pI p1),(2,rr 1016)] [(1016,bx (pm (Ab p0)))] tv ?_)
 obtain ⟨r1,hr1,hm⟩ := bo hm
 refine Sq (Sq (RD hnt (.no :: o91 [] true r1 :: .no :: []) [] [(9,pB (!r1))] [] [] (an (Lj p0 r1 hr1) tv) ?_))
 refine Ag hm ?_ ?_
 ·intro h2 hm
  refine Sq (RK hnt (.no :: []) [(4,pI 1)] [] tv ?_)
  obtain rfl := sj hm
  exact DW.ret (Ai [] [] (pI 1))
 ·intro h2 hm
  refine Sk ?_
  obtain ⟨r3,hr3,hm⟩ := bo hm
  refine Sq (RD hnt (nn 3 (o80 [] true r3 :: nn 6 [])) [9] [(5,rr 1040),(6,pB r3.2)] [] [(1040,bx (pm (Al r3.1)))] (an (Db p0.tree p1 r3 hr3) tv) ?_)
  refine Sq (Bk ?_)
  refine Sq (RD hnt (nn 3 []) [6] [(17,pB (!r3.2))] [] [] tv ?_)
  refine Ag hm ?_ ?_
  ·intro h4 hm
   refine Sq (RK hnt (.no :: []) [(4,pI 4)] [] tv ?_)
   obtain rfl := sj hm
   exact DW.ret (Ai [] [] (pI 4))
  ·intro h4 hm
   obtain ⟨r5,hr5,hm⟩ := bo hm
   refine Sq (RD hnt (nn 3 (o100 [] true r5 :: nn 2 [])) [2,17] [(20,pB (r5 == 3))] [1016] [] (an (Hc p0.tree p1 r5 hr5) tv) ?_)
   refine Ag hm ?_ ?_
   ·intro h6 hm
    refine Sq (RK hnt (.no :: []) [(4,pI 10)] [] tv ?_)
    obtain rfl := sj hm
    exact DW.ret (Ai [] [] (pI 10))
   ·intro h6 hm
    refine Sq (DW.regJ (sl2 := [(26,pB ((p1 != 1) && ((kand .i64 r3.1.control 6) != 0)))]) (ob2 := []) ?_ ?_)
    ·rcases bt (p1 != 1) with h7 | h7
     ·exact RT hnt (nn 7 (pT :: .no :: [])) [(26,pB ((kand .i64 r3.1.control 6) != 0))] (an5 h7 tv) (by kernel_rfl) (.cons rfl (.of_eq (by rw [h7]; try rfl)) .nil)
     ·exact RT hnt (nn 3 (sk 4 (pF :: .no :: []))) [(26,pB false)] (an5 h7 tv) (by kernel_rfl) (.cons rfl (.of_eq (by rw [h7]; try rfl)) .nil)
    ·refine Ag hm ?_ ?_
     ·intro h8 hm
      refine Sq (RK hnt (.no :: []) [(4,pI 6)] [] tv ?_)
      obtain rfl := sj hm
      exact DW.ret (Ai [] [] (pI 6))
     ·intro h8 hm
      refine Sk ?_
      refine DW.done ?_
      show DW _ _ _ _ _
      refine Sq (RK hnt (.no :: []) [(4,pI 0)] [] tv ?_)
      obtain rfl := sj hm
      exact DW.ret (Ai [] [] (pI 0))
abbrev o106 (ks : List Nat) (b : Bool) (RES : Int) (sm : List Nat := []) : Orc := .call 83 ks b (pI RES) [] [] sm

abbrev AdH : Nat × Obj := (1032,bx [.p (.sl .nil 0 0 (fun _ => [])),pI 0,.p (.sl .nil 0 0 (fun _ => [])),pI 0])
abbrev c108e2 (r3 : Aa) : Nat × Obj := (1056,bx [ow 1152 r3.tree.nodes.length,pI r3.tree.next,ow 1153 r3.tasks.length,pI r3.next])
theorem AbW (p0 : Aa) (p1 : As) (RES : Aa × Int × Int) (hm : Tc p0 p1 = some RES) : Spec Tryz.prog 164 [.p (.agg (Ab p0)),.p (.agg (Au p1))] [] (.tup [.agg [ow 0 RES.1.tree.nodes.length,pI RES.1.tree.next,ow 1 RES.1.tasks.length,pI RES.1.next],pI RES.2.1,pI RES.2.2]) [] [Af RES.1.tree.nodes,Ap RES.1.tasks] := by
 unfold Tc at hm
 refine SO Tryz.func164 rfl rfl [(0,.p (.agg (Ab p0))),(1,.p (.agg (Au p1)))] [] ?_
 intro cx hnt
 refine Sq (RK hnt (nn 5 []) [(2,rr 1016),(3,rr 1024),(4,rr 1032)] [(1016,bx (pm (Ab p0))),(1024,bx (pm (Au p1))),(AdH)] tv ?_)
 refine Sq (Sq (DW.regJ (sl2 := [(2,rr 1016),(3,rr 1024),(4,rr 1032),(16,pB ((decide (((p0.tasks.length : Nat) : Int) ≥ 128)) || (decide (p0.next > 2147483647))))]) (ob2 := [(1016,bx (pm (Ab p0))),(1024,bx (pm (Au p1))),(AdH)]) ?_ ?_))
 ·rcases bt (decide (((p0.tasks.length : Nat) : Int) ≥ 128)) with h1 | h1
  ·exact RT hnt (nn 5 (sk 3 (pT :: []))) [(16,pB true)] (an4 h1 tv) (by kernel_rfl) (.cons rfl (.of_eq (by rw [h1]; try rfl)) .nil)
  ·exact RT hnt (nn 8 (pF :: [])) [(16,pB (decide (p0.next > 2147483647)))] (an4 h1 tv) (by kernel_rfl) (.cons rfl (.of_eq (by rw [h1]; try rfl)) .nil)
 ·refine Ag hm ?_ ?_
  ·intro h2 hm
   refine Sq (RD hnt (nn 4 []) [2,3,16] [(5,pI 0),(6,pI 7)] [1016,1024] [] tv ?_)
   refine DW.cv [] [] [] [(1032,bx [ow 100000 0,pI 0,ow 100001 0,pI 0]),(100000,ob0 (Af [])),(100001,ob0 (Ap []))] (Conv.ads [(.o 1032 0,100000,6,elems Al Bf []),(.o 1032 2,100001,4,elems Au Bs [])]) ?_
   obtain rfl := sj hm
   exact DW.ret (Ai [Af [],Ap []] [100000,100001] (.tup [.agg [ow 0 0,pI 0,ow 1 0,pI 0],pI 0,pI 7]))
  ·intro h2 hm
   refine Sk ?_
   obtain ⟨r3,hr3,hm⟩ := bo hm
   refine Sq (RD hnt (.no :: o103 [] true r3 :: nn 2 []) [16] [(7,rr 1056)] [] [(c108e2 r3),(1152,ob0 (Af r3.tree.nodes)),(1153,ob0 (Ap r3.tasks))] (an (Qx p0 r3 hr3) tv) ?_)
   refine Sq (RD hnt (nn 4 []) [2] [] [1016] [(1024,bx [pI p0.next,pI p1.process,pI p1.group,pI p1.user])] tv ?_)
   refine Sq (Sq (RD hnt (nn 3 []) [] [(25,pB (p1.process == 0))] [] [] tv ?_))
   refine Jn (ι := As) (fun (y1 : As) => Aj [(3,rr 1024),(4,rr 1032),(7,rr 1056)] [(1024,bx (pm (Au y1))),(AdH),(c108e2 r3),(1152,ob0 (Af r3.tree.nodes)),(1153,ob0 (Ap r3.tasks))]) (fun y1 => (Sr r3) y1 = some RES) ?_ ?_
   ·intro y1 hm
    unfold Sr at hm
    obtain ⟨g5,hm⟩ := go1 hm
    refine Sq (RN hnt (nn 7 []) [(3,rr 1024),(4,rr 1032),(7,rr 1056)] [(1024,bx (pm (Au y1))),(AdH),(1056,bx [ow 1152 r3.tree.nodes.length,pI r3.tree.next,ow 1153 (r3.tasks ++ [y1]).length,pI r3.next]),(1152,ob0 (Af r3.tree.nodes)),(1153,ob0 (Ap (r3.tasks ++ [y1])))] [] [(1056,.box [ow 1152 r3.tree.nodes.length,pI r3.tree.next,ow 1153 (r3.tasks.length + 1),pI r3.next]),(1153,.row 4 (r3.tasks.length + 1) (Dy r3.tasks.length (Aab r3.tasks) (cut 4 [vi y1.id,vi y1.process,vi y1.group,vi y1.user])))] (an (by omega : (r3.tasks.length + 1) * 32 ≤ 140737488355328) tv) (by kernel_rfl) .nil (.cons rfl (.box (.cons .rfl (.cons .rfl (.cons (MLe.ownLen (enc := Au) (d := Bs) (f := (Dy r3.tasks.length (Aab r3.tasks) (cut 4 [vi y1.id,vi y1.process,vi y1.group,vi y1.user]))) (RowIs.cat RowIs.elems (RowIs.lit (enc := Au) (d := Bs) (n := 1) (f := (cut 4 [vi y1.id,vi y1.process,vi y1.group,vi y1.user])) [y1] rfl (fun | 0,_ => rfl | n + 1,h => absurd h (by omega))))) (.cons .rfl .nil))))) (.cons rfl (BLe.typed (RowIs.cat RowIs.elems (RowIs.lit (enc := Au) (d := Bs) (n := 1) (f := (cut 4 [vi y1.id,vi y1.process,vi y1.group,vi y1.user])) [y1] rfl (fun | 0,_ => rfl | n + 1,h => absurd h (by omega))))) .nil)) ?_)
    refine Sq (RD hnt (nn 5 []) [] [] [] [(1056,bx [ow 1152 r3.tree.nodes.length,pI r3.tree.next,ow 1153 (r3.tasks ++ [y1]).length,pI (w64 (r3.next + 1))])] tv ?_)
    refine Sq (RD hnt (nn 6 []) [3,7] [(5,pI y1.id),(6,pI 0)] [1024,1056] [(1032,bx [ow 1152 r3.tree.nodes.length,pI r3.tree.next,ow 1153 (r3.tasks ++ [y1]).length,pI (w64 (r3.next + 1))])] tv ?_)
    obtain rfl := sj hm
    exact DW.ret (Ai [Af r3.tree.nodes,Ap (r3.tasks ++ [y1])] [1152,1153] (.tup [.agg [ow 0 r3.tree.nodes.length,pI r3.tree.next,ow 1 (r3.tasks ++ [y1]).length,pI (w64 (r3.next + 1))],pI y1.id,pI 0]))
   ·refine Ag hm ?_ ?_
    ·intro h4 hm
     refine RD hnt (nn 4 []) [25] [] [] [(1024,bx [pI p0.next,pI p0.next,pI p1.group,pI p1.user])] tv ?_
     exact jD ({ id := p0.next,process := p0.next,group := p1.group,user := p1.user } : As) hm Conv.eqK
    ·intro h4 hm
     refine Sk ?_
     exact jD ({ id := p0.next,process := p1.process,group := p1.group,user := p1.user } : As) hm Conv.t0
abbrev o108 (ks : List Nat) (b : Bool) (RES : Aa × Int × Int) (sm : List Nat := []) : Orc := .call 164 ks b (.tup [.agg [ow 0 RES.1.tree.nodes.length,pI RES.1.tree.next,ow 1 RES.1.tasks.length,pI RES.1.next],pI RES.2.1,pI RES.2.2]) [] [Af RES.1.tree.nodes,Ap RES.1.tasks] sm

abbrev c107e1 : Nat × Obj := (1048,bx [.p (.sl .nil 0 0 (fun _ => [])),pI 0,.p (.sl .nil 0 0 (fun _ => [])),pI 0])
theorem Aeq (p0 : Aa) (p1 : Int) (p2 : Int) (RES : Aa × Int × Int) (hm : Sf p0 p1 p2 = some RES) : Spec Tryz.prog 84 [.p (.agg (Ab p0)),pI p1,pI p2] [] (.tup [.agg [ow 0 RES.1.tree.nodes.length,pI RES.1.tree.next,ow 1 RES.1.tasks.length,pI RES.1.next],pI RES.2.1,pI RES.2.2]) [] [Af RES.1.tree.nodes,Ap RES.1.tasks] := by
 unfold Sf at hm
 refine SO Tryz.func84 rfl rfl [(0,.p (.agg (Ab p0))),(1,pI p1),(2,pI p2)] [] ?_
 intro cx hnt
 refine Sq (RD hnt (nn 4 []) [0] [(3,rr 1024),(6,rr 1048)] [] [(1024,bx (pm (Ab p0))),(c107e1)] tv ?_)
 obtain ⟨r1,hr1,hm⟩ := bo hm
 refine Sq (Sq ?_)
 refine Jn (ι := Bool) (fun (y1 : Bool) => Aj [(1,pI p1),(2,pI p2),(3,rr 1024),(6,rr 1048),(19,pB y1)] [(1024,bx (pm (Ab p0))),(c107e1)]) (fun y1 => (Mm p0 p1 p2) y1 = some RES) ?_ ?_
 ·intro y1 hm
  unfold Mm at hm
  refine Ag hm ?_ ?_
  ·intro h4 hm
   refine Sq (RD hnt (nn 4 []) [1,2,3,19] [(7,pI 0),(8,pI 1)] [1024] [] tv ?_)
   refine DW.cv [] [] [] [(1048,bx [ow 100000 0,pI 0,ow 100001 0,pI 0]),(100000,ob0 (Af [])),(100001,ob0 (Ap []))] (Conv.ads [(.o 1048 0,100000,6,elems Al Bf []),(.o 1048 2,100001,4,elems Au Bs [])]) ?_
   obtain rfl := sj hm
   exact DW.ret (Ai [Af [],Ap []] [100000,100001] (.tup [.agg [ow 0 0,pI 0,ow 1 0,pI 0],pI 0,pI 1]))
  ·intro h4 hm
   refine Sk ?_
   obtain ⟨r5,hr5,hm⟩ := bo hm
   refine Sq (Sq (RD hnt (nn 3 (o79 [] true r5 :: .no :: [])) [19] [(25,pB (!r5))] [] [] (an (Cw p0.tree p1 r5 hr5) tv) ?_))
   refine Ag hm ?_ ?_
   ·intro h6 hm
    refine Sq (RD hnt (nn 4 []) [1,2,3,25] [(7,pI 0),(8,pI 4)] [1024] [] tv ?_)
    refine DW.cv [] [] [] [(1048,bx [ow 100000 0,pI 0,ow 100001 0,pI 0]),(100000,ob0 (Af [])),(100001,ob0 (Ap []))] (Conv.ads [(.o 1048 0,100000,6,elems Al Bf []),(.o 1048 2,100001,4,elems Au Bs [])]) ?_
    obtain rfl := sj hm
    exact DW.ret (Ai [Af [],Ap []] [100000,100001] (.tup [.agg [ow 0 0,pI 0,ow 1 0,pI 0],pI 0,pI 4]))
   ·intro h6 hm
    refine Sk ?_
    obtain ⟨r7,hr7,hm⟩ := bo hm
    refine Sq (RK hnt (nn 4 (o108 [] true r7 :: nn 6 [])) [(6,rr 1048),(7,pI r7.2.1),(8,pI r7.2.2)] [(1048,bx [ow 1248 r7.1.tree.nodes.length,pI r7.1.tree.next,ow 1249 r7.1.tasks.length,pI r7.1.next]),(1248,ob0 (Af r7.1.tree.nodes)),(1249,ob0 (Ap r7.1.tasks))] (an (AbW p0 ({ id := 0,process := 0,group := p1,user := p2 } : As) r7 hr7) tv) ?_)
    obtain rfl := sj hm
    exact DW.ret (Ai [Af r7.1.tree.nodes,Ap r7.1.tasks] [1248,1249] (.tup [.agg [ow 0 r7.1.tree.nodes.length,pI r7.1.tree.next,ow 1 r7.1.tasks.length,pI r7.1.next],pI r7.2.1,pI r7.2.2]))
 ·rcases bt (!r1) with h2 | h2
  ·replace hm := Bh h2 hm
   refine RD hnt (.no :: o93 [] true r1 :: nn 2 (sk 2 (pT :: .no :: sk 2 (pT :: [])))) [] [(19,pB true)] [] [] (an (Gh p0 r1 hr1) (an3 h2 (an3 tt tv))) ?_
   exact jD true hm Conv.eqK
  ·replace hm := Bg h2 hm
   rcases bt (decide (p2 < 0)) with h3 | h3
   ·replace hm := Bh h3 hm
    refine RD hnt (.no :: o93 [] true r1 :: nn 4 (pF :: .no :: sk 2 (pT :: []))) [] [(19,pB true)] [] [] (an (Gh p0 r1 hr1) (an3 h2 (an3 h3 tv))) ?_
    exact jD true hm Conv.eqK
   ·replace hm := Bg h3 hm
    refine RD hnt (.no :: o93 [] true r1 :: nn 4 (pF :: nn 3 (pF :: []))) [] [(19,pB (decide (p2 > 1048576)))] [] [] (an (Gh p0 r1 hr1) (an3 h2 (an3 h3 tv))) ?_
    exact jD (decide (p2 > 1048576)) hm Conv.eqK
abbrev o107 (ks : List Nat) (b : Bool) (RES : Aa × Int × Int) (sm : List Nat := []) : Orc := .call 84 ks b (.tup [.agg [ow 0 RES.1.tree.nodes.length,pI RES.1.tree.next,ow 1 RES.1.tasks.length,pI RES.1.next],pI RES.2.1,pI RES.2.2]) [] [Af RES.1.tree.nodes,Ap RES.1.tasks] sm

theorem Ow (p0 : Aw) (p1 : Aa) (RES : Int × Aw) (hm : Io p0 p1 = some RES) : Spec Tryz.prog 21 [rr 0,.p (.agg (Ab p1))] [.box (pm (Aq p0))] (pI RES.1) [.box (pm (Aq RES.2))] [] := by
 unfold Io at hm
 refine SO Tryz.func21 rfl rfl [(0,rr 0),(1,.p (.agg (Ab p1)))] [(0,bx (pm (Aq p0)))] ?_
 intro cx hnt
 refine Sq (RD hnt (nn 2 []) [1] [(3,rr 1024)] [] [(1024,bx (pm (Ab p1)))] tv ?_)
 obtain ⟨r1,hr1,hm⟩ := bo hm
 refine Sq (Sq ?_)
 refine Jn (ι := Bool) (fun (y1 : Bool) => Aj [(0,rr 0),(3,rr 1024),(12,pB y1)] [(0,bx (pm (Aq r1.2))),(1024,bx (pm (Ab p1)))]) (fun y1 => (Ik p1 r1) y1 = some RES) ?_ ?_
 ·intro y1 hm
  unfold Ik at hm
  refine Ag hm ?_ ?_
  ·intro h3 hm
   obtain ⟨r4,hr4,hm⟩ := bo hm
   refine Sq (RK hnt (.no :: o72 [0] true r4 :: nn 2 []) [(4,pI (w64 (r4.1 - 1)))] [(0,bx (pm (Aq r4.2)))] (an (Bw r1.2 9 r4 hr4) (an tv tv)) ?_)
   obtain rfl := sj hm
   exact DW.ret (Ai [.box (pm (Aq r4.2))] [] (pI (w64 (r4.1 - 1))))
  ·intro h3 hm
   refine Sk ?_
   obtain ⟨r5,hr5,hm⟩ := bo hm
   obtain ⟨g6,hm⟩ := go1 hm
   refine Sq (RK hnt (nn 6 (o72 [0] true r5 :: nn 4 [])) [(4,pI (p1.tasks.getD (Int.toNat r5.1) Bs).id)] [(0,bx (pm (Aq r5.2)))] (an (Bw r1.2 ((p1.tasks.length : Nat) : Int) r5 hr5) (an tv (an g6.1 (an g6.2 tv)))) ?_)
   obtain rfl := sj hm
   exact DW.ret (Ai [.box (pm (Aq r5.2))] [] (pI (p1.tasks.getD (Int.toNat r5.1) Bs).id))
 ·rcases bt r1.1 with h2 | h2
  ·replace hm := Bh h2 hm
   refine RD hnt (.no :: o84 [0] true r1 :: .no :: sk 4 (pT :: [])) [] [(12,pB true)] [] [(0,bx (pm (Aq r1.2)))] (an (Fg p0 15 r1 hr1) (an tv (an5 h2 tv))) ?_
   exact jD true hm Conv.eqK
  ·replace hm := Bg h2 hm
   refine RD hnt (.no :: o84 [0] true r1 :: nn 5 (pF :: [])) [] [(12,pB (((p1.tasks.length : Nat) : Int) == 0))] [] [(0,bx (pm (Aq r1.2)))] (an (Fg p0 15 r1 hr1) (an tv (an5 h2 tv))) ?_
   exact jD (((p1.tasks.length : Nat) : Int) == 0) hm Conv.eqK
abbrev o109 (ks : List Nat) (b : Bool) (RES : Int × Aw) (sm : List Nat := []) : Orc := .call 21 ks b (pI RES.1) [.box (pm (Aq RES.2))] [] sm

theorem Aes (p0 : Aa) (p1 : Int) (RES : Aa × Int × Int) (hm : Su p0 p1 = some RES) : Spec Tryz.prog 85 [.p (.agg (Ab p0)),pI p1] [] (.tup [.agg [ow 0 RES.1.tree.nodes.length,pI RES.1.tree.next,ow 1 RES.1.tasks.length,pI RES.1.next],pI RES.2.1,pI RES.2.2]) [] [Af RES.1.tree.nodes,Ap RES.1.tasks] := by
 unfold Su at hm
 refine SO Tryz.func85 rfl rfl [(0,.p (.agg (Ab p0))),(1,pI p1)] [] ?_
 intro cx hnt
 refine Sq (RK hnt (nn 4 []) [(1,pI p1),(2,rr 1016),(4,rr 1032)] [(1016,bx (pm (Ab p0))),(1032,bx [.p (.sl .nil 0 0 (fun _ => [])),pI 0,.p (.sl .nil 0 0 (fun _ => [])),pI 0])] tv ?_)
 obtain ⟨r1,hr1,hm⟩ := bo hm
 refine Sq (Sq (RD hnt (.no :: o93 [] true r1 :: .no :: []) [] [(11,pB (!r1))] [] [] (an (Gh p0 r1 hr1) tv) ?_))
 refine Ag hm ?_ ?_
 ·intro h2 hm
  refine Sq (RD hnt (nn 4 []) [1,2,11] [(5,pI 0),(6,pI 1)] [1016] [] tv ?_)
  refine DW.cv [] [] [] [(1032,bx [ow 100000 0,pI 0,ow 100001 0,pI 0]),(100000,ob0 (Af [])),(100001,ob0 (Ap []))] (Conv.ads [(.o 1032 0,100000,6,elems Al Bf []),(.o 1032 2,100001,4,elems Au Bs [])]) ?_
  obtain rfl := sj hm
  exact DW.ret (Ai [Af [],Ap []] [100000,100001] (.tup [.agg [ow 0 0,pI 0,ow 1 0,pI 0],pI 0,pI 1]))
 ·intro h2 hm
  refine Sk ?_
  obtain ⟨r3,hr3,hm⟩ := bo hm
  refine Sq (RD hnt (nn 2 (o98 [] true r3 :: nn 6 [])) [1,11] [(7,rr 1056),(8,pB r3.2)] [] [(1056,bx (pm (Au r3.1)))] (an (Nq p0 p1 r3 hr3) tv) ?_)
  refine Sq (Sq (RD hnt (nn 2 []) [8] [(20,pB (!r3.2))] [] [] tv ?_))
  refine Ag hm ?_ ?_
  ·intro h4 hm
   refine Sq (RD hnt (nn 4 []) [2,7,20] [(5,pI 0),(6,pI 4)] [1016,1056] [] tv ?_)
   refine DW.cv [] [] [] [(1032,bx [ow 100000 0,pI 0,ow 100001 0,pI 0]),(100000,ob0 (Af [])),(100001,ob0 (Ap []))] (Conv.ads [(.o 1032 0,100000,6,elems Al Bf []),(.o 1032 2,100001,4,elems Au Bs [])]) ?_
   obtain rfl := sj hm
   exact DW.ret (Ai [Af [],Ap []] [100000,100001] (.tup [.agg [ow 0 0,pI 0,ow 1 0,pI 0],pI 0,pI 4]))
  ·intro h4 hm
   refine Sk ?_
   obtain ⟨r5,hr5,hm⟩ := bo hm
   refine Sq (RK hnt (nn 2 (o108 [] true r5 :: nn 6 [])) [(4,rr 1032),(5,pI r5.2.1),(6,pI r5.2.2)] [(1032,bx [ow 1192 r5.1.tree.nodes.length,pI r5.1.tree.next,ow 1193 r5.1.tasks.length,pI r5.1.next]),(1192,ob0 (Af r5.1.tree.nodes)),(1193,ob0 (Ap r5.1.tasks))] (an (AbW p0 r3.1 r5 hr5) tv) ?_)
   obtain rfl := sj hm
   exact DW.ret (Ai [Af r5.1.tree.nodes,Ap r5.1.tasks] [1192,1193] (.tup [.agg [ow 0 r5.1.tree.nodes.length,pI r5.1.tree.next,ow 1 r5.1.tasks.length,pI r5.1.next],pI r5.2.1,pI r5.2.2]))
abbrev o110 (ks : List Nat) (b : Bool) (RES : Aa × Int × Int) (sm : List Nat := []) : Orc := .call 85 ks b (.tup [.agg [ow 0 RES.1.tree.nodes.length,pI RES.1.tree.next,ow 1 RES.1.tasks.length,pI RES.1.next],pI RES.2.1,pI RES.2.2]) [] [Af RES.1.tree.nodes,Ap RES.1.tasks] sm

abbrev Abx (s1 : (List As) × Int) (p2 : Int) := ({ id := (s1.1.getD (Int.toNat s1.2) Bs).id,process := (s1.1.getD (Int.toNat s1.2) Bs).process,group := p2,user := (s1.1.getD (Int.toNat s1.2) Bs).user } : As)
abbrev Aca : Nat × Obj := (1048,bx [.p (.sl .nil 0 0 (fun _ => [])),pI 0,.p (.sl .nil 0 0 (fun _ => [])),pI 0])
abbrev c112e3 (s1 : (List As) × Int) (p2 : Int) := (Bz (Aab s1.1) (Int.toNat s1.2) [vi (s1.1.getD (Int.toNat s1.2) Bs).id,vi (s1.1.getD (Int.toNat s1.2) Bs).process,vi p2,vi (s1.1.getD (Int.toNat s1.2) Bs).user])
theorem Aei (p0 : Aa) (p1 : Int) (p2 : Int) (RES : Aa × Int) (hm : Sn p0 p1 p2 = some RES) : Spec Tryz.prog 64 [.p (.agg (Ab p0)),pI p1,pI p2] [] (.tup [.agg [ow 0 RES.1.tree.nodes.length,pI RES.1.tree.next,ow 1 RES.1.tasks.length,pI RES.1.next],pI RES.2]) [] [Af RES.1.tree.nodes,Ap RES.1.tasks] := by
 unfold Sn at hm
 refine SO Tryz.func64 rfl rfl [(0,.p (.agg (Ab p0))),(1,pI p1),(2,pI p2)] [] ?_
 intro cx hnt
 refine Sq (RD hnt (nn 3 []) [0] [(3,rr 1024),(6,rr 1048)] [] [(1024,bx (pm (Ab p0))),(Aca)] tv ?_)
 obtain ⟨r1,hr1,hm⟩ := bo hm
 refine Sq (Sq (RD hnt (.no :: o93 [] true r1 :: .no :: []) [] [(14,pB (!r1))] [] [] (an (Gh p0 r1 hr1) tv) ?_))
 refine Ag hm ?_ ?_
 ·intro h2 hm
  refine Sq (RD hnt (nn 3 []) [1,2,3,14] [(7,pI 1)] [1024] [] tv ?_)
  refine DW.cv [] [] [] [(1048,bx [ow 100000 0,pI 0,ow 100001 0,pI 0]),(100000,ob0 (Af [])),(100001,ob0 (Ap []))] (Conv.ads [(.o 1048 0,100000,6,elems Al Bf []),(.o 1048 2,100001,4,elems Au Bs [])]) ?_
  obtain rfl := sj hm
  exact DW.ret (Ai [Af [],Ap []] [100000,100001] (.tup [.agg [ow 0 0,pI 0,ow 1 0,pI 0],pI 1]))
 ·intro h2 hm
  refine Sk ?_
  obtain ⟨r3,hr3,hm⟩ := bo hm
  refine Sq (Sq (RD hnt (nn 2 (o98 [] true r3 :: nn 6 [])) [14] [(9,pB r3.2)] [] [] (an (Nq p0 p1 r3 hr3) tv) ?_))
  refine Sq ?_
  refine Jn (ι := Bool) (fun (y1 : Bool) => Aj [(1,pI p1),(2,pI p2),(3,rr 1024),(6,rr 1048),(30,pB y1)] [(1024,bx (pm (Ab p0))),(Aca)]) (fun y1 => (Pi p0 p1 p2) y1 = some RES) ?_ ?_
  ·intro y1 hm
   unfold Pi at hm
   refine Ag hm ?_ ?_
   ·intro h6 hm
    refine Sq (RD hnt (nn 3 []) [1,2,3,30] [(7,pI 4)] [1024] [] tv ?_)
    refine DW.cv [] [] [] [(1048,bx [ow 100000 0,pI 0,ow 100001 0,pI 0]),(100000,ob0 (Af [])),(100001,ob0 (Ap []))] (Conv.ads [(.o 1048 0,100000,6,elems Al Bf []),(.o 1048 2,100001,4,elems Au Bs [])]) ?_
    obtain rfl := sj hm
    exact DW.ret (Ai [Af [],Ap []] [100000,100001] (.tup [.agg [ow 0 0,pI 0,ow 1 0,pI 0],pI 4]))
   ·intro h6 hm
    refine Sk ?_
    obtain ⟨r7,hr7,hm⟩ := bo hm
    refine Sq (RD hnt (.no :: o103 [] true r7 :: nn 2 []) [3,30] [(10,rr 1080)] [1024] [(1080,bx [ow 1264 r7.tree.nodes.length,pI r7.tree.next,ow 1265 r7.tasks.length,pI r7.next]),(1264,ob0 (Af r7.tree.nodes)),(1265,ob0 (Ap r7.tasks))] (an (Qx p0 r7 hr7) tv) ?_)
    refine Sq (Sq (RD hnt (.no :: []) [] [(11,pI 0)] [] [] tv ?_))
    refine Bk ?_
    refine DW.whileO (fun (s1 : (List As) × Int) => Aj [(1,pI p1),(2,pI p2),(6,rr 1048),(10,rr 1080),(11,pI s1.2)] [(Aca),(1080,bx [ow 1264 r7.tree.nodes.length,pI r7.tree.next,ow 1265 s1.1.length,pI r7.next]),(1264,ob0 (Af r7.tree.nodes)),(1265,ob0 (Ap s1.1))]) hm Conv.eqK ?_
    intro s1 n1 hm
    unfold Oy at hm
    refine Sq (Sq (RD hnt (nn 5 []) [] [(38,pB (decide (s1.2 < ((s1.1.length : Nat) : Int))))] [] [] tv ?_))
    refine Ag hm ?_ ?_
    ·intro h14 hm
     refine Sk ?_
     refine Sq ?_
     refine Jn (ι := List As) (fun (y3 : List As) => Aj [(1,pI p1),(2,pI p2),(6,rr 1048),(10,rr 1080),(11,pI s1.2)] [(Aca),(1080,bx [ow 1264 r7.tree.nodes.length,pI r7.tree.next,ow 1265 y3.length,pI r7.next]),(1264,ob0 (Af r7.tree.nodes)),(1265,ob0 (Ap y3))]) (fun y3 => (Ox s1 n1) y3 = some RES) ?_ ?_
     ·intro y3 hm
      unfold Ox at hm
      refine RD hnt (nn 3 []) [] [(11,pI (w64 (s1.2 + 1)))] [] [] tv ?_
      exact jD (y3,(w64 (s1.2 + 1))) hm Conv.eqK
     ·refine Bk ?_
      obtain ⟨g15,g16,hm⟩ := go2 hm
      refine Sq (RD hnt (nn 8 []) [38] [(48,pB ((s1.1.getD (Int.toNat s1.2) Bs).id == p1))] [] [] (an g15.1 (an g15.2 (an g16 tv))) ?_)
      refine Ag hm ?_ ?_
      ·intro h17 hm
       obtain ⟨g18,g19,hm⟩ := go2 hm
       refine RN hnt (nn 7 []) [(1,pI p1),(2,pI p2),(6,rr 1048),(10,rr 1080),(11,pI s1.2)] [(Aca),(1080,bx [ow 1264 r7.tree.nodes.length,pI r7.tree.next,ow 1265 (s1.1.set (Int.toNat s1.2) (Abx s1 p2)).length,pI r7.next]),(1264,ob0 (Af r7.tree.nodes)),(1265,ob0 (Ap (s1.1.set (Int.toNat s1.2) (Abx s1 p2))))] [] [(1080,.box [ow 1264 r7.tree.nodes.length,pI r7.tree.next,ow 1265 s1.1.length,pI r7.next]),(1265,.row 4 s1.1.length (c112e3 s1 p2))] (an g18.1 (an g18.2 (an g19 tv))) (by kernel_rfl) .nil (.cons rfl (.box (.cons .rfl (.cons .rfl (.cons (MLe.ownLen (enc := Au) (d := Bs) (f := (c112e3 s1 p2)) (RowIs.upd RowIs.elems (Abx s1 p2) rfl)) (.cons .rfl .nil))))) (.cons rfl (BLe.typed (RowIs.upd RowIs.elems (Abx s1 p2) rfl)) .nil)) ?_
       exact bD (s1.1.set (Int.toNat s1.2) (Abx s1 p2)) hm .refl
      ·intro h17 hm
       refine Sk ?_
       exact bD s1.1 hm Conv.t0
    ·intro h14 hm
     refine DW.exit ?_
     refine An ?_
     refine Ax ?_
     refine Ak ?_
     show DW _ _ _ _ _
     refine Sq (RD hnt (nn 3 []) [1,2,10,11,38] [(7,pI 0)] [1080] [(1048,bx [ow 1264 r7.tree.nodes.length,pI r7.tree.next,ow 1265 s1.1.length,pI r7.next])] tv ?_)
     obtain rfl := sj hm
     exact DW.ret (Ai [Af r7.tree.nodes,Ap s1.1] [1264,1265] (.tup [.agg [ow 0 r7.tree.nodes.length,pI r7.tree.next,ow 1 s1.1.length,pI r7.next],pI 0]))
  ·rcases bt (!r3.2) with h4 | h4
   ·replace hm := Bh h4 hm
    refine RD hnt (nn 3 (sk 5 (pT :: []))) [9] [(30,pB true)] [] [] (an6 h4 tv) ?_
    exact jD true hm Conv.eqK
   ·replace hm := Bg h4 hm
    obtain ⟨r5,hr5,hm⟩ := bo hm
    refine RD hnt (nn 6 (o79 [] true r5 :: .no :: pF :: [])) [9] [(30,pB (!r5))] [] [] (an4 h4 (an (Cw p0.tree p2 r5 hr5) (an2 h4 tv))) ?_
    exact jD (!r5) hm Conv.eqK
abbrev o112 (ks : List Nat) (b : Bool) (RES : Aa × Int) (sm : List Nat := []) : Orc := .call 64 ks b (.tup [.agg [ow 0 RES.1.tree.nodes.length,pI RES.1.tree.next,ow 1 RES.1.tasks.length,pI RES.1.next],pI RES.2]) [] [Af RES.1.tree.nodes,Ap RES.1.tasks] sm

abbrev Aec : Nat × Obj := (1048,bx [ow 100000 0,pI 0,ow 100001 0,pI 0])
abbrev c111e2 : Nat × Obj := (1048,bx [.p (.sl .nil 0 0 (fun _ => [])),pI 0,.p (.sl .nil 0 0 (fun _ => [])),pI 0])
theorem Zr (p0 : Aa) (p1 : Int) (p2 : Int) (RES : Aa × Int) (hm : Jt p0 p1 p2 = some RES) : Spec Tryz.prog 86 [.p (.agg (Ab p0)),pI p1,pI p2] [] (.tup [.agg [ow 0 RES.1.tree.nodes.length,pI RES.1.tree.next,ow 1 RES.1.tasks.length,pI RES.1.next],pI RES.2]) [] [Af RES.1.tree.nodes,Ap RES.1.tasks] := by
 unfold Jt at hm
 refine SO Tryz.func86 rfl rfl [(0,.p (.agg (Ab p0))),(1,pI p1),(2,pI p2)] [] ?_
 intro cx hnt
 refine Sq (RD hnt (nn 3 []) [0] [(3,rr 1024),(6,rr 1048)] [] [(1024,bx (pm (Ab p0))),(c111e2)] tv ?_)
 obtain ⟨r1,hr1,hm⟩ := bo hm
 refine Sq (Sq (RD hnt (.no :: o91 [] true r1 :: .no :: []) [] [(17,pB (!r1))] [] [] (an (Lj p0 r1 hr1) tv) ?_))
 refine Ag hm ?_ ?_
 ·intro h2 hm
  refine Sq (RD hnt (nn 3 []) [1,2,3,17] [(7,pI 1)] [1024] [] tv ?_)
  refine DW.cv [] [] [] [(Aec),(100000,ob0 (Af [])),(100001,ob0 (Ap []))] (Conv.ads [(.o 1048 0,100000,6,elems Al Bf []),(.o 1048 2,100001,4,elems Au Bs [])]) ?_
  obtain rfl := sj hm
  exact DW.ret (Ai [Af [],Ap []] [100000,100001] (.tup [.agg [ow 0 0,pI 0,ow 1 0,pI 0],pI 1]))
 ·intro h2 hm
  refine Sk ?_
  obtain ⟨r3,hr3,hm⟩ := bo hm
  refine Sq (RD hnt (nn 2 (o98 [] true r3 :: nn 6 [])) [17] [(8,rr 1064),(9,pB r3.2)] [] [(1064,bx (pm (Au r3.1)))] (an (Nq p0 p1 r3 hr3) tv) ?_)
  refine Sq (Sq ?_)
  refine Jn (ι := Bool) (fun (y1 : Bool) => Aj [(1,pI p1),(2,pI p2),(3,rr 1024),(6,rr 1048),(8,rr 1064),(33,pB y1)] [(1024,bx (pm (Ab p0))),(c111e2),(1064,bx (pm (Au r3.1)))]) (fun y1 => (Gs p0 p1 p2 r3) y1 = some RES) ?_ ?_
  ·intro y1 hm
   unfold Gs at hm
   refine Ag hm ?_ ?_
   ·intro h6 hm
    refine Sq (RD hnt (nn 3 []) [1,2,3,8,33] [(7,pI 4)] [1024,1064] [] tv ?_)
    refine DW.cv [] [] [] [(Aec),(100000,ob0 (Af [])),(100001,ob0 (Ap []))] (Conv.ads [(.o 1048 0,100000,6,elems Al Bf []),(.o 1048 2,100001,4,elems Au Bs [])]) ?_
    obtain rfl := sj hm
    exact DW.ret (Ai [Af [],Ap []] [100000,100001] (.tup [.agg [ow 0 0,pI 0,ow 1 0,pI 0],pI 4]))
   ·intro h6 hm
    refine Sk ?_
    obtain ⟨r7,hr7,hm⟩ := bo hm
    refine Sq (Sq (RD hnt (nn 2 (o106 [] true r7 :: .no :: [])) [33] [(10,pI r7)] [] [] (an (Ym p0 p2 r7 hr7) tv) ?_))
    refine Sq (RD hnt (nn 2 []) [] [(39,pB (r7 != 0))] [] [] tv ?_)
    refine Ag hm ?_ ?_
    ·intro h8 hm
     refine Sq (RD hnt (nn 4 []) [1,2,3,8,10,39] [(7,pI r7)] [1024,1064] [] tv ?_)
     refine DW.cv [] [] [] [(Aec),(100000,ob0 (Af [])),(100001,ob0 (Ap []))] (Conv.ads [(.o 1048 0,100000,6,elems Al Bf []),(.o 1048 2,100001,4,elems Au Bs [])]) ?_
     obtain rfl := sj hm
     exact DW.ret (Ai [Af [],Ap []] [100000,100001] (.tup [.agg [ow 0 0,pI 0,ow 1 0,pI 0],pI r7]))
    ·intro h8 hm
     refine Sk ?_
     obtain ⟨r9,hr9,hm⟩ := bo hm
     refine Sq (RD hnt (nn 3 (o99 [] true r9 :: nn 5 [])) [10,39] [(11,pI r9.1)] [] [] (an (Om p0.tree p2 r9 hr9) tv) ?_)
     obtain ⟨r10,hr10,hm⟩ := bo hm
     refine Sq (Sq (RD hnt (nn 4 (o99 [] true r10 :: nn 5 [])) [8] [(13,pI r10.1)] [1064] [] (an (Om p0.tree r3.1.group r10 hr10) tv) ?_))
     refine Sq (RD hnt (nn 3 []) [11,13] [(59,pB (r9.1 != r10.1))] [] [] tv ?_)
     refine Ag hm ?_ ?_
     ·intro h11 hm
      refine Sq (RD hnt (nn 3 []) [1,2,3,59] [(7,pI 9)] [1024] [] tv ?_)
      refine DW.cv [] [] [] [(Aec),(100000,ob0 (Af [])),(100001,ob0 (Ap []))] (Conv.ads [(.o 1048 0,100000,6,elems Al Bf []),(.o 1048 2,100001,4,elems Au Bs [])]) ?_
      obtain rfl := sj hm
      exact DW.ret (Ai [Af [],Ap []] [100000,100001] (.tup [.agg [ow 0 0,pI 0,ow 1 0,pI 0],pI 9]))
     ·intro h11 hm
      refine Sk ?_
      obtain ⟨r12,hr12,hm⟩ := bo hm
      refine Sq (RK hnt (nn 3 (o112 [] true r12 :: nn 4 [])) [(6,rr 1048),(7,pI r12.2)] [(1048,bx [ow 1512 r12.1.tree.nodes.length,pI r12.1.tree.next,ow 1513 r12.1.tasks.length,pI r12.1.next]),(1512,ob0 (Af r12.1.tree.nodes)),(1513,ob0 (Ap r12.1.tasks))] (an (Aei p0 p1 p2 r12 hr12) tv) ?_)
      obtain rfl := sj hm
      exact DW.ret (Ai [Af r12.1.tree.nodes,Ap r12.1.tasks] [1512,1513] (.tup [.agg [ow 0 r12.1.tree.nodes.length,pI r12.1.tree.next,ow 1 r12.1.tasks.length,pI r12.1.next],pI r12.2]))
  ·rcases bt (!r3.2) with h4 | h4
   ·replace hm := Bh h4 hm
    refine RD hnt (nn 3 (sk 5 (pT :: []))) [9] [(33,pB true)] [] [] (an6 h4 tv) ?_
    exact jD true hm Conv.eqK
   ·replace hm := Bg h4 hm
    obtain ⟨r5,hr5,hm⟩ := bo hm
    refine RD hnt (nn 6 (o79 [] true r5 :: .no :: pF :: [])) [9] [(33,pB (!r5))] [] [] (an4 h4 (an (Cw p0.tree p2 r5 hr5) (an2 h4 tv))) ?_
    exact jD (!r5) hm Conv.eqK
abbrev o111 (ks : List Nat) (b : Bool) (RES : Aa × Int) (sm : List Nat := []) : Orc := .call 86 ks b (.tup [.agg [ow 0 RES.1.tree.nodes.length,pI RES.1.tree.next,ow 1 RES.1.tasks.length,pI RES.1.next],pI RES.2]) [] [Af RES.1.tree.nodes,Ap RES.1.tasks] sm

abbrev Ew (p0 : Aa) (k1 : Nat) := (p0.tasks.getD k1 (default : As))
abbrev AbI : Nat × Obj := (1032,bx [.p (.sl .nil 0 0 (fun _ => [])),pI 0,.p (.sl .nil 0 0 (fun _ => [])),pI 0])
abbrev AbT (p0 : Aa) : Nat × Obj := (1016,bx (pm (Ab p0)))
theorem Afy (p0 : Aa) (p1 : Int) (RES : Aa × Int) (hm : Uk p0 p1 = some RES) : Spec Tryz.prog 87 [.p (.agg (Ab p0)),pI p1] [] (.tup [.agg [ow 0 RES.1.tree.nodes.length,pI RES.1.tree.next,ow 1 RES.1.tasks.length,pI RES.1.next],pI RES.2]) [] [Af RES.1.tree.nodes,Ap RES.1.tasks] := by
 unfold Uk at hm
 refine SO Tryz.func87 rfl rfl [(0,.p (.agg (Ab p0))),(1,pI p1)] [] ?_
 intro cx hnt
 refine Sq (RK hnt (nn 3 []) [(1,pI p1),(2,rr 1016),(4,rr 1032)] [(AbT p0),(AbI)] tv ?_)
 obtain ⟨r1,hr1,hm⟩ := bo hm
 refine Sq (Sq (RD hnt (.no :: o93 [] true r1 :: .no :: []) [] [(13,pB (!r1))] [] [] (an (Gh p0 r1 hr1) tv) ?_))
 refine Ag hm ?_ ?_
 ·intro h2 hm
  refine Sq (RD hnt (nn 3 []) [1,2,13] [(5,pI 1)] [1016] [] tv ?_)
  refine DW.cv [] [] [] [(1032,bx [ow 100000 0,pI 0,ow 100001 0,pI 0]),(100000,ob0 (Af [])),(100001,ob0 (Ap []))] (Conv.ads [(.o 1032 0,100000,6,elems Al Bf []),(.o 1032 2,100001,4,elems Au Bs [])]) ?_
  obtain rfl := sj hm
  exact DW.ret (Ai [Af [],Ap []] [100000,100001] (.tup [.agg [ow 0 0,pI 0,ow 1 0,pI 0],pI 1]))
 ·intro h2 hm
  refine Sk ?_
  obtain ⟨r3,hr3,hm⟩ := bo hm
  refine Sq (Sq (RD hnt (nn 2 (o98 [] true r3 :: nn 6 [])) [13] [(7,pB r3.2)] [] [] (an (Nq p0 p1 r3 hr3) tv) ?_))
  refine Sq (RD hnt (nn 2 []) [7] [(22,pB (!r3.2))] [] [] tv ?_)
  refine Ag hm ?_ ?_
  ·intro h4 hm
   refine Sq (RD hnt (nn 3 []) [1,2,22] [(5,pI 4)] [1016] [] tv ?_)
   refine DW.cv [] [] [] [(1032,bx [ow 100000 0,pI 0,ow 100001 0,pI 0]),(100000,ob0 (Af [])),(100001,ob0 (Ap []))] (Conv.ads [(.o 1032 0,100000,6,elems Al Bf []),(.o 1032 2,100001,4,elems Au Bs [])]) ?_
   obtain rfl := sj hm
   exact DW.ret (Ai [Af [],Ap []] [100000,100001] (.tup [.agg [ow 0 0,pI 0,ow 1 0,pI 0],pI 4]))
  ·intro h4 hm
   refine Sk ?_
   obtain ⟨r5,hr5,hm⟩ := bo hm
   refine Sq (RD hnt (nn 2 (o83 [] true r5 :: nn 5 [])) [22] [(8,rr 1064)] [] [(1064,bx [ow 1208 r5.nodes.length,pI r5.next,.p (.sl .nil 0 0 (fun _ => [])),pI p0.next]),(1208,ob0 (Af r5.nodes))] (an (Ra p0.tree r5 hr5) tv) ?_)
   refine Sq (Sq (RD hnt (.no :: []) [] [(9,pI 0)] [] [] tv ?_))
   refine Bk ?_
   obtain ⟨hc1,hm⟩ := go1 hm
   refine DW.rangeO (fun (k1 : Nat) (s1 : List As) => Aj [(1,pI p1),(2,rr 1016),(4,rr 1032),(8,rr 1064),(9,pI ((k1 : Nat) : Int))] [(AbT p0),(AbI),(1064,bx [ow 1208 r5.nodes.length,pI r5.next,ow 1448 s1.length,pI p0.next]),(1208,ob0 (Af r5.nodes)),(1448,ob0 (Ap s1))]) Bs hm (Conv.ads [(.o 1064 2,1448,4,elems Au Bs [])]) ?_
   intro k1 s1 n1 hk1 hs1 he1
   refine Sq (Sq (RD hnt (nn 5 []) [] [(34,pB (decide (((k1 : Nat) : Int) < ((p0.tasks.length : Nat) : Int))))] [] [] tv ?_))
   refine Cn (decide (((k1 : Nat) : Int) < ((p0.tasks.length : Nat) : Int))) ?_ ?_
   ·intro h15
    have hlt1 : k1 < p0.tasks.length := by have := of_decide_eq_true h15; omega
    have hm := hs1 hlt1
    unfold Tu at hm
    refine Sk ?_
    refine Sq ?_
    refine Jn (ι := List As) (fun (y3 : List As) => Aj [(1,pI p1),(2,rr 1016),(4,rr 1032),(8,rr 1064),(9,pI ((k1 : Nat) : Int))] [(AbT p0),(AbI),(1064,bx [ow 1208 r5.nodes.length,pI r5.next,ow 1448 y3.length,pI p0.next]),(1208,ob0 (Af r5.nodes)),(1448,ob0 (Ap y3))]) (fun y3 => (Qr n1) y3 = some RES) ?_ ?_
    ·intro y3 hm
     unfold Qr at hm
     refine RD hnt (nn 3 []) [] [(9,pI (w64 (((k1 : Nat) : Int) + 1)))] [] [] tv ?_
     exact jD y3 ⟨hlt1,hm⟩ (Conv.tp [(9,pI (w64 (((k1 : Nat) : Int) + 1)))] [] (by kernel_rfl) (.cons rfl (.of_eq (congrArg pI (Bo hlt1 hc1))) .nil) .nil)
    ·refine Bk ?_
     refine Sq (RD hnt (nn 7 []) [34] [(10,rr 1080)] [] [(1080,bx (pm (Au (Ew p0 k1))))] (an (nn0 k1) (an (ltc hlt1) tv)) ?_)
     refine Sq (DW.regJ (sl2 := [(1,pI p1),(2,rr 1016),(4,rr 1032),(8,rr 1064),(9,pI ((k1 : Nat) : Int)),(10,rr 1080),(51,pB (((Ew p0 k1).id != p1) && ((Ew p0 k1).process != p1)))]) (ob2 := [(AbT p0),(AbI),(1064,bx [ow 1208 r5.nodes.length,pI r5.next,ow 1448 s1.length,pI p0.next]),(1080,bx (pm (Au (Ew p0 k1)))),(1208,ob0 (Af r5.nodes)),(1448,ob0 (Ap s1))]) ?_ ?_)
     ·rcases bt ((Ew p0 k1).id != p1) with h16 | h16
      ·exact RT hnt (nn 9 (pT :: [])) [(51,pB ((Ew p0 k1).process != p1))] (an5 h16 tv) (by kernel_rfl) (.cons rfl (.of_eq (by rw [h16]; try rfl)) .nil)
      ·exact RT hnt (nn 5 (sk 4 (pF :: []))) [(51,pB false)] (an5 h16 tv) (by kernel_rfl) (.cons rfl (.of_eq (by rw [h16]; try rfl)) .nil)
     ·refine Ag hm ?_ ?_
      ·intro h17 hm
       obtain ⟨g18,hm⟩ := go1 hm
       refine RN hnt (nn 7 []) [(1,pI p1),(2,rr 1016),(4,rr 1032),(8,rr 1064),(9,pI ((k1 : Nat) : Int))] [(AbT p0),(AbI),(1064,bx [ow 1208 r5.nodes.length,pI r5.next,ow 1448 (s1 ++ [(Ew p0 k1)]).length,pI p0.next]),(1208,ob0 (Af r5.nodes)),(1448,ob0 (Ap (s1 ++ [(Ew p0 k1)])))] [] [(1064,.box [ow 1208 r5.nodes.length,pI r5.next,ow 1448 (s1.length + 1),pI p0.next]),(1448,.row 4 (s1.length + 1) (Dy s1.length (Aab s1) (cut 4 [vi (Ew p0 k1).id,vi (Ew p0 k1).process,vi (Ew p0 k1).group,vi (Ew p0 k1).user])))] (an (by omega : (s1.length + 1) * 32 ≤ 140737488355328) tv) (by kernel_rfl) .nil (.cons rfl (.box (.cons .rfl (.cons .rfl (.cons (MLe.ownLen (enc := Au) (d := Bs) (f := (Dy s1.length (Aab s1) (cut 4 [vi (Ew p0 k1).id,vi (Ew p0 k1).process,vi (Ew p0 k1).group,vi (Ew p0 k1).user]))) (RowIs.cat RowIs.elems (RowIs.lit (enc := Au) (d := Bs) (n := 1) (f := (cut 4 [vi (Ew p0 k1).id,vi (Ew p0 k1).process,vi (Ew p0 k1).group,vi (Ew p0 k1).user])) [(Ew p0 k1)] rfl (fun | 0,_ => rfl | n + 1,h => absurd h (by omega))))) (.cons .rfl .nil))))) (.cons rfl (BLe.typed (RowIs.cat RowIs.elems (RowIs.lit (enc := Au) (d := Bs) (n := 1) (f := (cut 4 [vi (Ew p0 k1).id,vi (Ew p0 k1).process,vi (Ew p0 k1).group,vi (Ew p0 k1).user])) [(Ew p0 k1)] rfl (fun | 0,_ => rfl | n + 1,h => absurd h (by omega))))) .nil)) ?_
       exact bD (s1 ++ [(Ew p0 k1)]) hm .refl
      ·intro h17 hm
       refine Sk ?_
       exact bD s1 hm Conv.t0
   ·intro h15
    have hge1 : ¬ k1 < p0.tasks.length := by have := of_decide_eq_false h15; omega
    have hm := he1 hge1
    unfold Tx at hm
    refine DW.exit ?_
    refine An ?_
    refine Ax ?_
    refine Ak ?_
    show DW _ _ _ _ _
    refine Sq (RD hnt (nn 3 []) [1,2,8,9,34] [(5,pI 0)] [1016,1064] [(1032,bx [ow 1208 r5.nodes.length,pI r5.next,ow 1448 s1.length,pI p0.next])] tv ?_)
    obtain rfl := sj hm
    exact DW.ret (Ai [Af r5.nodes,Ap s1] [1208,1448] (.tup [.agg [ow 0 r5.nodes.length,pI r5.next,ow 1 s1.length,pI p0.next],pI 0]))
abbrev o113 (ks : List Nat) (b : Bool) (RES : Aa × Int) (sm : List Nat := []) : Orc := .call 87 ks b (.tup [.agg [ow 0 RES.1.tree.nodes.length,pI RES.1.tree.next,ow 1 RES.1.tasks.length,pI RES.1.next],pI RES.2]) [] [Af RES.1.tree.nodes,Ap RES.1.tasks] sm

abbrev Aar : Nat × Obj := (1048,bx [.p (.sl .nil 0 0 (fun _ => [])),pI 0,.p (.sl .nil 0 0 (fun _ => [])),pI 0])
theorem Xw (p0 : Aw) (p1 : Int) (p2 : Int) (RES : Aa × Aw) (hm : Ic p0 p1 p2 = some RES) : Spec Tryz.prog 16 [rr 0,pI p1,pI p2] [.box (pm (Aq p0))] (.p (.agg (Ab RES.1))) [.box (pm (Aq RES.2))] [] := by
 unfold Ic at hm
 refine SO Tryz.func16 rfl rfl [(0,rr 0),(1,pI p1),(2,pI p2)] [(0,bx (pm (Aq p0)))] ?_
 intro cx hnt
 refine Sq (RD hnt (.no :: []) [] [(6,rr 1048)] [] [(Aar)] tv ?_)
 obtain ⟨r1,hr1,hm⟩ := bo hm
 refine Sq (RD hnt (o69 [] true r1 :: nn 2 []) [] [(7,rr 1056)] [] [(1056,bx [ow 1168 r1.tree.nodes.length,pI r1.tree.next,ow 1169 r1.tasks.length,pI r1.next]),(1168,ob0 (Af r1.tree.nodes)),(1169,ob0 (Ap r1.tasks))] (an (AfT r1 hr1) tv) ?_)
 obtain ⟨r2,hr2,hm⟩ := bo hm
 refine Sq (RD hnt (nn 2 (o71 [0] true r2 :: nn 2 [])) [] [] [1168] [(0,bx (pm (Aq r2.2))),(1056,bx [.p (Ba r2.1.nodes),pI r2.1.next,ow 1169 r1.tasks.length,pI r1.next])] (an (AbC p0 p1 r2 hr2) (an tv tv)) ?_)
 obtain ⟨r3,hr3,hm⟩ := bo hm
 refine Sq (Sq (RD hnt (nn 3 (o72 [0] true r3 :: .no :: [])) [1] [(8,pI r3.1)] [] [(0,bx (pm (Aq r3.2)))] (an (Bw r2.2 (w64 (p1 + 3)) r3 hr3) (an tv tv)) ?_))
 refine Bk ?_
 refine DW.whileO (fun (s1 : Aw × Aa × Int) => Aj [(0,rr 0),(2,pI p2),(6,rr 1048),(7,rr 1056),(8,pI s1.2.2)] [(0,bx (pm (Aq s1.1))),(Aar),(1056,bx (pm (Ab s1.2.1)))]) hm (Conv.frz [1169]) ?_
 intro s1 n1 hm
 unfold Mv at hm
 refine Sq (Sq (RD hnt (nn 2 []) [] [(31,pB (decide (s1.2.2 > 0)))] [] [] tv ?_))
 refine Ag hm ?_ ?_
 ·intro h56 hm
  refine Sk ?_
  refine Sq (Bk ?_)
  obtain ⟨r57,hr57,hm⟩ := bo hm
  refine RD hnt (nn 2 (o87 [0] true r57 :: .no :: [])) [31] [] [] [(0,bx (pm (Aq r57.2))),(1056,bx (pm (Ab r57.1)))] (an (AbJ s1.1 s1.2.1 r57 hr57) (an tv tv)) ?_
  refine DW.done ?_
  show DW _ _ _ _ _
  refine RD hnt (nn 3 []) [] [(8,pI (w64 (s1.2.2 - 1)))] [] [] tv ?_
  exact jD (r57.2,r57.1,(w64 (s1.2.2 - 1))) hm Conv.eqK
 ·intro h56 hm
  refine DW.exit ?_
  refine An ?_
  refine Ax ?_
  refine Ak ?_
  show DW _ _ _ _ _
  obtain ⟨r58,hr58,hm⟩ := bo hm
  refine Sq (Sq (RD hnt (nn 3 (o72 [0] true r58 :: .no :: [])) [2,8,31] [(9,pI r58.1)] [] [(0,bx (pm (Aq r58.2)))] (an (Bw s1.1 (w64 (p2 + 1)) r58 hr58) (an tv tv)) ?_))
  refine Bk ?_
  refine DW.whileO (fun (s3 : Aw × Aa × Int) => Aj [(0,rr 0),(6,rr 1048),(7,rr 1056),(9,pI s3.2.2)] [(0,bx (pm (Aq s3.1))),(Aar),(1056,bx (pm (Ab s3.2.1)))]) hm Conv.eqK ?_
  intro s3 n3 hm
  unfold Mk at hm
  refine Sq (Sq (RD hnt (nn 2 []) [] [(42,pB (decide (s3.2.2 > 0)))] [] [] tv ?_))
  refine Ag hm ?_ ?_
  ·intro h82 hm
   refine Sk ?_
   refine Sq ?_
   refine Jn (ι := Aw × Aa) (fun (y13 : Aw × Aa) => Aj [(0,rr 0),(6,rr 1048),(7,rr 1056),(9,pI s3.2.2)] [(0,bx (pm (Aq y13.1))),(Aar),(1056,bx (pm (Ab y13.2)))]) (fun y13 => (Df s3 n3) y13 = some RES) ?_ ?_
   ·intro y13 hm
    unfold Df at hm
    refine RD hnt (nn 3 []) [] [(9,pI (w64 (s3.2.2 - 1)))] [] [] tv ?_
    exact jD (y13.1,y13.2,(w64 (s3.2.2 - 1))) hm Conv.eqK
   ·refine Bk ?_
    obtain ⟨r83,hr83,hm⟩ := bo hm
    refine Sq (RD hnt (nn 3 (o88 [0] true r83 :: .no :: [])) [42] [(10,pI r83.1)] [] [(0,bx (pm (Aq r83.2)))] (an (Of s3.1 s3.2.1.tree r83 hr83) (an tv tv)) ?_)
    obtain ⟨r84,hr84,hm⟩ := bo hm
    refine Sq (Sq (RD hnt (nn 2 (o106 [] true r84 :: .no :: [])) [] [(52,pB (r84 != 0))] [] [] (an (Ym s3.2.1 r83.1 r84 hr84) tv) ?_))
    refine Ag hm ?_ ?_
    ·intro h85 hm
     refine DW.exit ?_
     exact Ak (joinKQ (r83.2,s3.2.1) hm Conv.t0)
    ·intro h85 hm
     refine Sk ?_
     obtain ⟨r86,hr86,hm⟩ := bo hm
     obtain ⟨r87,hr87,hm⟩ := bo hm
     refine Sq (Sq (RD hnt (nn 3 (o72 [0] true r86 :: o107 [] true r87 :: nn 8 [])) [10,52] [(11,rr 1088),(13,pI r87.2.2)] [] [(0,bx (pm (Aq r86.2))),(1088,bx [ow 1464 r87.1.tree.nodes.length,pI r87.1.tree.next,ow 1465 r87.1.tasks.length,pI r87.1.next]),(1464,ob0 (Af r87.1.tree.nodes)),(1465,ob0 (Ap r87.1.tasks))] (an (Bw r83.2 3 r86 hr86) (an tv (an (Aeq s3.2.1 r83.1 r86.1 r87 hr87) tv))) ?_))
     refine Sq (RD hnt (nn 2 []) [13] [(63,pB (r87.2.2 == 0))] [] [] tv ?_)
     refine Jn (ι := Aa) (fun (y14 : Aa) => Aj [(0,rr 0),(6,rr 1048),(7,rr 1056),(9,pI s3.2.2)] [(0,bx (pm (Aq r86.2))),(Aar),(1056,bx (pm (Ab y14)))]) (fun y14 => (Fp s3 n3 r86) y14 = some RES) ?_ ?_
     ·intro y14 hm
      unfold Fp at hm
      obtain ⟨r89,hr89,hm⟩ := bo hm
      refine Sq (Sq (RD hnt (.no :: o84 [0] true r89 :: []) [] [(66,pB r89.1)] [] [(0,bx (pm (Aq r89.2)))] (an (Fg r86.2 3 r89 hr89) (an tv tv)) ?_))
      refine Jn (ι := Aw × Aa) (fun (y15 : Aw × Aa) => Aj [(0,rr 0),(6,rr 1048),(7,rr 1056),(9,pI s3.2.2)] [(0,bx (pm (Aq y15.1))),(Aar),(1056,bx (pm (Ab y15.2)))]) (fun y15 => (Em s3 n3) y15 = some RES) ?_ ?_
      ·intro y15 hm
       unfold Em at hm
       obtain ⟨r94,hr94,hm⟩ := bo hm
       refine Sq (Sq (RD hnt (.no :: o84 [0] true r94 :: []) [] [(80,pB r94.1)] [] [(0,bx (pm (Aq r94.2)))] (an (Fg y15.1 4 r94 hr94) (an tv tv)) ?_))
       refine Jn (ι := Aw × Aa) (fun (y16 : Aw × Aa) => Aj [(0,rr 0),(6,rr 1048),(7,rr 1056),(9,pI s3.2.2)] [(0,bx (pm (Aq y16.1))),(Aar),(1056,bx (pm (Ab y16.2)))]) (fun y16 => (Ek s3 n3) y16 = some RES) ?_ ?_
       ·intro y16 hm
        unfold Ek at hm
        obtain ⟨r100,hr100,hm⟩ := bo hm
        refine Sq (RD hnt (.no :: o84 [0] true r100 :: []) [] [(97,pB r100.1)] [] [(0,bx (pm (Aq r100.2)))] (an (Fg y16.1 8 r100 hr100) (an tv tv)) ?_)
        refine Ag hm ?_ ?_
        ·intro h101 hm
         obtain ⟨r102,hr102,hm⟩ := bo hm
         obtain ⟨r103,hr103,hm⟩ := bo hm
         refine Sq (RD hnt (nn 3 (o109 [0] true r102 :: o113 [] true r103 :: nn 6 [])) [97] [(19,rr 1152),(20,pI r103.2)] [] [(0,bx (pm (Aq r102.2))),(1152,bx [ow 1824 r103.1.tree.nodes.length,pI r103.1.tree.next,ow 1825 r103.1.tasks.length,pI r103.1.next]),(1824,ob0 (Af r103.1.tree.nodes)),(1825,ob0 (Ap r103.1.tasks))] (an (Ow r100.2 y16.2 r102 hr102) (an tv (an (Afy y16.2 r102.1 r103 hr103) tv))) ?_)
         refine Sq (RD hnt (nn 2 []) [20] [(107,pB (r103.2 == 0))] [] [] tv ?_)
         refine Ag hm ?_ ?_
         ·intro h104 hm
          refine RD hnt (nn 2 []) [19,107] [] [1152] [(1056,bx [ow 1824 r103.1.tree.nodes.length,pI r103.1.tree.next,ow 1825 r103.1.tasks.length,pI r103.1.next])] tv ?_
          exact bD (r102.2,r103.1) hm (Conv.frz [1824,1825])
         ·intro h104 hm
          refine Sk ?_
          exact bD (r102.2,y16.2) hm Conv.t0
        ·intro h101 hm
         refine Sk ?_
         exact bD (r100.2,y16.2) hm Conv.t0
       ·refine Ag hm ?_ ?_
        ·intro h95 hm
         obtain ⟨r96,hr96,hm⟩ := bo hm
         obtain ⟨r97,hr97,hm⟩ := bo hm
         obtain ⟨r98,hr98,hm⟩ := bo hm
         refine Sq (RD hnt (nn 3 (o109 [0] true r96 :: nn 3 (o88 [0] true r97 :: o111 [] true r98 :: nn 6 []))) [80] [(17,rr 1136),(18,pI r98.2)] [] [(0,bx (pm (Aq r97.2))),(1136,bx [ow 1720 r98.1.tree.nodes.length,pI r98.1.tree.next,ow 1721 r98.1.tasks.length,pI r98.1.next]),(1720,ob0 (Af r98.1.tree.nodes)),(1721,ob0 (Ap r98.1.tasks))] (an (Ow r94.2 y15.2 r96 hr96) (an tv (an (Of r96.2 y15.2.tree r97 hr97) (an tv (an (Zr y15.2 r96.1 r97.1 r98 hr98) tv))))) ?_)
         refine Sq (RD hnt (nn 2 []) [18] [(94,pB (r98.2 == 0))] [] [] tv ?_)
         refine Ag hm ?_ ?_
         ·intro h99 hm
          refine RD hnt (nn 2 []) [17,94] [] [1136] [(1056,bx [ow 1720 r98.1.tree.nodes.length,pI r98.1.tree.next,ow 1721 r98.1.tasks.length,pI r98.1.next])] tv ?_
          exact jD (r97.2,r98.1) hm (Conv.frz [1720,1721])
         ·intro h99 hm
          refine Sk ?_
          exact jD (r97.2,y15.2) hm Conv.t0
        ·intro h95 hm
         refine Sk ?_
         exact jD (r94.2,y15.2) hm Conv.t0
      ·refine Ag hm ?_ ?_
       ·intro h90 hm
        obtain ⟨r91,hr91,hm⟩ := bo hm
        obtain ⟨r92,hr92,hm⟩ := bo hm
        refine Sq (RD hnt (nn 3 (o109 [0] true r91 :: o110 [] true r92 :: nn 8 [])) [66] [(14,rr 1112),(16,pI r92.2.2)] [] [(0,bx (pm (Aq r91.2))),(1112,bx [ow 1576 r92.1.tree.nodes.length,pI r92.1.tree.next,ow 1577 r92.1.tasks.length,pI r92.1.next]),(1576,ob0 (Af r92.1.tree.nodes)),(1577,ob0 (Ap r92.1.tasks))] (an (Ow r89.2 y14 r91 hr91) (an tv (an (Aes y14 r91.1 r92 hr92) tv))) ?_)
        refine Sq (RD hnt (nn 2 []) [16] [(77,pB (r92.2.2 == 0))] [] [] tv ?_)
        refine Ag hm ?_ ?_
        ·intro h93 hm
         refine RD hnt (nn 2 []) [14,77] [] [1112] [(1056,bx [ow 1576 r92.1.tree.nodes.length,pI r92.1.tree.next,ow 1577 r92.1.tasks.length,pI r92.1.next])] tv ?_
         exact jD (r91.2,r92.1) hm (Conv.frz [1576,1577])
        ·intro h93 hm
         refine Sk ?_
         exact jD (r91.2,y14) hm Conv.t0
       ·intro h90 hm
        refine Sk ?_
        exact jD (r89.2,y14) hm Conv.t0
     ·refine Ag hm ?_ ?_
      ·intro h88 hm
       refine RD hnt (nn 2 []) [11,63] [] [1088] [(1056,bx [ow 1464 r87.1.tree.nodes.length,pI r87.1.tree.next,ow 1465 r87.1.tasks.length,pI r87.1.next])] tv ?_
       exact jD r87.1 hm (Conv.frz [1464,1465])
      ·intro h88 hm
       refine Sk ?_
       exact jD s3.2.1 hm Conv.t0
  ·intro h82 hm
   refine DW.exit ?_
   refine An ?_
   refine Ax ?_
   refine Ak ?_
   show DW _ _ _ _ _
   refine Sq (RD hnt (nn 2 []) [0,7,9,42] [] [1056] [(1048,bx (pm (Ab s3.2.1)))] tv ?_)
   obtain rfl := sj hm
   exact DW.ret (Ai [.box (pm (Aq s3.1))] [] (.p (.agg (Ab s3.2.1))))
abbrev o68 (ks : List Nat) (b : Bool) (RES : Aa × Aw) (sm : List Nat := []) : Orc := .call 16 ks b (.p (.agg (Ab RES.1))) [.box (pm (Aq RES.2))] [] sm

theorem Agx (p0 : List Int) (p1 : Int) (RES : Bool) (hm : Lv p0 p1 = some RES) : Spec Tryz.prog 46 [.p (slI p0),pI p1] [] (pB RES) [] [] := by
 unfold Lv at hm
 refine SO Tryz.func46 rfl rfl [(0,.p (slI p0)),(1,pI p1)] [] ?_
 intro cx hnt
 refine Sq (RD hnt (.no :: []) [] [] [] [] tv ?_)
 refine Sq (Sq (RD hnt (.no :: []) [] [(5,pI 0)] [] [] tv ?_))
 refine Bk ?_
 obtain ⟨hc1,hm⟩ := go1 hm
 refine DW.rangeO (fun (k1 : Nat) (s1 : Unit) => Aj [(0,.p (slI p0)),(1,pI p1),(5,pI ((k1 : Nat) : Int))] []) 0 hm Conv.eqK ?_
 intro k1 s1 n1 hk1 hs1 he1
 refine Sq (Sq (RD hnt (nn 4 []) [] [(9,pB (decide (((k1 : Nat) : Int) < ((p0.length : Nat) : Int))))] [] [] tv ?_))
 refine Cn (decide (((k1 : Nat) : Int) < ((p0.length : Nat) : Int))) ?_ ?_
 ·intro h7
  have hlt1 : k1 < p0.length := by have := of_decide_eq_true h7; omega
  have hm := hs1 hlt1
  unfold Aea at hm
  refine Sk ?_
  refine Sq (Bk ?_)
  refine Sq (RD hnt (nn 6 []) [9] [(17,pB ((p0.getD k1 0) == p1))] [] [] (an (nn0 k1) (an (ltc hlt1) tv)) ?_)
  refine Ag hm ?_ ?_
  ·intro h8 hm
   refine Sq (RK hnt (.no :: []) [(4,pB true)] [] tv ?_)
   obtain rfl := sj hm
   exact DW.ret (Ai [] [] (pB true))
  ·intro h8 hm
   refine Sk ?_
   refine DW.done ?_
   show DW _ _ _ _ _
   refine RD hnt (nn 3 []) [17] [(5,pI (w64 (((k1 : Nat) : Int) + 1)))] [] [] tv ?_
   exact jD () ⟨hlt1,hm⟩ (Conv.tp [(5,pI (w64 (((k1 : Nat) : Int) + 1)))] [] (by kernel_rfl) (.cons rfl (.of_eq (congrArg pI (Bo hlt1 hc1))) .nil) .nil)
 ·intro h7
  have hge1 : ¬ k1 < p0.length := by have := of_decide_eq_false h7; omega
  have hm := he1 hge1
  unfold Adr at hm
  refine DW.exit ?_
  refine An ?_
  refine Ax ?_
  refine Ak ?_
  show DW _ _ _ _ _
  refine Sq (RK hnt (.no :: []) [(4,pB false)] [] tv ?_)
  obtain rfl := sj hm
  exact DW.ret (Ai [] [] (pB false))
abbrev o114 (ks : List Nat) (b : Bool) (RES : Bool) (sm : List Nat := []) : Orc := .call 46 ks b (pB RES) [] [] sm
end Go.Dm


/- Go functions compute their models, printed by a program. -/
namespace Go.Dm
open Go.Proofs
set_option linter.unusedVariables false
abbrev c1e1 (r5 : Aa × Aw) (r8 : Int × Aw) := (r5.1.tree.nodes.getD (Int.toNat (w64 (1 + r8.1))) Bf)
abbrev c1e2 (r19 : Ac × Int) : Nat × Obj := (1088,bx [ow 1512 r19.1.frosts.length,ow 1513 r19.1.stopped.length])
abbrev c1e3 (r5 : Aa × Aw) : Nat × Obj := (1032,bx (pm (Ab r5.1)))
abbrev c1e4 (r5 : Aa × Aw) (k1 : Nat) := (r5.1.tree.nodes.getD k1 (default : Ah))
abbrev c1e5 (r19 : Ac × Int) : Nat × Obj := (1512,ob0 (Ar r19.1.frosts))
abbrev c1e6 (r19 : Ac × Int) : Nat × Obj := (1513,ob0 (roI r19.1.stopped))
theorem Aaa (p0 : List Int) (RES : Bool) (hm : Jr p0 = some RES) : Spec Tryz.prog 5 [.p (slI p0)] [] (pB RES) [] [] := by
 unfold Jr at hm
 refine SO Tryz.func5 rfl rfl [(0,.p (slI p0))] [] ?_
 intro cx hnt
 refine Sq (RK hnt (.no :: []) [(0,.p (slI p0))] [] tv ?_)
 obtain ⟨r1,hr1,hm⟩ := bo hm
 refine Sq (Sq (RD hnt (.no :: o2 [] true r1 :: .no :: []) [] [(19,pB (!r1))] [] [] (an (AeM p0 r1 hr1) tv) ?_))
 refine Ag hm ?_ ?_
 ·intro h2 hm
  obtain ⟨r3,hr3,hm⟩ := bo hm
  refine Sq (RK hnt (o3 [] true r3 :: .no :: []) [(2,pB r3)] [] (an (Sz r3 hr3) tv) ?_)
  obtain rfl := sj hm
  exact DW.ret (Ai [] [] (pB r3))
 ·intro h2 hm
  refine Sk ?_
  obtain ⟨r4,hr4,hm⟩ := bo hm
  refine Sq (RK hnt (.no :: o67 [] true r4 :: .no :: []) [(3,rr 1176)] [(1176,bx (pm (Aq r4)))] (an (Afu p0 r4 hr4) tv) ?_)
  obtain ⟨r5,hr5,hm⟩ := bo hm
  refine Sq (RK hnt (.no :: o68 [1176] true r5 :: nn 2 []) [(3,rr 1176),(4,rr 1032)] [(c1e3 r5),(1176,bx (pm (Aq r5.2)))] (an (Xw r4 6 6 r5 hr5) (an tv tv)) ?_)
  refine Sq (Sq (RD hnt (nn 5 []) [] [(29,pB (decide (((r5.1.tree.nodes.length : Nat) : Int) < 2)))] [] [] tv ?_))
  refine Ag hm ?_ ?_
  ·intro h6 hm
   obtain ⟨r7,hr7,hm⟩ := bo hm
   refine Sq (RK hnt (o3 [] true r7 :: .no :: []) [(2,pB r7)] [] (an (Sz r7 hr7) tv) ?_)
   obtain rfl := sj hm
   exact DW.ret (Ai [] [] (pB r7))
  ·intro h6 hm
   refine Sk ?_
   obtain ⟨r8,hr8,hm⟩ := bo hm
   obtain ⟨g9,hm⟩ := go1 hm
   refine Sq (RD hnt (nn 9 (o72 [1176] true r8 :: nn 5 [])) [3,29] [(5,pI (c1e1 r5 r8).id)] [1176] [] (an (Bw r5.2 (w64 (((r5.1.tree.nodes.length : Nat) : Int) - 1)) r8 hr8) (an tv (an g9.1 (an g9.2 tv)))) ?_)
   obtain ⟨r10,hr10,hm⟩ := bo hm
   refine Sq (RD hnt (.no :: o5 [] true r10 :: nn 2 []) [] [(6,rr 1048)] [] [(1048,bx [ow 1368 r10.frosts.length,ow 1369 r10.stopped.length]),(1368,ob0 (Ar r10.frosts)),(1369,ob0 (roI r10.stopped))] (an (Tf r5.1 r10 hr10) tv) ?_)
   refine Sq (DW.cv [] [] [1368] [(1048,bx [.p (Fj r10.frosts),ow 1369 r10.stopped.length])] (Conv.frz [1368]) ?_)
   refine DW.cv [] [] [1369] [(1048,bx (pm (Bb r10)))] (Conv.frz [1369]) ?_
   obtain ⟨r13,hr13,hm⟩ := bo hm
   refine RD hnt (nn 3 (o20 [] true r13 :: nn 6 [])) [6] [(7,rr 1056),(8,pI r13.2)] [1048] [(1056,bx [ow 1408 r13.1.frosts.length,ow 1409 r13.1.stopped.length]),(1408,ob0 (Ar r13.1.frosts)),(1409,ob0 (roI r13.1.stopped))] (an (Po r5.1 r10 (c1e1 r5 r8).id true r13 hr13) tv) ?_
   refine Sq (DW.cv [] [] [1408] [(1056,bx [.p (Fj r13.1.frosts),ow 1409 r13.1.stopped.length])] (Conv.frz [1408]) ?_)
   refine DW.cv [] [] [1409] [(1056,bx (pm (Bb r13.1)))] (Conv.frz [1409]) ?_
   obtain ⟨r16,hr16,hm⟩ := bo hm
   refine RK hnt (nn 2 (o43 [] true r16 :: nn 6 [])) [(4,rr 1032),(5,pI (c1e1 r5 r8).id),(8,pI r13.2),(9,rr 1072),(10,pI r16.2)] [(c1e3 r5),(1072,bx [ow 1456 r16.1.frosts.length,ow 1457 r16.1.stopped.length]),(1456,ob0 (Ar r16.1.frosts)),(1457,ob0 (roI r16.1.stopped))] (an (Spec.args (xs := [.p (.agg (Ab r5.1)),.p (.agg (Bb r13.1)),.p (.sl .nil 0 0 (fun _ => []))]) (Sd r5.1 r13.1 [] r16 hr16) (.cons .rfl (.cons .rfl (.cons (.p PLe.nilL) .nil)))) tv) ?_
   refine Sq (DW.cv [] [] [1456] [(1072,bx [.p (Fj r16.1.frosts),ow 1457 r16.1.stopped.length])] (Conv.frz [1456]) ?_)
   refine DW.cv [] [] [1457] [(1072,bx (pm (Bb r16.1)))] (Conv.frz [1457]) ?_
   obtain ⟨r19,hr19,hm⟩ := bo hm
   refine RD hnt (nn 3 (o20 [] true r19 :: nn 6 [])) [9] [(11,rr 1088),(12,pI r19.2)] [1072] [(c1e2 r19),(c1e5 r19),(c1e6 r19)] (an (Po r5.1 r16.1 (c1e1 r5 r8).id false r19 hr19) tv) ?_
   refine Sq (Sq (DW.regJ (sl2 := [(4,rr 1032),(5,pI (c1e1 r5 r8).id),(11,rr 1088),(82,pB ((((r13.2 != 0) || (r16.2 != 0)) || (r19.2 != 0)) || (((r19.1.stopped.length : Nat) : Int) != 0)))]) (ob2 := [(c1e3 r5),(c1e2 r19),(c1e5 r19),(c1e6 r19)]) ?_ ?_))
   ·rcases bt (r13.2 != 0) with h20 | h20
    ·exact RT hnt (nn 3 (sk 2 (pT :: .no :: sk 2 (pT :: .no :: sk 4 (pT :: []))))) [(82,pB true)] (an3 h20 (an2 tt (an6 tt tv))) (by kernel_rfl) (.cons rfl (.of_eq (by rw [h20]; try rfl)) .nil)
    ·rcases bt (r16.2 != 0) with h21 | h21
     ·exact RT hnt (nn 5 (pF :: .no :: sk 2 (pT :: .no :: sk 4 (pT :: [])))) [(82,pB true)] (an3 h20 (an3 h21 (an5 tt tv))) (by kernel_rfl) (.cons rfl (.of_eq (by rw [h20,h21]; try rfl)) .nil)
     ·rcases bt (r19.2 != 0) with h22 | h22
      ·exact RT hnt (nn 5 (pF :: nn 3 (pF :: .no :: sk 4 (pT :: [])))) [(82,pB true)] (an3 h20 (an3 h21 (an5 h22 tv))) (by kernel_rfl) (.cons rfl (.of_eq (by rw [h20,h21,h22]; try rfl)) .nil)
      ·exact RT hnt (nn 5 (pF :: nn 3 (pF :: nn 5 (pF :: [])))) [(82,pB (((r19.1.stopped.length : Nat) : Int) != 0))] (an3 h20 (an3 h21 (an5 h22 tv))) (by kernel_rfl) (.cons rfl (.of_eq (by rw [h20,h21,h22]; try rfl)) .nil)
   ·refine Ag hm ?_ ?_
    ·intro h23 hm
     refine Sq (RK hnt (.no :: []) [(2,pB false)] [] tv ?_)
     obtain rfl := sj hm
     exact DW.ret (Ai [] [] (pB false))
    ·intro h23 hm
     refine Sk ?_
     refine Sq (Sq (RD hnt (.no :: []) [82] [(13,pI 0)] [] [] tv ?_))
     refine Bk ?_
     obtain ⟨hc1,hm⟩ := go1 hm
     refine DW.rangeO (fun (k1 : Nat) (s1 : Unit) => Aj [(4,rr 1032),(5,pI (c1e1 r5 r8).id),(11,rr 1088),(13,pI ((k1 : Nat) : Int))] [(c1e3 r5),(c1e2 r19),(c1e5 r19),(c1e6 r19)]) Bf hm Conv.eqK ?_
     intro k1 s1 n1 hk1 hs1 he1
     refine Sq (Sq (RD hnt (nn 6 []) [] [(88,pB (decide (((k1 : Nat) : Int) < ((r5.1.tree.nodes.length : Nat) : Int))))] [] [] tv ?_))
     refine Cn (decide (((k1 : Nat) : Int) < ((r5.1.tree.nodes.length : Nat) : Int))) ?_ ?_
     ·intro h44
      have hlt1 : k1 < r5.1.tree.nodes.length := by have := of_decide_eq_true h44; omega
      have hm := hs1 hlt1
      unfold Lb at hm
      refine Sk ?_
      refine Sq (Bk ?_)
      refine Sq (RD hnt (nn 8 []) [88] [(14,pI (c1e4 r5 k1).id)] [] [] (an (nn0 k1) (an (ltc hlt1) tv)) ?_)
      refine Sq (RD hnt (.no :: []) [] [(15,pI 0)] [] [] tv ?_)
      obtain ⟨r45,hr45,hm⟩ := bo hm
      obtain ⟨r46,hr46,hm⟩ := bo hm
      refine Sq (Sq (RD hnt (nn 3 (o82 [] true r45 :: .no :: o114 [] true r46 :: [])) [] [(103,pB r46)] [] [] (an (Ou r5.1.tree (c1e4 r5 k1).id r45 hr45) (an (Agx r45 (c1e1 r5 r8).id r46 hr46) tv)) ?_))
      refine Jn (ι := Int) (fun (y3 : Int) => Aj [(4,rr 1032),(5,pI (c1e1 r5 r8).id),(11,rr 1088),(13,pI ((k1 : Nat) : Int)),(14,pI (c1e4 r5 k1).id),(15,pI y3)] [(c1e3 r5),(c1e2 r19),(c1e5 r19),(c1e6 r19)]) (fun y3 => (Ib r19 (c1e4 r5 k1) n1) y3 = some RES) ?_ ?_
      ·intro y3 hm
       unfold Ib at hm
       obtain ⟨r48,hr48,hm⟩ := bo hm
       refine Sq (RD hnt (nn 2 (o26 [] true r48 :: nn 2 [])) [14] [(16,rr 1128)] [] [(1128,bx (pm (Ce r48)))] (an (Az r19.1 (c1e4 r5 k1).id r48 hr48) tv) ?_)
       refine Sq (DW.regJ (sl2 := [(4,rr 1032),(5,pI (c1e1 r5 r8).id),(11,rr 1088),(13,pI ((k1 : Nat) : Int)),(118,pB ((r48.frozen || r48.want) || (r48.changes != y3)))]) (ob2 := [(c1e3 r5),(c1e2 r19),(c1e5 r19),(c1e6 r19)]) ?_ ?_)
       ·rcases bt r48.frozen with h49 | h49
        ·exact RT hnt (nn 3 (sk 2 (pT :: .no :: sk 4 (pT :: [])))) [(118,pB true)] (an3 h49 (an5 tt tv)) (by kernel_rfl) (.cons rfl (.of_eq (by rw [h49]; try rfl)) .nil)
        ·rcases bt r48.want with h50 | h50
         ·exact RT hnt (nn 5 (pF :: .no :: sk 4 (pT :: []))) [(118,pB true)] (an3 h49 (an5 h50 tv)) (by kernel_rfl) (.cons rfl (.of_eq (by rw [h49,h50]; try rfl)) .nil)
         ·exact RT hnt (nn 5 (pF :: nn 5 (pF :: []))) [(118,pB (r48.changes != y3))] (an3 h49 (an5 h50 tv)) (by kernel_rfl) (.cons rfl (.of_eq (by rw [h49,h50]; try rfl)) .nil)
       ·refine Ag hm ?_ ?_
        ·intro h51 hm
         refine Sq (RK hnt (.no :: []) [(2,pB false)] [] tv ?_)
         obtain rfl := sj hm
         exact DW.ret (Ai [] [] (pB false))
        ·intro h51 hm
         refine Sk ?_
         refine DW.done ?_
         show DW _ _ _ _ _
         refine RD hnt (nn 3 []) [118] [(13,pI (w64 (((k1 : Nat) : Int) + 1)))] [] [] tv ?_
         exact jD () ⟨hlt1,hm⟩ (Conv.tp [(13,pI (w64 (((k1 : Nat) : Int) + 1)))] [] (by kernel_rfl) (.cons rfl (.of_eq (congrArg pI (Bo hlt1 hc1))) .nil) .nil)
      ·refine Ag hm ?_ ?_
       ·intro h47 hm
        refine RD hnt (.no :: []) [103] [(15,pI 2)] [] [] tv ?_
        exact jD 2 hm Conv.eqK
       ·intro h47 hm
        refine Sk ?_
        exact jD 0 hm Conv.t0
     ·intro h44
      have hge1 : ¬ k1 < r5.1.tree.nodes.length := by have := of_decide_eq_false h44; omega
      have hm := he1 hge1
      unfold Sw at hm
      refine DW.exit ?_
      refine An ?_
      refine Ax ?_
      refine Ak ?_
      show DW _ _ _ _ _
      obtain ⟨r52,hr52,hm⟩ := bo hm
      refine Sq (RK hnt (o3 [] true r52 :: .no :: []) [(2,pB r52)] [] (an (Sz r52 hr52) tv) ?_)
      obtain rfl := sj hm
      exact DW.ret (Ai [] [] (pB r52))
abbrev o1 (ks : List Nat) (b : Bool) (RES : Bool) (sm : List Nat := []) : Orc := .call 5 ks b (pB RES) [] [] sm
end Go.Dm

