/- Texts of the proof of FreezeRests: the data machine, the models of the Go functions, their contracts. -/
import Derived.Test.YtonaidnipimjgaaGreatFreezeRestsA3
set_option linter.unusedVariables false
set_option linter.unusedSimpArgs false
/- Go functions compute their models, printed by a program. -/
namespace Go.Dm
open Go.Proofs
set_option linter.unusedVariables false
theorem Abh (p0 : List Ap) (p1 : List Ap) (RES : Bool) (hm : AbG p0 p1 = some RES) : Spec Tryz.prog 132 [.p (Gs p0),.p (Gs p1)] [] (pB RES) [] [] := by
 unfold AbG at hm
 refine SO Tryz.func132 rfl rfl [(0,.p (Gs p0)),(1,.p (Gs p1))] [] ?_
 intro cx hnt
 refine Sq (RD hnt (.no :: []) [] [] [] [] tv ?_)
 refine Sq (Sq (RD hnt (nn 5 []) [] [(10,pB (((p0.length : Nat) : Int) != ((p1.length : Nat) : Int)))] [] [] tv ?_))
 refine Af hm ?_ ?_
 ·intro h1 hm
  refine Sq (RK hnt (.no :: []) [(4,pB false)] [] tv ?_)
  obtain rfl := sj hm
  exact DW.ret (Ai [] [] (pB false))
 ·intro h1 hm
  refine Sk ?_
  refine Sq (Sq (RD hnt (.no :: []) [10] [(5,pI 0)] [] [] tv ?_))
  refine Bk ?_
  obtain ⟨hc1,hm⟩ := go1 hm
  refine DW.rangeO (fun (k1 : Nat) (s1 : Unit) => Aj [(0,.p (Gs p0)),(1,.p (Gs p1)),(5,pI ((k1 : Nat) : Int))] []) Bz hm Conv.eqK ?_
  intro k1 s1 n1 hk1 hs1 he1
  refine Sq (Sq (RD hnt (nn 4 []) [] [(14,pB (decide (((k1 : Nat) : Int) < ((p0.length : Nat) : Int))))] [] [] tv ?_))
  refine Cj (decide (((k1 : Nat) : Int) < ((p0.length : Nat) : Int))) ?_ ?_
  ·intro h10
   have hlt1 : k1 < p0.length := by have := of_decide_eq_true h10; omega
   have hm := hs1 hlt1
   unfold AcX at hm
   refine Sk ?_
   refine Sq (Bk ?_)
   obtain ⟨g11,hm⟩ := go1 hm
   refine Sq (RD hnt (nn 9 []) [14] [(25,pB (!(eqFrost (p0.getD k1 (default : Ap)) (p1.getD k1 Bz))))] [] [] (an (nn0 k1) (an (ltc hlt1) (an (nn0 k1) (an (ltc g11) tv)))) ?_)
   refine Af hm ?_ ?_
   ·intro h12 hm
    refine Sq (RK hnt (.no :: []) [(4,pB false)] [] tv ?_)
    obtain rfl := sj hm
    exact DW.ret (Ai [] [] (pB false))
   ·intro h12 hm
    refine Sk ?_
    refine DW.done ?_
    show DW _ _ _ _ _
    refine RD hnt (nn 3 []) [25] [(5,pI (w64 (((k1 : Nat) : Int) + 1)))] [] [] tv ?_
    exact jD () ⟨hlt1,hm⟩ (Conv.tp [(5,pI (w64 (((k1 : Nat) : Int) + 1)))] [] (by kernel_rfl) (.cons rfl (.of_eq (congrArg pI (Bn hlt1 hc1))) .nil) .nil)
  ·intro h10
   have hge1 : ¬ k1 < p0.length := by have := of_decide_eq_false h10; omega
   have hm := he1 hge1
   unfold Adg at hm
   refine DW.exit ?_
   refine An ?_
   refine Aw ?_
   refine Ak ?_
   show DW _ _ _ _ _
   refine Sq (RK hnt (.no :: []) [(4,pB true)] [] tv ?_)
   obtain rfl := sj hm
   exact DW.ret (Ai [] [] (pB true))
abbrev o65 (ks : List Nat) (b : Bool) (RES : Bool) (sm : List Nat := []) : Orc := .call 132 ks b (pB RES) [] [] sm

theorem Adw (p0 : List Int) (p1 : List Int) (RES : Bool) (hm : Yi p0 p1 = some RES) : Spec Tryz.prog 133 [.p (slI p0),.p (slI p1)] [] (pB RES) [] [] := by
 unfold Yi at hm
 refine SO Tryz.func133 rfl rfl [(0,.p (slI p0)),(1,.p (slI p1))] [] ?_
 intro cx hnt
 refine Sq (RD hnt (.no :: []) [] [] [] [] tv ?_)
 refine Sq (Sq (RD hnt (nn 5 []) [] [(10,pB (((p0.length : Nat) : Int) != ((p1.length : Nat) : Int)))] [] [] tv ?_))
 refine Af hm ?_ ?_
 ·intro h1 hm
  refine Sq (RK hnt (.no :: []) [(4,pB false)] [] tv ?_)
  obtain rfl := sj hm
  exact DW.ret (Ai [] [] (pB false))
 ·intro h1 hm
  refine Sk ?_
  refine Sq (Sq (RD hnt (.no :: []) [10] [(5,pI 0)] [] [] tv ?_))
  refine Bk ?_
  obtain ⟨hc1,hm⟩ := go1 hm
  refine DW.rangeO (fun (k1 : Nat) (s1 : Unit) => Aj [(0,.p (slI p0)),(1,.p (slI p1)),(5,pI ((k1 : Nat) : Int))] []) 0 hm Conv.eqK ?_
  intro k1 s1 n1 hk1 hs1 he1
  refine Sq (Sq (RD hnt (nn 4 []) [] [(14,pB (decide (((k1 : Nat) : Int) < ((p0.length : Nat) : Int))))] [] [] tv ?_))
  refine Cj (decide (((k1 : Nat) : Int) < ((p0.length : Nat) : Int))) ?_ ?_
  ·intro h10
   have hlt1 : k1 < p0.length := by have := of_decide_eq_true h10; omega
   have hm := hs1 hlt1
   unfold AaF at hm
   refine Sk ?_
   refine Sq (Bk ?_)
   obtain ⟨g11,hm⟩ := go1 hm
   refine Sq (RD hnt (nn 9 []) [14] [(25,pB ((p0.getD k1 0) != (p1.getD k1 0)))] [] [] (an (nn0 k1) (an (ltc hlt1) (an (nn0 k1) (an (ltc g11) tv)))) ?_)
   refine Af hm ?_ ?_
   ·intro h12 hm
    refine Sq (RK hnt (.no :: []) [(4,pB false)] [] tv ?_)
    obtain rfl := sj hm
    exact DW.ret (Ai [] [] (pB false))
   ·intro h12 hm
    refine Sk ?_
    refine DW.done ?_
    show DW _ _ _ _ _
    refine RD hnt (nn 3 []) [25] [(5,pI (w64 (((k1 : Nat) : Int) + 1)))] [] [] tv ?_
    exact jD () ⟨hlt1,hm⟩ (Conv.tp [(5,pI (w64 (((k1 : Nat) : Int) + 1)))] [] (by kernel_rfl) (.cons rfl (.of_eq (congrArg pI (Bn hlt1 hc1))) .nil) .nil)
  ·intro h10
   have hge1 : ¬ k1 < p0.length := by have := of_decide_eq_false h10; omega
   have hm := he1 hge1
   unfold AaA at hm
   refine DW.exit ?_
   refine An ?_
   refine Aw ?_
   refine Ak ?_
   show DW _ _ _ _ _
   refine Sq (RK hnt (.no :: []) [(4,pB true)] [] tv ?_)
   obtain rfl := sj hm
   exact DW.ret (Ai [] [] (pB true))
abbrev o66 (ks : List Nat) (b : Bool) (RES : Bool) (sm : List Nat := []) : Orc := .call 133 ks b (pB RES) [] [] sm

theorem De (p0 : Ac) (p1 : Ac) (RES : Bool) (hm : Rs p0 p1 = some RES) : Spec Tryz.prog 61 [.p (.agg (Az p0)),.p (.agg (Az p1))] [] (pB RES) [] [] := by
 unfold Rs at hm
 refine SO Tryz.func61 rfl rfl [(0,.p (.agg (Az p0))),(1,.p (.agg (Az p1)))] [] ?_
 intro cx hnt
 refine Sq (RK hnt (nn 3 []) [(2,rr 1016),(3,rr 1024)] [(1016,bx (pm (Az p0))),(1024,bx (pm (Az p1)))] tv ?_)
 obtain ⟨r1,hr1,hm⟩ := bo hm
 refine Sq ?_
 refine Jn (ι := Bool) (fun (y1 : Bool) => Aj [(4,pB y1)] []) (fun y1 => Lt y1 = some RES) ?_ ?_
 ·intro y1 hm
  unfold Lt at hm
  obtain rfl := sj hm
  exact DW.ret (Ai [] [] (pB y1))
 ·rcases bt r1 with h2 | h2
  ·replace hm := Bd h2 hm
   obtain ⟨r3,hr3,hm⟩ := bo hm
   refine RK hnt (nn 4 (o65 [] true r1 :: nn 5 (o66 [] true r3 :: pT :: .no :: []))) [(4,pB r3)] [] (an (Abh p0.frosts p1.frosts r1 hr1) (an5 h2 (an (Adw p0.stopped p1.stopped r3 hr3) (an h2 tv)))) ?_
   exact jD r3 hm .refl
  ·replace hm := Be h2 hm
   refine RK hnt (nn 4 (o65 [] true r1 :: .no :: sk 5 (pF :: .no :: []))) [(4,pB false)] [] (an (Abh p0.frosts p1.frosts r1 hr1) (an6 h2 tv)) ?_
   exact jD false hm .refl
abbrev o64 (ks : List Nat) (b : Bool) (RES : Bool) (sm : List Nat := []) : Orc := .call 61 ks b (pB RES) [] [] sm

theorem Aas (RES : Bool) (hm : Qi = some RES) : Spec Tryz.prog 49 [] [] (pB RES) [] [] := by
 unfold Qi at hm
 refine SO Tryz.func49 rfl rfl [] [] ?_
 intro cx hnt
 refine Sq (RK hnt (.no :: []) [] [] tv ?_)
 obtain ⟨r1,hr1,hm⟩ := bo hm
 refine Sq (RK hnt (o4 [] true r1 :: nn 2 []) [(1,rr 1008)] [(1008,bx [ow 1080 r1.tree.nodes.length,pI r1.tree.next,ow 1081 r1.tasks.length,pI r1.next]),(1080,ob0 (Ag r1.tree.nodes)),(1081,ob0 (Ar r1.tasks))] (an (AeE r1 hr1) tv) ?_)
 refine Sq (DW.cv [] [] [1080] [(1008,bx [.p (Bb r1.tree.nodes),pI r1.tree.next,ow 1081 r1.tasks.length,pI r1.next])] (Conv.frz [1080]) ?_)
 refine DW.cv [] [] [1081] [(1008,bx (pm (Ab r1)))] (Conv.frz [1081]) ?_
 obtain ⟨r4,hr4,hm⟩ := bo hm
 obtain ⟨r5,hr5,hm⟩ := bo hm
 refine RD hnt (nn 2 (o5 [] true r4 :: o20 [] false r5 :: nn 6 [])) [] [(2,rr 1016),(3,pI r5.2)] [] [(1016,bx [ow 1120 r5.1.frosts.length,ow 1121 r5.1.stopped.length]),(1120,ob0 (As r5.1.frosts)),(1121,ob0 (roI r5.1.stopped))] (an (Tz r1 r4 hr4) (an (Ts r1 r4 2 true r5 hr5) tv)) ?_
 refine Sq (DW.cv [] [] [1120] [(1016,bx [.p (Gs r5.1.frosts),ow 1121 r5.1.stopped.length])] (Conv.frz [1120]) ?_)
 refine DW.cv [] [] [1121] [(1016,bx (pm (Az r5.1)))] (Conv.frz [1121]) ?_
 obtain ⟨r8,hr8,hm⟩ := bo hm
 refine RD hnt (nn 3 (o43 [] false r8 :: nn 6 [])) [] [(4,rr 1032),(5,pI r8.2)] [] [(1032,bx [ow 1176 r8.1.frosts.length,ow 1177 r8.1.stopped.length]),(1176,ob0 (As r8.1.frosts)),(1177,ob0 (roI r8.1.stopped))] (an (Spec.args (xs := [.p (.agg (Ab r1)),.p (.agg (Az r5.1)),.p (.sl .unk 1 1 (cut 1 [vi 1]))]) (Sr r1 r5.1 [1] r8 hr8) (.cons .rfl (.cons .rfl (.cons (.p (PLe.typed (RowIs.lit (enc := Bo) (d := 0) (n := 1) (f := (cut 1 [vi 1])) [1] rfl (fun | 0,_ => rfl | n + 1,h => absurd h (by omega))))) .nil)))) tv) ?_
 refine Sq (DW.cv [] [] [1176] [(1032,bx [.p (Gs r8.1.frosts),ow 1177 r8.1.stopped.length])] (Conv.frz [1176]) ?_)
 refine DW.cv [] [] [1177] [(1032,bx (pm (Az r8.1)))] (Conv.frz [1177]) ?_
 obtain ⟨r11,hr11,hm⟩ := bo hm
 refine RK hnt (nn 2 (o43 [] true r11 :: nn 6 [])) [(1,rr 1008),(2,rr 1016),(3,pI r5.2),(4,rr 1032),(5,pI r8.2),(6,rr 1048),(7,pI r11.2)] [(1008,bx (pm (Ab r1))),(1016,bx (pm (Az r5.1))),(1032,bx (pm (Az r8.1))),(1048,bx [ow 1224 r11.1.frosts.length,ow 1225 r11.1.stopped.length]),(1224,ob0 (As r11.1.frosts)),(1225,ob0 (roI r11.1.stopped))] (an (Spec.args (xs := [.p (.agg (Ab r1)),.p (.agg (Az r8.1)),.p (.sl .nil 0 0 (fun _ => []))]) (Sr r1 r8.1 [] r11 hr11) (.cons .rfl (.cons .rfl (.cons (.p PLe.nilL) .nil)))) tv) ?_
 refine Sq (RD hnt (nn 2 []) [] [] [] [(1008,bx [.p (Bb r1.tree.nodes),pI r1.tree.next,.p (.sl .nil 0 0 (fun _ => [])),pI r1.next])] tv ?_)
 obtain ⟨r12,hr12,hm⟩ := bo hm
 obtain ⟨r13,hr13,hm⟩ := bo hm
 refine Sq (RD hnt (nn 2 (o5 [] true r12 :: o20 [] false r13 :: nn 6 [])) [1] [(8,rr 1064),(9,pI r13.2)] [1008] [(1064,bx [ow 1288 r13.1.frosts.length,ow 1289 r13.1.stopped.length]),(1288,ob0 (As r13.1.frosts)),(1289,ob0 (roI r13.1.stopped))] (an (Spec.args (xs := [.p (.agg [Bb r1.tree.nodes,vi r1.tree.next,.sl .nil 0 0 (fun _ => []),vi r1.next])]) (Tz ({ tree := r1.tree,tasks := [],next := r1.next } : Aa) r12 hr12) (.cons (.p (.agg (.cons .rfl (.cons .rfl (.cons PLe.nilL (.cons .rfl .nil)))))) .nil)) (an (Spec.args (xs := [.p (.agg [Bb r1.tree.nodes,vi r1.tree.next,.sl .nil 0 0 (fun _ => []),vi r1.next]),.p (.agg (Az r12)),pI 3,pB true]) (Ts ({ tree := r1.tree,tasks := [],next := r1.next } : Aa) r12 3 true r13 hr13) (.cons (.p (.agg (.cons .rfl (.cons .rfl (.cons PLe.nilL (.cons .rfl .nil)))))) (.cons .rfl (.cons .rfl (.cons .rfl .nil))))) tv)) ?_)
 refine Sq ?_
 refine Jn (ι := Bool) (fun (y1 : Bool) => Aj [(0,pB y1)] []) (fun y1 => Ee y1 = some RES) ?_ ?_
 ·intro y1 hm
  unfold Ee at hm
  obtain rfl := sj hm
  exact DW.ret (Ai [] [] (pB y1))
 ·rcases bt (r5.2 == 0) with h14 | h14
  ·replace hm := Bd h14 hm
   obtain ⟨r15,hr15,hm⟩ := bo hm
   rcases bt (!r15.frozen) with h16 | h16
   ·replace hm := Bd h16 hm
    rcases bt (r8.2 == 0) with h17 | h17
    ·replace hm := Bd h17 hm
     obtain ⟨r18,hr18,hm⟩ := bo hm
     rcases bt r18 with h19 | h19
     ·replace hm := Bd h19 hm
      rcases bt (r11.2 == 0) with h20 | h20
      ·replace hm := Bd h20 hm
       obtain ⟨r21,hr21,hm⟩ := bo hm
       rcases bt r21.frozen with h22 | h22
       ·replace hm := Bd h22 hm
        obtain ⟨r23,hr23,hm⟩ := bo hm
        rcases bt r23.frozen with h24 | h24
        ·replace hm := Bd h24 hm
         obtain ⟨r25,hr25,hm⟩ := bo hm
         rcases bt (r25.changes == 1) with h26 | h26
         ·replace hm := Bd h26 hm
          obtain ⟨r27,hr27,hm⟩ := bo hm
          rcases bt (!r27.frozen) with h28 | h28
          ·replace hm := Bd h28 hm
           obtain ⟨r29,hr29,hm⟩ := bo hm
           rcases bt r29 with h30 | h30
           ·replace hm := Bd h30 hm
            rcases bt (r13.2 == 0) with h31 | h31
            ·replace hm := Bd h31 hm
             obtain ⟨r32,hr32,hm⟩ := bo hm
             refine RK hnt (nn 4 (o26 [] true r15 :: nn 2 (pT :: nn 3 (pT :: nn 3 (o64 [] true r18 :: pT :: nn 3 (pT :: nn 2 (o26 [] true r21 :: .no :: pT :: nn 2 (o26 [] true r23 :: .no :: pT :: nn 2 (o26 [] true r25 :: nn 2 (pT :: nn 2 (o26 [] true r27 :: nn 2 (pT :: nn 2 (o32 [] true r29 :: pT :: nn 3 (pT :: nn 2 (o26 [] true r32 :: .no :: pT :: .no :: []))))))))))))))) [(0,pB r32.frozen)] [] (an2 h14 (an (Au r5.1 2 r15 hr15) (an3 h14 (an3 h16 (an3 h17 (an (De r5.1 r8.1 r18 hr18) (an h17 (an3 h19 (an2 h20 (an (Au r11.1 2 r21 hr21) (an2 h20 (an2 h22 (an (Au r11.1 3 r23 hr23) (an2 h22 (an2 h24 (an (Au r11.1 3 r25 hr25) (an3 h24 (an2 h26 (an (Au r11.1 1 r27 hr27) (an3 h26 (an2 h28 (an (Fj r11.1 1 r29 hr29) (an h28 (an3 h30 (an2 h31 (an (Au r13.1 3 r32 hr32) (an2 h31 tv))))))))))))))))))))))))))) ?_
             exact jD r32.frozen hm .refl
            ·replace hm := Be h31 hm
             refine RK hnt (nn 4 (o26 [] true r15 :: nn 2 (pT :: nn 3 (pT :: nn 3 (o64 [] true r18 :: pT :: nn 3 (pT :: nn 2 (o26 [] true r21 :: .no :: pT :: nn 2 (o26 [] true r23 :: .no :: pT :: nn 2 (o26 [] true r25 :: nn 2 (pT :: nn 2 (o26 [] true r27 :: nn 2 (pT :: nn 2 (o32 [] true r29 :: pT :: nn 3 (pT :: .no :: sk 3 (pF :: .no :: []))))))))))))))) [(0,pB false)] [] (an2 h14 (an (Au r5.1 2 r15 hr15) (an3 h14 (an3 h16 (an3 h17 (an (De r5.1 r8.1 r18 hr18) (an h17 (an3 h19 (an2 h20 (an (Au r11.1 2 r21 hr21) (an2 h20 (an2 h22 (an (Au r11.1 3 r23 hr23) (an2 h22 (an2 h24 (an (Au r11.1 3 r25 hr25) (an3 h24 (an2 h26 (an (Au r11.1 1 r27 hr27) (an3 h26 (an2 h28 (an (Fj r11.1 1 r29 hr29) (an h28 (an3 h30 (an4 h31 tv))))))))))))))))))))))))) ?_
             exact jD false hm .refl
           ·replace hm := Be h30 hm
            refine RK hnt (nn 4 (o26 [] true r15 :: nn 2 (pT :: nn 3 (pT :: nn 3 (o64 [] true r18 :: pT :: nn 3 (pT :: nn 2 (o26 [] true r21 :: .no :: pT :: nn 2 (o26 [] true r23 :: .no :: pT :: nn 2 (o26 [] true r25 :: nn 2 (pT :: nn 2 (o26 [] true r27 :: nn 2 (pT :: nn 2 (o32 [] true r29 :: pT :: .no :: sk 2 (pF :: .no :: sk 3 (pF :: .no :: []))))))))))))))) [(0,pB false)] [] (an2 h14 (an (Au r5.1 2 r15 hr15) (an3 h14 (an3 h16 (an3 h17 (an (De r5.1 r8.1 r18 hr18) (an h17 (an3 h19 (an2 h20 (an (Au r11.1 2 r21 hr21) (an2 h20 (an2 h22 (an (Au r11.1 3 r23 hr23) (an2 h22 (an2 h24 (an (Au r11.1 3 r25 hr25) (an3 h24 (an2 h26 (an (Au r11.1 1 r27 hr27) (an3 h26 (an2 h28 (an (Fj r11.1 1 r29 hr29) (an h28 (an3 h30 (an4 ff tv))))))))))))))))))))))))) ?_
            exact jD false hm .refl
          ·replace hm := Be h28 hm
           refine RK hnt (nn 4 (o26 [] true r15 :: nn 2 (pT :: nn 3 (pT :: nn 3 (o64 [] true r18 :: pT :: nn 3 (pT :: nn 2 (o26 [] true r21 :: .no :: pT :: nn 2 (o26 [] true r23 :: .no :: pT :: nn 2 (o26 [] true r25 :: nn 2 (pT :: nn 2 (o26 [] true r27 :: nn 2 (pT :: .no :: sk 2 (pF :: .no :: sk 2 (pF :: .no :: sk 3 (pF :: .no :: []))))))))))))))) [(0,pB false)] [] (an2 h14 (an (Au r5.1 2 r15 hr15) (an3 h14 (an3 h16 (an3 h17 (an (De r5.1 r8.1 r18 hr18) (an h17 (an3 h19 (an2 h20 (an (Au r11.1 2 r21 hr21) (an2 h20 (an2 h22 (an (Au r11.1 3 r23 hr23) (an2 h22 (an2 h24 (an (Au r11.1 3 r25 hr25) (an3 h24 (an2 h26 (an (Au r11.1 1 r27 hr27) (an3 h26 (an3 h28 (an ff (an6 ff tv))))))))))))))))))))))) ?_
           exact jD false hm .refl
         ·replace hm := Be h26 hm
          refine RK hnt (nn 4 (o26 [] true r15 :: nn 2 (pT :: nn 3 (pT :: nn 3 (o64 [] true r18 :: pT :: nn 3 (pT :: nn 2 (o26 [] true r21 :: .no :: pT :: nn 2 (o26 [] true r23 :: .no :: pT :: nn 2 (o26 [] true r25 :: nn 2 (pT :: .no :: sk 4 (pF :: .no :: sk 2 (pF :: .no :: sk 2 (pF :: .no :: sk 3 (pF :: .no :: [])))))))))))))) [(0,pB false)] [] (an2 h14 (an (Au r5.1 2 r15 hr15) (an3 h14 (an3 h16 (an3 h17 (an (De r5.1 r8.1 r18 hr18) (an h17 (an3 h19 (an2 h20 (an (Au r11.1 2 r21 hr21) (an2 h20 (an2 h22 (an (Au r11.1 3 r23 hr23) (an2 h22 (an2 h24 (an (Au r11.1 3 r25 hr25) (an3 h24 (an5 h26 (an4 ff (an6 ff tv)))))))))))))))))))) ?_
          exact jD false hm .refl
        ·replace hm := Be h24 hm
         refine RK hnt (nn 4 (o26 [] true r15 :: nn 2 (pT :: nn 3 (pT :: nn 3 (o64 [] true r18 :: pT :: nn 3 (pT :: nn 2 (o26 [] true r21 :: .no :: pT :: nn 2 (o26 [] true r23 :: .no :: pT :: .no :: sk 4 (pF :: .no :: sk 4 (pF :: .no :: sk 2 (pF :: .no :: sk 2 (pF :: .no :: sk 3 (pF :: .no :: []))))))))))))) [(0,pB false)] [] (an2 h14 (an (Au r5.1 2 r15 hr15) (an3 h14 (an3 h16 (an3 h17 (an (De r5.1 r8.1 r18 hr18) (an h17 (an3 h19 (an2 h20 (an (Au r11.1 2 r21 hr21) (an2 h20 (an2 h22 (an (Au r11.1 3 r23 hr23) (an2 h22 (an5 h24 (an3 ff (an6 ff (an6 ff tv)))))))))))))))))) ?_
         exact jD false hm .refl
       ·replace hm := Be h22 hm
        refine RK hnt (nn 4 (o26 [] true r15 :: nn 2 (pT :: nn 3 (pT :: nn 3 (o64 [] true r18 :: pT :: nn 3 (pT :: nn 2 (o26 [] true r21 :: .no :: pT :: .no :: sk 3 (pF :: .no :: sk 4 (pF :: .no :: sk 4 (pF :: .no :: sk 2 (pF :: .no :: sk 2 (pF :: .no :: sk 3 (pF :: .no :: []))))))))))))) [(0,pB false)] [] (an2 h14 (an (Au r5.1 2 r15 hr15) (an3 h14 (an3 h16 (an3 h17 (an (De r5.1 r8.1 r18 hr18) (an h17 (an3 h19 (an2 h20 (an (Au r11.1 2 r21 hr21) (an2 h20 (an4 h22 (an2 ff (an6 ff (an6 ff (an6 ff tv)))))))))))))))) ?_
        exact jD false hm .refl
      ·replace hm := Be h20 hm
       refine RK hnt (nn 4 (o26 [] true r15 :: nn 2 (pT :: nn 3 (pT :: nn 3 (o64 [] true r18 :: pT :: nn 3 (pT :: .no :: sk 3 (pF :: .no :: sk 3 (pF :: .no :: sk 4 (pF :: .no :: sk 4 (pF :: .no :: sk 2 (pF :: .no :: sk 2 (pF :: .no :: sk 3 (pF :: .no :: []))))))))))))) [(0,pB false)] [] (an2 h14 (an (Au r5.1 2 r15 hr15) (an3 h14 (an3 h16 (an3 h17 (an (De r5.1 r8.1 r18 hr18) (an h17 (an3 h19 (an4 h20 (an6 ff (an6 ff (an6 ff (an6 ff tv))))))))))))) ?_
       exact jD false hm .refl
     ·replace hm := Be h19 hm
      refine RK hnt (nn 4 (o26 [] true r15 :: nn 2 (pT :: nn 3 (pT :: nn 3 (o64 [] true r18 :: pT :: .no :: sk 2 (pF :: .no :: sk 3 (pF :: .no :: sk 3 (pF :: .no :: sk 4 (pF :: .no :: sk 4 (pF :: .no :: sk 2 (pF :: .no :: sk 2 (pF :: .no :: sk 3 (pF :: .no :: []))))))))))))) [(0,pB false)] [] (an2 h14 (an (Au r5.1 2 r15 hr15) (an3 h14 (an3 h16 (an3 h17 (an (De r5.1 r8.1 r18 hr18) (an h17 (an3 h19 (an4 ff (an6 ff (an6 ff (an6 ff (an6 ff tv))))))))))))) ?_
      exact jD false hm .refl
    ·replace hm := Be h17 hm
     refine RK hnt (nn 4 (o26 [] true r15 :: nn 2 (pT :: nn 3 (pT :: .no :: sk 3 (pF :: .no :: sk 2 (pF :: .no :: sk 3 (pF :: .no :: sk 3 (pF :: .no :: sk 4 (pF :: .no :: sk 4 (pF :: .no :: sk 2 (pF :: .no :: sk 2 (pF :: .no :: sk 3 (pF :: .no :: []))))))))))))) [(0,pB false)] [] (an2 h14 (an (Au r5.1 2 r15 hr15) (an3 h14 (an3 h16 (an4 h17 (an ff (an6 ff (an6 ff (an6 ff (an6 ff (an6 ff tv))))))))))) ?_
     exact jD false hm .refl
   ·replace hm := Be h16 hm
    refine RK hnt (nn 4 (o26 [] true r15 :: nn 2 (pT :: .no :: sk 2 (pF :: .no :: sk 3 (pF :: .no :: sk 2 (pF :: .no :: sk 3 (pF :: .no :: sk 3 (pF :: .no :: sk 4 (pF :: .no :: sk 4 (pF :: .no :: sk 2 (pF :: .no :: sk 2 (pF :: .no :: sk 3 (pF :: .no :: []))))))))))))) [(0,pB false)] [] (an2 h14 (an (Au r5.1 2 r15 hr15) (an3 h14 (an3 h16 (an5 ff (an6 ff (an6 ff (an6 ff (an6 ff (an6 ff tv)))))))))) ?_
    exact jD false hm .refl
  ·replace hm := Be h14 hm
   refine RK hnt (nn 3 (sk 4 (pF :: .no :: sk 2 (pF :: .no :: sk 3 (pF :: .no :: sk 2 (pF :: .no :: sk 3 (pF :: .no :: sk 3 (pF :: .no :: sk 4 (pF :: .no :: sk 4 (pF :: .no :: sk 2 (pF :: .no :: sk 2 (pF :: .no :: sk 3 (pF :: .no :: []))))))))))))) [(0,pB false)] [] (an5 h14 (an2 ff (an6 ff (an6 ff (an6 ff (an6 ff (an6 ff (an6 ff tv)))))))) ?_
   exact jD false hm .refl
abbrev o3 (ks : List Nat) (b : Bool) (RES : Bool) (sm : List Nat := []) : Orc := .call 49 ks b (pB RES) [] [] sm

theorem AfM (p0 : List Int) (RES : Ao) (hm : AbV p0 = some RES) : Spec Tryz.prog 15 [.p (slI p0)] [] (rr 0) [] [.box (pm (Al RES))] := by
 unfold AbV at hm
 refine SO Tryz.func15 rfl rfl [(0,.p (slI p0))] [] ?_
 intro cx hnt
 refine Sq (RK hnt (.no :: []) [(0,.p (slI p0))] [] tv ?_)
 refine Sq (RK hnt (nn 4 []) [(2,rr 1040)] [(1040,bx [.p (slI p0),pI 0])] tv ?_)
 obtain rfl := sj hm
 exact DW.ret (Ai [.box [.p (slI p0),pI 0]] [1040] (rr 0))
abbrev o67 (ks : List Nat) (b : Bool) (RES : Ao) (sm : List Nat := []) : Orc := .call 15 ks b (rr 0) [] [.box (pm (Al RES))] sm

abbrev AcN := ({ id := 1,parent := 0,name := ByteArray.empty,control := 0,kind := 0,owner := 0 } : Ah)
theorem Aco (RES : Ae) (hm : Xi = some RES) : Spec Tryz.prog 107 [] [] (.agg [ow 0 RES.nodes.length,pI RES.next]) [] [Ag RES.nodes] := by
 unfold Xi at hm
 refine SO Tryz.func107 rfl rfl [] [] ?_
 intro cx hnt
 refine Sq (RK hnt (.no :: []) [(0,rr 1000)] [(1000,bx [.p (.sl .nil 0 0 (fun _ => [])),pI 0])] tv ?_)
 refine Sq (RN hnt (nn 4 []) [(0,rr 1000)] [(1000,bx [ow 1016 [(AcN)].length,pI 2]),(1016,ob0 (Ag [(AcN)]))] [] [(1000,.box [ow 1016 1,pI 2]),(1016,.row 6 1 (cut 6 [vi 1,vi 0,vs ByteArray.empty,vi 0,vi 0,vi 0]))] tv (by kernel_rfl) .nil (.cons rfl (.box (.cons (MLe.ownLen (enc := Am) (d := Bh) (f := (cut 6 [vi 1,vi 0,vs ByteArray.empty,vi 0,vi 0,vi 0])) (RowIs.lit (enc := Am) (d := Bh) (n := 1) (f := (cut 6 [vi 1,vi 0,vs ByteArray.empty,vi 0,vi 0,vi 0])) [(AcN)] rfl (fun | 0,_ => rfl | n + 1,h => absurd h (by omega)))) (.cons .rfl .nil))) (.cons rfl (BLe.typed (RowIs.lit (enc := Am) (d := Bh) (n := 1) (f := (cut 6 [vi 1,vi 0,vs ByteArray.empty,vi 0,vi 0,vi 0])) [(AcN)] rfl (fun | 0,_ => rfl | n + 1,h => absurd h (by omega)))) .nil)) ?_)
 obtain rfl := sj hm
 exact DW.ret (Ai [Ag [(AcN)]] [1016] (.agg [ow 0 [(AcN)].length,pI 2]))
abbrev o70 (ks : List Nat) (b : Bool) (RES : Ae) (sm : List Nat := []) : Orc := .call 107 ks b (.agg [ow 0 RES.nodes.length,pI RES.next]) [] [Ag RES.nodes] sm

theorem AgE (RES : Aa) (hm : AdG = some RES) : Spec Tryz.prog 37 [] [] (.agg [ow 0 RES.tree.nodes.length,pI RES.tree.next,ow 1 RES.tasks.length,pI RES.next]) [] [Ag RES.tree.nodes,Ar RES.tasks] := by
 unfold AdG at hm
 refine SO Tryz.func37 rfl rfl [] [] ?_
 intro cx hnt
 refine Sq (RK hnt (.no :: []) [(0,rr 1000)] [(1000,bx [.p (.sl .nil 0 0 (fun _ => [])),pI 0,.p (.sl .nil 0 0 (fun _ => [])),pI 0])] tv ?_)
 obtain ⟨r1,hr1,hm⟩ := bo hm
 refine Sq (RK hnt (o70 [] true r1 :: nn 2 []) [(0,rr 1000)] [(1000,bx [ow 1008 r1.nodes.length,pI r1.next,.p (.sl .nil 0 0 (fun _ => [])),pI 1]),(1008,ob0 (Ag r1.nodes))] (an (Aco r1 hr1) tv) ?_)
 refine DW.cv [] [] [] [(1000,bx [ow 1008 r1.nodes.length,pI r1.next,ow 100000 0,pI 1]),(100000,ob0 (Ar []))] (Conv.ads [(.o 1000 2,100000,4,elems Ay Bq [])]) ?_
 obtain rfl := sj hm
 exact DW.ret (Ai [Ag r1.nodes,Ar []] [1008,100000] (.agg [ow 0 r1.nodes.length,pI r1.next,ow 1 0,pI 1]))
abbrev o69 (ks : List Nat) (b : Bool) (RES : Aa) (sm : List Nat := []) : Orc := .call 37 ks b (.agg [ow 0 RES.tree.nodes.length,pI RES.tree.next,ow 1 RES.tasks.length,pI RES.next]) [] [Ag RES.tree.nodes,Ar RES.tasks] sm

abbrev c72e1 (p0 : Ao) := (p0.l.getD (Int.toNat (w64 ((w64 (p0.atF + 1)) - 1))) 0)
theorem Bt (p0 : Ao) (p1 : Int) (RES : Int × Ao) (hm : Bu p0 p1 = some RES) : Spec Tryz.prog 50 [rr 0,pI p1] [.box (pm (Al p0))] (pI RES.1) [.box (pm (Al RES.2))] [] := by
 unfold Bu at hm
 refine SO Tryz.func50 rfl rfl [(0,rr 0),(1,pI p1)] [(0,bx (pm (Al p0)))] ?_
 intro cx hnt
 refine Sq (RD hnt (.no :: []) [] [] [] [] tv ?_)
 refine Sq (Sq (DW.regJ (sl2 := [(0,rr 0),(1,pI p1),(19,pB ((decide (p0.atF ≥ ((p0.l.length : Nat) : Int))) || (decide (p1 < 1))))]) (ob2 := [(0,bx (pm (Al p0)))]) ?_ ?_))
 ·rcases bt (decide (p0.atF ≥ ((p0.l.length : Nat) : Int))) with h1 | h1
  ·exact RT hnt (nn 11 (sk 2 (pT :: []))) [(19,pB true)] (an3 h1 tv) (by kernel_rfl) (.cons rfl (.of_eq (by rw [h1]; try rfl)) .nil)
  ·exact RT hnt (nn 13 (pF :: [])) [(19,pB (decide (p1 < 1)))] (an3 h1 tv) (by kernel_rfl) (.cons rfl (.of_eq (by rw [h1]; try rfl)) .nil)
 ·refine Af hm ?_ ?_
  ·intro h2 hm
   refine Sq (RD hnt (.no :: []) [0,1,19] [(4,pI 0)] [] [] tv ?_)
   obtain rfl := sj hm
   exact DW.ret (Ai [.box (pm (Al p0))] [] (pI 0))
  ·intro h2 hm
   refine Sk ?_
   refine Sq (RD hnt (nn 8 []) [19] [] [] [(0,bx [.p (slI p0.l),pI (w64 (p0.atF + 1))])] tv ?_)
   obtain ⟨g3,g4,hm⟩ := go2 hm
   refine Sq (RD hnt (nn 14 []) [0] [(5,pI (Int.tmod (c72e1 p0) p1))] [] [] (an g3.1 (an g3.2 (an g4 tv))) ?_)
   refine Sq (Sq (RD hnt (nn 2 []) [] [(41,pB (decide ((Int.tmod (c72e1 p0) p1) < 0)))] [] [] tv ?_))
   refine Jn (ι := Int) (fun (y1 : Int) => Aj [(5,pI y1)] [(0,bx [.p (slI p0.l),pI (w64 (p0.atF + 1))])]) (fun y1 => (Kw p0) y1 = some RES) ?_ ?_
   ·intro y1 hm
    unfold Kw at hm
    refine Sq (RD hnt (nn 2 []) [5] [(4,pI y1)] [] [] tv ?_)
    obtain rfl := sj hm
    exact DW.ret (Ai [.box [.p (slI p0.l),pI (w64 (p0.atF + 1))]] [] (pI y1))
   ·refine Af hm ?_ ?_
    ·intro h5 hm
     refine RD hnt (nn 4 []) [1,41] [(5,pI (w64 ((Int.tmod (c72e1 p0) p1) + p1)))] [] [] tv ?_
     exact jD (w64 ((Int.tmod (c72e1 p0) p1) + p1)) hm Conv.eqK
    ·intro h5 hm
     refine Sk ?_
     exact jD (Int.tmod (c72e1 p0) p1) hm Conv.t0
abbrev o72 (ks : List Nat) (b : Bool) (RES : Int × Ao) (sm : List Nat := []) : Orc := .call 50 ks b (pI RES.1) [.box (pm (Al RES.2))] [] sm

theorem AbF (p0 : Ao) (RES : ByteArray × Ao) (hm : Mk p0 = some RES) : Spec Tryz.prog 110 [rr 0] [.box (pm (Al p0))] (pS RES.1) [.box (pm (Al RES.2))] [] := by
 unfold Mk at hm
 refine SO Tryz.func110 rfl rfl [(0,rr 0)] [(0,bx (pm (Al p0)))] ?_
 intro cx hnt
 refine Sq (RD hnt (.no :: []) [] [] [] [] tv ?_)
 obtain ⟨r3,hr3,hm⟩ := bo hm
 obtain ⟨g4,g5,hm⟩ := go2 hm
 refine Sq (RK hnt (.asR (ow 1024 [(bs [97]),(bs [98]),(bs [99]),(bs [119,101,98]),(bs [100,98,45,49]),(bs [88,95,57])].length) [(bs [97]),(bs [98]),(bs [99]),(bs [119,101,98]),(bs [100,98,45,49]),(bs [88,95,57])].length (elems encS ByteArray.empty [(bs [97]),(bs [98]),(bs [99]),(bs [119,101,98]),(bs [100,98,45,49]),(bs [88,95,57])]) :: .no :: o72 [0] true r3 :: nn 3 []) [(2,pS ([(bs [97]),(bs [98]),(bs [99]),(bs [119,101,98]),(bs [100,98,45,49]),(bs [88,95,57])].getD (Int.toNat r3.1) ByteArray.empty))] [(0,bx (pm (Al r3.2)))] (an (congrArg (MV.own 1024 0 0) (RowIs.asP (enc := encS) (d := ByteArray.empty) (L := [(bs [97]),(bs [98]),(bs [99]),(bs [119,101,98]),(bs [100,98,45,49]),(bs [88,95,57])]) (RowIs.lit (enc := encS) (d := ByteArray.empty) (n := 6) (f := (cut 1 [vs (bs [97]),vs (bs [98]),vs (bs [99]),vs (bs [119,101,98]),vs (bs [100,98,45,49]),vs (bs [88,95,57])])) [(bs [97]),(bs [98]),(bs [99]),(bs [119,101,98]),(bs [100,98,45,49]),(bs [88,95,57])] rfl (fun | 0,_ => rfl | 1,_ => rfl | 2,_ => rfl | 3,_ => rfl | 4,_ => rfl | 5,_ => rfl | n + 6,h => absurd h (by omega)))).1) (an (RowIs.asP (enc := encS) (d := ByteArray.empty) (L := [(bs [97]),(bs [98]),(bs [99]),(bs [119,101,98]),(bs [100,98,45,49]),(bs [88,95,57])]) (RowIs.lit (enc := encS) (d := ByteArray.empty) (n := 6) (f := (cut 1 [vs (bs [97]),vs (bs [98]),vs (bs [99]),vs (bs [119,101,98]),vs (bs [100,98,45,49]),vs (bs [88,95,57])])) [(bs [97]),(bs [98]),(bs [99]),(bs [119,101,98]),(bs [100,98,45,49]),(bs [88,95,57])] rfl (fun | 0,_ => rfl | 1,_ => rfl | 2,_ => rfl | 3,_ => rfl | 4,_ => rfl | 5,_ => rfl | n + 6,h => absurd h (by omega)))) (an (Bt p0 6 r3 hr3) (an tv (an g4.1 (an g4.2 (an g5 tv))))))) ?_)
 obtain rfl := sj hm
 exact DW.ret (Ai [.box (pm (Al r3.2))] [] (pS ([(bs [97]),(bs [98]),(bs [99]),(bs [119,101,98]),(bs [100,98,45,49]),(bs [88,95,57])].getD (Int.toNat r3.1) ByteArray.empty)))
abbrev o73 (ks : List Nat) (b : Bool) (RES : ByteArray × Ao) (sm : List Nat := []) : Orc := .call 110 ks b (pS RES.1) [.box (pm (Al RES.2))] [] sm

abbrev Yz (p0 : ByteArray) (k1 : Int) : Nat × MV := (57,pB (!((((Bj p0 (Int.toNat k1)) : Nat) : Int) == 45)))
theorem Aaq (p0 : ByteArray) (RES : Bool) (hm : Qg p0 = some RES) : Spec Tryz.prog 174 [pS p0] [] (pB RES) [] [] := by
 unfold Qg at hm
 refine SO Tryz.func174 rfl rfl [(0,pS p0)] [] ?_
 intro cx hnt
 refine Sq (RK hnt (.no :: []) [(0,pS p0)] [] tv ?_)
 refine Sq (Sq ?_)
 refine Jn (ι := Bool) (fun (y1 : Bool) => Aj [(0,pS p0),(17,pB y1)] []) (fun y1 => (Mt p0) y1 = some RES) ?_ ?_
 ·intro y1 hm
  unfold Mt at hm
  refine Af hm ?_ ?_
  ·intro h4 hm
   refine Sq (RK hnt (.no :: []) [(2,pB false)] [] tv ?_)
   obtain rfl := sj hm
   exact DW.ret (Ai [] [] (pB false))
  ·intro h4 hm
   refine Sk ?_
   refine Sq (Sq (RK hnt (.no :: []) [(0,pS p0),(3,pI 0)] [] tv ?_))
   refine Bk ?_
   obtain ⟨hc1,hm⟩ := go1 hm
   refine DW.forO (fun (k1 : Int) (s1 : Unit) => Aj [(0,pS p0),(3,pI k1)] []) (lo := 0) (hi := ((p0.size : Nat) : Int)) hm .refl ?_
   intro k1 s1 n1 hk1 hs1 he1
   refine Sq (Sq (RD hnt (nn 4 []) [] [(21,pB (decide (k1 < ((p0.size : Nat) : Int))))] [] [] tv ?_))
   refine Cj (decide (k1 < ((p0.size : Nat) : Int))) ?_ ?_
   ·intro h55
    have hlt1 : k1 < ((p0.size : Nat) : Int) := by have := of_decide_eq_true h55; omega
    have hm := hs1 hlt1
    unfold Wz at hm
    refine Sk ?_
    refine Sq (Bk ?_)
    obtain ⟨g56,hm⟩ := go1 hm
    refine Sq (RD hnt (nn 4 []) [21] [(4,.p (vk .u8 (((Bj p0 (Int.toNat k1)) : Nat) : Int)))] [] [] (an g56.1 (an g56.2 tv)) ?_)
    refine Sq (DW.regJ (sl2 := [(0,pS p0),(3,pI k1),(57,pB (!((((((decide ((((Bj p0 (Int.toNat k1)) : Nat) : Int) ≥ 97)) && (decide ((((Bj p0 (Int.toNat k1)) : Nat) : Int) ≤ 122))) || ((decide ((((Bj p0 (Int.toNat k1)) : Nat) : Int) ≥ 65)) && (decide ((((Bj p0 (Int.toNat k1)) : Nat) : Int) ≤ 90)))) || ((decide ((((Bj p0 (Int.toNat k1)) : Nat) : Int) ≥ 48)) && (decide ((((Bj p0 (Int.toNat k1)) : Nat) : Int) ≤ 57)))) || ((((Bj p0 (Int.toNat k1)) : Nat) : Int) == 95)) || ((((Bj p0 (Int.toNat k1)) : Nat) : Int) == 45))))]) (ob2 := []) ?_ ?_)
    ·rcases bt (decide ((((Bj p0 (Int.toNat k1)) : Nat) : Int) ≥ 97)) with h57 | h57
     ·rcases bt (decide ((((Bj p0 (Int.toNat k1)) : Nat) : Int) ≤ 122)) with h58 | h58
      ·exact RT hnt (nn 5 (pT :: .no :: sk 6 (pT :: .no :: sk 6 (pT :: .no :: sk 2 (pT :: .no :: sk 2 (pT :: .no :: [])))))) [(57,pB false)] (an3 h57 (an5 h58 (an5 tt (an6 tt tv)))) (by kernel_rfl) (.cons rfl (.of_eq (by rw [h57,h58]; try rfl)) .nil)
      ·rcases bt (decide ((((Bj p0 (Int.toNat k1)) : Nat) : Int) ≥ 65)) with h59 | h59
       ·rcases bt (decide ((((Bj p0 (Int.toNat k1)) : Nat) : Int) ≤ 90)) with h60 | h60
        ·exact RT hnt (nn 5 (pT :: nn 6 (pT :: pF :: .no :: sk 6 (pT :: .no :: sk 2 (pT :: .no :: sk 2 (pT :: .no :: [])))))) [(57,pB false)] (an3 h57 (an3 h58 (an2 h59 (an h58 (an h59 (an h58 (an5 h60 (an6 tt tv)))))))) (by kernel_rfl) (.cons rfl (.of_eq (by rw [h57,h58,h59,h60]; try rfl)) .nil)
        ·rcases bt (decide ((((Bj p0 (Int.toNat k1)) : Nat) : Int) ≥ 48)) with h61 | h61
         ·rcases bt (decide ((((Bj p0 (Int.toNat k1)) : Nat) : Int) ≤ 57)) with h62 | h62
          ·exact RT hnt (nn 5 (pT :: nn 6 (pT :: pF :: nn 6 (pT :: pF :: .no :: sk 2 (pT :: .no :: sk 2 (pT :: .no :: [])))))) [(57,pB false)] (an3 h57 (an3 h58 (an2 h59 (an h58 (an h59 (an h58 (an3 h60 (an2 h61 (an h60 (an h61 (an h60 (an3 h62 (an3 tt tv))))))))))))) (by kernel_rfl) (.cons rfl (.of_eq (by rw [h57,h58,h59,h60,h61,h62]; try rfl)) .nil)
          ·rcases bt ((((Bj p0 (Int.toNat k1)) : Nat) : Int) == 95) with h63 | h63
           ·exact RT hnt (nn 5 (pT :: nn 6 (pT :: pF :: nn 6 (pT :: pF :: nn 3 (pF :: .no :: sk 2 (pT :: .no :: [])))))) [(57,pB false)] (an3 h57 (an3 h58 (an2 h59 (an h58 (an h59 (an h58 (an3 h60 (an2 h61 (an h60 (an h61 (an h60 (an3 h62 (an3 h63 tv))))))))))))) (by kernel_rfl) (.cons rfl (.of_eq (by rw [h57,h58,h59,h60,h61,h62,h63]; try rfl)) .nil)
           ·exact RT hnt (nn 5 (pT :: nn 6 (pT :: pF :: nn 6 (pT :: pF :: nn 3 (pF :: nn 3 (pF :: .no :: [])))))) [(Yz p0 k1)] (an3 h57 (an3 h58 (an2 h59 (an h58 (an h59 (an h58 (an3 h60 (an2 h61 (an h60 (an h61 (an h60 (an3 h62 (an3 h63 tv))))))))))))) (by kernel_rfl) (.cons rfl (.of_eq (by rw [h57,h58,h59,h60,h61,h62,h63]; try rfl)) .nil)
         ·rcases bt ((((Bj p0 (Int.toNat k1)) : Nat) : Int) == 95) with h64 | h64
          ·exact RT hnt (nn 5 (pT :: nn 6 (pT :: pF :: nn 4 (sk 2 (pF :: pF :: nn 3 (pF :: .no :: sk 2 (pT :: .no :: []))))))) [(57,pB false)] (an3 h57 (an3 h58 (an2 h59 (an h58 (an h59 (an h58 (an3 h60 (an2 h61 (an h60 (an h61 (an h60 (an3 ff (an3 h64 tv))))))))))))) (by kernel_rfl) (.cons rfl (.of_eq (by rw [h57,h58,h59,h60,h61,h64]; try rfl)) .nil)
          ·exact RT hnt (nn 5 (pT :: nn 6 (pT :: pF :: nn 4 (sk 2 (pF :: pF :: nn 3 (pF :: nn 3 (pF :: .no :: []))))))) [(Yz p0 k1)] (an3 h57 (an3 h58 (an2 h59 (an h58 (an h59 (an h58 (an3 h60 (an2 h61 (an h60 (an h61 (an h60 (an3 ff (an3 h64 tv))))))))))))) (by kernel_rfl) (.cons rfl (.of_eq (by rw [h57,h58,h59,h60,h61,h64]; try rfl)) .nil)
       ·rcases bt (decide ((((Bj p0 (Int.toNat k1)) : Nat) : Int) ≥ 48)) with h65 | h65
        ·rcases bt (decide ((((Bj p0 (Int.toNat k1)) : Nat) : Int) ≤ 57)) with h66 | h66
         ·exact RT hnt (nn 5 (pT :: nn 4 (sk 2 (pF :: pF :: nn 6 (pT :: pF :: .no :: sk 2 (pT :: .no :: sk 2 (pT :: .no :: []))))))) [(57,pB false)] (an3 h57 (an3 h58 (an2 h59 (an h58 (an h59 (an h58 (an3 ff (an2 h65 (an ff (an h65 (an ff (an3 h66 (an3 tt tv))))))))))))) (by kernel_rfl) (.cons rfl (.of_eq (by rw [h57,h58,h59,h65,h66]; try rfl)) .nil)
         ·rcases bt ((((Bj p0 (Int.toNat k1)) : Nat) : Int) == 95) with h67 | h67
          ·exact RT hnt (nn 5 (pT :: nn 4 (sk 2 (pF :: pF :: nn 6 (pT :: pF :: nn 3 (pF :: .no :: sk 2 (pT :: .no :: []))))))) [(57,pB false)] (an3 h57 (an3 h58 (an2 h59 (an h58 (an h59 (an h58 (an3 ff (an2 h65 (an ff (an h65 (an ff (an3 h66 (an3 h67 tv))))))))))))) (by kernel_rfl) (.cons rfl (.of_eq (by rw [h57,h58,h59,h65,h66,h67]; try rfl)) .nil)
          ·exact RT hnt (nn 5 (pT :: nn 4 (sk 2 (pF :: pF :: nn 6 (pT :: pF :: nn 3 (pF :: nn 3 (pF :: .no :: []))))))) [(Yz p0 k1)] (an3 h57 (an3 h58 (an2 h59 (an h58 (an h59 (an h58 (an3 ff (an2 h65 (an ff (an h65 (an ff (an3 h66 (an3 h67 tv))))))))))))) (by kernel_rfl) (.cons rfl (.of_eq (by rw [h57,h58,h59,h65,h66,h67]; try rfl)) .nil)
        ·rcases bt ((((Bj p0 (Int.toNat k1)) : Nat) : Int) == 95) with h68 | h68
         ·exact RT hnt (nn 5 (pT :: nn 4 (sk 2 (pF :: pF :: nn 4 (sk 2 (pF :: pF :: nn 3 (pF :: .no :: sk 2 (pT :: .no :: [])))))))) [(57,pB false)] (an3 h57 (an3 h58 (an2 h59 (an h58 (an h59 (an h58 (an3 ff (an2 h65 (an ff (an h65 (an4 ff (an3 h68 tv)))))))))))) (by kernel_rfl) (.cons rfl (.of_eq (by rw [h57,h58,h59,h65,h68]; try rfl)) .nil)
         ·exact RT hnt (nn 5 (pT :: nn 4 (sk 2 (pF :: pF :: nn 4 (sk 2 (pF :: pF :: nn 3 (pF :: nn 3 (pF :: .no :: [])))))))) [(Yz p0 k1)] (an3 h57 (an3 h58 (an2 h59 (an h58 (an h59 (an h58 (an3 ff (an2 h65 (an ff (an h65 (an4 ff (an3 h68 tv)))))))))))) (by kernel_rfl) (.cons rfl (.of_eq (by rw [h57,h58,h59,h65,h68]; try rfl)) .nil)
     ·rcases bt (decide ((((Bj p0 (Int.toNat k1)) : Nat) : Int) ≥ 65)) with h69 | h69
      ·rcases bt (decide ((((Bj p0 (Int.toNat k1)) : Nat) : Int) ≤ 90)) with h70 | h70
       ·exact RT hnt (nn 3 (sk 2 (pF :: nn 6 (pT :: pF :: .no :: sk 6 (pT :: .no :: sk 2 (pT :: .no :: sk 2 (pT :: .no :: []))))))) [(57,pB false)] (an3 h57 (an3 ff (an2 h69 (an ff (an h69 (an ff (an5 h70 (an6 tt tv)))))))) (by kernel_rfl) (.cons rfl (.of_eq (by rw [h57,h69,h70]; try rfl)) .nil)
       ·rcases bt (decide ((((Bj p0 (Int.toNat k1)) : Nat) : Int) ≥ 48)) with h71 | h71
        ·rcases bt (decide ((((Bj p0 (Int.toNat k1)) : Nat) : Int) ≤ 57)) with h72 | h72
         ·exact RT hnt (nn 3 (sk 2 (pF :: nn 6 (pT :: pF :: nn 6 (pT :: pF :: .no :: sk 2 (pT :: .no :: sk 2 (pT :: .no :: []))))))) [(57,pB false)] (an3 h57 (an3 ff (an2 h69 (an ff (an h69 (an ff (an3 h70 (an2 h71 (an h70 (an h71 (an h70 (an3 h72 (an3 tt tv))))))))))))) (by kernel_rfl) (.cons rfl (.of_eq (by rw [h57,h69,h70,h71,h72]; try rfl)) .nil)
         ·rcases bt ((((Bj p0 (Int.toNat k1)) : Nat) : Int) == 95) with h73 | h73
          ·exact RT hnt (nn 3 (sk 2 (pF :: nn 6 (pT :: pF :: nn 6 (pT :: pF :: nn 3 (pF :: .no :: sk 2 (pT :: .no :: []))))))) [(57,pB false)] (an3 h57 (an3 ff (an2 h69 (an ff (an h69 (an ff (an3 h70 (an2 h71 (an h70 (an h71 (an h70 (an3 h72 (an3 h73 tv))))))))))))) (by kernel_rfl) (.cons rfl (.of_eq (by rw [h57,h69,h70,h71,h72,h73]; try rfl)) .nil)
          ·exact RT hnt (nn 3 (sk 2 (pF :: nn 6 (pT :: pF :: nn 6 (pT :: pF :: nn 3 (pF :: nn 3 (pF :: .no :: []))))))) [(Yz p0 k1)] (an3 h57 (an3 ff (an2 h69 (an ff (an h69 (an ff (an3 h70 (an2 h71 (an h70 (an h71 (an h70 (an3 h72 (an3 h73 tv))))))))))))) (by kernel_rfl) (.cons rfl (.of_eq (by rw [h57,h69,h70,h71,h72,h73]; try rfl)) .nil)
        ·rcases bt ((((Bj p0 (Int.toNat k1)) : Nat) : Int) == 95) with h74 | h74
         ·exact RT hnt (nn 3 (sk 2 (pF :: nn 6 (pT :: pF :: nn 4 (sk 2 (pF :: pF :: nn 3 (pF :: .no :: sk 2 (pT :: .no :: [])))))))) [(57,pB false)] (an3 h57 (an3 ff (an2 h69 (an ff (an h69 (an ff (an3 h70 (an2 h71 (an h70 (an h71 (an h70 (an3 ff (an3 h74 tv))))))))))))) (by kernel_rfl) (.cons rfl (.of_eq (by rw [h57,h69,h70,h71,h74]; try rfl)) .nil)
         ·exact RT hnt (nn 3 (sk 2 (pF :: nn 6 (pT :: pF :: nn 4 (sk 2 (pF :: pF :: nn 3 (pF :: nn 3 (pF :: .no :: [])))))))) [(Yz p0 k1)] (an3 h57 (an3 ff (an2 h69 (an ff (an h69 (an ff (an3 h70 (an2 h71 (an h70 (an h71 (an h70 (an3 ff (an3 h74 tv))))))))))))) (by kernel_rfl) (.cons rfl (.of_eq (by rw [h57,h69,h70,h71,h74]; try rfl)) .nil)
      ·rcases bt (decide ((((Bj p0 (Int.toNat k1)) : Nat) : Int) ≥ 48)) with h75 | h75
       ·rcases bt (decide ((((Bj p0 (Int.toNat k1)) : Nat) : Int) ≤ 57)) with h76 | h76
        ·exact RT hnt (nn 3 (sk 2 (pF :: nn 4 (sk 2 (pF :: pF :: nn 6 (pT :: pF :: .no :: sk 2 (pT :: .no :: sk 2 (pT :: .no :: [])))))))) [(57,pB false)] (an3 h57 (an3 ff (an2 h69 (an ff (an h69 (an4 ff (an2 h75 (an ff (an h75 (an ff (an3 h76 (an3 tt tv)))))))))))) (by kernel_rfl) (.cons rfl (.of_eq (by rw [h57,h69,h75,h76]; try rfl)) .nil)
        ·rcases bt ((((Bj p0 (Int.toNat k1)) : Nat) : Int) == 95) with h77 | h77
         ·exact RT hnt (nn 3 (sk 2 (pF :: nn 4 (sk 2 (pF :: pF :: nn 6 (pT :: pF :: nn 3 (pF :: .no :: sk 2 (pT :: .no :: [])))))))) [(57,pB false)] (an3 h57 (an3 ff (an2 h69 (an ff (an h69 (an4 ff (an2 h75 (an ff (an h75 (an ff (an3 h76 (an3 h77 tv)))))))))))) (by kernel_rfl) (.cons rfl (.of_eq (by rw [h57,h69,h75,h76,h77]; try rfl)) .nil)
         ·exact RT hnt (nn 3 (sk 2 (pF :: nn 4 (sk 2 (pF :: pF :: nn 6 (pT :: pF :: nn 3 (pF :: nn 3 (pF :: .no :: [])))))))) [(Yz p0 k1)] (an3 h57 (an3 ff (an2 h69 (an ff (an h69 (an4 ff (an2 h75 (an ff (an h75 (an ff (an3 h76 (an3 h77 tv)))))))))))) (by kernel_rfl) (.cons rfl (.of_eq (by rw [h57,h69,h75,h76,h77]; try rfl)) .nil)
       ·rcases bt ((((Bj p0 (Int.toNat k1)) : Nat) : Int) == 95) with h78 | h78
        ·exact RT hnt (nn 3 (sk 2 (pF :: nn 4 (sk 2 (pF :: pF :: nn 4 (sk 2 (pF :: pF :: nn 3 (pF :: .no :: sk 2 (pT :: .no :: []))))))))) [(57,pB false)] (an3 h57 (an3 ff (an2 h69 (an ff (an h69 (an4 ff (an2 h75 (an ff (an h75 (an4 ff (an3 h78 tv))))))))))) (by kernel_rfl) (.cons rfl (.of_eq (by rw [h57,h69,h75,h78]; try rfl)) .nil)
        ·exact RT hnt (nn 3 (sk 2 (pF :: nn 4 (sk 2 (pF :: pF :: nn 4 (sk 2 (pF :: pF :: nn 3 (pF :: nn 3 (pF :: .no :: []))))))))) [(Yz p0 k1)] (an3 h57 (an3 ff (an2 h69 (an ff (an h69 (an4 ff (an2 h75 (an ff (an h75 (an4 ff (an3 h78 tv))))))))))) (by kernel_rfl) (.cons rfl (.of_eq (by rw [h57,h69,h75,h78]; try rfl)) .nil)
    ·refine Af hm ?_ ?_
     ·intro h79 hm
      refine Sq (RK hnt (.no :: []) [(2,pB false)] [] tv ?_)
      obtain rfl := sj hm
      exact DW.ret (Ai [] [] (pB false))
     ·intro h79 hm
      refine Sk ?_
      refine DW.done ?_
      show DW _ _ _ _ _
      refine RK hnt (nn 3 []) [(0,pS p0),(3,pI (w64 (k1 + 1)))] [] tv ?_
      exact jD () ⟨hlt1,hm⟩ (Conv.tp [(3,pI (w64 (k1 + 1)))] [] (by kernel_rfl) (.cons rfl (.of_eq (congrArg pI (To (lo := 0) (hi := ((p0.size : Nat) : Int)) (by omega) hk1 hlt1 (by omega)))) .nil) .nil)
   ·intro h55
    have hge1 : ¬ k1 < ((p0.size : Nat) : Int) := by have := of_decide_eq_false h55; omega
    have hm := he1 hge1
    unfold Aca at hm
    refine DW.exit ?_
    refine An ?_
    refine Aw ?_
    refine Ak ?_
    show DW _ _ _ _ _
    refine Sq (RK hnt (.no :: []) [(2,pB true)] [] tv ?_)
    obtain rfl := sj hm
    exact DW.ret (Ai [] [] (pB true))
 ·rcases bt (((p0.size : Nat) : Int) == 0) with h1 | h1
  ·replace hm := Bd h1 hm
   refine RK hnt (nn 4 (sk 3 (pT :: .no :: sk 3 (pT :: [])))) [(0,pS p0),(17,pB true)] [] (an4 h1 (an4 tt tv)) ?_
   exact jD true hm .refl
  ·replace hm := Be h1 hm
   rcases bt (decide (((p0.size : Nat) : Int) > 32)) with h2 | h2
   ·replace hm := Bd h2 hm
    refine RK hnt (nn 7 (pF :: .no :: sk 3 (pT :: []))) [(0,pS p0),(17,pB true)] [] (an4 h1 (an4 h2 tv)) ?_
    exact jD true hm .refl
   ·replace hm := Be h2 hm
    obtain ⟨g3,hm⟩ := go1 hm
    refine RK hnt (nn 7 (pF :: nn 4 (pF :: []))) [(0,pS p0),(17,pB ((((Bj p0 0) : Nat) : Int) == 45))] [] (an4 h1 (an2 h2 (an (nn0 0) (an (ltc g3) (an2 h2 tv))))) ?_
    exact jD ((((Bj p0 0) : Nat) : Int) == 45) hm .refl
abbrev o77 (ks : List Nat) (b : Bool) (RES : Bool) (sm : List Nat := []) : Orc := .call 174 ks b (pB RES) [] [] sm

abbrev Dz (p0 : Ae) (p1 : Int) := (p0.nodes.getD (Int.toNat p1) Bh)
abbrev Acw (p0 : Ae) (p1 : Int) : Nat × Obj := (1040,bx (pm (Am (Dz p0 p1))))
abbrev AcT (p0 : Ae) : Nat × Obj := (1016,bx (pm (Aq p0)))
abbrev c76e4 (p0 : Ae) (k1 : Int) := (p0.nodes.getD (Int.toNat k1) Bh)
theorem AfO (p0 : Ae) (p1 : Int) (RES : Bool) (hm : Vh p0 p1 = some RES) : Spec Tryz.prog 169 [.p (.agg (Aq p0)),pI p1] [] (pB RES) [] [] := by
 unfold Vh at hm
 refine SO Tryz.func169 rfl rfl [(0,.p (.agg (Aq p0))),(1,pI p1)] [] ?_
 intro cx hnt
 refine Sq (RK hnt (nn 2 []) [(1,pI p1),(2,rr 1016)] [(AcT p0)] tv ?_)
 obtain ⟨g1,hm⟩ := go1 hm
 refine Sq (RD hnt (nn 7 []) [] [(5,rr 1040)] [] [(Acw p0 p1)] (an g1.1 (an g1.2 tv)) ?_)
 refine Sq (Sq (DW.regJ (sl2 := [(1,pI p1),(2,rr 1016),(5,rr 1040),(40,pB (((((((Dz p0 p1).kind != 0) && ((Dz p0 p1).kind != 1)) || (decide ((Dz p0 p1).control < 0))) || (decide ((Dz p0 p1).control > 31))) || (decide ((Dz p0 p1).owner < 0))) || (decide ((Dz p0 p1).owner > 1048576))))]) (ob2 := [(AcT p0),(Acw p0 p1)]) ?_ ?_))
 ·rcases bt ((Dz p0 p1).kind != 0) with h2 | h2
  ·rcases bt ((Dz p0 p1).kind != 1) with h3 | h3
   ·exact RT hnt (nn 7 (pT :: .no :: sk 3 (pT :: .no :: sk 3 (pT :: .no :: sk 3 (pT :: .no :: sk 3 (pT :: [])))))) [(40,pB true)] (an4 h2 (an4 h3 (an6 tt (an6 tt tv)))) (by kernel_rfl) (.cons rfl (.of_eq (by rw [h2,h3]; try rfl)) .nil)
   ·rcases bt (decide ((Dz p0 p1).control < 0)) with h4 | h4
    ·exact RT hnt (nn 7 (pT :: nn 4 (pF :: .no :: sk 3 (pT :: .no :: sk 3 (pT :: .no :: sk 3 (pT :: [])))))) [(40,pB true)] (an4 h2 (an4 h3 (an4 h4 (an2 tt (an6 tt tv))))) (by kernel_rfl) (.cons rfl (.of_eq (by rw [h2,h3,h4]; try rfl)) .nil)
    ·rcases bt (decide ((Dz p0 p1).control > 31)) with h5 | h5
     ·exact RT hnt (nn 7 (pT :: nn 4 (pF :: nn 4 (pF :: .no :: sk 3 (pT :: .no :: sk 3 (pT :: [])))))) [(40,pB true)] (an4 h2 (an4 h3 (an4 h4 (an4 h5 (an4 tt tv))))) (by kernel_rfl) (.cons rfl (.of_eq (by rw [h2,h3,h4,h5]; try rfl)) .nil)
     ·rcases bt (decide ((Dz p0 p1).owner < 0)) with h6 | h6
      ·exact RT hnt (nn 7 (pT :: nn 4 (pF :: nn 4 (pF :: nn 4 (pF :: .no :: sk 3 (pT :: [])))))) [(40,pB true)] (an4 h2 (an4 h3 (an4 h4 (an4 h5 (an4 h6 tv))))) (by kernel_rfl) (.cons rfl (.of_eq (by rw [h2,h3,h4,h5,h6]; try rfl)) .nil)
      ·exact RT hnt (nn 7 (pT :: nn 4 (pF :: nn 4 (pF :: nn 4 (pF :: nn 4 (pF :: [])))))) [(40,pB (decide ((Dz p0 p1).owner > 1048576)))] (an4 h2 (an4 h3 (an4 h4 (an4 h5 (an4 h6 tv))))) (by kernel_rfl) (.cons rfl (.of_eq (by rw [h2,h3,h4,h5,h6]; try rfl)) .nil)
  ·rcases bt (decide ((Dz p0 p1).control < 0)) with h7 | h7
   ·exact RT hnt (nn 4 (sk 3 (pF :: nn 4 (pF :: .no :: sk 3 (pT :: .no :: sk 3 (pT :: .no :: sk 3 (pT :: []))))))) [(40,pB true)] (an4 h2 (an4 ff (an4 h7 (an2 tt (an6 tt tv))))) (by kernel_rfl) (.cons rfl (.of_eq (by rw [h2,h7]; try rfl)) .nil)
   ·rcases bt (decide ((Dz p0 p1).control > 31)) with h8 | h8
    ·exact RT hnt (nn 4 (sk 3 (pF :: nn 4 (pF :: nn 4 (pF :: .no :: sk 3 (pT :: .no :: sk 3 (pT :: []))))))) [(40,pB true)] (an4 h2 (an4 ff (an4 h7 (an4 h8 (an4 tt tv))))) (by kernel_rfl) (.cons rfl (.of_eq (by rw [h2,h7,h8]; try rfl)) .nil)
    ·rcases bt (decide ((Dz p0 p1).owner < 0)) with h9 | h9
     ·exact RT hnt (nn 4 (sk 3 (pF :: nn 4 (pF :: nn 4 (pF :: nn 4 (pF :: .no :: sk 3 (pT :: []))))))) [(40,pB true)] (an4 h2 (an4 ff (an4 h7 (an4 h8 (an4 h9 tv))))) (by kernel_rfl) (.cons rfl (.of_eq (by rw [h2,h7,h8,h9]; try rfl)) .nil)
     ·exact RT hnt (nn 4 (sk 3 (pF :: nn 4 (pF :: nn 4 (pF :: nn 4 (pF :: nn 4 (pF :: []))))))) [(40,pB (decide ((Dz p0 p1).owner > 1048576)))] (an4 h2 (an4 ff (an4 h7 (an4 h8 (an4 h9 tv))))) (by kernel_rfl) (.cons rfl (.of_eq (by rw [h2,h7,h8,h9]; try rfl)) .nil)
 ·refine Af hm ?_ ?_
  ·intro h10 hm
   refine Sq (RK hnt (.no :: []) [(4,pB false)] [] tv ?_)
   obtain rfl := sj hm
   exact DW.ret (Ai [] [] (pB false))
  ·intro h10 hm
   refine Sk ?_
   refine Sq (Sq (RD hnt (nn 2 []) [40] [(42,pB (p1 == 0))] [] [] tv ?_))
   refine Af hm ?_ ?_
   ·intro h11 hm
    refine Sq (DW.regJ (sl2 := [(4,pB (((((Dz p0 p1).id == 1) && ((Dz p0 p1).parent == 0)) && (Dr (Dz p0 p1).name ByteArray.empty)) && ((Dz p0 p1).kind == 0)))]) (ob2 := []) ?_ ?_)
    ·rcases bt ((Dz p0 p1).id == 1) with h12 | h12
     ·rcases bt ((Dz p0 p1).parent == 0) with h13 | h13
      ·rcases bt (Dr (Dz p0 p1).name ByteArray.empty) with h14 | h14
       ·exact RT hnt (nn 7 (pT :: nn 4 (pT :: nn 4 (pT :: .no :: [])))) [(4,pB ((Dz p0 p1).kind == 0))] (an4 h12 (an4 h13 (an4 h14 tv))) (by kernel_rfl) (.cons rfl (.of_eq (by rw [h12,h13,h14]; try rfl)) .nil)
       ·exact RT hnt (nn 7 (pT :: nn 4 (pT :: .no :: sk 3 (pF :: .no :: [])))) [(4,pB false)] (an4 h12 (an4 h13 (an4 h14 tv))) (by kernel_rfl) (.cons rfl (.of_eq (by rw [h12,h13,h14]; try rfl)) .nil)
      ·exact RT hnt (nn 7 (pT :: .no :: sk 3 (pF :: .no :: sk 3 (pF :: .no :: [])))) [(4,pB false)] (an4 h12 (an4 h13 (an4 ff tv))) (by kernel_rfl) (.cons rfl (.of_eq (by rw [h12,h13]; try rfl)) .nil)
     ·exact RT hnt (nn 4 (sk 3 (pF :: .no :: sk 3 (pF :: .no :: sk 3 (pF :: .no :: []))))) [(4,pB false)] (an4 h12 (an2 ff (an6 ff tv))) (by kernel_rfl) (.cons rfl (.of_eq (by rw [h12]; try rfl)) .nil)
    ·refine DW.ret ?_
     obtain rfl := sj hm
     exact Ai [] [] (pB (((((Dz p0 p1).id == 1) && ((Dz p0 p1).parent == 0)) && (Dr (Dz p0 p1).name ByteArray.empty)) && ((Dz p0 p1).kind == 0)))
   ·intro h11 hm
    refine Sk ?_
    obtain ⟨g15,hm⟩ := go1 hm
    refine Sq (Sq ?_)
    refine Jn (ι := Bool) (fun (y1 : Bool) => Aj [(1,pI p1),(2,rr 1016),(5,rr 1040),(76,pB y1)] [(AcT p0),(Acw p0 p1)]) (fun y1 => (Ra p0 p1) y1 = some RES) ?_ ?_
    ·intro y1 hm
     unfold Ra at hm
     refine Af hm ?_ ?_
     ·intro h18 hm
      refine Sq (RK hnt (.no :: []) [(4,pB false)] [] tv ?_)
      obtain rfl := sj hm
      exact DW.ret (Ai [] [] (pB false))
     ·intro h18 hm
      refine Sk ?_
      refine Sq (RD hnt (.no :: []) [76] [(6,pB false)] [] [] tv ?_)
      refine Sq (Sq (RD hnt (.no :: []) [] [(7,pI 0)] [] [] tv ?_))
      refine Bk ?_
      obtain ⟨hc1,hm⟩ := go1 hm
      refine DW.forO (fun (k1 : Int) (s1 : Bool) => Aj [(1,pI p1),(2,rr 1016),(5,rr 1040),(6,pB s1),(7,pI k1)] [(AcT p0),(Acw p0 p1)]) (lo := 0) (hi := p1) hm Conv.eqK ?_
      intro k1 s1 n1 hk1 hs1 he1
      refine Sq (Sq (RD hnt (nn 3 []) [] [(79,pB (decide (k1 < p1)))] [] [] tv ?_))
      refine Cj (decide (k1 < p1)) ?_ ?_
      ·intro h32
       have hlt1 : k1 < p1 := by have := of_decide_eq_true h32; omega
       have hm := hs1 hlt1
       unfold Aad at hm
       refine Sk ?_
       refine Sq (Bk ?_)
       refine Sq ?_
       refine Jn (ι := Bool) (fun (y5 : Bool) => Aj [(1,pI p1),(2,rr 1016),(5,rr 1040),(6,pB y5),(7,pI k1)] [(AcT p0),(Acw p0 p1)]) (fun y5 => (Ol p0 p1 k1 n1) y5 = some RES) ?_ ?_
       ·intro y5 hm
        unfold Ol at hm
        obtain ⟨g35,hm⟩ := go1 hm
        refine Sq ?_
        refine Jn (ι := Bool) (fun (y6 : Bool) => Aj [(1,pI p1),(2,rr 1016),(5,rr 1040),(6,pB y5),(7,pI k1),(113,pB y6)] [(AcT p0),(Acw p0 p1)]) (fun y6 => (Oj n1 y5) y6 = some RES) ?_ ?_
        ·intro y6 hm
         unfold Oj at hm
         refine Af hm ?_ ?_
         ·intro h38 hm
          refine Sq (RK hnt (.no :: []) [(4,pB false)] [] tv ?_)
          obtain rfl := sj hm
          exact DW.ret (Ai [] [] (pB false))
         ·intro h38 hm
          refine Sk ?_
          refine DW.done ?_
          show DW _ _ _ _ _
          refine RD hnt (nn 3 []) [113] [(7,pI (w64 (k1 + 1)))] [] [] tv ?_
          exact jD y5 ⟨hlt1,hm⟩ (Conv.tp [(7,pI (w64 (k1 + 1)))] [] (by kernel_rfl) (.cons rfl (.of_eq (congrArg pI (To (lo := 0) (hi := p1) (by omega) hk1 hlt1 (by omega)))) .nil) .nil)
        ·rcases bt ((c76e4 p0 k1).parent == (Dz p0 p1).parent) with h36 | h36
         ·replace hm := Bd h36 hm
          obtain ⟨g37,hm⟩ := go1 hm
          refine RD hnt (nn 19 (pT :: [])) [] [(113,pB (Dr (c76e4 p0 k1).name (Dz p0 p1).name))] [] [] (an g35.1 (an g35.2 (an4 h36 (an g37.1 (an g37.2 (an6 h36 tv)))))) ?_
          exact jD (Dr (c76e4 p0 k1).name (Dz p0 p1).name) hm Conv.eqK
         ·replace hm := Be h36 hm
          refine RD hnt (nn 10 (sk 9 (pF :: []))) [] [(113,pB false)] [] [] (an g35.1 (an g35.2 (an4 h36 (an6 h36 tv)))) ?_
          exact jD false hm Conv.eqK
       ·rcases bt s1 with h33 | h33
        ·replace hm := Bd h33 hm
         refine RD hnt (nn 2 (sk 9 (pT :: .no :: []))) [79] [(6,pB true)] [] [] (an4 h33 (an6 h33 tv)) ?_
         exact jD true hm Conv.eqK
        ·replace hm := Be h33 hm
         obtain ⟨g34,hm⟩ := go1 hm
         refine RD hnt (nn 11 (pF :: .no :: [])) [79] [(6,pB ((c76e4 p0 k1).id == (Dz p0 p1).parent))] [] [] (an4 h33 (an g34.1 (an g34.2 (an6 h33 tv)))) ?_
         exact jD ((c76e4 p0 k1).id == (Dz p0 p1).parent) hm Conv.eqK
      ·intro h32
       have hge1 : ¬ k1 < p1 := by have := of_decide_eq_false h32; omega
       have hm := he1 hge1
       unfold Adk at hm
       refine DW.exit ?_
       refine An ?_
       refine Aw ?_
       refine Ak ?_
       show DW _ _ _ _ _
       refine Sq (RK hnt (nn 2 []) [(4,pB s1)] [] tv ?_)
       obtain rfl := sj hm
       exact DW.ret (Ai [] [] (pB s1))
    ·rcases bt (decide ((Dz p0 p1).id ≤ (p0.nodes.getD (Int.toNat (w64 (p1 - 1))) Bh).id)) with h16 | h16
     ·replace hm := Bd h16 hm
      refine RD hnt (nn 11 (sk 4 (pT :: []))) [42] [(76,pB true)] [] [] (an g15.1 (an g15.2 (an5 h16 tv))) ?_
      exact jD true hm Conv.eqK
     ·replace hm := Be h16 hm
      obtain ⟨r17,hr17,hm⟩ := bo hm
      refine RD hnt (nn 13 (o77 [] true r17 :: .no :: pF :: [])) [42] [(76,pB (!r17))] [] [] (an g15.1 (an g15.2 (an3 h16 (an (Aaq (Dz p0 p1).name r17 hr17) (an2 h16 tv))))) ?_
      exact jD (!r17) hm Conv.eqK
abbrev o76 (ks : List Nat) (b : Bool) (RES : Bool) (sm : List Nat := []) : Orc := .call 169 ks b (pB RES) [] [] sm

theorem Adl (p0 : Ae) (p1 : Int) (RES : List Int) (hm : Wu p0 p1 = some RES) : Spec Tryz.prog 128 [.p (.agg (Aq p0)),pI p1] [] (ow 0 RES.length) [] [roI RES] := by
 unfold Wu at hm
 refine SO Tryz.func128 rfl rfl [(0,.p (.agg (Aq p0))),(1,pI p1)] [] ?_
 intro cx hnt
 refine Sq (RK hnt (nn 2 []) [(1,pI p1),(2,rr 1016)] [(1016,bx (pm (Aq p0)))] tv ?_)
 refine Sq (RD hnt (.no :: []) [] [(5,.p (.sl .nil 0 0 (fun _ => [])))] [] [] tv ?_)
 refine Sq (Sq (RD hnt (nn 5 []) [] [(6,pI (w64 (((p0.nodes.length : Nat) : Int) - 1)))] [] [] tv ?_))
 refine Bk ?_
 refine DW.whileO (fun (s1 : (List Int) × Int × Int) => Aj [(1,pI s1.2.1),(2,rr 1016),(5,ow 1208 s1.1.length),(6,pI s1.2.2)] [(1016,bx (pm (Aq p0))),(1208,ob0 (roI s1.1))]) hm (Conv.ads [(.s 5,1208,1,elems Bo 0 [])]) ?_
 intro s1 n1 hm
 unfold AbN at hm
 refine Sq (Sq (RD hnt (nn 2 []) [] [(12,pB (decide (s1.2.2 ≥ 0)))] [] [] tv ?_))
 refine Af hm ?_ ?_
 ·intro h5 hm
  refine Sk ?_
  refine Sq ?_
  refine Jn (ι := (List Int) × Int) (fun (y2 : (List Int) × Int) => Aj [(1,pI y2.2),(2,rr 1016),(5,ow 1208 y2.1.length),(6,pI s1.2.2)] [(1016,bx (pm (Aq p0))),(1208,ob0 (roI y2.1))]) (fun y2 => (Sa s1 n1) y2 = some RES) ?_ ?_
  ·intro y2 hm
   unfold Sa at hm
   refine RD hnt (nn 3 []) [] [(6,pI (w64 (s1.2.2 - 1)))] [] [] tv ?_
   exact jD (y2.1,y2.2,(w64 (s1.2.2 - 1))) hm Conv.eqK
  ·refine Bk ?_
   obtain ⟨g6,hm⟩ := go1 hm
   refine Sq (RD hnt (nn 8 []) [12] [(22,pB ((p0.nodes.getD (Int.toNat s1.2.2) Bh).id == s1.2.1))] [] [] (an g6.1 (an g6.2 tv)) ?_)
   refine Af hm ?_ ?_
   ·intro h7 hm
    obtain ⟨g8,hm⟩ := go1 hm
    refine Sq (RN hnt (nn 5 []) [(2,rr 1016),(5,ow 1208 (s1.1 ++ [s1.2.1]).length),(6,pI s1.2.2)] [(1016,bx (pm (Aq p0))),(1208,ob0 (roI (s1.1 ++ [s1.2.1])))] [(5,ow 1208 (s1.1.length + 1))] [(1208,.row 1 (s1.1.length + 1) (Dq s1.1.length (elI s1.1) (cut 1 [vi s1.2.1])))] (an (by omega : (s1.1.length + 1) * 8 ≤ 140737488355328) tv) (by kernel_rfl) (.cons rfl (MLe.ownLen (enc := Bo) (d := 0) (f := (Dq s1.1.length (elI s1.1) (cut 1 [vi s1.2.1]))) (RowIs.cat RowIs.elems (RowIs.lit (enc := Bo) (d := 0) (n := 1) (f := (cut 1 [vi s1.2.1])) [s1.2.1] rfl (fun | 0,_ => rfl | n + 1,h => absurd h (by omega))))) .nil) (.cons rfl (BLe.typed (RowIs.cat RowIs.elems (RowIs.lit (enc := Bo) (d := 0) (n := 1) (f := (cut 1 [vi s1.2.1])) [s1.2.1] rfl (fun | 0,_ => rfl | n + 1,h => absurd h (by omega))))) .nil) ?_)
    obtain ⟨g9,hm⟩ := go1 hm
    refine RD hnt (nn 7 []) [] [(1,pI (p0.nodes.getD (Int.toNat s1.2.2) Bh).parent)] [] [] (an g9.1 (an g9.2 tv)) ?_
    exact bD ((s1.1 ++ [s1.2.1]),(p0.nodes.getD (Int.toNat s1.2.2) Bh).parent) hm Conv.eqK
   ·intro h7 hm
    refine Sk ?_
    exact bD (s1.1,s1.2.1) hm Conv.t0
 ·intro h5 hm
  refine DW.exit ?_
  refine An ?_
  refine Aw ?_
  refine Ak ?_
  show DW _ _ _ _ _
  refine Sq (RK hnt (nn 2 []) [(4,ow 1208 s1.1.length)] [(1208,ob0 (roI s1.1))] tv ?_)
  obtain rfl := sj hm
  exact DW.ret (Ai [roI s1.1] [1208] (ow 0 s1.1.length))
abbrev o78 (ks : List Nat) (b : Bool) (RES : List Int) (sm : List Nat := []) : Orc := .call 128 ks b (ow 0 RES.length) [] [roI RES] sm

abbrev c75e1 (p0 : Ae) : Nat × MV := (3,pI ((p0.nodes.length : Nat) : Int))
theorem Fv (p0 : Ae) (RES : Bool) (hm : Jd p0 = some RES) : Spec Tryz.prog 94 [.p (.agg (Aq p0))] [] (pB RES) [] [] := by
 unfold Jd at hm
 refine SO Tryz.func94 rfl rfl [(0,.p (.agg (Aq p0)))] [] ?_
 intro cx hnt
 refine Sq (RK hnt (nn 2 []) [(1,rr 1008)] [(1008,bx (pm (Aq p0)))] tv ?_)
 refine Sq (RD hnt (nn 4 []) [] [(c75e1 p0)] [] [] tv ?_)
 refine Sq (Sq (DW.regJ (sl2 := [(1,rr 1008),(c75e1 p0),(14,pB ((decide (((p0.nodes.length : Nat) : Int) < 1)) || (decide (((p0.nodes.length : Nat) : Int) > 64))))]) (ob2 := [(1008,bx (pm (Aq p0)))]) ?_ ?_))
 ·rcases bt (decide (((p0.nodes.length : Nat) : Int) < 1)) with h1 | h1
  ·exact RT hnt (nn 3 (sk 2 (pT :: []))) [(14,pB true)] (an3 h1 tv) (by kernel_rfl) (.cons rfl (.of_eq (by rw [h1]; try rfl)) .nil)
  ·exact RT hnt (nn 5 (pF :: [])) [(14,pB (decide (((p0.nodes.length : Nat) : Int) > 64)))] (an3 h1 tv) (by kernel_rfl) (.cons rfl (.of_eq (by rw [h1]; try rfl)) .nil)
 ·refine Af hm ?_ ?_
  ·intro h2 hm
   refine Sq (RK hnt (.no :: []) [(2,pB false)] [] tv ?_)
   obtain rfl := sj hm
   exact DW.ret (Ai [] [] (pB false))
  ·intro h2 hm
   refine Sk ?_
   refine Sq (Sq (RD hnt (.no :: []) [14] [(4,pI 0)] [] [] tv ?_))
   refine Bk ?_
   obtain ⟨hc1,hm⟩ := go1 hm
   refine DW.rangeO (fun (k1 : Nat) (s1 : Unit) => Aj [(1,rr 1008),(c75e1 p0),(4,pI ((k1 : Nat) : Int))] [(1008,bx (pm (Aq p0)))]) Bh hm Conv.eqK ?_
   intro k1 s1 n1 hk1 hs1 he1
   refine Sq (Sq (RD hnt (nn 3 []) [] [(17,pB (decide (((k1 : Nat) : Int) < ((p0.nodes.length : Nat) : Int))))] [] [] tv ?_))
   refine Cj (decide (((k1 : Nat) : Int) < ((p0.nodes.length : Nat) : Int))) ?_ ?_
   ·intro h32
    have hlt1 : k1 < p0.nodes.length := by have := of_decide_eq_true h32; omega
    have hm := hs1 hlt1
    unfold Xp at hm
    refine Sk ?_
    refine Sq (Bk ?_)
    obtain ⟨r33,hr33,hm⟩ := bo hm
    refine Sq (RD hnt (nn 2 (o76 [] true r33 :: .no :: [])) [17] [(23,pB (!r33))] [] [] (an (AfO p0 ((k1 : Nat) : Int) r33 hr33) tv) ?_)
    refine Af hm ?_ ?_
    ·intro h34 hm
     refine Sq (RK hnt (.no :: []) [(2,pB false)] [] tv ?_)
     obtain rfl := sj hm
     exact DW.ret (Ai [] [] (pB false))
    ·intro h34 hm
     refine Sk ?_
     refine DW.done ?_
     show DW _ _ _ _ _
     refine RD hnt (nn 3 []) [23] [(4,pI (w64 (((k1 : Nat) : Int) + 1)))] [] [] tv ?_
     exact jD () ⟨hlt1,hm⟩ (Conv.tp [(4,pI (w64 (((k1 : Nat) : Int) + 1)))] [] (by kernel_rfl) (.cons rfl (.of_eq (congrArg pI (Bn hlt1 hc1))) .nil) .nil)
   ·intro h32
    have hge1 : ¬ k1 < p0.nodes.length := by have := of_decide_eq_false h32; omega
    have hm := he1 hge1
    unfold Xt at hm
    refine DW.exit ?_
    refine An ?_
    refine Aw ?_
    refine Ak ?_
    show DW _ _ _ _ _
    refine Sq (Sq (RD hnt (.no :: []) [4,17] [(5,pI 0)] [] [] tv ?_))
    refine Bk ?_
    obtain ⟨hc4,hm⟩ := go1 hm
    refine DW.rangeO (fun (k4 : Nat) (s4 : Unit) => Aj [(1,rr 1008),(c75e1 p0),(5,pI ((k4 : Nat) : Int))] [(1008,bx (pm (Aq p0)))]) Bh hm Conv.eqK ?_
    intro k4 s4 n4 hk4 hs4 he4
    refine Sq (Sq (RD hnt (nn 3 []) [] [(26,pB (decide (((k4 : Nat) : Int) < ((p0.nodes.length : Nat) : Int))))] [] [] tv ?_))
    refine Cj (decide (((k4 : Nat) : Int) < ((p0.nodes.length : Nat) : Int))) ?_ ?_
    ·intro h49
     have hlt4 : k4 < p0.nodes.length := by have := of_decide_eq_true h49; omega
     have hm := hs4 hlt4
     unfold Xa at hm
     refine Sk ?_
     refine Sq (Bk ?_)
     obtain ⟨r50,hr50,hm⟩ := bo hm
     refine Sq (RD hnt (nn 7 (o78 [] true r50 :: nn 2 [])) [26] [(38,pB (decide (((r50.length : Nat) : Int) > 9)))] [] [] (an (nn0 k4) (an (ltc hlt4) (an (Adl p0 (p0.nodes.getD k4 (default : Ah)).id r50 hr50) tv))) ?_)
     refine Af hm ?_ ?_
     ·intro h51 hm
      refine Sq (RK hnt (.no :: []) [(2,pB false)] [] tv ?_)
      obtain rfl := sj hm
      exact DW.ret (Ai [] [] (pB false))
     ·intro h51 hm
      refine Sk ?_
      refine DW.done ?_
      show DW _ _ _ _ _
      refine RD hnt (nn 3 []) [38] [(5,pI (w64 (((k4 : Nat) : Int) + 1)))] [] [] tv ?_
      exact jD () ⟨hlt4,hm⟩ (Conv.tp [(5,pI (w64 (((k4 : Nat) : Int) + 1)))] [] (by kernel_rfl) (.cons rfl (.of_eq (congrArg pI (Bn hlt4 hc4))) .nil) .nil)
    ·intro h49
     have hge4 : ¬ k4 < p0.nodes.length := by have := of_decide_eq_false h49; omega
     have hm := he4 hge4
     unfold Yd at hm
     refine DW.exit ?_
     refine An ?_
     refine Aw ?_
     refine Ak ?_
     show DW _ _ _ _ _
     obtain ⟨g52,hm⟩ := go1 hm
     refine Sq ?_
     refine Jn (ι := Bool) (fun (y7 : Bool) => Aj [(2,pB y7)] []) (fun y7 => Po y7 = some RES) ?_ ?_
     ·intro y7 hm
      unfold Po at hm
      obtain rfl := sj hm
      exact DW.ret (Ai [] [] (pB y7))
     ·rcases bt (decide (p0.next > (p0.nodes.getD (Int.toNat (w64 (((p0.nodes.length : Nat) : Int) - 1))) Bh).id)) with h53 | h53
      ·replace hm := Bd h53 hm
       refine RK hnt (nn 14 (pT :: .no :: [])) [(2,pB (decide (p0.next ≤ 2147483648)))] [] (an g52.1 (an g52.2 (an4 h53 tv))) ?_
       exact jD (decide (p0.next ≤ 2147483648)) hm .refl
      ·replace hm := Be h53 hm
       refine RK hnt (nn 11 (sk 3 (pF :: .no :: []))) [(2,pB false)] [] (an g52.1 (an g52.2 (an4 h53 tv))) ?_
       exact jD false hm .refl
abbrev o75 (ks : List Nat) (b : Bool) (RES : Bool) (sm : List Nat := []) : Orc := .call 94 ks b (pB RES) [] [] sm

theorem Db (p0 : Ae) (p1 : Int) (RES : Ah × Bool) (hm : Dc p0 p1 = some RES) : Spec Tryz.prog 44 [.p (.agg (Aq p0)),pI p1] [] (.p (.tup [.agg (Am RES.1),vb RES.2])) [] [] := by
 unfold Dc at hm
 refine SO Tryz.func44 rfl rfl [(0,.p (.agg (Aq p0))),(1,pI p1)] [] ?_
 intro cx hnt
 refine Sq (RK hnt (nn 3 []) [(1,pI p1),(2,rr 1016),(4,rr 1032)] [(1016,bx (pm (Aq p0))),(1032,bx [pI 0,pI 0,pS ByteArray.empty,pI 0,pI 0,pI 0])] tv ?_)
 obtain ⟨r1,hr1,hm⟩ := bo hm
 refine Sq (Sq (RD hnt (.no :: o75 [] true r1 :: .no :: []) [] [(9,pB (!r1))] [] [] (an (Fv p0 r1 hr1) tv) ?_))
 refine Af hm ?_ ?_
 ·intro h2 hm
  refine Sq (RD hnt (nn 3 []) [1,2,9] [(5,pB false)] [1016] [] tv ?_)
  obtain rfl := sj hm
  exact DW.ret (Ai [] [] (.p (.tup [.agg [vi 0,vi 0,vs ByteArray.empty,vi 0,vi 0,vi 0],vb false])))
 ·intro h2 hm
  refine Sk ?_
  refine Sq (Sq (RD hnt (.no :: []) [9] [(6,pI 0)] [] [] tv ?_))
  refine Bk ?_
  obtain ⟨hc1,hm⟩ := go1 hm
  refine DW.rangeO (fun (k1 : Nat) (s1 : Unit) => Aj [(1,pI p1),(2,rr 1016),(4,rr 1032),(6,pI ((k1 : Nat) : Int))] [(1016,bx (pm (Aq p0))),(1032,bx [pI 0,pI 0,pS ByteArray.empty,pI 0,pI 0,pI 0])]) Bh hm Conv.eqK ?_
  intro k1 s1 n1 hk1 hs1 he1
  refine Sq (Sq (RD hnt (nn 5 []) [] [(15,pB (decide (((k1 : Nat) : Int) < ((p0.nodes.length : Nat) : Int))))] [] [] tv ?_))
  refine Cj (decide (((k1 : Nat) : Int) < ((p0.nodes.length : Nat) : Int))) ?_ ?_
  ·intro h11
   have hlt1 : k1 < p0.nodes.length := by have := of_decide_eq_true h11; omega
   have hm := hs1 hlt1
   unfold Ado at hm
   refine Sk ?_
   refine Sq (Bk ?_)
   refine Sq (RD hnt (nn 8 []) [15] [(25,pB ((p0.nodes.getD k1 (default : Ah)).id == p1))] [] [] (an (nn0 k1) (an (ltc hlt1) tv)) ?_)
   refine Af hm ?_ ?_
   ·intro h12 hm
    refine Sq (RK hnt (nn 7 []) [(4,rr 1032),(5,pB true)] [(1032,bx (pm (Am (p0.nodes.getD k1 (default : Ah)))))] (an (nn0 k1) (an (ltc hlt1) tv)) ?_)
    obtain rfl := sj hm
    exact DW.ret (Ai [] [] (.p (.tup [.agg (Am (p0.nodes.getD k1 (default : Ah))),vb true])))
   ·intro h12 hm
    refine Sk ?_
    refine DW.done ?_
    show DW _ _ _ _ _
    refine RD hnt (nn 3 []) [25] [(6,pI (w64 (((k1 : Nat) : Int) + 1)))] [] [] tv ?_
    exact jD () ⟨hlt1,hm⟩ (Conv.tp [(6,pI (w64 (((k1 : Nat) : Int) + 1)))] [] (by kernel_rfl) (.cons rfl (.of_eq (congrArg pI (Bn hlt1 hc1))) .nil) .nil)
  ·intro h11
   have hge1 : ¬ k1 < p0.nodes.length := by have := of_decide_eq_false h11; omega
   have hm := he1 hge1
   unfold AcY at hm
   refine DW.exit ?_
   refine An ?_
   refine Aw ?_
   refine Ak ?_
   show DW _ _ _ _ _
   refine Sq (RD hnt (nn 3 []) [1,2,6,15] [(5,pB false)] [1016] [] tv ?_)
   obtain rfl := sj hm
   exact DW.ret (Ai [] [] (.p (.tup [.agg [vi 0,vi 0,vs ByteArray.empty,vi 0,vi 0,vi 0],vb false])))
abbrev o80 (ks : List Nat) (b : Bool) (RES : Ah × Bool) (sm : List Nat := []) : Orc := .call 44 ks b (.p (.tup [.agg (Am RES.1),vb RES.2])) [] [] sm

theorem Cw (p0 : Ae) (p1 : Int) (RES : Bool) (hm : Fw p0 p1 = some RES) : Spec Tryz.prog 96 [.p (.agg (Aq p0)),pI p1] [] (pB RES) [] [] := by
 unfold Fw at hm
 refine SO Tryz.func96 rfl rfl [(0,.p (.agg (Aq p0))),(1,pI p1)] [] ?_
 intro cx hnt
 refine Sq (RK hnt (nn 2 []) [(1,pI p1),(2,rr 1016)] [(1016,bx (pm (Aq p0)))] tv ?_)
 obtain ⟨r1,hr1,hm⟩ := bo hm
 refine Sq (RK hnt (nn 2 (o80 [] true r1 :: nn 6 [])) [(6,pB r1.2)] [] (an (Db p0 p1 r1 hr1) tv) ?_)
 refine Sq (RK hnt (nn 2 []) [(4,pB r1.2)] [] tv ?_)
 obtain rfl := sj hm
 exact DW.ret (Ai [] [] (pB r1.2))
abbrev o79 (ks : List Nat) (b : Bool) (RES : Bool) (sm : List Nat := []) : Orc := .call 96 ks b (pB RES) [] [] sm

theorem Lu (p0 : Ae) (p1 : Int) (RES : List Int) (hm : Ec p0 p1 = some RES) : Spec Tryz.prog 54 [.p (.agg (Aq p0)),pI p1] [] (ow 0 RES.length) [] [roI RES] := by
 unfold Ec at hm
 refine SO Tryz.func54 rfl rfl [(0,.p (.agg (Aq p0))),(1,pI p1)] [] ?_
 intro cx hnt
 refine Sq (RK hnt (nn 2 []) [(1,pI p1),(2,rr 1016)] [(1016,bx (pm (Aq p0)))] tv ?_)
 obtain ⟨r1,hr1,hm⟩ := bo hm
 refine Sq (Sq (RD hnt (nn 2 (o79 [] true r1 :: .no :: [])) [] [(8,pB (!r1))] [] [] (an (Cw p0 p1 r1 hr1) tv) ?_))
 refine Af hm ?_ ?_
 ·intro h2 hm
  refine Sq (RK hnt (.no :: []) [(4,.p (.sl .nil 0 0 (fun _ => [])))] [] tv ?_)
  refine DW.cv [] [(4,ow 100000 0)] [] [(100000,ob0 (roI []))] (Conv.ads [(.s 4,100000,1,elems Bo 0 [])]) ?_
  obtain rfl := sj hm
  exact DW.ret (Ai [roI []] [100000] (ow 0 0))
 ·intro h2 hm
  refine Sk ?_
  obtain ⟨r3,hr3,hm⟩ := bo hm
  refine Sq (RK hnt (nn 2 (o78 [] true r3 :: .no :: [])) [(4,ow 1088 r3.length)] [(1088,ob0 (roI r3))] (an (Adl p0 p1 r3 hr3) tv) ?_)
  obtain rfl := sj hm
  exact DW.ret (Ai [roI r3] [1088] (ow 0 r3.length))
abbrev o82 (ks : List Nat) (b : Bool) (RES : List Int) (sm : List Nat := []) : Orc := .call 54 ks b (ow 0 RES.length) [] [roI RES] sm

theorem Ug (p0 : Ae) (p1 : Int) (RES : Int) (hm : Ss p0 p1 = some RES) : Spec Tryz.prog 175 [.p (.agg (Aq p0)),pI p1] [] (pI RES) [] [] := by
 unfold Ss at hm
 refine SO Tryz.func175 rfl rfl [(0,.p (.agg (Aq p0))),(1,pI p1)] [] ?_
 intro cx hnt
 refine Sq (RK hnt (nn 2 []) [(1,pI p1),(2,rr 1016)] [(1016,bx (pm (Aq p0)))] tv ?_)
 obtain ⟨r1,hr1,hm⟩ := bo hm
 refine Sq (RK hnt (nn 2 (o82 [] true r1 :: nn 3 [])) [(4,pI (w64 (((r1.length : Nat) : Int) - 1)))] [] (an (Lu p0 p1 r1 hr1) tv) ?_)
 obtain rfl := sj hm
 exact DW.ret (Ai [] [] (pI (w64 (((r1.length : Nat) : Int) - 1))))
abbrev o81 (ks : List Nat) (b : Bool) (RES : Int) (sm : List Nat := []) : Orc := .call 175 ks b (pI RES) [] [] sm

theorem Rj (p0 : Ae) (RES : Ae) (hm : Nj p0 = some RES) : Spec Tryz.prog 166 [.p (.agg (Aq p0))] [] (.agg [ow 0 RES.nodes.length,pI RES.next]) [] [Ag RES.nodes] := by
 unfold Nj at hm
 refine SO Tryz.func166 rfl rfl [(0,.p (.agg (Aq p0)))] [] ?_
 intro cx hnt
 refine Sq (RK hnt (nn 2 []) [(1,rr 1008),(2,rr 1016)] [(1008,bx (pm (Aq p0))),(1016,bx [.p (.sl .nil 0 0 (fun _ => [])),pI 0])] tv ?_)
 obtain ⟨g1,hm⟩ := go1 hm
 refine Sq (RN hnt (nn 7 []) [(2,rr 1016)] [(1016,bx [ow 1040 p0.nodes.length,pI p0.next]),(1040,ob0 (Ag p0.nodes))] [] [(1040,.row 6 p0.nodes.length (Vg p0.nodes))] (an (by omega : p0.nodes.length * 56 ≤ 140737488355328) tv) (by kernel_rfl) .nil (.cons rfl (BLe.typed RowIs.elems) .nil) ?_)
 obtain rfl := sj hm
 exact DW.ret (Ai [Ag p0.nodes] [1040] (.agg [ow 0 p0.nodes.length,pI p0.next]))
abbrev o83 (ks : List Nat) (b : Bool) (RES : Ae) (sm : List Nat := []) : Orc := .call 166 ks b (.agg [ow 0 RES.nodes.length,pI RES.next]) [] [Ag RES.nodes] sm

abbrev Yo (p0 : Ae) (p1 : Int) (p2 : ByteArray) := ({ id := p0.next,parent := p1,name := p2,control := 0,kind := 0,owner := 0 } : Ah)
abbrev AcK : Nat × Obj := (1048,bx [.p (.sl .nil 0 0 (fun _ => [])),pI 0])
abbrev AcS (p0 : Ae) : Nat × Obj := (1024,bx (pm (Aq p0)))
abbrev c74e4 : Nat × Obj := (1048,bx [ow 100000 0,pI 0])
theorem Agq (p0 : Ae) (p1 : Int) (p2 : ByteArray) (RES : Ae × Int × Int) (hm : Xy p0 p1 p2 = some RES) : Spec Tryz.prog 108 [.p (.agg (Aq p0)),pI p1,pS p2] [] (.tup [.agg [ow 0 RES.1.nodes.length,pI RES.1.next],pI RES.2.1,pI RES.2.2]) [] [Ag RES.1.nodes] := by
 unfold Xy at hm
 refine SO Tryz.func108 rfl rfl [(0,.p (.agg (Aq p0))),(1,pI p1),(2,pS p2)] [] ?_
 intro cx hnt
 refine Sq (RD hnt (nn 4 []) [0] [(3,rr 1024),(6,rr 1048)] [] [(AcS p0),(AcK)] tv ?_)
 obtain ⟨r1,hr1,hm⟩ := bo hm
 refine Sq (Sq ?_)
 refine Jn (ι := Bool) (fun (y1 : Bool) => Aj [(1,pI p1),(2,pS p2),(3,rr 1024),(6,rr 1048),(18,pB y1)] [(AcS p0),(AcK)]) (fun y1 => (Tb p0 p1 p2) y1 = some RES) ?_ ?_
 ·intro y1 hm
  unfold Tb at hm
  refine Af hm ?_ ?_
  ·intro h4 hm
   refine Sq (RD hnt (nn 4 []) [1,2,3,18] [(7,pI 0),(8,pI 1)] [1024] [] tv ?_)
   refine DW.cv [] [] [] [(c74e4),(100000,ob0 (Ag []))] (Conv.ads [(.o 1048 0,100000,6,elems Am Bh [])]) ?_
   obtain rfl := sj hm
   exact DW.ret (Ai [Ag []] [100000] (.tup [.agg [ow 0 0,pI 0],pI 0,pI 1]))
  ·intro h4 hm
   refine Sk ?_
   obtain ⟨r5,hr5,hm⟩ := bo hm
   refine Sq (Sq (RD hnt (nn 2 (o79 [] true r5 :: .no :: [])) [18] [(23,pB (!r5))] [] [] (an (Cw p0 p1 r5 hr5) tv) ?_))
   refine Af hm ?_ ?_
   ·intro h6 hm
    refine Sq (RD hnt (nn 4 []) [1,2,3,23] [(7,pI 0),(8,pI 4)] [1024] [] tv ?_)
    refine DW.cv [] [] [] [(c74e4),(100000,ob0 (Ag []))] (Conv.ads [(.o 1048 0,100000,6,elems Am Bh [])]) ?_
    obtain rfl := sj hm
    exact DW.ret (Ai [Ag []] [100000] (.tup [.agg [ow 0 0,pI 0],pI 0,pI 4]))
   ·intro h6 hm
    refine Sk ?_
    refine Sq (Sq (RD hnt (.no :: []) [23] [(9,pI 0)] [] [] tv ?_))
    refine Bk ?_
    obtain ⟨hc1,hm⟩ := go1 hm
    refine DW.rangeO (fun (k1 : Nat) (s1 : Unit) => Aj [(1,pI p1),(2,pS p2),(3,rr 1024),(6,rr 1048),(9,pI ((k1 : Nat) : Int))] [(AcS p0),(AcK)]) Bh hm Conv.eqK ?_
    intro k1 s1 n1 hk1 hs1 he1
    refine Sq (Sq (RD hnt (nn 5 []) [] [(29,pB (decide (((k1 : Nat) : Int) < ((p0.nodes.length : Nat) : Int))))] [] [] tv ?_))
    refine Cj (decide (((k1 : Nat) : Int) < ((p0.nodes.length : Nat) : Int))) ?_ ?_
    ·intro h29
     have hlt1 : k1 < p0.nodes.length := by have := of_decide_eq_true h29; omega
     have hm := hs1 hlt1
     unfold Abd at hm
     refine Sk ?_
     refine Sq (Bk ?_)
     refine Sq (DW.regJ (sl2 := [(1,pI p1),(2,pS p2),(3,rr 1024),(6,rr 1048),(9,pI ((k1 : Nat) : Int)),(49,pB (((p0.nodes.getD k1 (default : Ah)).parent == p1) && (Dr (p0.nodes.getD k1 (default : Ah)).name p2)))]) (ob2 := [(AcS p0),(AcK)]) ?_ ?_)
     ·rcases bt ((p0.nodes.getD k1 (default : Ah)).parent == p1) with h30 | h30
      ·exact RT hnt (nn 17 (pT :: [])) [(49,pB (Dr (p0.nodes.getD k1 (default : Ah)).name p2))] (an (nn0 k1) (an (ltc hlt1) (an4 h30 (an (nn0 k1) (an (ltc hlt1) (an5 h30 tv)))))) (by kernel_rfl) (.cons rfl (.of_eq (by rw [h30]; try rfl)) .nil)
      ·exact RT hnt (nn 9 (sk 8 (pF :: []))) [(49,pB false)] (an (nn0 k1) (an (ltc hlt1) (an3 h30 (an6 h30 tv)))) (by kernel_rfl) (.cons rfl (.of_eq (by rw [h30]; try rfl)) .nil)
     ·refine Af hm ?_ ?_
      ·intro h31 hm
       refine Sq (RD hnt (nn 4 []) [1,2,3,9,49] [(7,pI 0),(8,pI 5)] [1024] [] tv ?_)
       refine DW.cv [] [] [] [(c74e4),(100000,ob0 (Ag []))] (Conv.ads [(.o 1048 0,100000,6,elems Am Bh [])]) ?_
       obtain rfl := sj hm
       exact DW.ret (Ai [Ag []] [100000] (.tup [.agg [ow 0 0,pI 0],pI 0,pI 5]))
      ·intro h31 hm
       refine Sk ?_
       refine DW.done ?_
       show DW _ _ _ _ _
       refine RD hnt (nn 3 []) [49] [(9,pI (w64 (((k1 : Nat) : Int) + 1)))] [] [] tv ?_
       exact jD () ⟨hlt1,hm⟩ (Conv.tp [(9,pI (w64 (((k1 : Nat) : Int) + 1)))] [] (by kernel_rfl) (.cons rfl (.of_eq (congrArg pI (Bn hlt1 hc1))) .nil) .nil)
    ·intro h29
     have hge1 : ¬ k1 < p0.nodes.length := by have := of_decide_eq_false h29; omega
     have hm := he1 hge1
     unfold AaY at hm
     refine DW.exit ?_
     refine An ?_
     refine Aw ?_
     refine Ak ?_
     show DW _ _ _ _ _
     obtain ⟨r32,hr32,hm⟩ := bo hm
     refine Sq (Sq ?_)
     refine Jn (ι := Bool) (fun (y6 : Bool) => Aj [(1,pI p1),(2,pS p2),(3,rr 1024),(6,rr 1048),(65,pB y6)] [(AcS p0),(AcK)]) (fun y6 => (Nu p0 p1 p2) y6 = some RES) ?_ ?_
     ·intro y6 hm
      unfold Nu at hm
      refine Af hm ?_ ?_
      ·intro h35 hm
       refine Sq (RD hnt (nn 4 []) [1,2,3,65] [(7,pI 0),(8,pI 7)] [1024] [] tv ?_)
       refine DW.cv [] [] [] [(c74e4),(100000,ob0 (Ag []))] (Conv.ads [(.o 1048 0,100000,6,elems Am Bh [])]) ?_
       obtain rfl := sj hm
       exact DW.ret (Ai [Ag []] [100000] (.tup [.agg [ow 0 0,pI 0],pI 0,pI 7]))
      ·intro h35 hm
       refine Sk ?_
       obtain ⟨r36,hr36,hm⟩ := bo hm
       refine Sq (RD hnt (.no :: o83 [] true r36 :: nn 2 []) [65] [(10,rr 1080)] [] [(1080,bx [ow 1544 r36.nodes.length,pI r36.next]),(1544,ob0 (Ag r36.nodes))] (an (Rj p0 r36 hr36) tv) ?_)
       obtain ⟨g37,hm⟩ := go1 hm
       refine Sq (RN hnt (nn 11 []) [(3,rr 1024),(6,rr 1048),(10,rr 1080)] [(AcS p0),(AcK),(1080,bx [ow 1544 (r36.nodes ++ [(Yo p0 p1 p2)]).length,pI r36.next]),(1544,ob0 (Ag (r36.nodes ++ [(Yo p0 p1 p2)])))] [] [(1080,.box [ow 1544 (r36.nodes.length + 1),pI r36.next]),(1544,.row 6 (r36.nodes.length + 1) (Dq r36.nodes.length (Vg r36.nodes) (cut 6 [vi p0.next,vi p1,vs p2,vi 0,vi 0,vi 0])))] (an (by omega : (r36.nodes.length + 1) * 56 ≤ 140737488355328) tv) (by kernel_rfl) .nil (.cons rfl (.box (.cons (MLe.ownLen (enc := Am) (d := Bh) (f := (Dq r36.nodes.length (Vg r36.nodes) (cut 6 [vi p0.next,vi p1,vs p2,vi 0,vi 0,vi 0]))) (RowIs.cat RowIs.elems (RowIs.lit (enc := Am) (d := Bh) (n := 1) (f := (cut 6 [vi p0.next,vi p1,vs p2,vi 0,vi 0,vi 0])) [(Yo p0 p1 p2)] rfl (fun | 0,_ => rfl | n + 1,h => absurd h (by omega))))) (.cons .rfl .nil))) (.cons rfl (BLe.typed (RowIs.cat RowIs.elems (RowIs.lit (enc := Am) (d := Bh) (n := 1) (f := (cut 6 [vi p0.next,vi p1,vs p2,vi 0,vi 0,vi 0])) [(Yo p0 p1 p2)] rfl (fun | 0,_ => rfl | n + 1,h => absurd h (by omega))))) .nil)) ?_)
       refine Sq (RD hnt (nn 5 []) [] [] [] [(1080,bx [ow 1544 (r36.nodes ++ [(Yo p0 p1 p2)]).length,pI (w64 (r36.next + 1))])] tv ?_)
       refine Sq (RD hnt (nn 6 []) [3,10] [(7,pI p0.next),(8,pI 0)] [1024,1080] [(1048,bx [ow 1544 (r36.nodes ++ [(Yo p0 p1 p2)]).length,pI (w64 (r36.next + 1))])] tv ?_)
       obtain rfl := sj hm
       exact DW.ret (Ai [Ag (r36.nodes ++ [(Yo p0 p1 p2)])] [1544] (.tup [.agg [ow 0 (r36.nodes ++ [(Yo p0 p1 p2)]).length,pI (w64 (r36.next + 1))],pI p0.next,pI 0]))
     ·rcases bt (decide (r32 ≥ 8)) with h33 | h33
      ·replace hm := Bd h33 hm
       refine RD hnt (nn 2 (o81 [] true r32 :: nn 2 (sk 4 (pT :: .no :: sk 3 (pT :: []))))) [9,29] [(65,pB true)] [] [] (an (Ug p0 p1 r32 hr32) (an5 h33 (an4 tt tv))) ?_
       exact jD true hm Conv.eqK
      ·replace hm := Be h33 hm
       rcases bt (decide (((p0.nodes.length : Nat) : Int) ≥ 64)) with h34 | h34
       ·replace hm := Bd h34 hm
        refine RD hnt (nn 2 (o81 [] true r32 :: nn 6 (pF :: .no :: sk 3 (pT :: [])))) [9,29] [(65,pB true)] [] [] (an (Ug p0 p1 r32 hr32) (an5 h33 (an4 h34 tv))) ?_
        exact jD true hm Conv.eqK
       ·replace hm := Be h34 hm
        refine RD hnt (nn 2 (o81 [] true r32 :: nn 6 (pF :: nn 4 (pF :: [])))) [9,29] [(65,pB (decide (p0.next > 2147483647)))] [] [] (an (Ug p0 p1 r32 hr32) (an5 h33 (an4 h34 tv))) ?_
        exact jD (decide (p0.next > 2147483647)) hm Conv.eqK
 ·rcases bt (!r1) with h2 | h2
  ·replace hm := Bd h2 hm
   refine RD hnt (.no :: o75 [] true r1 :: nn 2 (sk 3 (pT :: []))) [] [(18,pB true)] [] [] (an (Fv p0 r1 hr1) (an4 h2 tv)) ?_
   exact jD true hm Conv.eqK
  ·replace hm := Be h2 hm
   obtain ⟨r3,hr3,hm⟩ := bo hm
   refine RD hnt (.no :: o75 [] true r1 :: nn 3 (o77 [] true r3 :: .no :: pF :: [])) [] [(18,pB (!r3))] [] [] (an (Fv p0 r1 hr1) (an2 h2 (an (Aaq p2 r3 hr3) (an2 h2 tv)))) ?_
   exact jD (!r3) hm Conv.eqK
abbrev o74 (ks : List Nat) (b : Bool) (RES : Ae × Int × Int) (sm : List Nat := []) : Orc := .call 108 ks b (.tup [.agg [ow 0 RES.1.nodes.length,pI RES.1.next],pI RES.2.1,pI RES.2.2]) [] [Ag RES.1.nodes] sm

theorem Ed (p0 : Ao) (p1 : Int) (RES : Bool × Ao) (hm : Fc p0 p1 = some RES) : Spec Tryz.prog 57 [rr 0,pI p1] [.box (pm (Al p0))] (pB RES.1) [.box (pm (Al RES.2))] [] := by
 unfold Fc at hm
 refine SO Tryz.func57 rfl rfl [(0,rr 0),(1,pI p1)] [(0,bx (pm (Al p0)))] ?_
 intro cx hnt
 refine Sq (RD hnt (.no :: []) [] [] [] [] tv ?_)
 obtain ⟨r1,hr1,hm⟩ := bo hm
 refine Sq (RK hnt (nn 2 (o72 [0] true r1 :: nn 4 [])) [(4,pB (r1.1 == (w64 (p1 - 1))))] [(0,bx (pm (Al r1.2)))] (an (Bt p0 p1 r1 hr1) (an tv tv)) ?_)
 obtain rfl := sj hm
 exact DW.ret (Ai [.box (pm (Al r1.2))] [] (pB (r1.1 == (w64 (p1 - 1)))))
abbrev o84 (ks : List Nat) (b : Bool) (RES : Bool × Ao) (sm : List Nat := []) : Orc := .call 57 ks b (pB RES.1) [.box (pm (Al RES.2))] [] sm

abbrev Ui (p0 : Ae) (k1 : Nat) := (p0.nodes.getD k1 (default : Ah))
theorem Qr (p0 : Ae) (p1 : Int) (RES : List Int) (hm : Hj p0 p1 = some RES) : Spec Tryz.prog 146 [.p (.agg (Aq p0)),pI p1] [] (ow 0 RES.length) [] [roI RES] := by
 unfold Hj at hm
 refine SO Tryz.func146 rfl rfl [(0,.p (.agg (Aq p0))),(1,pI p1)] [] ?_
 intro cx hnt
 refine Sq (RK hnt (nn 2 []) [(1,pI p1),(2,rr 1016)] [(1016,bx (pm (Aq p0)))] tv ?_)
 obtain ⟨r1,hr1,hm⟩ := bo hm
 refine Sq (Sq (RD hnt (nn 2 (o79 [] true r1 :: .no :: [])) [] [(10,pB (!r1))] [] [] (an (Cw p0 p1 r1 hr1) tv) ?_))
 refine Af hm ?_ ?_
 ·intro h2 hm
  refine Sq (RK hnt (.no :: []) [(4,.p (.sl .nil 0 0 (fun _ => [])))] [] tv ?_)
  refine DW.cv [] [(4,ow 100000 0)] [] [(100000,ob0 (roI []))] (Conv.ads [(.s 4,100000,1,elems Bo 0 [])]) ?_
  obtain rfl := sj hm
  exact DW.ret (Ai [roI []] [100000] (ow 0 0))
 ·intro h2 hm
  refine Sk ?_
  refine Sq (RD hnt (.no :: []) [10] [(5,.p (.sl .nil 0 0 (fun _ => [])))] [] [] tv ?_)
  refine Sq (Sq (RD hnt (.no :: []) [] [(6,pI 0)] [] [] tv ?_))
  refine Bk ?_
  obtain ⟨hc1,hm⟩ := go1 hm
  refine DW.rangeO (fun (k1 : Nat) (s1 : List Int) => Aj [(1,pI p1),(2,rr 1016),(5,ow 1272 s1.length),(6,pI ((k1 : Nat) : Int))] [(1016,bx (pm (Aq p0))),(1272,ob0 (roI s1))]) Bh hm (Conv.ads [(.s 5,1272,1,elems Bo 0 [])]) ?_
  intro k1 s1 n1 hk1 hs1 he1
  refine Sq (Sq (RD hnt (nn 5 []) [] [(15,pB (decide (((k1 : Nat) : Int) < ((p0.nodes.length : Nat) : Int))))] [] [] tv ?_))
  refine Cj (decide (((k1 : Nat) : Int) < ((p0.nodes.length : Nat) : Int))) ?_ ?_
  ·intro h12
   have hlt1 : k1 < p0.nodes.length := by have := of_decide_eq_true h12; omega
   have hm := hs1 hlt1
   unfold Sf at hm
   refine Sk ?_
   refine Sq ?_
   refine Jn (ι := List Int) (fun (y3 : List Int) => Aj [(1,pI p1),(2,rr 1016),(5,ow 1272 y3.length),(6,pI ((k1 : Nat) : Int))] [(1016,bx (pm (Aq p0))),(1272,ob0 (roI y3))]) (fun y3 => (Lp n1) y3 = some RES) ?_ ?_
   ·intro y3 hm
    unfold Lp at hm
    refine RD hnt (nn 3 []) [] [(6,pI (w64 (((k1 : Nat) : Int) + 1)))] [] [] tv ?_
    exact jD y3 ⟨hlt1,hm⟩ (Conv.tp [(6,pI (w64 (((k1 : Nat) : Int) + 1)))] [] (by kernel_rfl) (.cons rfl (.of_eq (congrArg pI (Bn hlt1 hc1))) .nil) .nil)
   ·refine Bk ?_
    refine Sq (RD hnt (nn 8 []) [15] [(25,pB ((Ui p0 k1).parent == p1))] [] [] (an (nn0 k1) (an (ltc hlt1) tv)) ?_)
    refine Af hm ?_ ?_
    ·intro h13 hm
     obtain ⟨g14,hm⟩ := go1 hm
     refine RN hnt (nn 10 []) [(1,pI p1),(2,rr 1016),(5,ow 1272 (s1 ++ [(Ui p0 k1).id]).length),(6,pI ((k1 : Nat) : Int))] [(1016,bx (pm (Aq p0))),(1272,ob0 (roI (s1 ++ [(Ui p0 k1).id])))] [(5,ow 1272 (s1.length + 1))] [(1272,.row 1 (s1.length + 1) (Dq s1.length (elI s1) (cut 1 [vi (Ui p0 k1).id])))] (an (nn0 k1) (an (ltc hlt1) (an (by omega : (s1.length + 1) * 8 ≤ 140737488355328) tv))) (by kernel_rfl) (.cons rfl (MLe.ownLen (enc := Bo) (d := 0) (f := (Dq s1.length (elI s1) (cut 1 [vi (Ui p0 k1).id]))) (RowIs.cat RowIs.elems (RowIs.lit (enc := Bo) (d := 0) (n := 1) (f := (cut 1 [vi (Ui p0 k1).id])) [(Ui p0 k1).id] rfl (fun | 0,_ => rfl | n + 1,h => absurd h (by omega))))) .nil) (.cons rfl (BLe.typed (RowIs.cat RowIs.elems (RowIs.lit (enc := Bo) (d := 0) (n := 1) (f := (cut 1 [vi (Ui p0 k1).id])) [(Ui p0 k1).id] rfl (fun | 0,_ => rfl | n + 1,h => absurd h (by omega))))) .nil) ?_
     exact bD (s1 ++ [(Ui p0 k1).id]) hm .refl
    ·intro h13 hm
     refine Sk ?_
     exact bD s1 hm Conv.t0
  ·intro h12
   have hge1 : ¬ k1 < p0.nodes.length := by have := of_decide_eq_false h12; omega
   have hm := he1 hge1
   unfold Zb at hm
   refine DW.exit ?_
   refine An ?_
   refine Aw ?_
   refine Ak ?_
   show DW _ _ _ _ _
   refine Sq (RK hnt (nn 2 []) [(4,ow 1272 s1.length)] [(1272,ob0 (roI s1))] tv ?_)
   obtain rfl := sj hm
   exact DW.ret (Ai [roI s1] [1272] (ow 0 s1.length))
abbrev o86 (ks : List Nat) (b : Bool) (RES : List Int) (sm : List Nat := []) : Orc := .call 146 ks b (ow 0 RES.length) [] [roI RES] sm

abbrev Fr (p0 : Ae) (k1 : Nat) := (p0.nodes.getD k1 (default : Ah))
abbrev c85e2 : Nat × Obj := (1032,bx [.p (.sl .nil 0 0 (fun _ => [])),pI 0])
abbrev c85e3 : Nat × Obj := (1032,bx [ow 100000 0,pI 0])
theorem AdN (p0 : Ae) (p1 : Int) (RES : Ae × Int) (hm : Rf p0 p1 = some RES) : Spec Tryz.prog 111 [.p (.agg (Aq p0)),pI p1] [] (.tup [.agg [ow 0 RES.1.nodes.length,pI RES.1.next],pI RES.2]) [] [Ag RES.1.nodes] := by
 unfold Rf at hm
 refine SO Tryz.func111 rfl rfl [(0,.p (.agg (Aq p0))),(1,pI p1)] [] ?_
 intro cx hnt
 refine Sq (RK hnt (nn 3 []) [(1,pI p1),(2,rr 1016),(4,rr 1032)] [(1016,bx (pm (Aq p0))),(c85e2)] tv ?_)
 refine Sq (Bk ?_)
 obtain ⟨r1,hr1,hm⟩ := bo hm
 refine Sq (RD hnt (.no :: o75 [] true r1 :: nn 2 []) [] [(8,pB (!r1))] [] [] (an (Fv p0 r1 hr1) tv) ?_)
 refine Af hm ?_ ?_
 ·intro h2 hm
  refine Sq (RD hnt (nn 3 []) [1,2,8] [(5,pI 1)] [1016] [] tv ?_)
  refine DW.cv [] [] [] [(c85e3),(100000,ob0 (Ag []))] (Conv.ads [(.o 1032 0,100000,6,elems Am Bh [])]) ?_
  obtain rfl := sj hm
  exact DW.ret (Ai [Ag []] [100000] (.tup [.agg [ow 0 0,pI 0],pI 1]))
 ·intro h2 hm
  obtain ⟨r3,hr3,hm⟩ := bo hm
  refine Sq (RD hnt (nn 2 (o79 [] true r3 :: nn 2 [])) [8] [(13,pB (!r3))] [] [] (an (Cw p0 p1 r3 hr3) tv) ?_)
  refine Af hm ?_ ?_
  ·intro h4 hm
   refine Sq (RD hnt (nn 3 []) [1,2,13] [(5,pI 4)] [1016] [] tv ?_)
   refine DW.cv [] [] [] [(c85e3),(100000,ob0 (Ag []))] (Conv.ads [(.o 1032 0,100000,6,elems Am Bh [])]) ?_
   obtain rfl := sj hm
   exact DW.ret (Ai [Ag []] [100000] (.tup [.agg [ow 0 0,pI 0],pI 4]))
  ·intro h4 hm
   refine Sq (RD hnt (nn 3 []) [13] [(19,pB (p1 == 1))] [] [] tv ?_)
   refine Af hm ?_ ?_
   ·intro h5 hm
    refine Sq (RD hnt (nn 3 []) [1,2,19] [(5,pI 9)] [1016] [] tv ?_)
    refine DW.cv [] [] [] [(c85e3),(100000,ob0 (Ag []))] (Conv.ads [(.o 1032 0,100000,6,elems Am Bh [])]) ?_
    obtain rfl := sj hm
    exact DW.ret (Ai [Ag []] [100000] (.tup [.agg [ow 0 0,pI 0],pI 9]))
   ·intro h5 hm
    obtain ⟨r6,hr6,hm⟩ := bo hm
    refine Sq (RD hnt (nn 2 (o86 [] true r6 :: nn 3 [])) [19] [(23,pB (decide (((r6.length : Nat) : Int) > 0)))] [] [] (an (Qr p0 p1 r6 hr6) tv) ?_)
    refine Af hm ?_ ?_
    ·intro h7 hm
     refine Sq (RD hnt (nn 3 []) [1,2,23] [(5,pI 6)] [1016] [] tv ?_)
     refine DW.cv [] [] [] [(c85e3),(100000,ob0 (Ag []))] (Conv.ads [(.o 1032 0,100000,6,elems Am Bh [])]) ?_
     obtain rfl := sj hm
     exact DW.ret (Ai [Ag []] [100000] (.tup [.agg [ow 0 0,pI 0],pI 6]))
    ·intro h7 hm
     refine Sk ?_
     refine DW.done ?_
     show DW _ _ _ _ _
     refine Sq (RD hnt (nn 5 []) [23] [(6,rr 1048)] [] [(1048,bx [.p (.sl .nil 0 0 (fun _ => [])),pI p0.next])] tv ?_)
     refine Sq (Sq (RD hnt (.no :: []) [] [(7,pI 0)] [] [] tv ?_))
     refine Bk ?_
     obtain ⟨hc1,hm⟩ := go1 hm
     refine DW.rangeO (fun (k1 : Nat) (s1 : List Ah) => Aj [(1,pI p1),(2,rr 1016),(4,rr 1032),(6,rr 1048),(7,pI ((k1 : Nat) : Int))] [(1016,bx (pm (Aq p0))),(c85e2),(1048,bx [ow 1448 s1.length,pI p0.next]),(1448,ob0 (Ag s1))]) Bh hm (Conv.ads [(.o 1048 0,1448,6,elems Am Bh [])]) ?_
     intro k1 s1 n1 hk1 hs1 he1
     refine Sq (Sq (RD hnt (nn 5 []) [] [(37,pB (decide (((k1 : Nat) : Int) < ((p0.nodes.length : Nat) : Int))))] [] [] tv ?_))
     refine Cj (decide (((k1 : Nat) : Int) < ((p0.nodes.length : Nat) : Int))) ?_ ?_
     ·intro h17
      have hlt1 : k1 < p0.nodes.length := by have := of_decide_eq_true h17; omega
      have hm := hs1 hlt1
      unfold Rp at hm
      refine Sk ?_
      refine Sq ?_
      refine Jn (ι := List Ah) (fun (y3 : List Ah) => Aj [(1,pI p1),(2,rr 1016),(4,rr 1032),(6,rr 1048),(7,pI ((k1 : Nat) : Int))] [(1016,bx (pm (Aq p0))),(c85e2),(1048,bx [ow 1448 y3.length,pI p0.next]),(1448,ob0 (Ag y3))]) (fun y3 => (Oe n1) y3 = some RES) ?_ ?_
      ·intro y3 hm
       unfold Oe at hm
       refine RD hnt (nn 3 []) [] [(7,pI (w64 (((k1 : Nat) : Int) + 1)))] [] [] tv ?_
       exact jD y3 ⟨hlt1,hm⟩ (Conv.tp [(7,pI (w64 (((k1 : Nat) : Int) + 1)))] [] (by kernel_rfl) (.cons rfl (.of_eq (congrArg pI (Bn hlt1 hc1))) .nil) .nil)
      ·refine Bk ?_
       refine Sq (RD hnt (nn 8 []) [37] [(47,pB ((Fr p0 k1).id != p1))] [] [] (an (nn0 k1) (an (ltc hlt1) tv)) ?_)
       refine Af hm ?_ ?_
       ·intro h18 hm
        obtain ⟨g19,hm⟩ := go1 hm
        refine RN hnt (nn 11 []) [(1,pI p1),(2,rr 1016),(4,rr 1032),(6,rr 1048),(7,pI ((k1 : Nat) : Int))] [(1016,bx (pm (Aq p0))),(c85e2),(1048,bx [ow 1448 (s1 ++ [(Fr p0 k1)]).length,pI p0.next]),(1448,ob0 (Ag (s1 ++ [(Fr p0 k1)])))] [] [(1048,.box [ow 1448 (s1.length + 1),pI p0.next]),(1448,.row 6 (s1.length + 1) (Dq s1.length (Vg s1) (cut 6 [vi (Fr p0 k1).id,vi (Fr p0 k1).parent,vs (Fr p0 k1).name,vi (Fr p0 k1).control,vi (Fr p0 k1).kind,vi (Fr p0 k1).owner])))] (an (nn0 k1) (an (ltc hlt1) (an (by omega : (s1.length + 1) * 56 ≤ 140737488355328) tv))) (by kernel_rfl) .nil (.cons rfl (.box (.cons (MLe.ownLen (enc := Am) (d := Bh) (f := (Dq s1.length (Vg s1) (cut 6 [vi (Fr p0 k1).id,vi (Fr p0 k1).parent,vs (Fr p0 k1).name,vi (Fr p0 k1).control,vi (Fr p0 k1).kind,vi (Fr p0 k1).owner]))) (RowIs.cat RowIs.elems (RowIs.lit (enc := Am) (d := Bh) (n := 1) (f := (cut 6 [vi (Fr p0 k1).id,vi (Fr p0 k1).parent,vs (Fr p0 k1).name,vi (Fr p0 k1).control,vi (Fr p0 k1).kind,vi (Fr p0 k1).owner])) [(Fr p0 k1)] rfl (fun | 0,_ => rfl | n + 1,h => absurd h (by omega))))) (.cons .rfl .nil))) (.cons rfl (BLe.typed (RowIs.cat RowIs.elems (RowIs.lit (enc := Am) (d := Bh) (n := 1) (f := (cut 6 [vi (Fr p0 k1).id,vi (Fr p0 k1).parent,vs (Fr p0 k1).name,vi (Fr p0 k1).control,vi (Fr p0 k1).kind,vi (Fr p0 k1).owner])) [(Fr p0 k1)] rfl (fun | 0,_ => rfl | n + 1,h => absurd h (by omega))))) .nil)) ?_
        exact bD (s1 ++ [(Fr p0 k1)]) hm .refl
       ·intro h18 hm
        refine Sk ?_
        exact bD s1 hm Conv.t0
     ·intro h17
      have hge1 : ¬ k1 < p0.nodes.length := by have := of_decide_eq_false h17; omega
      have hm := he1 hge1
      unfold Rk at hm
      refine DW.exit ?_
      refine An ?_
      refine Aw ?_
      refine Ak ?_
      show DW _ _ _ _ _
      refine Sq (RK hnt (nn 3 []) [(4,rr 1032),(5,pI 0)] [(1032,bx [ow 1448 s1.length,pI p0.next]),(1448,ob0 (Ag s1))] tv ?_)
      obtain rfl := sj hm
      exact DW.ret (Ai [Ag s1] [1448] (.tup [.agg [ow 0 s1.length,pI p0.next],pI 0]))
abbrev o85 (ks : List Nat) (b : Bool) (RES : Ae × Int) (sm : List Nat := []) : Orc := .call 111 ks b (.tup [.agg [ow 0 RES.1.nodes.length,pI RES.1.next],pI RES.2]) [] [Ag RES.1.nodes] sm

abbrev c71e1 : Nat × Obj := (1032,bx [.p (.sl .nil 0 0 (fun _ => [])),pI 0])
theorem AbQ (p0 : Ao) (p1 : Int) (RES : Ae × Ao) (hm : My p0 p1 = some RES) : Spec Tryz.prog 39 [rr 0,pI p1] [.box (pm (Al p0))] (.p (.agg (Aq RES.1))) [.box (pm (Al RES.2))] [] := by
 unfold My at hm
 refine SO Tryz.func39 rfl rfl [(0,rr 0),(1,pI p1)] [(0,bx (pm (Al p0)))] ?_
 intro cx hnt
 refine Sq (RD hnt (.no :: []) [] [(4,rr 1032)] [] [(c71e1)] tv ?_)
 obtain ⟨r1,hr1,hm⟩ := bo hm
 refine Sq (RD hnt (o70 [] true r1 :: nn 2 []) [] [(5,rr 1040)] [] [(1040,bx [ow 1104 r1.nodes.length,pI r1.next]),(1104,ob0 (Ag r1.nodes))] (an (Aco r1 hr1) tv) ?_)
 obtain ⟨r2,hr2,hm⟩ := bo hm
 refine Sq (Sq (RD hnt (nn 3 (o72 [0] true r2 :: .no :: [])) [1] [(6,pI r2.1)] [] [(0,bx (pm (Al r2.2)))] (an (Bt p0 (w64 (p1 + 1)) r2 hr2) (an tv tv)) ?_))
 refine Bk ?_
 refine DW.whileO (fun (s1 : Ao × Ae × Int) => Aj [(0,rr 0),(4,rr 1032),(5,rr 1040),(6,pI s1.2.2)] [(0,bx (pm (Al s1.1))),(c71e1),(1040,bx (pm (Aq s1.2.1)))]) hm (Conv.frz [1104]) ?_
 intro s1 n1 hm
 unfold Rw at hm
 refine Sq (Sq (RD hnt (nn 2 []) [] [(19,pB (decide (s1.2.2 > 0)))] [] [] tv ?_))
 refine Af hm ?_ ?_
 ·intro h18 hm
  refine Sk ?_
  refine Sq ?_
  refine Jn (ι := Ao × Ae) (fun (y3 : Ao × Ae) => Aj [(0,rr 0),(4,rr 1032),(5,rr 1040),(6,pI s1.2.2)] [(0,bx (pm (Al y3.1))),(c71e1),(1040,bx (pm (Aq y3.2)))]) (fun y3 => (Hn s1 n1) y3 = some RES) ?_ ?_
  ·intro y3 hm
   unfold Hn at hm
   refine RD hnt (nn 3 []) [] [(6,pI (w64 (s1.2.2 - 1)))] [] [] tv ?_
   exact jD (y3.1,y3.2,(w64 (s1.2.2 - 1))) hm Conv.eqK
  ·refine Bk ?_
   obtain ⟨r19,hr19,hm⟩ := bo hm
   obtain ⟨g20,hm⟩ := go1 hm
   refine Sq (RD hnt (nn 6 (o72 [0] true r19 :: nn 4 [])) [19] [(7,pI (s1.2.1.nodes.getD (Int.toNat r19.1) Bh).id)] [] [(0,bx (pm (Al r19.2)))] (an (Bt s1.1 ((s1.2.1.nodes.length : Nat) : Int) r19 hr19) (an tv (an g20.1 (an g20.2 tv)))) ?_)
   obtain ⟨r21,hr21,hm⟩ := bo hm
   obtain ⟨r22,hr22,hm⟩ := bo hm
   refine Sq (Sq (RD hnt (nn 3 (o73 [0] true r21 :: o74 [] true r22 :: nn 8 [])) [7] [(8,rr 1064),(10,pI r22.2.2)] [] [(0,bx (pm (Al r21.2))),(1064,bx [ow 1296 r22.1.nodes.length,pI r22.1.next]),(1296,ob0 (Ag r22.1.nodes))] (an (AbF r19.2 r21 hr21) (an tv (an (Agq s1.2.1 (s1.2.1.nodes.getD (Int.toNat r19.1) Bh).id r21.1 r22 hr22) tv))) ?_))
   refine Sq (RD hnt (nn 2 []) [10] [(42,pB (r22.2.2 == 0))] [] [] tv ?_)
   refine Jn (ι := Ae) (fun (y4 : Ae) => Aj [(0,rr 0),(4,rr 1032),(5,rr 1040),(6,pI s1.2.2)] [(0,bx (pm (Al r21.2))),(c71e1),(1040,bx (pm (Aq y4)))]) (fun y4 => (Io s1 n1 r21) y4 = some RES) ?_ ?_
   ·intro y4 hm
    unfold Io at hm
    obtain ⟨r24,hr24,hm⟩ := bo hm
    refine Sq (RD hnt (.no :: o84 [0] true r24 :: []) [] [(45,pB r24.1)] [] [(0,bx (pm (Al r24.2)))] (an (Ed r21.2 6 r24 hr24) (an tv tv)) ?_)
    refine Af hm ?_ ?_
    ·intro h25 hm
     obtain ⟨r26,hr26,hm⟩ := bo hm
     obtain ⟨g27,hm⟩ := go1 hm
     obtain ⟨r28,hr28,hm⟩ := bo hm
     refine Sq (RD hnt (nn 7 (o72 [0] true r26 :: nn 3 (o85 [] true r28 :: nn 6 []))) [45] [(11,rr 1088),(12,pI r28.2)] [] [(0,bx (pm (Al r26.2))),(1088,bx [ow 1464 r28.1.nodes.length,pI r28.1.next]),(1464,ob0 (Ag r28.1.nodes))] (an (Bt r24.2 ((y4.nodes.length : Nat) : Int) r26 hr26) (an tv (an g27.1 (an g27.2 (an (AdN y4 (y4.nodes.getD (Int.toNat r26.1) Bh).id r28 hr28) tv))))) ?_)
     refine Sq (RD hnt (nn 2 []) [12] [(62,pB (r28.2 == 0))] [] [] tv ?_)
     refine Af hm ?_ ?_
     ·intro h29 hm
      refine RD hnt (nn 2 []) [11,62] [] [1088] [(1040,bx [ow 1464 r28.1.nodes.length,pI r28.1.next])] tv ?_
      exact bD (r26.2,r28.1) hm (Conv.frz [1464])
     ·intro h29 hm
      refine Sk ?_
      exact bD (r26.2,y4) hm Conv.t0
    ·intro h25 hm
     refine Sk ?_
     exact bD (r24.2,y4) hm Conv.t0
   ·refine Af hm ?_ ?_
    ·intro h23 hm
     refine RD hnt (nn 2 []) [8,42] [] [1064] [(1040,bx [ow 1296 r22.1.nodes.length,pI r22.1.next])] tv ?_
     exact jD r22.1 hm (Conv.frz [1296])
    ·intro h23 hm
     refine Sk ?_
     exact jD s1.2.1 hm Conv.t0
 ·intro h18 hm
  refine DW.exit ?_
  refine An ?_
  refine Aw ?_
  refine Ak ?_
  show DW _ _ _ _ _
  refine Sq (RD hnt (nn 2 []) [0,5,6,19] [] [1040] [(1032,bx (pm (Aq s1.2.1)))] tv ?_)
  obtain rfl := sj hm
  exact DW.ret (Ai [.box (pm (Al s1.1))] [] (.p (.agg (Aq s1.2.1))))
abbrev o71 (ks : List Nat) (b : Bool) (RES : Ae × Ao) (sm : List Nat := []) : Orc := .call 39 ks b (.p (.agg (Aq RES.1))) [.box (pm (Al RES.2))] [] sm

theorem Lf (p0 : Ao) (p1 : Ae) (RES : Int × Ao) (hm : Gz p0 p1 = some RES) : Spec Tryz.prog 20 [rr 0,.p (.agg (Aq p1))] [.box (pm (Al p0))] (pI RES.1) [.box (pm (Al RES.2))] [] := by
 unfold Gz at hm
 refine SO Tryz.func20 rfl rfl [(0,rr 0),(1,.p (.agg (Aq p1)))] [(0,bx (pm (Al p0)))] ?_
 intro cx hnt
 refine Sq (RD hnt (nn 2 []) [1] [(3,rr 1024)] [] [(1024,bx (pm (Aq p1)))] tv ?_)
 obtain ⟨r1,hr1,hm⟩ := bo hm
 refine Sq (Sq ?_)
 refine Jn (ι := Bool) (fun (y1 : Bool) => Aj [(0,rr 0),(3,rr 1024),(12,pB y1)] [(0,bx (pm (Al r1.2))),(1024,bx (pm (Aq p1)))]) (fun y1 => (Ic p1 r1) y1 = some RES) ?_ ?_
 ·intro y1 hm
  unfold Ic at hm
  refine Af hm ?_ ?_
  ·intro h3 hm
   obtain ⟨r4,hr4,hm⟩ := bo hm
   refine Sq (RK hnt (.no :: o72 [0] true r4 :: nn 2 []) [(4,pI (w64 (r4.1 - 1)))] [(0,bx (pm (Al r4.2)))] (an (Bt r1.2 9 r4 hr4) (an tv tv)) ?_)
   obtain rfl := sj hm
   exact DW.ret (Ai [.box (pm (Al r4.2))] [] (pI (w64 (r4.1 - 1))))
  ·intro h3 hm
   refine Sk ?_
   obtain ⟨r5,hr5,hm⟩ := bo hm
   obtain ⟨g6,hm⟩ := go1 hm
   refine Sq (RK hnt (nn 6 (o72 [0] true r5 :: nn 4 [])) [(4,pI (p1.nodes.getD (Int.toNat r5.1) Bh).id)] [(0,bx (pm (Al r5.2)))] (an (Bt r1.2 ((p1.nodes.length : Nat) : Int) r5 hr5) (an tv (an g6.1 (an g6.2 tv)))) ?_)
   obtain rfl := sj hm
   exact DW.ret (Ai [.box (pm (Al r5.2))] [] (pI (p1.nodes.getD (Int.toNat r5.1) Bh).id))
 ·rcases bt r1.1 with h2 | h2
  ·replace hm := Bd h2 hm
   refine RD hnt (.no :: o84 [0] true r1 :: .no :: sk 4 (pT :: [])) [] [(12,pB true)] [] [(0,bx (pm (Al r1.2)))] (an (Ed p0 15 r1 hr1) (an tv (an5 h2 tv))) ?_
   exact jD true hm Conv.eqK
  ·replace hm := Be h2 hm
   refine RD hnt (.no :: o84 [0] true r1 :: nn 5 (pF :: [])) [] [(12,pB (((p1.nodes.length : Nat) : Int) == 0))] [] [(0,bx (pm (Al r1.2)))] (an (Ed p0 15 r1 hr1) (an tv (an5 h2 tv))) ?_
   exact jD (((p1.nodes.length : Nat) : Int) == 0) hm Conv.eqK
abbrev o88 (ks : List Nat) (b : Bool) (RES : Int × Ao) (sm : List Nat := []) : Orc := .call 20 ks b (pI RES.1) [.box (pm (Al RES.2))] [] sm

theorem Wk (p0 : Ao) (RES : Int × Ao) (hm : Ho p0 = some RES) : Spec Tryz.prog 90 [rr 0] [.box (pm (Al p0))] (pI RES.1) [.box (pm (Al RES.2))] [] := by
 unfold Ho at hm
 refine SO Tryz.func90 rfl rfl [(0,rr 0)] [(0,bx (pm (Al p0)))] ?_
 intro cx hnt
 refine Sq (RD hnt (.no :: []) [] [] [] [] tv ?_)
 obtain ⟨r3,hr3,hm⟩ := bo hm
 obtain ⟨g4,g5,hm⟩ := go2 hm
 refine Sq (RK hnt (.asR (ow 1024 [1,9,31,2,25,4,0,32,(-1)].length) [1,9,31,2,25,4,0,32,(-1)].length (elems Bo 0 [1,9,31,2,25,4,0,32,(-1)]) :: .no :: o72 [0] true r3 :: nn 3 []) [(2,pI ([1,9,31,2,25,4,0,32,(-1)].getD (Int.toNat r3.1) 0))] [(0,bx (pm (Al r3.2)))] (an (congrArg (MV.own 1024 0 0) (RowIs.asP (enc := Bo) (d := 0) (L := [1,9,31,2,25,4,0,32,(-1)]) (RowIs.lit (enc := Bo) (d := 0) (n := 9) (f := (cut 1 [vi 1,vi 9,vi 31,vi 2,vi 25,vi 4,vi 0,vi 32,vi (-1)])) [1,9,31,2,25,4,0,32,(-1)] rfl (fun | 0,_ => rfl | 1,_ => rfl | 2,_ => rfl | 3,_ => rfl | 4,_ => rfl | 5,_ => rfl | 6,_ => rfl | 7,_ => rfl | 8,_ => rfl | n + 9,h => absurd h (by omega)))).1) (an (RowIs.asP (enc := Bo) (d := 0) (L := [1,9,31,2,25,4,0,32,(-1)]) (RowIs.lit (enc := Bo) (d := 0) (n := 9) (f := (cut 1 [vi 1,vi 9,vi 31,vi 2,vi 25,vi 4,vi 0,vi 32,vi (-1)])) [1,9,31,2,25,4,0,32,(-1)] rfl (fun | 0,_ => rfl | 1,_ => rfl | 2,_ => rfl | 3,_ => rfl | 4,_ => rfl | 5,_ => rfl | 6,_ => rfl | 7,_ => rfl | 8,_ => rfl | n + 9,h => absurd h (by omega)))) (an (Bt p0 9 r3 hr3) (an tv (an g4.1 (an g4.2 (an g5 tv))))))) ?_)
 obtain rfl := sj hm
 exact DW.ret (Ai [.box (pm (Al r3.2))] [] (pI ([1,9,31,2,25,4,0,32,(-1)].getD (Int.toNat r3.1) 0)))
abbrev o89 (ks : List Nat) (b : Bool) (RES : Int × Ao) (sm : List Nat := []) : Orc := .call 90 ks b (pI RES.1) [.box (pm (Al RES.2))] [] sm

theorem Aen (p0 : List At) (p1 : Int) (RES : At × Bool) (hm : Qt p0 p1 = some RES) : Spec Tryz.prog 95 [.p (Bf p0),pI p1] [] (.p (.tup [.agg (Ay RES.1),vb RES.2])) [] [] := by
 unfold Qt at hm
 refine SO Tryz.func95 rfl rfl [(0,.p (Bf p0)),(1,pI p1)] [] ?_
 intro cx hnt
 refine Sq (RD hnt (nn 2 []) [] [(4,rr 1032)] [] [(1032,bx [pI 0,pI 0,pI 0,pI 0])] tv ?_)
 refine Sq (Sq (RD hnt (.no :: []) [] [(6,pI 0)] [] [] tv ?_))
 refine Bk ?_
 obtain ⟨hc1,hm⟩ := go1 hm
 refine DW.rangeO (fun (k1 : Nat) (s1 : Unit) => Aj [(0,.p (Bf p0)),(1,pI p1),(4,rr 1032),(6,pI ((k1 : Nat) : Int))] [(1032,bx [pI 0,pI 0,pI 0,pI 0])]) Bq hm Conv.eqK ?_
 intro k1 s1 n1 hk1 hs1 he1
 refine Sq (Sq (RD hnt (nn 4 []) [] [(10,pB (decide (((k1 : Nat) : Int) < ((p0.length : Nat) : Int))))] [] [] tv ?_))
 refine Cj (decide (((k1 : Nat) : Int) < ((p0.length : Nat) : Int))) ?_ ?_
 ·intro h11
  have hlt1 : k1 < p0.length := by have := of_decide_eq_true h11; omega
  have hm := hs1 hlt1
  unfold Abi at hm
  refine Sk ?_
  refine Sq (Bk ?_)
  refine Sq (RD hnt (nn 7 []) [10] [(19,pB ((p0.getD k1 (default : At)).id == p1))] [] [] (an (nn0 k1) (an (ltc hlt1) tv)) ?_)
  refine Af hm ?_ ?_
  ·intro h12 hm
   refine Sq (RK hnt (nn 13 []) [(4,rr 1032),(5,pB ((p0.getD k1 (default : At)).process == p1))] [(1032,bx (pm (Ay (p0.getD k1 (default : At)))))] (an (nn0 k1) (an (ltc hlt1) (an (nn0 k1) (an (ltc hlt1) tv)))) ?_)
   obtain rfl := sj hm
   exact DW.ret (Ai [] [] (.p (.tup [.agg (Ay (p0.getD k1 (default : At))),vb ((p0.getD k1 (default : At)).process == p1)])))
  ·intro h12 hm
   refine Sk ?_
   refine DW.done ?_
   show DW _ _ _ _ _
   refine RD hnt (nn 3 []) [19] [(6,pI (w64 (((k1 : Nat) : Int) + 1)))] [] [] tv ?_
   exact jD () ⟨hlt1,hm⟩ (Conv.tp [(6,pI (w64 (((k1 : Nat) : Int) + 1)))] [] (by kernel_rfl) (.cons rfl (.of_eq (congrArg pI (Bn hlt1 hc1))) .nil) .nil)
 ·intro h11
  have hge1 : ¬ k1 < p0.length := by have := of_decide_eq_false h11; omega
  have hm := he1 hge1
  unfold Abv at hm
  refine DW.exit ?_
  refine An ?_
  refine Aw ?_
  refine Ak ?_
  show DW _ _ _ _ _
  refine Sq (RD hnt (nn 3 []) [0,1,6,10] [(5,pB false)] [] [] tv ?_)
  obtain rfl := sj hm
  exact DW.ret (Ai [] [] (.p (.tup [.agg [vi 0,vi 0,vi 0,vi 0],vb false])))
abbrev o94 (ks : List Nat) (b : Bool) (RES : At × Bool) (sm : List Nat := []) : Orc := .call 95 ks b (.p (.tup [.agg (Ay RES.1),vb RES.2])) [] [] sm

abbrev Ih (p0 : Aa) (k1 : Nat) := (p0.tasks.getD k1 (default : At))
abbrev c93e2 (p0 : Aa) : Nat × MV := (3,pI ((p0.tasks.length : Nat) : Int))
theorem Gq (p0 : Aa) (RES : Bool) (hm : Ga p0 = some RES) : Spec Tryz.prog 19 [.p (.agg (Ab p0))] [] (pB RES) [] [] := by
 unfold Ga at hm
 refine SO Tryz.func19 rfl rfl [(0,.p (.agg (Ab p0)))] [] ?_
 intro cx hnt
 refine Sq (RK hnt (nn 2 []) [(1,rr 1008)] [(1008,bx (pm (Ab p0)))] tv ?_)
 refine Sq (RD hnt (nn 4 []) [] [(c93e2 p0)] [] [] tv ?_)
 obtain ⟨r1,hr1,hm⟩ := bo hm
 refine Sq (Sq ?_)
 refine Jn (ι := Bool) (fun (y1 : Bool) => Aj [(1,rr 1008),(c93e2 p0),(44,pB y1)] [(1008,bx (pm (Ab p0)))]) (fun y1 => (Hy p0) y1 = some RES) ?_ ?_
 ·intro y1 hm
  unfold Hy at hm
  refine Af hm ?_ ?_
  ·intro h8 hm
   refine Sq (RK hnt (.no :: []) [(2,pB false)] [] tv ?_)
   obtain rfl := sj hm
   exact DW.ret (Ai [] [] (pB false))
  ·intro h8 hm
   refine Sk ?_
   refine Sq (Sq (RD hnt (.no :: []) [44] [(4,pI 0)] [] [] tv ?_))
   refine Bk ?_
   obtain ⟨hc1,hm⟩ := go1 hm
   refine DW.rangeO (fun (k1 : Nat) (s1 : Unit) => Aj [(1,rr 1008),(c93e2 p0),(4,pI ((k1 : Nat) : Int))] [(1008,bx (pm (Ab p0)))]) Bq hm Conv.eqK ?_
   intro k1 s1 n1 hk1 hs1 he1
   refine Sq (Sq (RD hnt (nn 3 []) [] [(47,pB (decide (((k1 : Nat) : Int) < ((p0.tasks.length : Nat) : Int))))] [] [] tv ?_))
   refine Cj (decide (((k1 : Nat) : Int) < ((p0.tasks.length : Nat) : Int))) ?_ ?_
   ·intro h45
    have hlt1 : k1 < p0.tasks.length := by have := of_decide_eq_true h45; omega
    have hm := hs1 hlt1
    unfold Sd at hm
    refine Sk ?_
    refine Sq (Bk ?_)
    refine Sq (RD hnt (nn 7 []) [47] [(5,rr 1040)] [] [(1040,bx (pm (Ay (Ih p0 k1))))] (an (nn0 k1) (an (ltc hlt1) tv)) ?_)
    obtain ⟨r46,hr46,hm⟩ := bo hm
    refine Sq (RD hnt (nn 4 (o94 [] true r46 :: nn 6 [])) [] [(6,rr 1048),(7,pB r46.2)] [] [(1048,bx (pm (Ay r46.1)))] (an (Aen p0.tasks (Ih p0 k1).process r46 hr46) tv) ?_)
    refine Sq ?_
    refine Jn (ι := Bool) (fun (y4 : Bool) => Aj [(1,rr 1008),(c93e2 p0),(4,pI ((k1 : Nat) : Int)),(110,pB y4)] [(1008,bx (pm (Ab p0)))]) (fun y4 => (Cc n1) y4 = some RES) ?_ ?_
    ·intro y4 hm
     unfold Cc at hm
     refine Af hm ?_ ?_
     ·intro h61 hm
      refine Sq (RK hnt (.no :: []) [(2,pB false)] [] tv ?_)
      obtain rfl := sj hm
      exact DW.ret (Ai [] [] (pB false))
     ·intro h61 hm
      refine Sk ?_
      refine DW.done ?_
      show DW _ _ _ _ _
      refine RD hnt (nn 3 []) [110] [(4,pI (w64 (((k1 : Nat) : Int) + 1)))] [] [] tv ?_
      exact jD () ⟨hlt1,hm⟩ (Conv.tp [(4,pI (w64 (((k1 : Nat) : Int) + 1)))] [] (by kernel_rfl) (.cons rfl (.of_eq (congrArg pI (Bn hlt1 hc1))) .nil) .nil)
    ·rcases bt (decide ((Ih p0 k1).id < 1)) with h47 | h47
     ·replace hm := Bd h47 hm
      refine RD hnt (nn 4 (sk 14 (pT :: .no :: sk 6 (pT :: .no :: sk 3 (pT :: .no :: sk 3 (pT :: .no :: sk 2 (pT :: .no :: sk 5 (pT :: [])))))))) [5,6,7] [(110,pB true)] [1040,1048] [] (an5 h47 (an6 tt (an6 tt (an6 tt (an6 tt tv))))) ?_
      exact jD true hm Conv.eqK
     ·replace hm := Be h47 hm
      rcases bt (decide (((k1 : Nat) : Int) > 0)) with h48 | h48
      ·replace hm := Bd h48 hm
       obtain ⟨g49,hm⟩ := go1 hm
       rcases bt (decide ((p0.tasks.getD (Int.toNat (w64 (((k1 : Nat) : Int) - 1))) Bq).id ≥ (Ih p0 k1).id)) with h50 | h50
       ·replace hm := Bd h50 hm
        refine RD hnt (nn 17 (pT :: pF :: .no :: sk 6 (pT :: .no :: sk 3 (pT :: .no :: sk 3 (pT :: .no :: sk 2 (pT :: .no :: sk 5 (pT :: []))))))) [5,6,7] [(110,pB true)] [1040,1048] [] (an3 h47 (an5 h48 (an g49.1 (an g49.2 (an5 h48 (an h47 (an h48 (an h47 (an h50 (an6 h50 (an5 tt (an6 tt (an6 tt tv))))))))))))) ?_
        exact jD true hm Conv.eqK
       ·replace hm := Be h50 hm
        obtain ⟨r51,hr51,hm⟩ := bo hm
        rcases bt (!r51) with h52 | h52
        ·replace hm := Bd h52 hm
         refine RD hnt (nn 17 (pT :: pF :: nn 5 (o79 [] true r51 :: .no :: pF :: .no :: sk 3 (pT :: .no :: sk 3 (pT :: .no :: sk 2 (pT :: .no :: sk 5 (pT :: []))))))) [5,6,7] [(110,pB true)] [1040,1048] [] (an3 h47 (an5 h48 (an g49.1 (an g49.2 (an5 h48 (an h47 (an h48 (an h47 (an5 h50 (an (Cw p0.tree (Ih p0 k1).group r51 hr51) (an2 h50 (an4 h52 (an tt (an6 tt (an6 tt tv))))))))))))))) ?_
         exact jD true hm Conv.eqK
        ·replace hm := Be h52 hm
         rcases bt (decide ((Ih p0 k1).user < 0)) with h53 | h53
         ·replace hm := Bd h53 hm
          refine RD hnt (nn 17 (pT :: pF :: nn 5 (o79 [] true r51 :: .no :: pF :: nn 4 (pF :: .no :: sk 3 (pT :: .no :: sk 2 (pT :: .no :: sk 5 (pT :: []))))))) [5,6,7] [(110,pB true)] [1040,1048] [] (an3 h47 (an5 h48 (an g49.1 (an g49.2 (an5 h48 (an h47 (an h48 (an h47 (an5 h50 (an (Cw p0.tree (Ih p0 k1).group r51 hr51) (an2 h50 (an4 h52 (an4 h53 (an3 tt (an6 tt tv))))))))))))))) ?_
          exact jD true hm Conv.eqK
         ·replace hm := Be h53 hm
          rcases bt (decide ((Ih p0 k1).user > 1048576)) with h54 | h54
          ·replace hm := Bd h54 hm
           refine RD hnt (nn 17 (pT :: pF :: nn 5 (o79 [] true r51 :: .no :: pF :: nn 4 (pF :: nn 4 (pF :: .no :: sk 2 (pT :: .no :: sk 5 (pT :: []))))))) [5,6,7] [(110,pB true)] [1040,1048] [] (an3 h47 (an5 h48 (an g49.1 (an g49.2 (an5 h48 (an h47 (an h48 (an h47 (an5 h50 (an (Cw p0.tree (Ih p0 k1).group r51 hr51) (an2 h50 (an4 h52 (an4 h53 (an3 h54 (an6 tt tv))))))))))))))) ?_
           exact jD true hm Conv.eqK
          ·replace hm := Be h54 hm
           rcases bt (!r46.2) with h55 | h55
           ·replace hm := Bd h55 hm
            refine RD hnt (nn 17 (pT :: pF :: nn 5 (o79 [] true r51 :: .no :: pF :: nn 4 (pF :: nn 4 (pF :: nn 3 (pF :: .no :: sk 5 (pT :: []))))))) [5,6,7] [(110,pB true)] [1040,1048] [] (an3 h47 (an5 h48 (an g49.1 (an g49.2 (an5 h48 (an h47 (an h48 (an h47 (an5 h50 (an (Cw p0.tree (Ih p0 k1).group r51 hr51) (an2 h50 (an4 h52 (an4 h53 (an3 h54 (an6 h55 tv))))))))))))))) ?_
            exact jD true hm Conv.eqK
           ·replace hm := Be h55 hm
            refine RD hnt (nn 17 (pT :: pF :: nn 5 (o79 [] true r51 :: .no :: pF :: nn 4 (pF :: nn 4 (pF :: nn 3 (pF :: nn 6 (pF :: []))))))) [5,6,7] [(110,pB (r46.1.user != (Ih p0 k1).user))] [1040,1048] [] (an3 h47 (an5 h48 (an g49.1 (an g49.2 (an5 h48 (an h47 (an h48 (an h47 (an5 h50 (an (Cw p0.tree (Ih p0 k1).group r51 hr51) (an2 h50 (an4 h52 (an4 h53 (an3 h54 (an6 h55 tv))))))))))))))) ?_
            exact jD (r46.1.user != (Ih p0 k1).user) hm Conv.eqK
      ·replace hm := Be h48 hm
       obtain ⟨r56,hr56,hm⟩ := bo hm
       rcases bt (!r56) with h57 | h57
       ·replace hm := Bd h57 hm
        refine RD hnt (nn 7 (sk 10 (pF :: pF :: nn 5 (o79 [] true r56 :: .no :: pF :: .no :: sk 3 (pT :: .no :: sk 3 (pT :: .no :: sk 2 (pT :: .no :: sk 5 (pT :: [])))))))) [5,6,7] [(110,pB true)] [1040,1048] [] (an3 h47 (an4 h48 (an6 h48 (an h47 (an h48 (an h47 (an5 ff (an (Cw p0.tree (Ih p0 k1).group r56 hr56) (an2 ff (an4 h57 (an tt (an6 tt (an6 tt tv))))))))))))) ?_
        exact jD true hm Conv.eqK
       ·replace hm := Be h57 hm
        rcases bt (decide ((Ih p0 k1).user < 0)) with h58 | h58
        ·replace hm := Bd h58 hm
         refine RD hnt (nn 7 (sk 10 (pF :: pF :: nn 5 (o79 [] true r56 :: .no :: pF :: nn 4 (pF :: .no :: sk 3 (pT :: .no :: sk 2 (pT :: .no :: sk 5 (pT :: [])))))))) [5,6,7] [(110,pB true)] [1040,1048] [] (an3 h47 (an4 h48 (an6 h48 (an h47 (an h48 (an h47 (an5 ff (an (Cw p0.tree (Ih p0 k1).group r56 hr56) (an2 ff (an4 h57 (an4 h58 (an3 tt (an6 tt tv))))))))))))) ?_
         exact jD true hm Conv.eqK
        ·replace hm := Be h58 hm
         rcases bt (decide ((Ih p0 k1).user > 1048576)) with h59 | h59
         ·replace hm := Bd h59 hm
          refine RD hnt (nn 7 (sk 10 (pF :: pF :: nn 5 (o79 [] true r56 :: .no :: pF :: nn 4 (pF :: nn 4 (pF :: .no :: sk 2 (pT :: .no :: sk 5 (pT :: [])))))))) [5,6,7] [(110,pB true)] [1040,1048] [] (an3 h47 (an4 h48 (an6 h48 (an h47 (an h48 (an h47 (an5 ff (an (Cw p0.tree (Ih p0 k1).group r56 hr56) (an2 ff (an4 h57 (an4 h58 (an3 h59 (an6 tt tv))))))))))))) ?_
          exact jD true hm Conv.eqK
         ·replace hm := Be h59 hm
          rcases bt (!r46.2) with h60 | h60
          ·replace hm := Bd h60 hm
           refine RD hnt (nn 7 (sk 10 (pF :: pF :: nn 5 (o79 [] true r56 :: .no :: pF :: nn 4 (pF :: nn 4 (pF :: nn 3 (pF :: .no :: sk 5 (pT :: [])))))))) [5,6,7] [(110,pB true)] [1040,1048] [] (an3 h47 (an4 h48 (an6 h48 (an h47 (an h48 (an h47 (an5 ff (an (Cw p0.tree (Ih p0 k1).group r56 hr56) (an2 ff (an4 h57 (an4 h58 (an3 h59 (an6 h60 tv))))))))))))) ?_
           exact jD true hm Conv.eqK
          ·replace hm := Be h60 hm
           refine RD hnt (nn 7 (sk 10 (pF :: pF :: nn 5 (o79 [] true r56 :: .no :: pF :: nn 4 (pF :: nn 4 (pF :: nn 3 (pF :: nn 6 (pF :: [])))))))) [5,6,7] [(110,pB (r46.1.user != (Ih p0 k1).user))] [1040,1048] [] (an3 h47 (an4 h48 (an6 h48 (an h47 (an h48 (an h47 (an5 ff (an (Cw p0.tree (Ih p0 k1).group r56 hr56) (an2 ff (an4 h57 (an4 h58 (an3 h59 (an6 h60 tv))))))))))))) ?_
           exact jD (r46.1.user != (Ih p0 k1).user) hm Conv.eqK
   ·intro h45
    have hge1 : ¬ k1 < p0.tasks.length := by have := of_decide_eq_false h45; omega
    have hm := he1 hge1
    unfold Xb at hm
    refine DW.exit ?_
    refine An ?_
    refine Aw ?_
    refine Ak ?_
    show DW _ _ _ _ _
    refine Sq (RK hnt (.no :: []) [(2,pB true)] [] tv ?_)
    obtain rfl := sj hm
    exact DW.ret (Ai [] [] (pB true))
 ·rcases bt (!r1) with h2 | h2
  ·replace hm := Bd h2 hm
   refine RD hnt (nn 2 (o75 [] true r1 :: nn 2 (sk 2 (pT :: .no :: sk 3 (pT :: .no :: sk 3 (pT :: .no :: sk 14 (pT :: []))))))) [] [(44,pB true)] [] [] (an (Fv p0.tree r1 hr1) (an3 h2 (an tt (an6 tt (an6 tt tv))))) ?_
   exact jD true hm Conv.eqK
  ·replace hm := Be h2 hm
   rcases bt (decide (((p0.tasks.length : Nat) : Int) > 128)) with h3 | h3
   ·replace hm := Bd h3 hm
    refine RD hnt (nn 2 (o75 [] true r1 :: nn 4 (pF :: .no :: sk 3 (pT :: .no :: sk 3 (pT :: .no :: sk 14 (pT :: [])))))) [] [(44,pB true)] [] [] (an (Fv p0.tree r1 hr1) (an3 h2 (an4 h3 (an3 tt (an6 tt tv))))) ?_
    exact jD true hm Conv.eqK
   ·replace hm := Be h3 hm
    rcases bt (decide (p0.next < 1)) with h4 | h4
    ·replace hm := Bd h4 hm
     refine RD hnt (nn 2 (o75 [] true r1 :: nn 4 (pF :: nn 4 (pF :: .no :: sk 3 (pT :: .no :: sk 14 (pT :: [])))))) [] [(44,pB true)] [] [] (an (Fv p0.tree r1 hr1) (an3 h2 (an4 h3 (an4 h4 (an5 tt tv))))) ?_
     exact jD true hm Conv.eqK
    ·replace hm := Be h4 hm
     rcases bt (decide (p0.next > 2147483648)) with h5 | h5
     ·replace hm := Bd h5 hm
      refine RD hnt (nn 2 (o75 [] true r1 :: nn 4 (pF :: nn 4 (pF :: nn 4 (pF :: .no :: sk 14 (pT :: [])))))) [] [(44,pB true)] [] [] (an (Fv p0.tree r1 hr1) (an3 h2 (an4 h3 (an4 h4 (an5 h5 tv))))) ?_
      exact jD true hm Conv.eqK
     ·replace hm := Be h5 hm
      rcases bt (decide (((p0.tasks.length : Nat) : Int) > 0)) with h6 | h6
      ·replace hm := Bd h6 hm
       obtain ⟨g7,hm⟩ := go1 hm
       refine RD hnt (nn 2 (o75 [] true r1 :: nn 4 (pF :: nn 4 (pF :: nn 4 (pF :: nn 14 (pT :: pF :: [])))))) [] [(44,pB (decide (p0.next ≤ (p0.tasks.getD (Int.toNat (w64 (((p0.tasks.length : Nat) : Int) - 1))) Bq).id)))] [] [] (an (Fv p0.tree r1 hr1) (an3 h2 (an4 h3 (an4 h4 (an3 h5 (an h6 (an6 h6 (an g7.1 (an g7.2 (an3 h6 (an h5 (an h6 (an h5 tv))))))))))))) ?_
       exact jD (decide (p0.next ≤ (p0.tasks.getD (Int.toNat (w64 (((p0.tasks.length : Nat) : Int) - 1))) Bq).id)) hm Conv.eqK
      ·replace hm := Be h6 hm
       refine RD hnt (nn 2 (o75 [] true r1 :: nn 4 (pF :: nn 4 (pF :: nn 4 (pF :: nn 4 (sk 10 (pF :: pF :: []))))))) [] [(44,pB false)] [] [] (an (Fv p0.tree r1 hr1) (an3 h2 (an4 h3 (an4 h4 (an3 h5 (an4 h6 (an6 h6 (an h5 (an h6 (an h5 tv)))))))))) ?_
       exact jD false hm Conv.eqK
abbrev o93 (ks : List Nat) (b : Bool) (RES : Bool) (sm : List Nat := []) : Orc := .call 19 ks b (pB RES) [] [] sm

theorem Aeg (p0 : Ae) (p1 : Int) (RES : Int) (hm : Rc p0 p1 = some RES) : Spec Tryz.prog 250 [.p (.agg (Aq p0)),pI p1] [] (pI RES) [] [] := by
 unfold Rc at hm
 refine SO Tryz.func250 rfl rfl [(0,.p (.agg (Aq p0))),(1,pI p1)] [] ?_
 intro cx hnt
 refine Sq (RK hnt (nn 2 []) [(1,pI p1),(2,rr 1016)] [(1016,bx (pm (Aq p0)))] tv ?_)
 obtain ⟨r1,hr1,hm⟩ := bo hm
 refine Sq (RD hnt (nn 2 (o80 [] true r1 :: nn 6 [])) [] [(5,rr 1040),(6,pB r1.2)] [] [(1040,bx (pm (Am r1.1)))] (an (Db p0 p1 r1 hr1) tv) ?_)
 refine Sq (Sq (DW.regJ (sl2 := [(2,rr 1016),(5,rr 1040),(20,pB ((!r1.2) || (p1 == 1)))]) (ob2 := [(1016,bx (pm (Aq p0))),(1040,bx (pm (Am r1.1)))]) ?_ ?_))
 ·rcases bt (!r1.2) with h2 | h2
  ·exact RT hnt (nn 3 (sk 2 (pT :: []))) [(20,pB true)] (an3 h2 tv) (by kernel_rfl) (.cons rfl (.of_eq (by rw [h2]; try rfl)) .nil)
  ·exact RT hnt (nn 5 (pF :: [])) [(20,pB (p1 == 1))] (an3 h2 tv) (by kernel_rfl) (.cons rfl (.of_eq (by rw [h2]; try rfl)) .nil)
 ·refine Af hm ?_ ?_
  ·intro h3 hm
   refine Sq (RK hnt (.no :: []) [(4,pI 0)] [] tv ?_)
   obtain rfl := sj hm
   exact DW.ret (Ai [] [] (pI 0))
  ·intro h3 hm
   refine Sk ?_
   obtain ⟨r4,hr4,hm⟩ := bo hm
   refine Sq (RD hnt (nn 3 (o80 [] true r4 :: nn 6 [])) [2,20] [(7,rr 1056)] [1016] [(1056,bx (pm (Am r4.1)))] (an (Db p0 r1.1.parent r4 hr4) tv) ?_)
   refine Sq (Sq (RD hnt (nn 3 []) [5] [(30,pB (r1.1.kind == 1))] [1040] [] tv ?_))
   refine Af hm ?_ ?_
   ·intro h5 hm
    refine Sq (RK hnt (nn 4 []) [(4,pI (Eb .i64 r4.1.control 6))] [] tv ?_)
    obtain rfl := sj hm
    exact DW.ret (Ai [] [] (pI (Eb .i64 r4.1.control 6)))
   ·intro h5 hm
    refine Sk ?_
    refine Sq (RK hnt (nn 3 []) [(4,pI r4.1.control)] [] tv ?_)
    obtain rfl := sj hm
    exact DW.ret (Ai [] [] (pI r4.1.control))
abbrev o96 (ks : List Nat) (b : Bool) (RES : Int) (sm : List Nat := []) : Orc := .call 250 ks b (pI RES) [] [] sm

theorem Ji (p0 : Ae) (p1 : Int) (RES : Int) (hm : Kp p0 p1 = some RES) : Spec Tryz.prog 235 [.p (.agg (Aq p0)),pI p1] [] (pI RES) [] [] := by
 unfold Kp at hm
 refine SO Tryz.func235 rfl rfl [(0,.p (.agg (Aq p0))),(1,pI p1)] [] ?_
 intro cx hnt
 refine Sq (RK hnt (nn 2 []) [(1,pI p1),(2,rr 1016)] [(1016,bx (pm (Aq p0)))] tv ?_)
 obtain ⟨r1,hr1,hm⟩ := bo hm
 refine Sq (RD hnt (nn 2 (o80 [] true r1 :: nn 6 [])) [] [(5,rr 1040),(6,pB r1.2)] [] [(1040,bx (pm (Am r1.1)))] (an (Db p0 p1 r1 hr1) tv) ?_)
 refine Sq (Sq (RD hnt (nn 2 []) [6] [(15,pB (!r1.2))] [] [] tv ?_))
 refine Af hm ?_ ?_
 ·intro h2 hm
  refine Sq (RK hnt (.no :: []) [(4,pI 0)] [] tv ?_)
  obtain rfl := sj hm
  exact DW.ret (Ai [] [] (pI 0))
 ·intro h2 hm
  refine Sk ?_
  refine Sq (RD hnt (.no :: []) [15] [(7,pI 31)] [] [] tv ?_)
  refine Sq (Sq (RD hnt (nn 2 []) [] [(17,pB (p1 != 1))] [] [] tv ?_))
  refine Jn (ι := Int) (fun (y1 : Int) => Aj [(5,rr 1040),(7,pI y1)] [(1040,bx (pm (Am r1.1)))]) (fun y1 => (Iq r1) y1 = some RES) ?_ ?_
  ·intro y1 hm
   unfold Iq at hm
   refine Sq (Sq (RK hnt (nn 3 []) [(7,pI y1),(23,pB (r1.1.kind == 1))] [] tv ?_))
   refine Jn (ι := Int) (fun (y2 : Int) => Aj [(7,pI y2)] []) (fun y2 => La y2 = some RES) ?_ ?_
   ·intro y2 hm
    unfold La at hm
    refine Sq (RK hnt (nn 2 []) [(4,pI y2)] [] tv ?_)
    obtain rfl := sj hm
    exact DW.ret (Ai [] [] (pI y2))
   ·refine Af hm ?_ ?_
    ·intro h5 hm
     refine RK hnt (nn 3 []) [(7,pI (Eb .i64 y1 6))] [] tv ?_
     exact jD (Eb .i64 y1 6) hm .refl
    ·intro h5 hm
     refine Sk ?_
     exact jD y1 hm Conv.t0
  ·refine Af hm ?_ ?_
   ·intro h3 hm
    obtain ⟨r4,hr4,hm⟩ := bo hm
    refine RD hnt (nn 2 (o96 [] true r4 :: .no :: [])) [1,2,17] [(7,pI r4)] [1016] [] (an (Aeg p0 p1 r4 hr4) tv) ?_
    exact jD r4 hm Conv.eqK
   ·intro h3 hm
    refine Sk ?_
    exact jD 31 hm Conv.t0
abbrev o95 (ks : List Nat) (b : Bool) (RES : Int) (sm : List Nat := []) : Orc := .call 235 ks b (pI RES) [] [] sm
end Go.Dm


/- Go functions compute their models, printed by a program. -/
namespace Go.Dm
open Go.Proofs
set_option linter.unusedVariables false
abbrev Up (p0 : Aa) (k1 : Nat) := (p0.tasks.getD k1 (default : At))
theorem Mn (p0 : Aa) (p1 : Int) (RES : List Int) (hm : Hu p0 p1 = some RES) : Spec Tryz.prog 26 [.p (.agg (Ab p0)),pI p1] [] (ow 0 RES.length) [] [roI RES] := by
 unfold Hu at hm
 refine SO Tryz.func26 rfl rfl [(0,.p (.agg (Ab p0))),(1,pI p1)] [] ?_
 intro cx hnt
 refine Sq (RK hnt (nn 2 []) [(1,pI p1),(2,rr 1016)] [(1016,bx (pm (Ab p0)))] tv ?_)
 obtain ⟨r1,hr1,hm⟩ := bo hm
 refine Sq (Sq (RD hnt (.no :: o93 [] true r1 :: .no :: []) [] [(9,pB (!r1))] [] [] (an (Gq p0 r1 hr1) tv) ?_))
 refine Af hm ?_ ?_
 ·intro h2 hm
  refine Sq (RK hnt (.no :: []) [(4,.p (.sl .nil 0 0 (fun _ => [])))] [] tv ?_)
  refine DW.cv [] [(4,ow 100000 0)] [] [(100000,ob0 (roI []))] (Conv.ads [(.s 4,100000,1,elems Bo 0 [])]) ?_
  obtain rfl := sj hm
  exact DW.ret (Ai [roI []] [100000] (ow 0 0))
 ·intro h2 hm
  refine Sk ?_
  refine Sq (RD hnt (.no :: []) [9] [(5,.p (.sl .nil 0 0 (fun _ => [])))] [] [] tv ?_)
  refine Sq (Sq (RD hnt (.no :: []) [] [(6,pI 0)] [] [] tv ?_))
  refine Bk ?_
  obtain ⟨hc1,hm⟩ := go1 hm
  refine DW.rangeO (fun (k1 : Nat) (s1 : List Int) => Aj [(1,pI p1),(2,rr 1016),(5,ow 1264 s1.length),(6,pI ((k1 : Nat) : Int))] [(1016,bx (pm (Ab p0))),(1264,ob0 (roI s1))]) Bq hm (Conv.ads [(.s 5,1264,1,elems Bo 0 [])]) ?_
  intro k1 s1 n1 hk1 hs1 he1
  refine Sq (Sq (RD hnt (nn 5 []) [] [(14,pB (decide (((k1 : Nat) : Int) < ((p0.tasks.length : Nat) : Int))))] [] [] tv ?_))
  refine Cj (decide (((k1 : Nat) : Int) < ((p0.tasks.length : Nat) : Int))) ?_ ?_
  ·intro h12
   have hlt1 : k1 < p0.tasks.length := by have := of_decide_eq_true h12; omega
   have hm := hs1 hlt1
   unfold Xq at hm
   refine Sk ?_
   refine Sq ?_
   refine Jn (ι := List Int) (fun (y3 : List Int) => Aj [(1,pI p1),(2,rr 1016),(5,ow 1264 y3.length),(6,pI ((k1 : Nat) : Int))] [(1016,bx (pm (Ab p0))),(1264,ob0 (roI y3))]) (fun y3 => (Pk n1) y3 = some RES) ?_ ?_
   ·intro y3 hm
    unfold Pk at hm
    refine RD hnt (nn 3 []) [] [(6,pI (w64 (((k1 : Nat) : Int) + 1)))] [] [] tv ?_
    exact jD y3 ⟨hlt1,hm⟩ (Conv.tp [(6,pI (w64 (((k1 : Nat) : Int) + 1)))] [] (by kernel_rfl) (.cons rfl (.of_eq (congrArg pI (Bn hlt1 hc1))) .nil) .nil)
   ·refine Bk ?_
    refine Sq (RD hnt (nn 8 []) [14] [(24,pB ((Up p0 k1).group == p1))] [] [] (an (nn0 k1) (an (ltc hlt1) tv)) ?_)
    refine Af hm ?_ ?_
    ·intro h13 hm
     obtain ⟨g14,hm⟩ := go1 hm
     refine RN hnt (nn 10 []) [(1,pI p1),(2,rr 1016),(5,ow 1264 (s1 ++ [(Up p0 k1).id]).length),(6,pI ((k1 : Nat) : Int))] [(1016,bx (pm (Ab p0))),(1264,ob0 (roI (s1 ++ [(Up p0 k1).id])))] [(5,ow 1264 (s1.length + 1))] [(1264,.row 1 (s1.length + 1) (Dq s1.length (elI s1) (cut 1 [vi (Up p0 k1).id])))] (an (nn0 k1) (an (ltc hlt1) (an (by omega : (s1.length + 1) * 8 ≤ 140737488355328) tv))) (by kernel_rfl) (.cons rfl (MLe.ownLen (enc := Bo) (d := 0) (f := (Dq s1.length (elI s1) (cut 1 [vi (Up p0 k1).id]))) (RowIs.cat RowIs.elems (RowIs.lit (enc := Bo) (d := 0) (n := 1) (f := (cut 1 [vi (Up p0 k1).id])) [(Up p0 k1).id] rfl (fun | 0,_ => rfl | n + 1,h => absurd h (by omega))))) .nil) (.cons rfl (BLe.typed (RowIs.cat RowIs.elems (RowIs.lit (enc := Bo) (d := 0) (n := 1) (f := (cut 1 [vi (Up p0 k1).id])) [(Up p0 k1).id] rfl (fun | 0,_ => rfl | n + 1,h => absurd h (by omega))))) .nil) ?_
     exact bD (s1 ++ [(Up p0 k1).id]) hm .refl
    ·intro h13 hm
     refine Sk ?_
     exact bD s1 hm Conv.t0
  ·intro h12
   have hge1 : ¬ k1 < p0.tasks.length := by have := of_decide_eq_false h12; omega
   have hm := he1 hge1
   unfold Aci at hm
   refine DW.exit ?_
   refine An ?_
   refine Aw ?_
   refine Ak ?_
   show DW _ _ _ _ _
   refine Sq (RK hnt (nn 2 []) [(4,ow 1264 s1.length)] [(1264,ob0 (roI s1))] tv ?_)
   obtain rfl := sj hm
   exact DW.ret (Ai [roI s1] [1264] (ow 0 s1.length))
abbrev o97 (ks : List Nat) (b : Bool) (RES : List Int) (sm : List Nat := []) : Orc := .call 26 ks b (ow 0 RES.length) [] [roI RES] sm

abbrev Wn (p0 : Aa) (k1 : Nat) := (p0.tree.nodes.getD k1 (default : Ah))
theorem Mp (p0 : Aa) (RES : Bool) (hm : Qh p0 = some RES) : Spec Tryz.prog 209 [.p (.agg (Ab p0))] [] (pB RES) [] [] := by
 unfold Qh at hm
 refine SO Tryz.func209 rfl rfl [(0,.p (.agg (Ab p0)))] [] ?_
 intro cx hnt
 refine Sq (RK hnt (nn 2 []) [(1,rr 1008)] [(1008,bx (pm (Ab p0)))] tv ?_)
 obtain ⟨r1,hr1,hm⟩ := bo hm
 refine Sq (Sq (RD hnt (.no :: o93 [] true r1 :: .no :: []) [] [(7,pB (!r1))] [] [] (an (Gq p0 r1 hr1) tv) ?_))
 refine Af hm ?_ ?_
 ·intro h2 hm
  refine Sq (RK hnt (.no :: []) [(2,pB false)] [] tv ?_)
  obtain rfl := sj hm
  exact DW.ret (Ai [] [] (pB false))
 ·intro h2 hm
  refine Sk ?_
  refine Sq (Sq (RD hnt (.no :: []) [7] [(3,pI 0)] [] [] tv ?_))
  refine Bk ?_
  obtain ⟨hc1,hm⟩ := go1 hm
  refine DW.rangeO (fun (k1 : Nat) (s1 : Unit) => Aj [(1,rr 1008),(3,pI ((k1 : Nat) : Int))] [(1008,bx (pm (Ab p0)))]) Bh hm Conv.eqK ?_
  intro k1 s1 n1 hk1 hs1 he1
  refine Sq (Sq (RD hnt (nn 6 []) [] [(13,pB (decide (((k1 : Nat) : Int) < ((p0.tree.nodes.length : Nat) : Int))))] [] [] tv ?_))
  refine Cj (decide (((k1 : Nat) : Int) < ((p0.tree.nodes.length : Nat) : Int))) ?_ ?_
  ·intro h19
   have hlt1 : k1 < p0.tree.nodes.length := by have := of_decide_eq_true h19; omega
   have hm := hs1 hlt1
   unfold Xn at hm
   refine Sk ?_
   refine Sq (Bk ?_)
   refine Sq (RD hnt (nn 8 []) [13] [(4,rr 1032)] [] [(1032,bx (pm (Am (Wn p0 k1))))] (an (nn0 k1) (an (ltc hlt1) tv)) ?_)
   obtain ⟨r20,hr20,hm⟩ := bo hm
   refine Sq ?_
   refine Jn (ι := Bool) (fun (y3 : Bool) => Aj [(1,rr 1008),(3,pI ((k1 : Nat) : Int)),(49,pB y3)] [(1008,bx (pm (Ab p0)))]) (fun y3 => (Jf n1) y3 = some RES) ?_ ?_
   ·intro y3 hm
    unfold Jf at hm
    refine Af hm ?_ ?_
    ·intro h25 hm
     refine Sq (RK hnt (.no :: []) [(2,pB false)] [] tv ?_)
     obtain rfl := sj hm
     exact DW.ret (Ai [] [] (pB false))
    ·intro h25 hm
     refine Sk ?_
     refine DW.done ?_
     show DW _ _ _ _ _
     refine RD hnt (nn 3 []) [49] [(3,pI (w64 (((k1 : Nat) : Int) + 1)))] [] [] tv ?_
     exact jD () ⟨hlt1,hm⟩ (Conv.tp [(3,pI (w64 (((k1 : Nat) : Int) + 1)))] [] (by kernel_rfl) (.cons rfl (.of_eq (congrArg pI (Bn hlt1 hc1))) .nil) .nil)
   ·rcases bt ((Eb .i64 (Wn p0 k1).control r20) != 0) with h21 | h21
    ·replace hm := Bd h21 hm
     refine RD hnt (nn 6 (o95 [] true r20 :: nn 3 (sk 17 (pT :: [])))) [4] [(49,pB true)] [1032] [] (an (Ji p0.tree (Wn p0 k1).id r20 hr20) (an2 h21 (an6 h21 tv))) ?_
     exact jD true hm Conv.eqK
    ·replace hm := Be h21 hm
     rcases bt ((Wn p0 k1).id != 1) with h22 | h22
     ·replace hm := Bd h22 hm
      rcases bt ((kand .i64 (Wn p0 k1).control 6) != 0) with h23 | h23
      ·replace hm := Bd h23 hm
       obtain ⟨r24,hr24,hm⟩ := bo hm
       refine RD hnt (nn 6 (o95 [] true r20 :: nn 11 (pT :: nn 4 (o97 [] true r24 :: nn 2 (pT :: pF :: []))))) [4] [(49,pB (decide (((r24.length : Nat) : Int) > 0)))] [1032] [] (an (Ji p0.tree (Wn p0 k1).id r20 hr20) (an4 h21 (an4 h22 (an h21 (an h22 (an h21 (an4 h23 (an (Mn p0 (Wn p0 k1).id r24 hr24) (an2 h23 (an h21 (an h23 (an h21 tv)))))))))))) ?_
       exact jD (decide (((r24.length : Nat) : Int) > 0)) hm Conv.eqK
      ·replace hm := Be h23 hm
       refine RD hnt (nn 6 (o95 [] true r20 :: nn 11 (pT :: .no :: sk 6 (pF :: pF :: [])))) [4] [(49,pB false)] [1032] [] (an (Ji p0.tree (Wn p0 k1).id r20 hr20) (an4 h21 (an4 h22 (an h21 (an h22 (an h21 (an6 h23 (an h21 (an h23 (an h21 tv)))))))))) ?_
       exact jD false hm Conv.eqK
     ·replace hm := Be h22 hm
      refine RD hnt (nn 6 (o95 [] true r20 :: nn 7 (sk 4 (pF :: .no :: sk 6 (pF :: pF :: []))))) [4] [(49,pB false)] [1032] [] (an (Ji p0.tree (Wn p0 k1).id r20 hr20) (an4 h21 (an4 h22 (an h21 (an h22 (an h21 (an6 ff (an h21 (an ff (an h21 tv)))))))))) ?_
      exact jD false hm Conv.eqK
  ·intro h19
   have hge1 : ¬ k1 < p0.tree.nodes.length := by have := of_decide_eq_false h19; omega
   have hm := he1 hge1
   unfold AbY at hm
   refine DW.exit ?_
   refine An ?_
   refine Aw ?_
   refine Ak ?_
   show DW _ _ _ _ _
   refine Sq (RK hnt (.no :: []) [(2,pB true)] [] tv ?_)
   obtain rfl := sj hm
   exact DW.ret (Ai [] [] (pB true))
abbrev o92 (ks : List Nat) (b : Bool) (RES : Bool) (sm : List Nat := []) : Orc := .call 209 ks b (pB RES) [] [] sm

theorem Ob (p0 : Aa) (p1 : Int) (RES : At × Bool) (hm : Ha p0 p1 = some RES) : Spec Tryz.prog 23 [.p (.agg (Ab p0)),pI p1] [] (.p (.tup [.agg (Ay RES.1),vb RES.2])) [] [] := by
 unfold Ha at hm
 refine SO Tryz.func23 rfl rfl [(0,.p (.agg (Ab p0))),(1,pI p1)] [] ?_
 intro cx hnt
 refine Sq (RK hnt (nn 3 []) [(1,pI p1),(2,rr 1016),(4,rr 1032)] [(1016,bx (pm (Ab p0))),(1032,bx [pI 0,pI 0,pI 0,pI 0])] tv ?_)
 obtain ⟨r1,hr1,hm⟩ := bo hm
 refine Sq (Sq (RD hnt (.no :: o93 [] true r1 :: .no :: []) [] [(9,pB (!r1))] [] [] (an (Gq p0 r1 hr1) tv) ?_))
 refine Af hm ?_ ?_
 ·intro h2 hm
  refine Sq (RD hnt (nn 3 []) [1,2,9] [(5,pB false)] [1016] [] tv ?_)
  obtain rfl := sj hm
  exact DW.ret (Ai [] [] (.p (.tup [.agg [vi 0,vi 0,vi 0,vi 0],vb false])))
 ·intro h2 hm
  refine Sk ?_
  refine Sq (Sq (RD hnt (.no :: []) [9] [(6,pI 0)] [] [] tv ?_))
  refine Bk ?_
  obtain ⟨hc1,hm⟩ := go1 hm
  refine DW.rangeO (fun (k1 : Nat) (s1 : Unit) => Aj [(1,pI p1),(2,rr 1016),(4,rr 1032),(6,pI ((k1 : Nat) : Int))] [(1016,bx (pm (Ab p0))),(1032,bx [pI 0,pI 0,pI 0,pI 0])]) Bq hm Conv.eqK ?_
  intro k1 s1 n1 hk1 hs1 he1
  refine Sq (Sq (RD hnt (nn 5 []) [] [(15,pB (decide (((k1 : Nat) : Int) < ((p0.tasks.length : Nat) : Int))))] [] [] tv ?_))
  refine Cj (decide (((k1 : Nat) : Int) < ((p0.tasks.length : Nat) : Int))) ?_ ?_
  ·intro h11
   have hlt1 : k1 < p0.tasks.length := by have := of_decide_eq_true h11; omega
   have hm := hs1 hlt1
   unfold Adb at hm
   refine Sk ?_
   refine Sq (Bk ?_)
   refine Sq (RD hnt (nn 8 []) [15] [(25,pB ((p0.tasks.getD k1 (default : At)).id == p1))] [] [] (an (nn0 k1) (an (ltc hlt1) tv)) ?_)
   refine Af hm ?_ ?_
   ·intro h12 hm
    refine Sq (RK hnt (nn 7 []) [(4,rr 1032),(5,pB true)] [(1032,bx (pm (Ay (p0.tasks.getD k1 (default : At)))))] (an (nn0 k1) (an (ltc hlt1) tv)) ?_)
    obtain rfl := sj hm
    exact DW.ret (Ai [] [] (.p (.tup [.agg (Ay (p0.tasks.getD k1 (default : At))),vb true])))
   ·intro h12 hm
    refine Sk ?_
    refine DW.done ?_
    show DW _ _ _ _ _
    refine RD hnt (nn 3 []) [25] [(6,pI (w64 (((k1 : Nat) : Int) + 1)))] [] [] tv ?_
    exact jD () ⟨hlt1,hm⟩ (Conv.tp [(6,pI (w64 (((k1 : Nat) : Int) + 1)))] [] (by kernel_rfl) (.cons rfl (.of_eq (congrArg pI (Bn hlt1 hc1))) .nil) .nil)
  ·intro h11
   have hge1 : ¬ k1 < p0.tasks.length := by have := of_decide_eq_false h11; omega
   have hm := he1 hge1
   unfold Adf at hm
   refine DW.exit ?_
   refine An ?_
   refine Aw ?_
   refine Ak ?_
   show DW _ _ _ _ _
   refine Sq (RD hnt (nn 3 []) [1,2,6,15] [(5,pB false)] [1016] [] tv ?_)
   obtain rfl := sj hm
   exact DW.ret (Ai [] [] (.p (.tup [.agg [vi 0,vi 0,vi 0,vi 0],vb false])))
abbrev o98 (ks : List Nat) (b : Bool) (RES : At × Bool) (sm : List Nat := []) : Orc := .call 23 ks b (.p (.tup [.agg (Ay RES.1),vb RES.2])) [] [] sm

theorem Pc (p0 : Ae) (p1 : Int) (RES : Int × Bool) (hm : Kh p0 p1 = some RES) : Spec Tryz.prog 165 [.p (.agg (Aq p0)),pI p1] [] (.p (.tup [vi RES.1,vb RES.2])) [] [] := by
 unfold Kh at hm
 refine SO Tryz.func165 rfl rfl [(0,.p (.agg (Aq p0))),(1,pI p1)] [] ?_
 intro cx hnt
 refine Sq (RK hnt (nn 3 []) [(1,pI p1),(2,rr 1016)] [(1016,bx (pm (Aq p0)))] tv ?_)
 obtain ⟨r1,hr1,hm⟩ := bo hm
 refine Sq (RD hnt (nn 2 (o82 [] true r1 :: .no :: [])) [1] [(6,ow 1096 r1.length)] [] [(1096,ob0 (roI r1))] (an (Lu p0 p1 r1 hr1) tv) ?_)
 refine Sq (Sq (RD hnt (.no :: []) [] [(7,pI 0)] [] [] tv ?_))
 refine Bk ?_
 obtain ⟨hc1,hm⟩ := go1 hm
 refine DW.rangeO (fun (k1 : Nat) (s1 : Unit) => Aj [(2,rr 1016),(6,ow 1096 r1.length),(7,pI ((k1 : Nat) : Int))] [(1016,bx (pm (Aq p0))),(1096,ob0 (roI r1))]) 0 hm Conv.eqK ?_
 intro k1 s1 n1 hk1 hs1 he1
 refine Sq (Sq (RD hnt (nn 4 []) [] [(16,pB (decide (((k1 : Nat) : Int) < ((r1.length : Nat) : Int))))] [] [] tv ?_))
 refine Cj (decide (((k1 : Nat) : Int) < ((r1.length : Nat) : Int))) ?_ ?_
 ·intro h16
  have hlt1 : k1 < r1.length := by have := of_decide_eq_true h16; omega
  have hm := hs1 hlt1
  unfold Vs at hm
  refine Sk ?_
  refine Sq (Bk ?_)
  obtain ⟨r17,hr17,hm⟩ := bo hm
  refine Sq (RD hnt (nn 5 (o80 [] true r17 :: nn 6 [])) [16] [(8,rr 1064)] [] [(1064,bx (pm (Am r17.1)))] (an (nn0 k1) (an (ltc hlt1) (an (by omega : k1 < r1.length) (an (Db p0 (r1.getD k1 0) r17 hr17) tv)))) ?_)
  refine Sq (RD hnt (nn 3 []) [8] [(30,pB (r17.1.kind != 1))] [1064] [] tv ?_)
  refine Af hm ?_ ?_
  ·intro h18 hm
   refine Sq (RK hnt (nn 6 []) [(4,pI (r1.getD k1 0)),(5,pB true)] [] (an (nn0 k1) (an (ltc hlt1) (an (by omega : k1 < r1.length) tv))) ?_)
   obtain rfl := sj hm
   exact DW.ret (Ai [] [] (.p (.tup [vi (r1.getD k1 0),vb true])))
  ·intro h18 hm
   refine Sk ?_
   refine DW.done ?_
   show DW _ _ _ _ _
   refine RD hnt (nn 3 []) [30] [(7,pI (w64 (((k1 : Nat) : Int) + 1)))] [] [] tv ?_
   exact jD () ⟨hlt1,hm⟩ (Conv.tp [(7,pI (w64 (((k1 : Nat) : Int) + 1)))] [] (by kernel_rfl) (.cons rfl (.of_eq (congrArg pI (Bn hlt1 hc1))) .nil) .nil)
 ·intro h16
  have hge1 : ¬ k1 < r1.length := by have := of_decide_eq_false h16; omega
  have hm := he1 hge1
  unfold Abs at hm
  refine DW.exit ?_
  refine An ?_
  refine Aw ?_
  refine Ak ?_
  show DW _ _ _ _ _
  refine Sq (RK hnt (nn 2 []) [(4,pI 0),(5,pB false)] [] tv ?_)
  obtain rfl := sj hm
  exact DW.ret (Ai [] [] (.p (.tup [vi 0,vb false])))
abbrev o99 (ks : List Nat) (b : Bool) (RES : Int × Bool) (sm : List Nat := []) : Orc := .call 165 ks b (.p (.tup [vi RES.1,vb RES.2])) [] [] sm

theorem AeW (rec : Ae → Int → Option Int) (ih : ∀ (p0 : Ae) (p1 : Int) (RES : Int),rec p0 p1 = some RES → Spec Tryz.prog 163 [.p (.agg (Aq p0)),pI p1] [] (pI RES) [] []) (p0 : Ae) (p1 : Int) (RES : Int) (hm : Qf rec p0 p1 = some RES) : Spec Tryz.prog 163 [.p (.agg (Aq p0)),pI p1] [] (pI RES) [] [] := by
 unfold Qf at hm
 refine SO Tryz.func163 rfl rfl [(0,.p (.agg (Aq p0))),(1,pI p1)] [] ?_
 intro cx hnt
 refine Sq (RK hnt (nn 2 []) [(1,pI p1),(2,rr 1016)] [(1016,bx (pm (Aq p0)))] tv ?_)
 obtain ⟨r1,hr1,hm⟩ := bo hm
 refine Sq (RD hnt (nn 2 (o80 [] true r1 :: nn 6 [])) [] [(5,rr 1040),(6,pB r1.2)] [] [(1040,bx (pm (Am r1.1)))] (an (Db p0 p1 r1 hr1) tv) ?_)
 refine Sq (Sq (RD hnt (nn 2 []) [6] [(20,pB (!r1.2))] [] [] tv ?_))
 refine Af hm ?_ ?_
 ·intro h2 hm
  refine Sq (RK hnt (.no :: []) [(4,pI 0)] [] tv ?_)
  obtain rfl := sj hm
  exact DW.ret (Ai [] [] (pI 0))
 ·intro h2 hm
  refine Sk ?_
  refine Sq (Sq (RD hnt (nn 3 []) [20] [(23,pB (r1.1.kind == 1))] [] [] tv ?_))
  refine Af hm ?_ ?_
  ·intro h3 hm
   refine Sq (RK hnt (.no :: []) [(4,pI 2)] [] tv ?_)
   obtain rfl := sj hm
   exact DW.ret (Ai [] [] (pI 2))
  ·intro h3 hm
   refine Sk ?_
   obtain ⟨r4,hr4,hm⟩ := bo hm
   refine Sq (Sq (RD hnt (nn 3 (o80 [] true r4 :: nn 6 [])) [5,23] [(7,rr 1056),(8,pB r4.2)] [1040] [(1056,bx (pm (Am r4.1)))] (an (Db p0 r1.1.parent r4 hr4) tv) ?_))
   refine Sq ?_
   refine Jn (ι := Bool) (fun (y1 : Bool) => Aj [(1,pI p1),(2,rr 1016),(43,pB y1)] [(1016,bx (pm (Aq p0)))]) (fun y1 => (Ma p0 p1) y1 = some RES) ?_ ?_
   ·intro y1 hm
    unfold Ma at hm
    refine Af hm ?_ ?_
    ·intro h8 hm
     refine Sq (RK hnt (.no :: []) [(4,pI 3)] [] tv ?_)
     obtain rfl := sj hm
     exact DW.ret (Ai [] [] (pI 3))
    ·intro h8 hm
     refine Sk ?_
     obtain ⟨r9,hr9,hm⟩ := bo hm
     refine Sq (RD hnt (nn 2 (o86 [] true r9 :: .no :: [])) [1,43] [(9,ow 1368 r9.length)] [] [(1368,ob0 (roI r9))] (an (Qr p0 p1 r9 hr9) tv) ?_)
     refine Sq (Sq (RD hnt (.no :: []) [] [(10,pI 0)] [] [] tv ?_))
     refine Bk ?_
     obtain ⟨hc1,hm⟩ := go1 hm
     refine DW.rangeO (fun (k1 : Nat) (s1 : Unit) => Aj [(2,rr 1016),(9,ow 1368 r9.length),(10,pI ((k1 : Nat) : Int))] [(1016,bx (pm (Aq p0))),(1368,ob0 (roI r9))]) 0 hm Conv.eqK ?_
     intro k1 s1 n1 hk1 hs1 he1
     refine Sq (Sq (RD hnt (nn 4 []) [] [(50,pB (decide (((k1 : Nat) : Int) < ((r9.length : Nat) : Int))))] [] [] tv ?_))
     refine Cj (decide (((k1 : Nat) : Int) < ((r9.length : Nat) : Int))) ?_ ?_
     ·intro h20
      have hlt1 : k1 < r9.length := by have := of_decide_eq_true h20; omega
      have hm := hs1 hlt1
      unfold Zw at hm
      refine Sk ?_
      refine Sq (Bk ?_)
      obtain ⟨r21,hr21,hm⟩ := bo hm
      refine Sq (RD hnt (nn 5 (o80 [] true r21 :: nn 6 [])) [50] [(11,rr 1088)] [] [(1088,bx (pm (Am r21.1)))] (an (nn0 k1) (an (ltc hlt1) (an (by omega : k1 < r9.length) (an (Db p0 (r9.getD k1 0) r21 hr21) tv)))) ?_)
      refine Sq (RD hnt (nn 3 []) [11] [(64,pB (r21.1.kind == 1))] [1088] [] tv ?_)
      refine Af hm ?_ ?_
      ·intro h22 hm
       refine Sq (RK hnt (.no :: []) [(4,pI 1)] [] tv ?_)
       obtain rfl := sj hm
       exact DW.ret (Ai [] [] (pI 1))
      ·intro h22 hm
       refine Sk ?_
       refine DW.done ?_
       show DW _ _ _ _ _
       refine RD hnt (nn 3 []) [64] [(10,pI (w64 (((k1 : Nat) : Int) + 1)))] [] [] tv ?_
       exact jD () ⟨hlt1,hm⟩ (Conv.tp [(10,pI (w64 (((k1 : Nat) : Int) + 1)))] [] (by kernel_rfl) (.cons rfl (.of_eq (congrArg pI (Bn hlt1 hc1))) .nil) .nil)
     ·intro h20
      have hge1 : ¬ k1 < r9.length := by have := of_decide_eq_false h20; omega
      have hm := he1 hge1
      unfold Ada at hm
      refine DW.exit ?_
      refine An ?_
      refine Aw ?_
      refine Ak ?_
      show DW _ _ _ _ _
      refine Sq (RK hnt (.no :: []) [(4,pI 0)] [] tv ?_)
      obtain rfl := sj hm
      exact DW.ret (Ai [] [] (pI 0))
   ·rcases bt r4.2 with h5 | h5
    ·replace hm := Bd h5 hm
     rcases bt (r4.1.kind == 1) with h6 | h6
     ·replace hm := Bd h6 hm
      refine RD hnt (nn 6 (sk 5 (pT :: pT :: []))) [7,8] [(43,pB true)] [1056] [] (an4 h5 (an5 h6 (an h5 (an h6 (an h5 tv))))) ?_
      exact jD true hm Conv.eqK
     ·replace hm := Be h6 hm
      obtain ⟨r7,hr7,hm⟩ := bo hm
      refine RD hnt (nn 9 (.call 163 [] true (pI r7) [] [] [] :: .no :: pF :: pT :: [])) [7,8] [(43,pB (r7 == 3))] [1056] [] (an4 h5 (an4 h6 (an (ih p0 r4.1.id r7 hr7) (an h6 (an h5 (an h6 (an h5 tv))))))) ?_
      exact jD (r7 == 3) hm Conv.eqK
    ·replace hm := Be h5 hm
     refine RD hnt (nn 2 (sk 10 (pF :: []))) [7,8] [(43,pB false)] [1056] [] (an6 h5 tv) ?_
     exact jD false hm Conv.eqK
theorem Aau : ∀ (n : Nat) (p0 : Ae) (p1 : Int) (RES : Int),Ke n p0 p1 = some RES → Spec Tryz.prog 163 [.p (.agg (Aq p0)),pI p1] [] (pI RES) [] []
  | 0,p0,p1,RES,hm => by simp [Ke] at hm
  | n + 1,p0,p1,RES,hm => AeW (Ke n) (Aau n) p0 p1 RES hm
theorem Hi (p0 : Ae) (p1 : Int) (RES : Int) (hm : Ls p0 p1 = some RES) : Spec Tryz.prog 163 [.p (.agg (Aq p0)),pI p1] [] (pI RES) [] [] := Aau En p0 p1 RES hm
abbrev o100 (ks : List Nat) (b : Bool) (RES : Int) (sm : List Nat := []) : Orc := .call 163 ks b (pI RES) [] [] sm

abbrev Uj (p0 : Aa) (k4 : Nat) := (p0.tree.nodes.getD k4 (default : Ah))
abbrev c91e2 (p0 : Aa) : Nat × Obj := (1008,bx (pm (Ab p0)))
theorem Lo (p0 : Aa) (RES : Bool) (hm : Kg p0 = some RES) : Spec Tryz.prog 162 [.p (.agg (Ab p0))] [] (pB RES) [] [] := by
 unfold Kg at hm
 refine SO Tryz.func162 rfl rfl [(0,.p (.agg (Ab p0)))] [] ?_
 intro cx hnt
 refine Sq (RK hnt (nn 2 []) [(1,rr 1008)] [(c91e2 p0)] tv ?_)
 obtain ⟨r1,hr1,hm⟩ := bo hm
 refine Sq (Sq (RD hnt (.no :: o92 [] true r1 :: .no :: []) [] [(16,pB (!r1))] [] [] (an (Mp p0 r1 hr1) tv) ?_))
 refine Af hm ?_ ?_
 ·intro h2 hm
  refine Sq (RK hnt (.no :: []) [(2,pB false)] [] tv ?_)
  obtain rfl := sj hm
  exact DW.ret (Ai [] [] (pB false))
 ·intro h2 hm
  refine Sk ?_
  refine Sq (Sq (RD hnt (.no :: []) [16] [(3,pI 0)] [] [] tv ?_))
  refine Bk ?_
  obtain ⟨hc1,hm⟩ := go1 hm
  refine DW.rangeO (fun (k1 : Nat) (s1 : Unit) => Aj [(1,rr 1008),(3,pI ((k1 : Nat) : Int))] [(c91e2 p0)]) Bq hm Conv.eqK ?_
  intro k1 s1 n1 hk1 hs1 he1
  refine Sq (Sq (RD hnt (nn 5 []) [] [(21,pB (decide (((k1 : Nat) : Int) < ((p0.tasks.length : Nat) : Int))))] [] [] tv ?_))
  refine Cj (decide (((k1 : Nat) : Int) < ((p0.tasks.length : Nat) : Int))) ?_ ?_
  ·intro h99
   have hlt1 : k1 < p0.tasks.length := by have := of_decide_eq_true h99; omega
   have hm := hs1 hlt1
   unfold Zo at hm
   refine Sk ?_
   refine Sq (Bk ?_)
   obtain ⟨r100,hr100,hm⟩ := bo hm
   refine Sq (RD hnt (nn 7 (o98 [] true r100 :: nn 6 [])) [21] [(4,rr 1032)] [] [(1032,bx (pm (Ay r100.1)))] (an (nn0 k1) (an (ltc hlt1) (an (Ob p0 (p0.tasks.getD k1 (default : At)).process r100 hr100) tv))) ?_)
   obtain ⟨r101,hr101,hm⟩ := bo hm
   refine Sq (RD hnt (nn 8 (o99 [] true r101 :: nn 5 [])) [] [(6,pI r101.1)] [] [] (an (nn0 k1) (an (ltc hlt1) (an (Pc p0.tree (p0.tasks.getD k1 (default : At)).group r101 hr101) tv))) ?_)
   obtain ⟨r102,hr102,hm⟩ := bo hm
   refine Sq (RD hnt (nn 4 (o99 [] true r102 :: nn 5 [])) [4] [(8,pI r102.1)] [1032] [] (an (Pc p0.tree r100.1.group r102 hr102) tv) ?_)
   refine Sq (RD hnt (nn 3 []) [6,8] [(57,pB (r101.1 != r102.1))] [] [] tv ?_)
   refine Af hm ?_ ?_
   ·intro h103 hm
    refine Sq (RK hnt (.no :: []) [(2,pB false)] [] tv ?_)
    obtain rfl := sj hm
    exact DW.ret (Ai [] [] (pB false))
   ·intro h103 hm
    refine Sk ?_
    refine DW.done ?_
    show DW _ _ _ _ _
    refine RD hnt (nn 3 []) [57] [(3,pI (w64 (((k1 : Nat) : Int) + 1)))] [] [] tv ?_
    exact jD () ⟨hlt1,hm⟩ (Conv.tp [(3,pI (w64 (((k1 : Nat) : Int) + 1)))] [] (by kernel_rfl) (.cons rfl (.of_eq (congrArg pI (Bn hlt1 hc1))) .nil) .nil)
  ·intro h99
   have hge1 : ¬ k1 < p0.tasks.length := by have := of_decide_eq_false h99; omega
   have hm := he1 hge1
   unfold Zs at hm
   refine DW.exit ?_
   refine An ?_
   refine Aw ?_
   refine Ak ?_
   show DW _ _ _ _ _
   refine Sq (Sq (RD hnt (.no :: []) [3,21] [(10,pI 0)] [] [] tv ?_))
   refine Bk ?_
   obtain ⟨hc4,hm⟩ := go1 hm
   refine DW.rangeO (fun (k4 : Nat) (s4 : Unit) => Aj [(1,rr 1008),(10,pI ((k4 : Nat) : Int))] [(c91e2 p0)]) Bh hm Conv.eqK ?_
   intro k4 s4 n4 hk4 hs4 he4
   refine Sq (Sq (RD hnt (nn 6 []) [] [(63,pB (decide (((k4 : Nat) : Int) < ((p0.tree.nodes.length : Nat) : Int))))] [] [] tv ?_))
   refine Cj (decide (((k4 : Nat) : Int) < ((p0.tree.nodes.length : Nat) : Int))) ?_ ?_
   ·intro h132
    have hlt4 : k4 < p0.tree.nodes.length := by have := of_decide_eq_true h132; omega
    have hm := hs4 hlt4
    unfold Aag at hm
    refine Sk ?_
    refine Sq (Bk ?_)
    refine Sq (RD hnt (nn 8 []) [63] [(11,rr 1088)] [] [(1088,bx (pm (Am (Uj p0 k4))))] (an (nn0 k4) (an (ltc hlt4) tv)) ?_)
    obtain ⟨r133,hr133,hm⟩ := bo hm
    refine Sq (RD hnt (nn 4 (o80 [] true r133 :: nn 6 [])) [] [(12,rr 1096)] [] [(1096,bx (pm (Am r133.1)))] (an (Db p0.tree (Uj p0 k4).parent r133 hr133) tv) ?_)
    obtain ⟨r134,hr134,hm⟩ := bo hm
    refine Sq (Sq ?_)
    refine Jn (ι := Bool) (fun (y17 : Bool) => Aj [(1,rr 1008),(10,pI ((k4 : Nat) : Int)),(11,rr 1088),(12,rr 1096),(98,pB y17)] [(c91e2 p0),(1088,bx (pm (Am (Uj p0 k4)))),(1096,bx (pm (Am r133.1)))]) (fun y17 => (Ku p0 (Uj p0 k4) n4 r133) y17 = some RES) ?_ ?_
    ·intro y17 hm
     unfold Ku at hm
     refine Af hm ?_ ?_
     ·intro h138 hm
      refine Sq (RK hnt (.no :: []) [(2,pB false)] [] tv ?_)
      obtain rfl := sj hm
      exact DW.ret (Ai [] [] (pB false))
     ·intro h138 hm
      refine Sk ?_
      refine Sq ?_
      refine Jn (ι := Bool) (fun (y18 : Bool) => Aj [(1,rr 1008),(10,pI ((k4 : Nat) : Int)),(120,pB y18)] [(c91e2 p0)]) (fun y18 => (Jm n4) y18 = some RES) ?_ ?_
      ·intro y18 hm
       unfold Jm at hm
       refine Af hm ?_ ?_
       ·intro h144 hm
        refine Sq (RK hnt (.no :: []) [(2,pB false)] [] tv ?_)
        obtain rfl := sj hm
        exact DW.ret (Ai [] [] (pB false))
       ·intro h144 hm
        refine Sk ?_
        refine DW.done ?_
        show DW _ _ _ _ _
        refine RD hnt (nn 3 []) [120] [(10,pI (w64 (((k4 : Nat) : Int) + 1)))] [] [] tv ?_
        exact jD () ⟨hlt4,hm⟩ (Conv.tp [(10,pI (w64 (((k4 : Nat) : Int) + 1)))] [] (by kernel_rfl) (.cons rfl (.of_eq (congrArg pI (Bn hlt4 hc4))) .nil) .nil)
      ·rcases bt ((Uj p0 k4).kind == 1) with h139 | h139
       ·replace hm := Bd h139 hm
        rcases bt (r133.1.id != 1) with h140 | h140
        ·replace hm := Bd h140 hm
         rcases bt ((kand .i64 r133.1.control 6) != 0) with h141 | h141
         ·replace hm := Bd h141 hm
          refine RD hnt (nn 12 (pT :: .no :: sk 6 (pT :: pT :: []))) [11,12,98] [(120,pB true)] [1088,1096] [] (an4 h139 (an4 h140 (an h139 (an h140 (an h139 (an6 h141 (an h139 (an h141 (an h139 tv))))))))) ?_
          exact jD true hm Conv.eqK
         ·replace hm := Be h141 hm
          obtain ⟨r142,hr142,hm⟩ := bo hm
          refine RD hnt (nn 12 (pT :: nn 5 (o100 [] true r142 :: .no :: pF :: pT :: []))) [11,12,98] [(120,pB (r142 == 3))] [1088,1096] [] (an4 h139 (an4 h140 (an h139 (an h140 (an h139 (an5 h141 (an (Hi p0.tree r133.1.id r142 hr142) (an h141 (an h139 (an h141 (an h139 tv))))))))))) ?_
          exact jD (r142 == 3) hm Conv.eqK
        ·replace hm := Be h140 hm
         obtain ⟨r143,hr143,hm⟩ := bo hm
         refine RD hnt (nn 8 (sk 4 (pF :: nn 5 (o100 [] true r143 :: .no :: pF :: pT :: [])))) [11,12,98] [(120,pB (r143 == 3))] [1088,1096] [] (an4 h139 (an4 h140 (an h139 (an h140 (an h139 (an5 ff (an (Hi p0.tree r133.1.id r143 hr143) (an ff (an h139 (an ff (an h139 tv))))))))))) ?_
         exact jD (r143 == 3) hm Conv.eqK
       ·replace hm := Be h139 hm
        refine RD hnt (nn 4 (sk 17 (pF :: []))) [11,12,98] [(120,pB false)] [1088,1096] [] (an2 h139 (an6 h139 tv)) ?_
        exact jD false hm Conv.eqK
    ·rcases bt (r134 == 3) with h135 | h135
     ·replace hm := Bd h135 hm
      rcases bt ((Uj p0 k4).control != 0) with h136 | h136
      ·replace hm := Bd h136 hm
       refine RD hnt (nn 4 (o100 [] true r134 :: nn 6 (sk 6 (pT :: pT :: [])))) [] [(98,pB true)] [] [] (an (Hi p0.tree (Uj p0 k4).id r134 hr134) (an4 h135 (an6 h136 (an h135 (an h136 (an h135 tv)))))) ?_
       exact jD true hm Conv.eqK
      ·replace hm := Be h136 hm
       obtain ⟨r137,hr137,hm⟩ := bo hm
       refine RD hnt (nn 4 (o100 [] true r134 :: nn 9 (o97 [] true r137 :: nn 2 (pF :: pT :: [])))) [] [(98,pB (decide (((r137.length : Nat) : Int) > 0)))] [] [] (an (Hi p0.tree (Uj p0 k4).id r134 hr134) (an4 h135 (an4 h136 (an (Mn p0 (Uj p0 k4).id r137 hr137) (an2 h136 (an h135 (an h136 (an h135 tv)))))))) ?_
       exact jD (decide (((r137.length : Nat) : Int) > 0)) hm Conv.eqK
     ·replace hm := Be h135 hm
      refine RD hnt (nn 4 (o100 [] true r134 :: nn 2 (sk 11 (pF :: [])))) [] [(98,pB false)] [] [] (an (Hi p0.tree (Uj p0 k4).id r134 hr134) (an6 h135 tv)) ?_
      exact jD false hm Conv.eqK
   ·intro h132
    have hge4 : ¬ k4 < p0.tree.nodes.length := by have := of_decide_eq_false h132; omega
    have hm := he4 hge4
    unfold Adn at hm
    refine DW.exit ?_
    refine An ?_
    refine Aw ?_
    refine Ak ?_
    show DW _ _ _ _ _
    refine Sq (RK hnt (.no :: []) [(2,pB true)] [] tv ?_)
    obtain rfl := sj hm
    exact DW.ret (Ai [] [] (pB true))
abbrev o91 (ks : List Nat) (b : Bool) (RES : Bool) (sm : List Nat := []) : Orc := .call 162 ks b (pB RES) [] [] sm

theorem Pq (p0 : Int) (RES : Bool) (hm : Xk p0 = some RES) : Spec Tryz.prog 234 [pI p0] [] (pB RES) [] [] := by
 unfold Xk at hm
 refine SO Tryz.func234 rfl rfl [(0,pI p0)] [] ?_
 intro cx hnt
 refine Sq (RK hnt (.no :: []) [(0,pI p0)] [] tv ?_)
 refine Sq (DW.regJ (sl2 := [(2,pB ((decide (p0 ≥ 0)) && (decide (p0 ≤ 31))))]) (ob2 := []) ?_ ?_)
 ·rcases bt (decide (p0 ≥ 0)) with h1 | h1
  ·exact RT hnt (nn 5 (pT :: .no :: [])) [(2,pB (decide (p0 ≤ 31)))] (an3 h1 tv) (by kernel_rfl) (.cons rfl (.of_eq (by rw [h1]; try rfl)) .nil)
  ·exact RT hnt (nn 3 (sk 2 (pF :: .no :: []))) [(2,pB false)] (an3 h1 tv) (by kernel_rfl) (.cons rfl (.of_eq (by rw [h1]; try rfl)) .nil)
 ·refine DW.ret ?_
  obtain rfl := sj hm
  exact Ai [] [] (pB ((decide (p0 ≥ 0)) && (decide (p0 ≤ 31))))
abbrev o102 (ks : List Nat) (b : Bool) (RES : Bool) (sm : List Nat := []) : Orc := .call 234 ks b (pB RES) [] [] sm

theorem Ri (p0 : Aa) (RES : Aa) (hm : Ni p0 = some RES) : Spec Tryz.prog 88 [.p (.agg (Ab p0))] [] (.agg [ow 0 RES.tree.nodes.length,pI RES.tree.next,ow 1 RES.tasks.length,pI RES.next]) [] [Ag RES.tree.nodes,Ar RES.tasks] := by
 unfold Ni at hm
 refine SO Tryz.func88 rfl rfl [(0,.p (.agg (Ab p0)))] [] ?_
 intro cx hnt
 refine Sq (RK hnt (nn 2 []) [(1,rr 1008),(2,rr 1016)] [(1008,bx (pm (Ab p0))),(1016,bx [.p (.sl .nil 0 0 (fun _ => [])),pI 0,.p (.sl .nil 0 0 (fun _ => [])),pI 0])] tv ?_)
 obtain ⟨r1,hr1,hm⟩ := bo hm
 obtain ⟨g2,hm⟩ := go1 hm
 refine Sq (RN hnt (nn 2 (o83 [] true r1 :: nn 7 [])) [(2,rr 1016)] [(1016,bx [ow 1040 r1.nodes.length,pI r1.next,ow 1064 p0.tasks.length,pI p0.next]),(1040,ob0 (Ag r1.nodes)),(1064,ob0 (Ar p0.tasks))] [] [(1064,.row 4 p0.tasks.length (Aao p0.tasks))] (an (Rj p0.tree r1 hr1) (an (by omega : p0.tasks.length * 32 ≤ 140737488355328) tv)) (by kernel_rfl) .nil (.cons rfl (BLe.typed RowIs.elems) .nil) ?_)
 obtain rfl := sj hm
 exact DW.ret (Ai [Ag r1.nodes,Ar p0.tasks] [1040,1064] (.agg [ow 0 r1.nodes.length,pI r1.next,ow 1 p0.tasks.length,pI p0.next]))
abbrev o103 (ks : List Nat) (b : Bool) (RES : Aa) (sm : List Nat := []) : Orc := .call 88 ks b (.agg [ow 0 RES.tree.nodes.length,pI RES.tree.next,ow 1 RES.tasks.length,pI RES.next]) [] [Ag RES.tree.nodes,Ar RES.tasks] sm

abbrev AdU : Nat × Obj := (1032,bx [.p (.sl .nil 0 0 (fun _ => [])),pI 0])
theorem Yb (p0 : Ae) (p1 : Ah) (RES : Ae) (hm : Ru p0 p1 = some RES) : Spec Tryz.prog 161 [.p (.agg (Aq p0)),.p (.agg (Am p1))] [] (.agg [ow 0 RES.nodes.length,pI RES.next]) [] [Ag RES.nodes] := by
 unfold Ru at hm
 refine SO Tryz.func161 rfl rfl [(0,.p (.agg (Aq p0))),(1,.p (.agg (Am p1)))] [] ?_
 intro cx hnt
 refine Sq (RK hnt (nn 3 []) [(2,rr 1016),(3,rr 1024),(4,rr 1032)] [(1016,bx (pm (Aq p0))),(1024,bx (pm (Am p1))),(AdU)] tv ?_)
 obtain ⟨r1,hr1,hm⟩ := bo hm
 refine Sq (RD hnt (.no :: o83 [] true r1 :: nn 2 []) [2] [(5,rr 1040)] [1016] [(1040,bx [ow 1064 r1.nodes.length,pI r1.next]),(1064,ob0 (Ag r1.nodes))] (an (Rj p0 r1 hr1) tv) ?_)
 refine Sq (Sq (RD hnt (.no :: []) [] [(6,pI 0)] [] [] tv ?_))
 refine Bk ?_
 refine DW.whileO (fun (s1 : (List Ah) × Int) => Aj [(3,rr 1024),(4,rr 1032),(5,rr 1040),(6,pI s1.2)] [(1024,bx (pm (Am p1))),(AdU),(1040,bx [ow 1064 s1.1.length,pI r1.next]),(1064,ob0 (Ag s1.1))]) hm Conv.eqK ?_
 intro s1 n1 hm
 unfold AaQ at hm
 refine Sq (Sq (RD hnt (nn 5 []) [] [(13,pB (decide (s1.2 < ((s1.1.length : Nat) : Int))))] [] [] tv ?_))
 refine Af hm ?_ ?_
 ·intro h8 hm
  refine Sk ?_
  refine Sq ?_
  refine Jn (ι := List Ah) (fun (y2 : List Ah) => Aj [(3,rr 1024),(4,rr 1032),(5,rr 1040),(6,pI s1.2)] [(1024,bx (pm (Am p1))),(AdU),(1040,bx [ow 1064 y2.length,pI r1.next]),(1064,ob0 (Ag y2))]) (fun y2 => (Sh s1 n1) y2 = some RES) ?_ ?_
  ·intro y2 hm
   unfold Sh at hm
   refine RD hnt (nn 3 []) [] [(6,pI (w64 (s1.2 + 1)))] [] [] tv ?_
   exact jD (y2,(w64 (s1.2 + 1))) hm Conv.eqK
  ·refine Bk ?_
   obtain ⟨g9,g10,hm⟩ := go2 hm
   refine Sq (RD hnt (nn 9 []) [13] [(24,pB ((s1.1.getD (Int.toNat s1.2) Bh).id == p1.id))] [] [] (an g9.1 (an g9.2 (an g10 tv))) ?_)
   refine Af hm ?_ ?_
   ·intro h11 hm
    obtain ⟨g12,g13,hm⟩ := go2 hm
    refine RN hnt (nn 6 []) [(3,rr 1024),(4,rr 1032),(5,rr 1040),(6,pI s1.2)] [(1024,bx (pm (Am p1))),(AdU),(1040,bx [ow 1064 (s1.1.set (Int.toNat s1.2) p1).length,pI r1.next]),(1064,ob0 (Ag (s1.1.set (Int.toNat s1.2) p1)))] [] [(1040,.box [ow 1064 s1.1.length,pI r1.next]),(1064,.row 6 s1.1.length (Ca (Vg s1.1) (Int.toNat s1.2) [vi p1.id,vi p1.parent,vs p1.name,vi p1.control,vi p1.kind,vi p1.owner]))] (an g12.1 (an g12.2 (an g13 tv))) (by kernel_rfl) .nil (.cons rfl (.box (.cons (MLe.ownLen (enc := Am) (d := Bh) (f := (Ca (Vg s1.1) (Int.toNat s1.2) [vi p1.id,vi p1.parent,vs p1.name,vi p1.control,vi p1.kind,vi p1.owner])) (RowIs.upd RowIs.elems p1 rfl)) (.cons .rfl .nil))) (.cons rfl (BLe.typed (RowIs.upd RowIs.elems p1 rfl)) .nil)) ?_
    exact bD (s1.1.set (Int.toNat s1.2) p1) hm .refl
   ·intro h11 hm
    refine Sk ?_
    exact bD s1.1 hm Conv.t0
 ·intro h8 hm
  refine DW.exit ?_
  refine An ?_
  refine Aw ?_
  refine Ak ?_
  show DW _ _ _ _ _
  refine Sq (RD hnt (nn 2 []) [3,5,6,13] [] [1024,1040] [(1032,bx [ow 1064 s1.1.length,pI r1.next])] tv ?_)
  obtain rfl := sj hm
  exact DW.ret (Ai [Ag s1.1] [1064] (.agg [ow 0 s1.1.length,pI r1.next]))
abbrev o104 (ks : List Nat) (b : Bool) (RES : Ae) (sm : List Nat := []) : Orc := .call 161 ks b (.agg [ow 0 RES.nodes.length,pI RES.next]) [] [Ag RES.nodes] sm

abbrev Aey : Nat × Obj := (1064,bx [.p (.sl .nil 0 0 (fun _ => [])),pI 0,.p (.sl .nil 0 0 (fun _ => [])),pI 0])
abbrev AbR : Nat × Obj := (1064,bx [ow 100000 0,pI 0,ow 100001 0,pI 0])
abbrev c101e3 (r8 : Ah × Bool) (p3 : Int) (p2 : Int) : Nat × Obj := (1080,bx [pI r8.1.id,pI r8.1.parent,pS r8.1.name,pI (kor .i64 (Eb .i64 r8.1.control p3) p2),pI r8.1.kind,pI r8.1.owner])
theorem AeM (p0 : Aa) (p1 : Int) (p2 : Int) (p3 : Int) (RES : Aa × Int) (hm : Sg p0 p1 p2 p3 = some RES) : Spec Tryz.prog 208 [.p (.agg (Ab p0)),pI p1,pI p2,pI p3] [] (.tup [.agg [ow 0 RES.1.tree.nodes.length,pI RES.1.tree.next,ow 1 RES.1.tasks.length,pI RES.1.next],pI RES.2]) [] [Ag RES.1.tree.nodes,Ar RES.1.tasks] := by
 unfold Sg at hm
 refine SO Tryz.func208 rfl rfl [(0,.p (.agg (Ab p0))),(1,pI p1),(2,pI p2),(3,pI p3)] [] ?_
 intro cx hnt
 refine Sq (RD hnt (nn 3 []) [0] [(4,rr 1032),(8,rr 1064)] [] [(1032,bx (pm (Ab p0))),(Aey)] tv ?_)
 obtain ⟨r1,hr1,hm⟩ := bo hm
 refine Sq (Sq ?_)
 refine Jn (ι := Bool) (fun (y1 : Bool) => Aj [(1,pI p1),(2,pI p2),(3,pI p3),(4,rr 1032),(8,rr 1064),(37,pB y1)] [(1032,bx (pm (Ab p0))),(Aey)]) (fun y1 => (Hv p0 p1 p2 p3) y1 = some RES) ?_ ?_
 ·intro y1 hm
  unfold Hv at hm
  refine Af hm ?_ ?_
  ·intro h7 hm
   refine Sq (RD hnt (nn 3 []) [1,2,3,4,37] [(9,pI 1)] [1032] [] tv ?_)
   refine DW.cv [] [] [] [(AbR),(100000,ob0 (Ag [])),(100001,ob0 (Ar []))] (Conv.ads [(.o 1064 0,100000,6,elems Am Bh []),(.o 1064 2,100001,4,elems Ay Bq [])]) ?_
   obtain rfl := sj hm
   exact DW.ret (Ai [Ag [],Ar []] [100000,100001] (.tup [.agg [ow 0 0,pI 0,ow 1 0,pI 0],pI 1]))
  ·intro h7 hm
   refine Sk ?_
   obtain ⟨r8,hr8,hm⟩ := bo hm
   refine Sq (RD hnt (nn 3 (o80 [] true r8 :: nn 6 [])) [37] [(10,rr 1080),(11,pB r8.2)] [] [(1080,bx (pm (Am r8.1)))] (an (Db p0.tree p1 r8 hr8) tv) ?_)
   refine Sq (Sq (RD hnt (nn 2 []) [11] [(47,pB (!r8.2))] [] [] tv ?_))
   refine Af hm ?_ ?_
   ·intro h9 hm
    refine Sq (RD hnt (nn 3 []) [1,2,3,4,10,47] [(9,pI 4)] [1032,1080] [] tv ?_)
    refine DW.cv [] [] [] [(AbR),(100000,ob0 (Ag [])),(100001,ob0 (Ar []))] (Conv.ads [(.o 1064 0,100000,6,elems Am Bh []),(.o 1064 2,100001,4,elems Ay Bq [])]) ?_
    obtain rfl := sj hm
    exact DW.ret (Ai [Ag [],Ar []] [100000,100001] (.tup [.agg [ow 0 0,pI 0,ow 1 0,pI 0],pI 4]))
   ·intro h9 hm
    refine Sk ?_
    obtain ⟨r10,hr10,hm⟩ := bo hm
    refine Sq (Sq (RD hnt (nn 4 (o95 [] true r10 :: nn 2 [])) [47] [(55,pB ((Eb .i64 p2 r10) != 0))] [] [] (an (Ji p0.tree p1 r10 hr10) tv) ?_))
    refine Af hm ?_ ?_
    ·intro h11 hm
     refine Sq (RD hnt (nn 3 []) [1,2,3,4,10,55] [(9,pI 9)] [1032,1080] [] tv ?_)
     refine DW.cv [] [] [] [(AbR),(100000,ob0 (Ag [])),(100001,ob0 (Ar []))] (Conv.ads [(.o 1064 0,100000,6,elems Am Bh []),(.o 1064 2,100001,4,elems Ay Bq [])]) ?_
     obtain rfl := sj hm
     exact DW.ret (Ai [Ag [],Ar []] [100000,100001] (.tup [.agg [ow 0 0,pI 0,ow 1 0,pI 0],pI 9]))
    ·intro h11 hm
     refine Sk ?_
     obtain ⟨r12,hr12,hm⟩ := bo hm
     refine Sq (RD hnt (nn 3 (o86 [] true r12 :: .no :: [])) [55] [(12,ow 1480 r12.length)] [] [(1480,ob0 (roI r12))] (an (Qr p0.tree p1 r12 hr12) tv) ?_)
     refine Sq (Sq (RD hnt (.no :: []) [] [(13,pI 0)] [] [] tv ?_))
     refine Bk ?_
     obtain ⟨hc1,hm⟩ := go1 hm
     refine DW.rangeO (fun (k1 : Nat) (s1 : Unit) => Aj [(1,pI p1),(2,pI p2),(3,pI p3),(4,rr 1032),(8,rr 1064),(10,rr 1080),(12,ow 1480 r12.length),(13,pI ((k1 : Nat) : Int))] [(1032,bx (pm (Ab p0))),(Aey),(1080,bx (pm (Am r8.1))),(1480,ob0 (roI r12))]) 0 hm Conv.eqK ?_
     intro k1 s1 n1 hk1 hs1 he1
     refine Sq (Sq (RD hnt (nn 4 []) [] [(64,pB (decide (((k1 : Nat) : Int) < ((r12.length : Nat) : Int))))] [] [] tv ?_))
     refine Cj (decide (((k1 : Nat) : Int) < ((r12.length : Nat) : Int))) ?_ ?_
     ·intro h35
      have hlt1 : k1 < r12.length := by have := of_decide_eq_true h35; omega
      have hm := hs1 hlt1
      unfold Xo at hm
      refine Sk ?_
      refine Sq (Bk ?_)
      obtain ⟨r36,hr36,hm⟩ := bo hm
      refine Sq (RD hnt (nn 6 (o80 [] true r36 :: nn 6 [])) [64] [(14,rr 1112)] [] [(1112,bx (pm (Am r36.1)))] (an (nn0 k1) (an (ltc hlt1) (an (by omega : k1 < r12.length) (an (Db p0.tree (r12.getD k1 0) r36 hr36) tv)))) ?_)
      refine Sq (RD hnt (nn 5 []) [14] [(81,pB ((kand .i64 r36.1.control p3) != 0))] [1112] [] tv ?_)
      refine Af hm ?_ ?_
      ·intro h37 hm
       refine Sq (RD hnt (nn 3 []) [1,2,3,4,10,12,13,81] [(9,pI 9)] [1032,1080,1480] [] tv ?_)
       refine DW.cv [] [] [] [(AbR),(100000,ob0 (Ag [])),(100001,ob0 (Ar []))] (Conv.ads [(.o 1064 0,100000,6,elems Am Bh []),(.o 1064 2,100001,4,elems Ay Bq [])]) ?_
       obtain rfl := sj hm
       exact DW.ret (Ai [Ag [],Ar []] [100000,100001] (.tup [.agg [ow 0 0,pI 0,ow 1 0,pI 0],pI 9]))
      ·intro h37 hm
       refine Sk ?_
       refine DW.done ?_
       show DW _ _ _ _ _
       refine RD hnt (nn 3 []) [81] [(13,pI (w64 (((k1 : Nat) : Int) + 1)))] [] [] tv ?_
       exact jD () ⟨hlt1,hm⟩ (Conv.tp [(13,pI (w64 (((k1 : Nat) : Int) + 1)))] [] (by kernel_rfl) (.cons rfl (.of_eq (congrArg pI (Bn hlt1 hc1))) .nil) .nil)
     ·intro h35
      have hge1 : ¬ k1 < r12.length := by have := of_decide_eq_false h35; omega
      have hm := he1 hge1
      unfold Xw at hm
      refine DW.exit ?_
      refine An ?_
      refine Aw ?_
      refine Ak ?_
      show DW _ _ _ _ _
      refine Sq (RD hnt (nn 3 []) [12,13,64] [(16,pI r8.1.control)] [1480] [] tv ?_)
      refine Sq (RD hnt (nn 7 []) [2,3] [] [] [(c101e3 r8 p3 p2)] tv ?_)
      refine Sq (Sq (RD hnt (nn 4 []) [] [(17,pI (kand .i64 (kor .i64 (Eb .i64 r8.1.control p3) p2) 6))] [] [] tv ?_))
      refine Sq ?_
      refine Jn (ι := Bool) (fun (y4 : Bool) => Aj [(4,rr 1032),(8,rr 1064),(10,rr 1080),(108,pB y4)] [(1032,bx (pm (Ab p0))),(Aey),(c101e3 r8 p3 p2)]) (fun y4 => (Lb p0 p2 p3 r8) y4 = some RES) ?_ ?_
      ·intro y4 hm
       unfold Lb at hm
       refine Af hm ?_ ?_
       ·intro h41 hm
        refine Sq (RD hnt (nn 3 []) [4,10,108] [(9,pI 6)] [1032,1080] [] tv ?_)
        refine DW.cv [] [] [] [(AbR),(100000,ob0 (Ag [])),(100001,ob0 (Ar []))] (Conv.ads [(.o 1064 0,100000,6,elems Am Bh []),(.o 1064 2,100001,4,elems Ay Bq [])]) ?_
        obtain rfl := sj hm
        exact DW.ret (Ai [Ag [],Ar []] [100000,100001] (.tup [.agg [ow 0 0,pI 0,ow 1 0,pI 0],pI 6]))
       ·intro h41 hm
        refine Sk ?_
        obtain ⟨r42,hr42,hm⟩ := bo hm
        refine Sq (RD hnt (.no :: o103 [] true r42 :: nn 2 []) [108] [(18,rr 1144)] [] [(1144,bx [ow 1888 r42.tree.nodes.length,pI r42.tree.next,ow 1889 r42.tasks.length,pI r42.next]),(1888,ob0 (Ag r42.tree.nodes)),(1889,ob0 (Ar r42.tasks))] (an (Ri p0 r42 hr42) tv) ?_)
        obtain ⟨r43,hr43,hm⟩ := bo hm
        refine Sq (RD hnt (nn 3 (o104 [] true r43 :: nn 2 [])) [4,10] [] [1032,1080,1888] [(1144,bx [ow 1920 r43.nodes.length,pI r43.next,ow 1889 r42.tasks.length,pI r42.next]),(1920,ob0 (Ag r43.nodes))] (an (Yb p0.tree ({ id := r8.1.id,parent := r8.1.parent,name := r8.1.name,control := (kor .i64 (Eb .i64 r8.1.control p3) p2),kind := r8.1.kind,owner := r8.1.owner } : Ah) r43 hr43) tv) ?_)
        refine Sq (RD hnt (nn 3 []) [18] [(9,pI 0)] [1144] [(1064,bx [ow 1920 r43.nodes.length,pI r43.next,ow 1889 r42.tasks.length,pI r42.next])] tv ?_)
        obtain rfl := sj hm
        exact DW.ret (Ai [Ag r43.nodes,Ar r42.tasks] [1920,1889] (.tup [.agg [ow 0 r43.nodes.length,pI r43.next,ow 1 r42.tasks.length,pI r42.next],pI 0]))
      ·rcases bt ((Eb .i64 (kand .i64 (kor .i64 (Eb .i64 r8.1.control p3) p2) 6) r8.1.control) != 0) with h38 | h38
       ·replace hm := Bd h38 hm
        rcases bt (p1 != 1) with h39 | h39
        ·replace hm := Bd h39 hm
         obtain ⟨r40,hr40,hm⟩ := bo hm
         refine RD hnt (nn 7 (pT :: nn 3 (o97 [] true r40 :: nn 2 (pT :: [])))) [1,16,17] [(108,pB (decide (((r40.length : Nat) : Int) > 0)))] [] [] (an3 h38 (an3 h39 (an (Mn p0 p1 r40 hr40) (an3 h39 tv)))) ?_
         exact jD (decide (((r40.length : Nat) : Int) > 0)) hm Conv.eqK
        ·replace hm := Be h39 hm
         refine RD hnt (nn 7 (pT :: .no :: sk 5 (pF :: []))) [1,16,17] [(108,pB false)] [] [] (an3 h38 (an6 h39 tv)) ?_
         exact jD false hm Conv.eqK
       ·replace hm := Be h38 hm
        refine RD hnt (nn 5 (sk 2 (pF :: .no :: sk 5 (pF :: [])))) [1,16,17] [(108,pB false)] [] [] (an3 h38 (an6 ff tv)) ?_
        exact jD false hm Conv.eqK
 ·rcases bt (!r1) with h2 | h2
  ·replace hm := Bd h2 hm
   refine RD hnt (.no :: o92 [] true r1 :: nn 2 (sk 3 (pT :: .no :: sk 3 (pT :: .no :: sk 4 (pT :: []))))) [] [(37,pB true)] [] [] (an (Mp p0 r1 hr1) (an4 h2 (an3 tt (an6 tt tv)))) ?_
   exact jD true hm Conv.eqK
  ·replace hm := Be h2 hm
   obtain ⟨r3,hr3,hm⟩ := bo hm
   rcases bt (!r3) with h4 | h4
   ·replace hm := Bd h4 hm
    refine RD hnt (.no :: o92 [] true r1 :: nn 3 (o102 [] true r3 :: .no :: pF :: .no :: sk 3 (pT :: .no :: sk 4 (pT :: [])))) [] [(37,pB true)] [] [] (an (Mp p0 r1 hr1) (an2 h2 (an (Pq p2 r3 hr3) (an2 h2 (an4 h4 (an5 tt tv)))))) ?_
    exact jD true hm Conv.eqK
   ·replace hm := Be h4 hm
    obtain ⟨r5,hr5,hm⟩ := bo hm
    rcases bt (!r5) with h6 | h6
    ·replace hm := Bd h6 hm
     refine RD hnt (.no :: o92 [] true r1 :: nn 3 (o102 [] true r3 :: .no :: pF :: nn 2 (o102 [] true r5 :: .no :: pF :: .no :: sk 4 (pT :: [])))) [] [(37,pB true)] [] [] (an (Mp p0 r1 hr1) (an2 h2 (an (Pq p2 r3 hr3) (an2 h2 (an2 h4 (an (Pq p3 r5 hr5) (an2 h4 (an5 h6 tv)))))))) ?_
     exact jD true hm Conv.eqK
    ·replace hm := Be h6 hm
     refine RD hnt (.no :: o92 [] true r1 :: nn 3 (o102 [] true r3 :: .no :: pF :: nn 2 (o102 [] true r5 :: .no :: pF :: nn 5 (pF :: [])))) [] [(37,pB ((kand .i64 p2 p3) != 0))] [] [] (an (Mp p0 r1 hr1) (an2 h2 (an (Pq p2 r3 hr3) (an2 h2 (an2 h4 (an (Pq p3 r5 hr5) (an2 h4 (an5 h6 tv)))))))) ?_
     exact jD ((kand .i64 p2 p3) != 0) hm Conv.eqK
abbrev o101 (ks : List Nat) (b : Bool) (RES : Aa × Int) (sm : List Nat := []) : Orc := .call 208 ks b (.tup [.agg [ow 0 RES.1.tree.nodes.length,pI RES.1.tree.next,ow 1 RES.1.tasks.length,pI RES.1.next],pI RES.2]) [] [Ag RES.1.tree.nodes,Ar RES.1.tasks] sm

abbrev c90e1 : Nat × Obj := (1064,bx [ow 100000 0,pI 0,ow 100001 0,pI 0])
theorem Aec (p0 : Aa) (p1 : Int) (p2 : Int) (p3 : Int) (RES : Aa × Int) (hm : Re p0 p1 p2 p3 = some RES) : Spec Tryz.prog 159 [.p (.agg (Ab p0)),pI p1,pI p2,pI p3] [] (.tup [.agg [ow 0 RES.1.tree.nodes.length,pI RES.1.tree.next,ow 1 RES.1.tasks.length,pI RES.1.next],pI RES.2]) [] [Ag RES.1.tree.nodes,Ar RES.1.tasks] := by
 unfold Re at hm
 refine SO Tryz.func159 rfl rfl [(0,.p (.agg (Ab p0))),(1,pI p1),(2,pI p2),(3,pI p3)] [] ?_
 intro cx hnt
 refine Sq (RD hnt (nn 3 []) [0] [(4,rr 1032),(8,rr 1064)] [] [(1032,bx (pm (Ab p0))),(1064,bx [.p (.sl .nil 0 0 (fun _ => [])),pI 0,.p (.sl .nil 0 0 (fun _ => [])),pI 0])] tv ?_)
 obtain ⟨r1,hr1,hm⟩ := bo hm
 refine Sq (Sq (RD hnt (.no :: o91 [] true r1 :: .no :: []) [] [(14,pB (!r1))] [] [] (an (Lo p0 r1 hr1) tv) ?_))
 refine Af hm ?_ ?_
 ·intro h2 hm
  refine Sq (RD hnt (nn 3 []) [1,2,3,4,14] [(9,pI 1)] [1032] [] tv ?_)
  refine DW.cv [] [] [] [(c90e1),(100000,ob0 (Ag [])),(100001,ob0 (Ar []))] (Conv.ads [(.o 1064 0,100000,6,elems Am Bh []),(.o 1064 2,100001,4,elems Ay Bq [])]) ?_
  obtain rfl := sj hm
  exact DW.ret (Ai [Ag [],Ar []] [100000,100001] (.tup [.agg [ow 0 0,pI 0,ow 1 0,pI 0],pI 1]))
 ·intro h2 hm
  refine Sk ?_
  obtain ⟨r3,hr3,hm⟩ := bo hm
  refine Sq (RD hnt (nn 4 (o101 [] true r3 :: nn 6 [])) [1,2,3,4,14] [(10,rr 1080),(11,pI r3.2)] [1032] [(1080,bx [ow 1168 r3.1.tree.nodes.length,pI r3.1.tree.next,ow 1169 r3.1.tasks.length,pI r3.1.next]),(1168,ob0 (Ag r3.1.tree.nodes)),(1169,ob0 (Ar r3.1.tasks))] (an (AeM p0 p1 p2 p3 r3 hr3) tv) ?_)
  refine Sq (Sq (RD hnt (nn 2 []) [] [(25,pB (r3.2 != 0))] [] [] tv ?_))
  refine Af hm ?_ ?_
  ·intro h4 hm
   refine Sq (RD hnt (nn 4 []) [10,11,25] [(9,pI r3.2)] [1080,1168,1169] [] tv ?_)
   refine DW.cv [] [] [] [(c90e1),(100000,ob0 (Ag [])),(100001,ob0 (Ar []))] (Conv.ads [(.o 1064 0,100000,6,elems Am Bh []),(.o 1064 2,100001,4,elems Ay Bq [])]) ?_
   obtain rfl := sj hm
   exact DW.ret (Ai [Ag [],Ar []] [100000,100001] (.tup [.agg [ow 0 0,pI 0,ow 1 0,pI 0],pI r3.2]))
  ·intro h4 hm
   refine Sk ?_
   obtain ⟨r5,hr5,hm⟩ := bo hm
   refine Sq (Sq (RD hnt (.no :: o91 [] true r5 :: .no :: []) [11,25] [(30,pB (!r5))] [] [] (an (Lo r3.1 r5 hr5) tv) ?_))
   refine Af hm ?_ ?_
   ·intro h6 hm
    refine Sq (RD hnt (nn 3 []) [10,30] [(9,pI 10)] [1080,1168,1169] [] tv ?_)
    refine DW.cv [] [] [] [(c90e1),(100000,ob0 (Ag [])),(100001,ob0 (Ar []))] (Conv.ads [(.o 1064 0,100000,6,elems Am Bh []),(.o 1064 2,100001,4,elems Ay Bq [])]) ?_
    obtain rfl := sj hm
    exact DW.ret (Ai [Ag [],Ar []] [100000,100001] (.tup [.agg [ow 0 0,pI 0,ow 1 0,pI 0],pI 10]))
   ·intro h6 hm
    refine Sk ?_
    refine Sq (RD hnt (nn 3 []) [10,30] [(9,pI 0)] [1080] [(1064,bx [ow 1168 r3.1.tree.nodes.length,pI r3.1.tree.next,ow 1169 r3.1.tasks.length,pI r3.1.next])] tv ?_)
    obtain rfl := sj hm
    exact DW.ret (Ai [Ag r3.1.tree.nodes,Ar r3.1.tasks] [1168,1169] (.tup [.agg [ow 0 r3.1.tree.nodes.length,pI r3.1.tree.next,ow 1 r3.1.tasks.length,pI r3.1.next],pI 0]))
abbrev o90 (ks : List Nat) (b : Bool) (RES : Aa × Int) (sm : List Nat := []) : Orc := .call 159 ks b (.tup [.agg [ow 0 RES.1.tree.nodes.length,pI RES.1.tree.next,ow 1 RES.1.tasks.length,pI RES.1.next],pI RES.2]) [] [Ag RES.1.tree.nodes,Ar RES.1.tasks] sm

abbrev Aeb : Nat × Obj := (1032,bx [.p (.sl .nil 0 0 (fun _ => [])),pI 0,.p (.sl .nil 0 0 (fun _ => [])),pI 0])
abbrev Aap : Nat × Obj := (1032,bx [ow 100000 0,pI 0,ow 100001 0,pI 0])
theorem AdF (p0 : Aa) (p1 : Int) (RES : Aa × Int) (hm : Pj p0 p1 = some RES) : Spec Tryz.prog 160 [.p (.agg (Ab p0)),pI p1] [] (.tup [.agg [ow 0 RES.1.tree.nodes.length,pI RES.1.tree.next,ow 1 RES.1.tasks.length,pI RES.1.next],pI RES.2]) [] [Ag RES.1.tree.nodes,Ar RES.1.tasks] := by
 unfold Pj at hm
 refine SO Tryz.func160 rfl rfl [(0,.p (.agg (Ab p0))),(1,pI p1)] [] ?_
 intro cx hnt
 refine Sq (RK hnt (nn 3 []) [(1,pI p1),(2,rr 1016),(4,rr 1032)] [(1016,bx (pm (Ab p0))),(Aeb)] tv ?_)
 obtain ⟨r1,hr1,hm⟩ := bo hm
 refine Sq (Sq (RD hnt (.no :: o91 [] true r1 :: .no :: []) [] [(13,pB (!r1))] [] [] (an (Lo p0 r1 hr1) tv) ?_))
 refine Af hm ?_ ?_
 ·intro h2 hm
  refine Sq (RD hnt (nn 3 []) [1,2,13] [(5,pI 1)] [1016] [] tv ?_)
  refine DW.cv [] [] [] [(Aap),(100000,ob0 (Ag [])),(100001,ob0 (Ar []))] (Conv.ads [(.o 1032 0,100000,6,elems Am Bh []),(.o 1032 2,100001,4,elems Ay Bq [])]) ?_
  obtain rfl := sj hm
  exact DW.ret (Ai [Ag [],Ar []] [100000,100001] (.tup [.agg [ow 0 0,pI 0,ow 1 0,pI 0],pI 1]))
 ·intro h2 hm
  refine Sk ?_
  obtain ⟨r3,hr3,hm⟩ := bo hm
  refine Sq (RD hnt (nn 3 (o80 [] true r3 :: nn 6 [])) [13] [(6,rr 1048),(7,pB r3.2)] [] [(1048,bx (pm (Am r3.1)))] (an (Db p0.tree p1 r3 hr3) tv) ?_)
  refine Sq (Sq (RD hnt (nn 2 []) [7] [(23,pB (!r3.2))] [] [] tv ?_))
  refine Af hm ?_ ?_
  ·intro h4 hm
   refine Sq (RD hnt (nn 3 []) [1,2,6,23] [(5,pI 4)] [1016,1048] [] tv ?_)
   refine DW.cv [] [] [] [(Aap),(100000,ob0 (Ag [])),(100001,ob0 (Ar []))] (Conv.ads [(.o 1032 0,100000,6,elems Am Bh []),(.o 1032 2,100001,4,elems Ay Bq [])]) ?_
   obtain rfl := sj hm
   exact DW.ret (Ai [Ag [],Ar []] [100000,100001] (.tup [.agg [ow 0 0,pI 0,ow 1 0,pI 0],pI 4]))
  ·intro h4 hm
   refine Sk ?_
   refine Sq (Sq (DW.regJ (sl2 := [(1,pI p1),(2,rr 1016),(4,rr 1032),(6,rr 1048),(31,pB ((p1 == 1) || (r3.1.kind == 1)))]) (ob2 := [(1016,bx (pm (Ab p0))),(Aeb),(1048,bx (pm (Am r3.1)))]) ?_ ?_))
   ·rcases bt (p1 == 1) with h5 | h5
    ·exact RT hnt (nn 3 (sk 3 (pT :: []))) [(31,pB true)] (an4 h5 tv) (by kernel_rfl) (.cons rfl (.of_eq (by rw [h5]; try rfl)) .nil)
    ·exact RT hnt (nn 6 (pF :: [])) [(31,pB (r3.1.kind == 1))] (an4 h5 tv) (by kernel_rfl) (.cons rfl (.of_eq (by rw [h5]; try rfl)) .nil)
   ·refine Af hm ?_ ?_
    ·intro h6 hm
     refine Sq (RD hnt (nn 3 []) [1,2,6,31] [(5,pI 9)] [1016,1048] [] tv ?_)
     refine DW.cv [] [] [] [(Aap),(100000,ob0 (Ag [])),(100001,ob0 (Ar []))] (Conv.ads [(.o 1032 0,100000,6,elems Am Bh []),(.o 1032 2,100001,4,elems Ay Bq [])]) ?_
     obtain rfl := sj hm
     exact DW.ret (Ai [Ag [],Ar []] [100000,100001] (.tup [.agg [ow 0 0,pI 0,ow 1 0,pI 0],pI 9]))
    ·intro h6 hm
     refine Sk ?_
     obtain ⟨r7,hr7,hm⟩ := bo hm
     refine Sq (RD hnt (nn 4 (o80 [] true r7 :: nn 6 [])) [31] [(8,rr 1064)] [] [(1064,bx (pm (Am r7.1)))] (an (Db p0.tree r3.1.parent r7 hr7) tv) ?_)
     obtain ⟨r8,hr8,hm⟩ := bo hm
     refine Sq (Sq ?_)
     refine Jn (ι := Bool) (fun (y1 : Bool) => Aj [(1,pI p1),(2,rr 1016),(4,rr 1032),(6,rr 1048),(57,pB y1)] [(1016,bx (pm (Ab p0))),(Aeb),(1048,bx (pm (Am r3.1)))]) (fun y1 => (Iv p0 p1 r3) y1 = some RES) ?_ ?_
     ·intro y1 hm
      unfold Iv at hm
      refine Af hm ?_ ?_
      ·intro h11 hm
       refine Sq (RD hnt (nn 3 []) [1,2,6,57] [(5,pI 10)] [1016,1048] [] tv ?_)
       refine DW.cv [] [] [] [(Aap),(100000,ob0 (Ag [])),(100001,ob0 (Ar []))] (Conv.ads [(.o 1032 0,100000,6,elems Am Bh []),(.o 1032 2,100001,4,elems Ay Bq [])]) ?_
       obtain rfl := sj hm
       exact DW.ret (Ai [Ag [],Ar []] [100000,100001] (.tup [.agg [ow 0 0,pI 0,ow 1 0,pI 0],pI 10]))
      ·intro h11 hm
       refine Sk ?_
       refine Sq (Sq (RD hnt (nn 4 []) [57] [(62,pB ((kand .i64 r3.1.control 6) != 0))] [] [] tv ?_))
       refine Af hm ?_ ?_
       ·intro h12 hm
        refine Sq (RD hnt (nn 3 []) [1,2,6,62] [(5,pI 9)] [1016,1048] [] tv ?_)
        refine DW.cv [] [] [] [(Aap),(100000,ob0 (Ag [])),(100001,ob0 (Ar []))] (Conv.ads [(.o 1032 0,100000,6,elems Am Bh []),(.o 1032 2,100001,4,elems Ay Bq [])]) ?_
        obtain rfl := sj hm
        exact DW.ret (Ai [Ag [],Ar []] [100000,100001] (.tup [.agg [ow 0 0,pI 0,ow 1 0,pI 0],pI 9]))
       ·intro h12 hm
        refine Sk ?_
        refine Sq (RD hnt (nn 2 []) [62] [] [] [(1048,bx [pI r3.1.id,pI r3.1.parent,pS r3.1.name,pI r3.1.control,pI 1,pI r3.1.owner])] tv ?_)
        obtain ⟨r13,hr13,hm⟩ := bo hm
        refine Sq (RD hnt (.no :: o103 [] true r13 :: nn 2 []) [] [(10,rr 1080)] [] [(1080,bx [ow 1528 r13.tree.nodes.length,pI r13.tree.next,ow 1529 r13.tasks.length,pI r13.next]),(1528,ob0 (Ag r13.tree.nodes)),(1529,ob0 (Ar r13.tasks))] (an (Ri p0 r13 hr13) tv) ?_)
        obtain ⟨r14,hr14,hm⟩ := bo hm
        refine Sq (RD hnt (nn 3 (o104 [] true r14 :: nn 2 [])) [6] [] [1048,1528] [(1080,bx [ow 1560 r14.nodes.length,pI r14.next,ow 1529 r13.tasks.length,pI r13.next]),(1560,ob0 (Ag r14.nodes))] (an (Yb p0.tree ({ id := r3.1.id,parent := r3.1.parent,name := r3.1.name,control := r3.1.control,kind := 1,owner := r3.1.owner } : Ah) r14 hr14) tv) ?_)
        obtain ⟨r15,hr15,hm⟩ := bo hm
        refine Sq (Sq ?_)
        refine Jn (ι := Bool) (fun (y2 : Bool) => Aj [(4,rr 1032),(10,rr 1080),(81,pB y2)] [(Aeb),(1080,bx [ow 1560 r14.nodes.length,pI r14.next,ow 1529 r13.tasks.length,pI r13.next]),(1529,ob0 (Ar r13.tasks)),(1560,ob0 (Ag r14.nodes))]) (fun y2 => (Mz r13 r14) y2 = some RES) ?_ ?_
        ·intro y2 hm
         unfold Mz at hm
         refine Af hm ?_ ?_
         ·intro h18 hm
          refine Sq (RD hnt (nn 3 []) [10,81] [(5,pI 6)] [1080,1529,1560] [] tv ?_)
          refine DW.cv [] [] [] [(Aap),(100000,ob0 (Ag [])),(100001,ob0 (Ar []))] (Conv.ads [(.o 1032 0,100000,6,elems Am Bh []),(.o 1032 2,100001,4,elems Ay Bq [])]) ?_
          obtain rfl := sj hm
          exact DW.ret (Ai [Ag [],Ar []] [100000,100001] (.tup [.agg [ow 0 0,pI 0,ow 1 0,pI 0],pI 6]))
         ·intro h18 hm
          refine Sk ?_
          refine Sq (RD hnt (nn 3 []) [10,81] [(5,pI 0)] [1080] [(1032,bx [ow 1560 r14.nodes.length,pI r14.next,ow 1529 r13.tasks.length,pI r13.next])] tv ?_)
          obtain rfl := sj hm
          exact DW.ret (Ai [Ag r14.nodes,Ar r13.tasks] [1560,1529] (.tup [.agg [ow 0 r14.nodes.length,pI r14.next,ow 1 r13.tasks.length,pI r13.next],pI 0]))
        ·rcases bt (decide (((r15.length : Nat) : Int) > 0)) with h16 | h16
         ·replace hm := Bd h16 hm
          refine RD hnt (nn 2 (o97 [] true r15 :: nn 3 (sk 3 (pT :: [])))) [1,2] [(81,pB true)] [1016] [] (an (Mn p0 p1 r15 hr15) (an4 h16 tv)) ?_
          exact jD true hm Conv.eqK
         ·replace hm := Be h16 hm
          obtain ⟨r17,hr17,hm⟩ := bo hm
          refine RD hnt (nn 2 (o97 [] true r15 :: nn 4 (o91 [] true r17 :: .no :: pF :: []))) [1,2] [(81,pB (!r17))] [1016] [] (an (Mn p0 p1 r15 hr15) (an2 h16 (an (Lo ({ tree := r14,tasks := r13.tasks,next := r13.next } : Aa) r17 hr17) (an2 h16 tv)))) ?_
          exact jD (!r17) hm Conv.eqK
     ·rcases bt (r8 == 3) with h9 | h9
      ·replace hm := Bd h9 hm
       refine RD hnt (nn 4 (o100 [] true r8 :: nn 2 (sk 9 (pT :: [])))) [8] [(57,pB true)] [1064] [] (an (Hi p0.tree r7.1.id r8 hr8) (an6 h9 tv)) ?_
       exact jD true hm Conv.eqK
      ·replace hm := Be h9 hm
       rcases bt (r7.1.id != 1) with h10 | h10
       ·replace hm := Bd h10 hm
        refine RD hnt (nn 4 (o100 [] true r8 :: nn 10 (pT :: pF :: []))) [8] [(57,pB ((kand .i64 r7.1.control 6) != 0))] [1064] [] (an (Hi p0.tree r7.1.id r8 hr8) (an4 h9 (an4 h10 (an h9 (an h10 (an h9 tv)))))) ?_
        exact jD ((kand .i64 r7.1.control 6) != 0) hm Conv.eqK
       ·replace hm := Be h10 hm
        refine RD hnt (nn 4 (o100 [] true r8 :: nn 6 (sk 4 (pF :: pF :: [])))) [8] [(57,pB false)] [1064] [] (an (Hi p0.tree r7.1.id r8 hr8) (an4 h9 (an4 h10 (an h9 (an h10 (an h9 tv)))))) ?_
        exact jD false hm Conv.eqK
abbrev o105 (ks : List Nat) (b : Bool) (RES : Aa × Int) (sm : List Nat := []) : Orc := .call 160 ks b (.tup [.agg [ow 0 RES.1.tree.nodes.length,pI RES.1.tree.next,ow 1 RES.1.tasks.length,pI RES.1.next],pI RES.2]) [] [Ag RES.1.tree.nodes,Ar RES.1.tasks] sm

abbrev c87e1 : Nat × Obj := (1032,bx [.p (.sl .nil 0 0 (fun _ => [])),pI 0,.p (.sl .nil 0 0 (fun _ => [])),pI 0])
theorem AbT (p0 : Ao) (p1 : Aa) (RES : Aa × Ao) (hm : Nc p0 p1 = some RES) : Spec Tryz.prog 82 [rr 0,.p (.agg (Ab p1))] [.box (pm (Al p0))] (.p (.agg (Ab RES.1))) [.box (pm (Al RES.2))] [] := by
 unfold Nc at hm
 refine SO Tryz.func82 rfl rfl [(0,rr 0),(1,.p (.agg (Ab p1)))] [(0,bx (pm (Al p0)))] ?_
 intro cx hnt
 refine Sq (RD hnt (nn 2 []) [1] [(3,rr 1024),(4,rr 1032)] [] [(1024,bx (pm (Ab p1))),(c87e1)] tv ?_)
 obtain ⟨r1,hr1,hm⟩ := bo hm
 refine Sq (RD hnt (nn 3 (o88 [0] true r1 :: .no :: [])) [] [(5,pI r1.1)] [] [(0,bx (pm (Al r1.2)))] (an (Lf p0 p1.tree r1 hr1) (an tv tv)) ?_)
 obtain ⟨r2,hr2,hm⟩ := bo hm
 refine Sq (Sq (RD hnt (.no :: o72 [0] true r2 :: []) [] [(17,pI r2.1)] [] [(0,bx (pm (Al r2.2)))] (an (Bt r1.2 5 r2 hr2) (an tv tv)) ?_))
 refine Jn (ι := Ao × Aa) (fun (y1 : Ao × Aa) => Aj [(3,rr 1024),(4,rr 1032)] [(0,bx (pm (Al y1.1))),(1024,bx (pm (Ab y1.2))),(c87e1)]) (fun y1 => Gi y1 = some RES) ?_ ?_
 ·intro y1 hm
  unfold Gi at hm
  refine Sq (RD hnt (nn 2 []) [3] [] [1024] [(1032,bx (pm (Ab y1.2)))] tv ?_)
  obtain rfl := sj hm
  exact DW.ret (Ai [.box (pm (Al y1.1))] [] (.p (.agg (Ab y1.2))))
 ·refine Bk ?_
  refine Sq (Sq (RD hnt (nn 2 []) [] [(18,pB (r2.1 == 0))] [] [] tv ?_))
  refine Jn (ι := Bool) (fun (y2 : Bool) => Aj [(0,rr 0),(3,rr 1024),(4,rr 1032),(5,pI r1.1),(17,pI r2.1),(18,pB y2)] [(0,bx (pm (Al r2.2))),(1024,bx (pm (Ab p1))),(c87e1)]) (fun y2 => (Ix p1 r1 r2) y2 = some RES) ?_ ?_
  ·intro y2 hm
   unfold Ix at hm
   refine Af hm ?_ ?_
   ·intro h4 hm
    obtain ⟨r5,hr5,hm⟩ := bo hm
    obtain ⟨r6,hr6,hm⟩ := bo hm
    refine Sq (RD hnt (nn 3 (o89 [0] true r5 :: o90 [] true r6 :: nn 6 [])) [0,5,17,18] [(6,rr 1048),(7,pI r6.2)] [] [(0,bx (pm (Al r5.2))),(1048,bx [ow 1208 r6.1.tree.nodes.length,pI r6.1.tree.next,ow 1209 r6.1.tasks.length,pI r6.1.next]),(1208,ob0 (Ag r6.1.tree.nodes)),(1209,ob0 (Ar r6.1.tasks))] (an (Wk r2.2 r5 hr5) (an tv (an (Aec p1 r1.1 r5.1 0 r6 hr6) tv))) ?_)
    refine Sq (RD hnt (nn 2 []) [7] [(30,pB (r6.2 == 0))] [] [] tv ?_)
    refine Af hm ?_ ?_
    ·intro h7 hm
     refine Sq (RD hnt (nn 2 []) [3,6,30] [] [1024,1048] [(1032,bx [ow 1208 r6.1.tree.nodes.length,pI r6.1.tree.next,ow 1209 r6.1.tasks.length,pI r6.1.next])] tv ?_)
     obtain rfl := sj hm
     exact DW.ret (Ai [.box (pm (Al r5.2))] [] (.p (.agg (Ab r6.1))))
    ·intro h7 hm
     refine Sk ?_
     exact bD (r5.2,p1) hm Conv.t0
   ·intro h4 hm
    refine Sq (RD hnt (nn 2 []) [18] [(32,pB (r2.1 == 2))] [] [] tv ?_)
    refine Af hm ?_ ?_
    ·intro h8 hm
     obtain ⟨r9,hr9,hm⟩ := bo hm
     refine Sq (RD hnt (nn 2 (o105 [] true r9 :: nn 6 [])) [0,5,17,32] [(8,rr 1064),(9,pI r9.2)] [] [(1064,bx [ow 1296 r9.1.tree.nodes.length,pI r9.1.tree.next,ow 1297 r9.1.tasks.length,pI r9.1.next]),(1296,ob0 (Ag r9.1.tree.nodes)),(1297,ob0 (Ar r9.1.tasks))] (an (AdF p1 r1.1 r9 hr9) tv) ?_)
     refine Sq (RD hnt (nn 2 []) [9] [(41,pB (r9.2 == 0))] [] [] tv ?_)
     refine Af hm ?_ ?_
     ·intro h10 hm
      refine Sq (RD hnt (nn 2 []) [3,8,41] [] [1024,1064] [(1032,bx [ow 1296 r9.1.tree.nodes.length,pI r9.1.tree.next,ow 1297 r9.1.tasks.length,pI r9.1.next])] tv ?_)
      obtain rfl := sj hm
      exact DW.ret (Ai [.box (pm (Al r2.2))] [] (.p (.agg (Ab r9.1))))
     ·intro h10 hm
      refine Sk ?_
      exact bD (r2.2,p1) hm Conv.t0
    ·intro h8 hm
     refine Sq (RD hnt (nn 2 []) [17,32] [(43,pB (r2.1 == 3))] [] [] tv ?_)
     refine Af hm ?_ ?_
     ·intro h11 hm
      obtain ⟨r12,hr12,hm⟩ := bo hm
      refine Sq (RD hnt (nn 3 (o80 [] true r12 :: nn 6 [])) [43] [(10,rr 1080),(11,pB r12.2)] [] [(1080,bx (pm (Am r12.1)))] (an (Db p1.tree r1.1 r12 hr12) tv) ?_)
      refine Sq (DW.regJ (sl2 := [(0,rr 0),(3,rr 1024),(4,rr 1032),(10,rr 1080),(56,pB (r12.2 && (r1.1 != 1)))]) (ob2 := [(0,bx (pm (Al r2.2))),(1024,bx (pm (Ab p1))),(c87e1),(1080,bx (pm (Am r12.1)))]) ?_ ?_)
      ·rcases bt r12.2 with h13 | h13
       ·exact RT hnt (nn 4 (pT :: [])) [(56,pB (r1.1 != 1))] (an3 h13 tv) (by kernel_rfl) (.cons rfl (.of_eq (by rw [h13]; try rfl)) .nil)
       ·exact RT hnt (nn 2 (sk 2 (pF :: []))) [(56,pB false)] (an3 h13 tv) (by kernel_rfl) (.cons rfl (.of_eq (by rw [h13]; try rfl)) .nil)
      ·refine Af hm ?_ ?_
       ·intro h14 hm
        obtain ⟨r15,hr15,hm⟩ := bo hm
        refine Sq (RD hnt (.no :: o72 [0] true r15 :: nn 2 []) [0,56] [] [] [(0,bx (pm (Al r15.2))),(1080,bx [pI r12.1.id,pI r12.1.parent,pS r12.1.name,pI r12.1.control,pI r12.1.kind,pI r15.1])] (an (Bt r2.2 3 r15 hr15) (an tv tv)) ?_)
        obtain ⟨r16,hr16,hm⟩ := bo hm
        refine RD hnt (nn 3 (o104 [] true r16 :: nn 2 [])) [10] [] [1080] [(1024,bx [ow 1504 r16.nodes.length,pI r16.next,.p (Bf p1.tasks),pI p1.next]),(1504,ob0 (Ag r16.nodes))] (an (Yb p1.tree ({ id := r12.1.id,parent := r12.1.parent,name := r12.1.name,control := r12.1.control,kind := r12.1.kind,owner := r15.1 } : Ah) r16 hr16) tv) ?_
        exact bD (r15.2,({ tree := r16,tasks := p1.tasks,next := p1.next } : Aa)) hm (Conv.frz [1504])
       ·intro h14 hm
        refine Sk ?_
        exact bD (r2.2,p1) hm Conv.t0
     ·intro h11 hm
      refine Sk ?_
      exact bD (r2.2,p1) hm Conv.t0
  ·refine Af hm ?_ ?_
   ·intro h3 hm
    refine Sk ?_
    exact jD (r2.1 == 0) hm Conv.eqK
   ·intro h3 hm
    refine RD hnt (nn 2 []) [] [(18,pB (r2.1 == 1))] [] [] tv ?_
    exact jD (r2.1 == 1) hm Conv.eqK
abbrev o87 (ks : List Nat) (b : Bool) (RES : Aa × Ao) (sm : List Nat := []) : Orc := .call 82 ks b (.p (.agg (Ab RES.1))) [.box (pm (Al RES.2))] [] sm

theorem Yr (p0 : Aa) (p1 : Int) (RES : Int) (hm : On p0 p1 = some RES) : Spec Tryz.prog 83 [.p (.agg (Ab p0)),pI p1] [] (pI RES) [] [] := by
 unfold On at hm
 refine SO Tryz.func83 rfl rfl [(0,.p (.agg (Ab p0))),(1,pI p1)] [] ?_
 intro cx hnt
 refine Sq (RK hnt (nn 2 []) [(1,pI p1),(2,rr 1016)] [(1016,bx (pm (Ab p0)))] tv ?_)
 obtain ⟨r1,hr1,hm⟩ := bo hm
 refine Sq (Sq (RD hnt (.no :: o91 [] true r1 :: .no :: []) [] [(9,pB (!r1))] [] [] (an (Lo p0 r1 hr1) tv) ?_))
 refine Af hm ?_ ?_
 ·intro h2 hm
  refine Sq (RK hnt (.no :: []) [(4,pI 1)] [] tv ?_)
  obtain rfl := sj hm
  exact DW.ret (Ai [] [] (pI 1))
 ·intro h2 hm
  refine Sk ?_
  obtain ⟨r3,hr3,hm⟩ := bo hm
  refine Sq (RD hnt (nn 3 (o80 [] true r3 :: nn 6 [])) [9] [(5,rr 1040),(6,pB r3.2)] [] [(1040,bx (pm (Am r3.1)))] (an (Db p0.tree p1 r3 hr3) tv) ?_)
  refine Sq (Bk ?_)
  refine Sq (RD hnt (nn 3 []) [6] [(17,pB (!r3.2))] [] [] tv ?_)
  refine Af hm ?_ ?_
  ·intro h4 hm
   refine Sq (RK hnt (.no :: []) [(4,pI 4)] [] tv ?_)
   obtain rfl := sj hm
   exact DW.ret (Ai [] [] (pI 4))
  ·intro h4 hm
   obtain ⟨r5,hr5,hm⟩ := bo hm
   refine Sq (RD hnt (nn 3 (o100 [] true r5 :: nn 2 [])) [2,17] [(20,pB (r5 == 3))] [1016] [] (an (Hi p0.tree p1 r5 hr5) tv) ?_)
   refine Af hm ?_ ?_
   ·intro h6 hm
    refine Sq (RK hnt (.no :: []) [(4,pI 10)] [] tv ?_)
    obtain rfl := sj hm
    exact DW.ret (Ai [] [] (pI 10))
   ·intro h6 hm
    refine Sq (DW.regJ (sl2 := [(26,pB ((p1 != 1) && ((kand .i64 r3.1.control 6) != 0)))]) (ob2 := []) ?_ ?_)
    ·rcases bt (p1 != 1) with h7 | h7
     ·exact RT hnt (nn 7 (pT :: .no :: [])) [(26,pB ((kand .i64 r3.1.control 6) != 0))] (an5 h7 tv) (by kernel_rfl) (.cons rfl (.of_eq (by rw [h7]; try rfl)) .nil)
     ·exact RT hnt (nn 3 (sk 4 (pF :: .no :: []))) [(26,pB false)] (an5 h7 tv) (by kernel_rfl) (.cons rfl (.of_eq (by rw [h7]; try rfl)) .nil)
    ·refine Af hm ?_ ?_
     ·intro h8 hm
      refine Sq (RK hnt (.no :: []) [(4,pI 6)] [] tv ?_)
      obtain rfl := sj hm
      exact DW.ret (Ai [] [] (pI 6))
     ·intro h8 hm
      refine Sk ?_
      refine DW.done ?_
      show DW _ _ _ _ _
      refine Sq (RK hnt (.no :: []) [(4,pI 0)] [] tv ?_)
      obtain rfl := sj hm
      exact DW.ret (Ai [] [] (pI 0))
abbrev o106 (ks : List Nat) (b : Bool) (RES : Int) (sm : List Nat := []) : Orc := .call 83 ks b (pI RES) [] [] sm

abbrev Aet : Nat × Obj := (1032,bx [.p (.sl .nil 0 0 (fun _ => [])),pI 0,.p (.sl .nil 0 0 (fun _ => [])),pI 0])
abbrev c108e2 (r3 : Aa) : Nat × Obj := (1056,bx [ow 1152 r3.tree.nodes.length,pI r3.tree.next,ow 1153 r3.tasks.length,pI r3.next])
theorem AbO (p0 : Aa) (p1 : At) (RES : Aa × Int × Int) (hm : Tq p0 p1 = some RES) : Spec Tryz.prog 164 [.p (.agg (Ab p0)),.p (.agg (Ay p1))] [] (.tup [.agg [ow 0 RES.1.tree.nodes.length,pI RES.1.tree.next,ow 1 RES.1.tasks.length,pI RES.1.next],pI RES.2.1,pI RES.2.2]) [] [Ag RES.1.tree.nodes,Ar RES.1.tasks] := by
 unfold Tq at hm
 refine SO Tryz.func164 rfl rfl [(0,.p (.agg (Ab p0))),(1,.p (.agg (Ay p1)))] [] ?_
 intro cx hnt
 refine Sq (RK hnt (nn 5 []) [(2,rr 1016),(3,rr 1024),(4,rr 1032)] [(1016,bx (pm (Ab p0))),(1024,bx (pm (Ay p1))),(Aet)] tv ?_)
 refine Sq (Sq (DW.regJ (sl2 := [(2,rr 1016),(3,rr 1024),(4,rr 1032),(16,pB ((decide (((p0.tasks.length : Nat) : Int) ≥ 128)) || (decide (p0.next > 2147483647))))]) (ob2 := [(1016,bx (pm (Ab p0))),(1024,bx (pm (Ay p1))),(Aet)]) ?_ ?_))
 ·rcases bt (decide (((p0.tasks.length : Nat) : Int) ≥ 128)) with h1 | h1
  ·exact RT hnt (nn 5 (sk 3 (pT :: []))) [(16,pB true)] (an4 h1 tv) (by kernel_rfl) (.cons rfl (.of_eq (by rw [h1]; try rfl)) .nil)
  ·exact RT hnt (nn 8 (pF :: [])) [(16,pB (decide (p0.next > 2147483647)))] (an4 h1 tv) (by kernel_rfl) (.cons rfl (.of_eq (by rw [h1]; try rfl)) .nil)
 ·refine Af hm ?_ ?_
  ·intro h2 hm
   refine Sq (RD hnt (nn 4 []) [2,3,16] [(5,pI 0),(6,pI 7)] [1016,1024] [] tv ?_)
   refine DW.cv [] [] [] [(1032,bx [ow 100000 0,pI 0,ow 100001 0,pI 0]),(100000,ob0 (Ag [])),(100001,ob0 (Ar []))] (Conv.ads [(.o 1032 0,100000,6,elems Am Bh []),(.o 1032 2,100001,4,elems Ay Bq [])]) ?_
   obtain rfl := sj hm
   exact DW.ret (Ai [Ag [],Ar []] [100000,100001] (.tup [.agg [ow 0 0,pI 0,ow 1 0,pI 0],pI 0,pI 7]))
  ·intro h2 hm
   refine Sk ?_
   obtain ⟨r3,hr3,hm⟩ := bo hm
   refine Sq (RD hnt (.no :: o103 [] true r3 :: nn 2 []) [16] [(7,rr 1056)] [] [(c108e2 r3),(1152,ob0 (Ag r3.tree.nodes)),(1153,ob0 (Ar r3.tasks))] (an (Ri p0 r3 hr3) tv) ?_)
   refine Sq (RD hnt (nn 4 []) [2] [] [1016] [(1024,bx [pI p0.next,pI p1.process,pI p1.group,pI p1.user])] tv ?_)
   refine Sq (Sq (RD hnt (nn 3 []) [] [(25,pB (p1.process == 0))] [] [] tv ?_))
   refine Jn (ι := At) (fun (y1 : At) => Aj [(3,rr 1024),(4,rr 1032),(7,rr 1056)] [(1024,bx (pm (Ay y1))),(Aet),(c108e2 r3),(1152,ob0 (Ag r3.tree.nodes)),(1153,ob0 (Ar r3.tasks))]) (fun y1 => (Ta r3) y1 = some RES) ?_ ?_
   ·intro y1 hm
    unfold Ta at hm
    obtain ⟨g5,hm⟩ := go1 hm
    refine Sq (RN hnt (nn 7 []) [(3,rr 1024),(4,rr 1032),(7,rr 1056)] [(1024,bx (pm (Ay y1))),(Aet),(1056,bx [ow 1152 r3.tree.nodes.length,pI r3.tree.next,ow 1153 (r3.tasks ++ [y1]).length,pI r3.next]),(1152,ob0 (Ag r3.tree.nodes)),(1153,ob0 (Ar (r3.tasks ++ [y1])))] [] [(1056,.box [ow 1152 r3.tree.nodes.length,pI r3.tree.next,ow 1153 (r3.tasks.length + 1),pI r3.next]),(1153,.row 4 (r3.tasks.length + 1) (Dq r3.tasks.length (Aao r3.tasks) (cut 4 [vi y1.id,vi y1.process,vi y1.group,vi y1.user])))] (an (by omega : (r3.tasks.length + 1) * 32 ≤ 140737488355328) tv) (by kernel_rfl) .nil (.cons rfl (.box (.cons .rfl (.cons .rfl (.cons (MLe.ownLen (enc := Ay) (d := Bq) (f := (Dq r3.tasks.length (Aao r3.tasks) (cut 4 [vi y1.id,vi y1.process,vi y1.group,vi y1.user]))) (RowIs.cat RowIs.elems (RowIs.lit (enc := Ay) (d := Bq) (n := 1) (f := (cut 4 [vi y1.id,vi y1.process,vi y1.group,vi y1.user])) [y1] rfl (fun | 0,_ => rfl | n + 1,h => absurd h (by omega))))) (.cons .rfl .nil))))) (.cons rfl (BLe.typed (RowIs.cat RowIs.elems (RowIs.lit (enc := Ay) (d := Bq) (n := 1) (f := (cut 4 [vi y1.id,vi y1.process,vi y1.group,vi y1.user])) [y1] rfl (fun | 0,_ => rfl | n + 1,h => absurd h (by omega))))) .nil)) ?_)
    refine Sq (RD hnt (nn 5 []) [] [] [] [(1056,bx [ow 1152 r3.tree.nodes.length,pI r3.tree.next,ow 1153 (r3.tasks ++ [y1]).length,pI (w64 (r3.next + 1))])] tv ?_)
    refine Sq (RD hnt (nn 6 []) [3,7] [(5,pI y1.id),(6,pI 0)] [1024,1056] [(1032,bx [ow 1152 r3.tree.nodes.length,pI r3.tree.next,ow 1153 (r3.tasks ++ [y1]).length,pI (w64 (r3.next + 1))])] tv ?_)
    obtain rfl := sj hm
    exact DW.ret (Ai [Ag r3.tree.nodes,Ar (r3.tasks ++ [y1])] [1152,1153] (.tup [.agg [ow 0 r3.tree.nodes.length,pI r3.tree.next,ow 1 (r3.tasks ++ [y1]).length,pI (w64 (r3.next + 1))],pI y1.id,pI 0]))
   ·refine Af hm ?_ ?_
    ·intro h4 hm
     refine RD hnt (nn 4 []) [25] [] [] [(1024,bx [pI p0.next,pI p0.next,pI p1.group,pI p1.user])] tv ?_
     exact jD ({ id := p0.next,process := p0.next,group := p1.group,user := p1.user } : At) hm Conv.eqK
    ·intro h4 hm
     refine Sk ?_
     exact jD ({ id := p0.next,process := p1.process,group := p1.group,user := p1.user } : At) hm Conv.t0
abbrev o108 (ks : List Nat) (b : Bool) (RES : Aa × Int × Int) (sm : List Nat := []) : Orc := .call 164 ks b (.tup [.agg [ow 0 RES.1.tree.nodes.length,pI RES.1.tree.next,ow 1 RES.1.tasks.length,pI RES.1.next],pI RES.2.1,pI RES.2.2]) [] [Ag RES.1.tree.nodes,Ar RES.1.tasks] sm

abbrev c107e1 : Nat × Obj := (1048,bx [.p (.sl .nil 0 0 (fun _ => [])),pI 0,.p (.sl .nil 0 0 (fun _ => [])),pI 0])
theorem AeJ (p0 : Aa) (p1 : Int) (p2 : Int) (RES : Aa × Int × Int) (hm : Sj p0 p1 p2 = some RES) : Spec Tryz.prog 84 [.p (.agg (Ab p0)),pI p1,pI p2] [] (.tup [.agg [ow 0 RES.1.tree.nodes.length,pI RES.1.tree.next,ow 1 RES.1.tasks.length,pI RES.1.next],pI RES.2.1,pI RES.2.2]) [] [Ag RES.1.tree.nodes,Ar RES.1.tasks] := by
 unfold Sj at hm
 refine SO Tryz.func84 rfl rfl [(0,.p (.agg (Ab p0))),(1,pI p1),(2,pI p2)] [] ?_
 intro cx hnt
 refine Sq (RD hnt (nn 4 []) [0] [(3,rr 1024),(6,rr 1048)] [] [(1024,bx (pm (Ab p0))),(c107e1)] tv ?_)
 obtain ⟨r1,hr1,hm⟩ := bo hm
 refine Sq (Sq ?_)
 refine Jn (ι := Bool) (fun (y1 : Bool) => Aj [(1,pI p1),(2,pI p2),(3,rr 1024),(6,rr 1048),(19,pB y1)] [(1024,bx (pm (Ab p0))),(c107e1)]) (fun y1 => (Mi p0 p1 p2) y1 = some RES) ?_ ?_
 ·intro y1 hm
  unfold Mi at hm
  refine Af hm ?_ ?_
  ·intro h4 hm
   refine Sq (RD hnt (nn 4 []) [1,2,3,19] [(7,pI 0),(8,pI 1)] [1024] [] tv ?_)
   refine DW.cv [] [] [] [(1048,bx [ow 100000 0,pI 0,ow 100001 0,pI 0]),(100000,ob0 (Ag [])),(100001,ob0 (Ar []))] (Conv.ads [(.o 1048 0,100000,6,elems Am Bh []),(.o 1048 2,100001,4,elems Ay Bq [])]) ?_
   obtain rfl := sj hm
   exact DW.ret (Ai [Ag [],Ar []] [100000,100001] (.tup [.agg [ow 0 0,pI 0,ow 1 0,pI 0],pI 0,pI 1]))
  ·intro h4 hm
   refine Sk ?_
   obtain ⟨r5,hr5,hm⟩ := bo hm
   refine Sq (Sq (RD hnt (nn 3 (o79 [] true r5 :: .no :: [])) [19] [(25,pB (!r5))] [] [] (an (Cw p0.tree p1 r5 hr5) tv) ?_))
   refine Af hm ?_ ?_
   ·intro h6 hm
    refine Sq (RD hnt (nn 4 []) [1,2,3,25] [(7,pI 0),(8,pI 4)] [1024] [] tv ?_)
    refine DW.cv [] [] [] [(1048,bx [ow 100000 0,pI 0,ow 100001 0,pI 0]),(100000,ob0 (Ag [])),(100001,ob0 (Ar []))] (Conv.ads [(.o 1048 0,100000,6,elems Am Bh []),(.o 1048 2,100001,4,elems Ay Bq [])]) ?_
    obtain rfl := sj hm
    exact DW.ret (Ai [Ag [],Ar []] [100000,100001] (.tup [.agg [ow 0 0,pI 0,ow 1 0,pI 0],pI 0,pI 4]))
   ·intro h6 hm
    refine Sk ?_
    obtain ⟨r7,hr7,hm⟩ := bo hm
    refine Sq (RK hnt (nn 4 (o108 [] true r7 :: nn 6 [])) [(6,rr 1048),(7,pI r7.2.1),(8,pI r7.2.2)] [(1048,bx [ow 1248 r7.1.tree.nodes.length,pI r7.1.tree.next,ow 1249 r7.1.tasks.length,pI r7.1.next]),(1248,ob0 (Ag r7.1.tree.nodes)),(1249,ob0 (Ar r7.1.tasks))] (an (AbO p0 ({ id := 0,process := 0,group := p1,user := p2 } : At) r7 hr7) tv) ?_)
    obtain rfl := sj hm
    exact DW.ret (Ai [Ag r7.1.tree.nodes,Ar r7.1.tasks] [1248,1249] (.tup [.agg [ow 0 r7.1.tree.nodes.length,pI r7.1.tree.next,ow 1 r7.1.tasks.length,pI r7.1.next],pI r7.2.1,pI r7.2.2]))
 ·rcases bt (!r1) with h2 | h2
  ·replace hm := Bd h2 hm
   refine RD hnt (.no :: o93 [] true r1 :: nn 2 (sk 2 (pT :: .no :: sk 2 (pT :: [])))) [] [(19,pB true)] [] [] (an (Gq p0 r1 hr1) (an3 h2 (an3 tt tv))) ?_
   exact jD true hm Conv.eqK
  ·replace hm := Be h2 hm
   rcases bt (decide (p2 < 0)) with h3 | h3
   ·replace hm := Bd h3 hm
    refine RD hnt (.no :: o93 [] true r1 :: nn 4 (pF :: .no :: sk 2 (pT :: []))) [] [(19,pB true)] [] [] (an (Gq p0 r1 hr1) (an3 h2 (an3 h3 tv))) ?_
    exact jD true hm Conv.eqK
   ·replace hm := Be h3 hm
    refine RD hnt (.no :: o93 [] true r1 :: nn 4 (pF :: nn 3 (pF :: []))) [] [(19,pB (decide (p2 > 1048576)))] [] [] (an (Gq p0 r1 hr1) (an3 h2 (an3 h3 tv))) ?_
    exact jD (decide (p2 > 1048576)) hm Conv.eqK
abbrev o107 (ks : List Nat) (b : Bool) (RES : Aa × Int × Int) (sm : List Nat := []) : Orc := .call 84 ks b (.tup [.agg [ow 0 RES.1.tree.nodes.length,pI RES.1.tree.next,ow 1 RES.1.tasks.length,pI RES.1.next],pI RES.2.1,pI RES.2.2]) [] [Ag RES.1.tree.nodes,Ar RES.1.tasks] sm

theorem Pg (p0 : Ao) (p1 : Aa) (RES : Int × Ao) (hm : Ip p0 p1 = some RES) : Spec Tryz.prog 21 [rr 0,.p (.agg (Ab p1))] [.box (pm (Al p0))] (pI RES.1) [.box (pm (Al RES.2))] [] := by
 unfold Ip at hm
 refine SO Tryz.func21 rfl rfl [(0,rr 0),(1,.p (.agg (Ab p1)))] [(0,bx (pm (Al p0)))] ?_
 intro cx hnt
 refine Sq (RD hnt (nn 2 []) [1] [(3,rr 1024)] [] [(1024,bx (pm (Ab p1)))] tv ?_)
 obtain ⟨r1,hr1,hm⟩ := bo hm
 refine Sq (Sq ?_)
 refine Jn (ι := Bool) (fun (y1 : Bool) => Aj [(0,rr 0),(3,rr 1024),(12,pB y1)] [(0,bx (pm (Al r1.2))),(1024,bx (pm (Ab p1)))]) (fun y1 => (It p1 r1) y1 = some RES) ?_ ?_
 ·intro y1 hm
  unfold It at hm
  refine Af hm ?_ ?_
  ·intro h3 hm
   obtain ⟨r4,hr4,hm⟩ := bo hm
   refine Sq (RK hnt (.no :: o72 [0] true r4 :: nn 2 []) [(4,pI (w64 (r4.1 - 1)))] [(0,bx (pm (Al r4.2)))] (an (Bt r1.2 9 r4 hr4) (an tv tv)) ?_)
   obtain rfl := sj hm
   exact DW.ret (Ai [.box (pm (Al r4.2))] [] (pI (w64 (r4.1 - 1))))
  ·intro h3 hm
   refine Sk ?_
   obtain ⟨r5,hr5,hm⟩ := bo hm
   obtain ⟨g6,hm⟩ := go1 hm
   refine Sq (RK hnt (nn 6 (o72 [0] true r5 :: nn 4 [])) [(4,pI (p1.tasks.getD (Int.toNat r5.1) Bq).id)] [(0,bx (pm (Al r5.2)))] (an (Bt r1.2 ((p1.tasks.length : Nat) : Int) r5 hr5) (an tv (an g6.1 (an g6.2 tv)))) ?_)
   obtain rfl := sj hm
   exact DW.ret (Ai [.box (pm (Al r5.2))] [] (pI (p1.tasks.getD (Int.toNat r5.1) Bq).id))
 ·rcases bt r1.1 with h2 | h2
  ·replace hm := Bd h2 hm
   refine RD hnt (.no :: o84 [0] true r1 :: .no :: sk 4 (pT :: [])) [] [(12,pB true)] [] [(0,bx (pm (Al r1.2)))] (an (Ed p0 15 r1 hr1) (an tv (an5 h2 tv))) ?_
   exact jD true hm Conv.eqK
  ·replace hm := Be h2 hm
   refine RD hnt (.no :: o84 [0] true r1 :: nn 5 (pF :: [])) [] [(12,pB (((p1.tasks.length : Nat) : Int) == 0))] [] [(0,bx (pm (Al r1.2)))] (an (Ed p0 15 r1 hr1) (an tv (an5 h2 tv))) ?_
   exact jD (((p1.tasks.length : Nat) : Int) == 0) hm Conv.eqK
abbrev o109 (ks : List Nat) (b : Bool) (RES : Int × Ao) (sm : List Nat := []) : Orc := .call 21 ks b (pI RES.1) [.box (pm (Al RES.2))] [] sm

theorem Afb (p0 : Aa) (p1 : Int) (RES : Aa × Int × Int) (hm : Sz p0 p1 = some RES) : Spec Tryz.prog 85 [.p (.agg (Ab p0)),pI p1] [] (.tup [.agg [ow 0 RES.1.tree.nodes.length,pI RES.1.tree.next,ow 1 RES.1.tasks.length,pI RES.1.next],pI RES.2.1,pI RES.2.2]) [] [Ag RES.1.tree.nodes,Ar RES.1.tasks] := by
 unfold Sz at hm
 refine SO Tryz.func85 rfl rfl [(0,.p (.agg (Ab p0))),(1,pI p1)] [] ?_
 intro cx hnt
 refine Sq (RK hnt (nn 4 []) [(1,pI p1),(2,rr 1016),(4,rr 1032)] [(1016,bx (pm (Ab p0))),(1032,bx [.p (.sl .nil 0 0 (fun _ => [])),pI 0,.p (.sl .nil 0 0 (fun _ => [])),pI 0])] tv ?_)
 obtain ⟨r1,hr1,hm⟩ := bo hm
 refine Sq (Sq (RD hnt (.no :: o93 [] true r1 :: .no :: []) [] [(11,pB (!r1))] [] [] (an (Gq p0 r1 hr1) tv) ?_))
 refine Af hm ?_ ?_
 ·intro h2 hm
  refine Sq (RD hnt (nn 4 []) [1,2,11] [(5,pI 0),(6,pI 1)] [1016] [] tv ?_)
  refine DW.cv [] [] [] [(1032,bx [ow 100000 0,pI 0,ow 100001 0,pI 0]),(100000,ob0 (Ag [])),(100001,ob0 (Ar []))] (Conv.ads [(.o 1032 0,100000,6,elems Am Bh []),(.o 1032 2,100001,4,elems Ay Bq [])]) ?_
  obtain rfl := sj hm
  exact DW.ret (Ai [Ag [],Ar []] [100000,100001] (.tup [.agg [ow 0 0,pI 0,ow 1 0,pI 0],pI 0,pI 1]))
 ·intro h2 hm
  refine Sk ?_
  obtain ⟨r3,hr3,hm⟩ := bo hm
  refine Sq (RD hnt (nn 2 (o98 [] true r3 :: nn 6 [])) [1,11] [(7,rr 1056),(8,pB r3.2)] [] [(1056,bx (pm (Ay r3.1)))] (an (Ob p0 p1 r3 hr3) tv) ?_)
  refine Sq (Sq (RD hnt (nn 2 []) [8] [(20,pB (!r3.2))] [] [] tv ?_))
  refine Af hm ?_ ?_
  ·intro h4 hm
   refine Sq (RD hnt (nn 4 []) [2,7,20] [(5,pI 0),(6,pI 4)] [1016,1056] [] tv ?_)
   refine DW.cv [] [] [] [(1032,bx [ow 100000 0,pI 0,ow 100001 0,pI 0]),(100000,ob0 (Ag [])),(100001,ob0 (Ar []))] (Conv.ads [(.o 1032 0,100000,6,elems Am Bh []),(.o 1032 2,100001,4,elems Ay Bq [])]) ?_
   obtain rfl := sj hm
   exact DW.ret (Ai [Ag [],Ar []] [100000,100001] (.tup [.agg [ow 0 0,pI 0,ow 1 0,pI 0],pI 0,pI 4]))
  ·intro h4 hm
   refine Sk ?_
   obtain ⟨r5,hr5,hm⟩ := bo hm
   refine Sq (RK hnt (nn 2 (o108 [] true r5 :: nn 6 [])) [(4,rr 1032),(5,pI r5.2.1),(6,pI r5.2.2)] [(1032,bx [ow 1192 r5.1.tree.nodes.length,pI r5.1.tree.next,ow 1193 r5.1.tasks.length,pI r5.1.next]),(1192,ob0 (Ag r5.1.tree.nodes)),(1193,ob0 (Ar r5.1.tasks))] (an (AbO p0 r3.1 r5 hr5) tv) ?_)
   obtain rfl := sj hm
   exact DW.ret (Ai [Ag r5.1.tree.nodes,Ar r5.1.tasks] [1192,1193] (.tup [.agg [ow 0 r5.1.tree.nodes.length,pI r5.1.tree.next,ow 1 r5.1.tasks.length,pI r5.1.next],pI r5.2.1,pI r5.2.2]))
abbrev o110 (ks : List Nat) (b : Bool) (RES : Aa × Int × Int) (sm : List Nat := []) : Orc := .call 85 ks b (.tup [.agg [ow 0 RES.1.tree.nodes.length,pI RES.1.tree.next,ow 1 RES.1.tasks.length,pI RES.1.next],pI RES.2.1,pI RES.2.2]) [] [Ag RES.1.tree.nodes,Ar RES.1.tasks] sm

abbrev Acv (s1 : (List At) × Int) (p2 : Int) := ({ id := (s1.1.getD (Int.toNat s1.2) Bq).id,process := (s1.1.getD (Int.toNat s1.2) Bq).process,group := p2,user := (s1.1.getD (Int.toNat s1.2) Bq).user } : At)
abbrev AbW : Nat × Obj := (1048,bx [.p (.sl .nil 0 0 (fun _ => [])),pI 0,.p (.sl .nil 0 0 (fun _ => [])),pI 0])
abbrev c112e3 (s1 : (List At) × Int) (p2 : Int) := (Ca (Aao s1.1) (Int.toNat s1.2) [vi (s1.1.getD (Int.toNat s1.2) Bq).id,vi (s1.1.getD (Int.toNat s1.2) Bq).process,vi p2,vi (s1.1.getD (Int.toNat s1.2) Bq).user])
theorem AeR (p0 : Aa) (p1 : Int) (p2 : Int) (RES : Aa × Int) (hm : Sn p0 p1 p2 = some RES) : Spec Tryz.prog 64 [.p (.agg (Ab p0)),pI p1,pI p2] [] (.tup [.agg [ow 0 RES.1.tree.nodes.length,pI RES.1.tree.next,ow 1 RES.1.tasks.length,pI RES.1.next],pI RES.2]) [] [Ag RES.1.tree.nodes,Ar RES.1.tasks] := by
 unfold Sn at hm
 refine SO Tryz.func64 rfl rfl [(0,.p (.agg (Ab p0))),(1,pI p1),(2,pI p2)] [] ?_
 intro cx hnt
 refine Sq (RD hnt (nn 3 []) [0] [(3,rr 1024),(6,rr 1048)] [] [(1024,bx (pm (Ab p0))),(AbW)] tv ?_)
 obtain ⟨r1,hr1,hm⟩ := bo hm
 refine Sq (Sq (RD hnt (.no :: o93 [] true r1 :: .no :: []) [] [(14,pB (!r1))] [] [] (an (Gq p0 r1 hr1) tv) ?_))
 refine Af hm ?_ ?_
 ·intro h2 hm
  refine Sq (RD hnt (nn 3 []) [1,2,3,14] [(7,pI 1)] [1024] [] tv ?_)
  refine DW.cv [] [] [] [(1048,bx [ow 100000 0,pI 0,ow 100001 0,pI 0]),(100000,ob0 (Ag [])),(100001,ob0 (Ar []))] (Conv.ads [(.o 1048 0,100000,6,elems Am Bh []),(.o 1048 2,100001,4,elems Ay Bq [])]) ?_
  obtain rfl := sj hm
  exact DW.ret (Ai [Ag [],Ar []] [100000,100001] (.tup [.agg [ow 0 0,pI 0,ow 1 0,pI 0],pI 1]))
 ·intro h2 hm
  refine Sk ?_
  obtain ⟨r3,hr3,hm⟩ := bo hm
  refine Sq (Sq (RD hnt (nn 2 (o98 [] true r3 :: nn 6 [])) [14] [(9,pB r3.2)] [] [] (an (Ob p0 p1 r3 hr3) tv) ?_))
  refine Sq ?_
  refine Jn (ι := Bool) (fun (y1 : Bool) => Aj [(1,pI p1),(2,pI p2),(3,rr 1024),(6,rr 1048),(30,pB y1)] [(1024,bx (pm (Ab p0))),(AbW)]) (fun y1 => (Pv p0 p1 p2) y1 = some RES) ?_ ?_
  ·intro y1 hm
   unfold Pv at hm
   refine Af hm ?_ ?_
   ·intro h6 hm
    refine Sq (RD hnt (nn 3 []) [1,2,3,30] [(7,pI 4)] [1024] [] tv ?_)
    refine DW.cv [] [] [] [(1048,bx [ow 100000 0,pI 0,ow 100001 0,pI 0]),(100000,ob0 (Ag [])),(100001,ob0 (Ar []))] (Conv.ads [(.o 1048 0,100000,6,elems Am Bh []),(.o 1048 2,100001,4,elems Ay Bq [])]) ?_
    obtain rfl := sj hm
    exact DW.ret (Ai [Ag [],Ar []] [100000,100001] (.tup [.agg [ow 0 0,pI 0,ow 1 0,pI 0],pI 4]))
   ·intro h6 hm
    refine Sk ?_
    obtain ⟨r7,hr7,hm⟩ := bo hm
    refine Sq (RD hnt (.no :: o103 [] true r7 :: nn 2 []) [3,30] [(10,rr 1080)] [1024] [(1080,bx [ow 1264 r7.tree.nodes.length,pI r7.tree.next,ow 1265 r7.tasks.length,pI r7.next]),(1264,ob0 (Ag r7.tree.nodes)),(1265,ob0 (Ar r7.tasks))] (an (Ri p0 r7 hr7) tv) ?_)
    refine Sq (Sq (RD hnt (.no :: []) [] [(11,pI 0)] [] [] tv ?_))
    refine Bk ?_
    refine DW.whileO (fun (s1 : (List At) × Int) => Aj [(1,pI p1),(2,pI p2),(6,rr 1048),(10,rr 1080),(11,pI s1.2)] [(AbW),(1080,bx [ow 1264 r7.tree.nodes.length,pI r7.tree.next,ow 1265 s1.1.length,pI r7.next]),(1264,ob0 (Ag r7.tree.nodes)),(1265,ob0 (Ar s1.1))]) hm Conv.eqK ?_
    intro s1 n1 hm
    unfold Pt at hm
    refine Sq (Sq (RD hnt (nn 5 []) [] [(38,pB (decide (s1.2 < ((s1.1.length : Nat) : Int))))] [] [] tv ?_))
    refine Af hm ?_ ?_
    ·intro h14 hm
     refine Sk ?_
     refine Sq ?_
     refine Jn (ι := List At) (fun (y3 : List At) => Aj [(1,pI p1),(2,pI p2),(6,rr 1048),(10,rr 1080),(11,pI s1.2)] [(AbW),(1080,bx [ow 1264 r7.tree.nodes.length,pI r7.tree.next,ow 1265 y3.length,pI r7.next]),(1264,ob0 (Ag r7.tree.nodes)),(1265,ob0 (Ar y3))]) (fun y3 => (Pp s1 n1) y3 = some RES) ?_ ?_
     ·intro y3 hm
      unfold Pp at hm
      refine RD hnt (nn 3 []) [] [(11,pI (w64 (s1.2 + 1)))] [] [] tv ?_
      exact jD (y3,(w64 (s1.2 + 1))) hm Conv.eqK
     ·refine Bk ?_
      obtain ⟨g15,g16,hm⟩ := go2 hm
      refine Sq (RD hnt (nn 8 []) [38] [(48,pB ((s1.1.getD (Int.toNat s1.2) Bq).id == p1))] [] [] (an g15.1 (an g15.2 (an g16 tv))) ?_)
      refine Af hm ?_ ?_
      ·intro h17 hm
       obtain ⟨g18,g19,hm⟩ := go2 hm
       refine RN hnt (nn 7 []) [(1,pI p1),(2,pI p2),(6,rr 1048),(10,rr 1080),(11,pI s1.2)] [(AbW),(1080,bx [ow 1264 r7.tree.nodes.length,pI r7.tree.next,ow 1265 (s1.1.set (Int.toNat s1.2) (Acv s1 p2)).length,pI r7.next]),(1264,ob0 (Ag r7.tree.nodes)),(1265,ob0 (Ar (s1.1.set (Int.toNat s1.2) (Acv s1 p2))))] [] [(1080,.box [ow 1264 r7.tree.nodes.length,pI r7.tree.next,ow 1265 s1.1.length,pI r7.next]),(1265,.row 4 s1.1.length (c112e3 s1 p2))] (an g18.1 (an g18.2 (an g19 tv))) (by kernel_rfl) .nil (.cons rfl (.box (.cons .rfl (.cons .rfl (.cons (MLe.ownLen (enc := Ay) (d := Bq) (f := (c112e3 s1 p2)) (RowIs.upd RowIs.elems (Acv s1 p2) rfl)) (.cons .rfl .nil))))) (.cons rfl (BLe.typed (RowIs.upd RowIs.elems (Acv s1 p2) rfl)) .nil)) ?_
       exact bD (s1.1.set (Int.toNat s1.2) (Acv s1 p2)) hm .refl
      ·intro h17 hm
       refine Sk ?_
       exact bD s1.1 hm Conv.t0
    ·intro h14 hm
     refine DW.exit ?_
     refine An ?_
     refine Aw ?_
     refine Ak ?_
     show DW _ _ _ _ _
     refine Sq (RD hnt (nn 3 []) [1,2,10,11,38] [(7,pI 0)] [1080] [(1048,bx [ow 1264 r7.tree.nodes.length,pI r7.tree.next,ow 1265 s1.1.length,pI r7.next])] tv ?_)
     obtain rfl := sj hm
     exact DW.ret (Ai [Ag r7.tree.nodes,Ar s1.1] [1264,1265] (.tup [.agg [ow 0 r7.tree.nodes.length,pI r7.tree.next,ow 1 s1.1.length,pI r7.next],pI 0]))
  ·rcases bt (!r3.2) with h4 | h4
   ·replace hm := Bd h4 hm
    refine RD hnt (nn 3 (sk 5 (pT :: []))) [9] [(30,pB true)] [] [] (an6 h4 tv) ?_
    exact jD true hm Conv.eqK
   ·replace hm := Be h4 hm
    obtain ⟨r5,hr5,hm⟩ := bo hm
    refine RD hnt (nn 6 (o79 [] true r5 :: .no :: pF :: [])) [9] [(30,pB (!r5))] [] [] (an4 h4 (an (Cw p0.tree p2 r5 hr5) (an2 h4 tv))) ?_
    exact jD (!r5) hm Conv.eqK
abbrev o112 (ks : List Nat) (b : Bool) (RES : Aa × Int) (sm : List Nat := []) : Orc := .call 64 ks b (.tup [.agg [ow 0 RES.1.tree.nodes.length,pI RES.1.tree.next,ow 1 RES.1.tasks.length,pI RES.1.next],pI RES.2]) [] [Ag RES.1.tree.nodes,Ar RES.1.tasks] sm

abbrev AdK : Nat × Obj := (1048,bx [ow 100000 0,pI 0,ow 100001 0,pI 0])
abbrev c111e2 : Nat × Obj := (1048,bx [.p (.sl .nil 0 0 (fun _ => [])),pI 0,.p (.sl .nil 0 0 (fun _ => [])),pI 0])
theorem Aam (p0 : Aa) (p1 : Int) (p2 : Int) (RES : Aa × Int) (hm : Jv p0 p1 p2 = some RES) : Spec Tryz.prog 86 [.p (.agg (Ab p0)),pI p1,pI p2] [] (.tup [.agg [ow 0 RES.1.tree.nodes.length,pI RES.1.tree.next,ow 1 RES.1.tasks.length,pI RES.1.next],pI RES.2]) [] [Ag RES.1.tree.nodes,Ar RES.1.tasks] := by
 unfold Jv at hm
 refine SO Tryz.func86 rfl rfl [(0,.p (.agg (Ab p0))),(1,pI p1),(2,pI p2)] [] ?_
 intro cx hnt
 refine Sq (RD hnt (nn 3 []) [0] [(3,rr 1024),(6,rr 1048)] [] [(1024,bx (pm (Ab p0))),(c111e2)] tv ?_)
 obtain ⟨r1,hr1,hm⟩ := bo hm
 refine Sq (Sq (RD hnt (.no :: o91 [] true r1 :: .no :: []) [] [(17,pB (!r1))] [] [] (an (Lo p0 r1 hr1) tv) ?_))
 refine Af hm ?_ ?_
 ·intro h2 hm
  refine Sq (RD hnt (nn 3 []) [1,2,3,17] [(7,pI 1)] [1024] [] tv ?_)
  refine DW.cv [] [] [] [(AdK),(100000,ob0 (Ag [])),(100001,ob0 (Ar []))] (Conv.ads [(.o 1048 0,100000,6,elems Am Bh []),(.o 1048 2,100001,4,elems Ay Bq [])]) ?_
  obtain rfl := sj hm
  exact DW.ret (Ai [Ag [],Ar []] [100000,100001] (.tup [.agg [ow 0 0,pI 0,ow 1 0,pI 0],pI 1]))
 ·intro h2 hm
  refine Sk ?_
  obtain ⟨r3,hr3,hm⟩ := bo hm
  refine Sq (RD hnt (nn 2 (o98 [] true r3 :: nn 6 [])) [17] [(8,rr 1064),(9,pB r3.2)] [] [(1064,bx (pm (Ay r3.1)))] (an (Ob p0 p1 r3 hr3) tv) ?_)
  refine Sq (Sq ?_)
  refine Jn (ι := Bool) (fun (y1 : Bool) => Aj [(1,pI p1),(2,pI p2),(3,rr 1024),(6,rr 1048),(8,rr 1064),(33,pB y1)] [(1024,bx (pm (Ab p0))),(c111e2),(1064,bx (pm (Ay r3.1)))]) (fun y1 => (Hb p0 p1 p2 r3) y1 = some RES) ?_ ?_
  ·intro y1 hm
   unfold Hb at hm
   refine Af hm ?_ ?_
   ·intro h6 hm
    refine Sq (RD hnt (nn 3 []) [1,2,3,8,33] [(7,pI 4)] [1024,1064] [] tv ?_)
    refine DW.cv [] [] [] [(AdK),(100000,ob0 (Ag [])),(100001,ob0 (Ar []))] (Conv.ads [(.o 1048 0,100000,6,elems Am Bh []),(.o 1048 2,100001,4,elems Ay Bq [])]) ?_
    obtain rfl := sj hm
    exact DW.ret (Ai [Ag [],Ar []] [100000,100001] (.tup [.agg [ow 0 0,pI 0,ow 1 0,pI 0],pI 4]))
   ·intro h6 hm
    refine Sk ?_
    obtain ⟨r7,hr7,hm⟩ := bo hm
    refine Sq (Sq (RD hnt (nn 2 (o106 [] true r7 :: .no :: [])) [33] [(10,pI r7)] [] [] (an (Yr p0 p2 r7 hr7) tv) ?_))
    refine Sq (RD hnt (nn 2 []) [] [(39,pB (r7 != 0))] [] [] tv ?_)
    refine Af hm ?_ ?_
    ·intro h8 hm
     refine Sq (RD hnt (nn 4 []) [1,2,3,8,10,39] [(7,pI r7)] [1024,1064] [] tv ?_)
     refine DW.cv [] [] [] [(AdK),(100000,ob0 (Ag [])),(100001,ob0 (Ar []))] (Conv.ads [(.o 1048 0,100000,6,elems Am Bh []),(.o 1048 2,100001,4,elems Ay Bq [])]) ?_
     obtain rfl := sj hm
     exact DW.ret (Ai [Ag [],Ar []] [100000,100001] (.tup [.agg [ow 0 0,pI 0,ow 1 0,pI 0],pI r7]))
    ·intro h8 hm
     refine Sk ?_
     obtain ⟨r9,hr9,hm⟩ := bo hm
     refine Sq (RD hnt (nn 3 (o99 [] true r9 :: nn 5 [])) [10,39] [(11,pI r9.1)] [] [] (an (Pc p0.tree p2 r9 hr9) tv) ?_)
     obtain ⟨r10,hr10,hm⟩ := bo hm
     refine Sq (Sq (RD hnt (nn 4 (o99 [] true r10 :: nn 5 [])) [8] [(13,pI r10.1)] [1064] [] (an (Pc p0.tree r3.1.group r10 hr10) tv) ?_))
     refine Sq (RD hnt (nn 3 []) [11,13] [(59,pB (r9.1 != r10.1))] [] [] tv ?_)
     refine Af hm ?_ ?_
     ·intro h11 hm
      refine Sq (RD hnt (nn 3 []) [1,2,3,59] [(7,pI 9)] [1024] [] tv ?_)
      refine DW.cv [] [] [] [(AdK),(100000,ob0 (Ag [])),(100001,ob0 (Ar []))] (Conv.ads [(.o 1048 0,100000,6,elems Am Bh []),(.o 1048 2,100001,4,elems Ay Bq [])]) ?_
      obtain rfl := sj hm
      exact DW.ret (Ai [Ag [],Ar []] [100000,100001] (.tup [.agg [ow 0 0,pI 0,ow 1 0,pI 0],pI 9]))
     ·intro h11 hm
      refine Sk ?_
      obtain ⟨r12,hr12,hm⟩ := bo hm
      refine Sq (RK hnt (nn 3 (o112 [] true r12 :: nn 4 [])) [(6,rr 1048),(7,pI r12.2)] [(1048,bx [ow 1512 r12.1.tree.nodes.length,pI r12.1.tree.next,ow 1513 r12.1.tasks.length,pI r12.1.next]),(1512,ob0 (Ag r12.1.tree.nodes)),(1513,ob0 (Ar r12.1.tasks))] (an (AeR p0 p1 p2 r12 hr12) tv) ?_)
      obtain rfl := sj hm
      exact DW.ret (Ai [Ag r12.1.tree.nodes,Ar r12.1.tasks] [1512,1513] (.tup [.agg [ow 0 r12.1.tree.nodes.length,pI r12.1.tree.next,ow 1 r12.1.tasks.length,pI r12.1.next],pI r12.2]))
  ·rcases bt (!r3.2) with h4 | h4
   ·replace hm := Bd h4 hm
    refine RD hnt (nn 3 (sk 5 (pT :: []))) [9] [(33,pB true)] [] [] (an6 h4 tv) ?_
    exact jD true hm Conv.eqK
   ·replace hm := Be h4 hm
    obtain ⟨r5,hr5,hm⟩ := bo hm
    refine RD hnt (nn 6 (o79 [] true r5 :: .no :: pF :: [])) [9] [(33,pB (!r5))] [] [] (an4 h4 (an (Cw p0.tree p2 r5 hr5) (an2 h4 tv))) ?_
    exact jD (!r5) hm Conv.eqK
abbrev o111 (ks : List Nat) (b : Bool) (RES : Aa × Int) (sm : List Nat := []) : Orc := .call 86 ks b (.tup [.agg [ow 0 RES.1.tree.nodes.length,pI RES.1.tree.next,ow 1 RES.1.tasks.length,pI RES.1.next],pI RES.2]) [] [Ag RES.1.tree.nodes,Ar RES.1.tasks] sm

abbrev Fb (p0 : Aa) (k1 : Nat) := (p0.tasks.getD k1 (default : At))
abbrev Acq : Nat × Obj := (1032,bx [.p (.sl .nil 0 0 (fun _ => [])),pI 0,.p (.sl .nil 0 0 (fun _ => [])),pI 0])
abbrev AbM (p0 : Aa) : Nat × Obj := (1016,bx (pm (Ab p0)))
theorem Afx (p0 : Aa) (p1 : Int) (RES : Aa × Int) (hm : Us p0 p1 = some RES) : Spec Tryz.prog 87 [.p (.agg (Ab p0)),pI p1] [] (.tup [.agg [ow 0 RES.1.tree.nodes.length,pI RES.1.tree.next,ow 1 RES.1.tasks.length,pI RES.1.next],pI RES.2]) [] [Ag RES.1.tree.nodes,Ar RES.1.tasks] := by
 unfold Us at hm
 refine SO Tryz.func87 rfl rfl [(0,.p (.agg (Ab p0))),(1,pI p1)] [] ?_
 intro cx hnt
 refine Sq (RK hnt (nn 3 []) [(1,pI p1),(2,rr 1016),(4,rr 1032)] [(AbM p0),(Acq)] tv ?_)
 obtain ⟨r1,hr1,hm⟩ := bo hm
 refine Sq (Sq (RD hnt (.no :: o93 [] true r1 :: .no :: []) [] [(13,pB (!r1))] [] [] (an (Gq p0 r1 hr1) tv) ?_))
 refine Af hm ?_ ?_
 ·intro h2 hm
  refine Sq (RD hnt (nn 3 []) [1,2,13] [(5,pI 1)] [1016] [] tv ?_)
  refine DW.cv [] [] [] [(1032,bx [ow 100000 0,pI 0,ow 100001 0,pI 0]),(100000,ob0 (Ag [])),(100001,ob0 (Ar []))] (Conv.ads [(.o 1032 0,100000,6,elems Am Bh []),(.o 1032 2,100001,4,elems Ay Bq [])]) ?_
  obtain rfl := sj hm
  exact DW.ret (Ai [Ag [],Ar []] [100000,100001] (.tup [.agg [ow 0 0,pI 0,ow 1 0,pI 0],pI 1]))
 ·intro h2 hm
  refine Sk ?_
  obtain ⟨r3,hr3,hm⟩ := bo hm
  refine Sq (Sq (RD hnt (nn 2 (o98 [] true r3 :: nn 6 [])) [13] [(7,pB r3.2)] [] [] (an (Ob p0 p1 r3 hr3) tv) ?_))
  refine Sq (RD hnt (nn 2 []) [7] [(22,pB (!r3.2))] [] [] tv ?_)
  refine Af hm ?_ ?_
  ·intro h4 hm
   refine Sq (RD hnt (nn 3 []) [1,2,22] [(5,pI 4)] [1016] [] tv ?_)
   refine DW.cv [] [] [] [(1032,bx [ow 100000 0,pI 0,ow 100001 0,pI 0]),(100000,ob0 (Ag [])),(100001,ob0 (Ar []))] (Conv.ads [(.o 1032 0,100000,6,elems Am Bh []),(.o 1032 2,100001,4,elems Ay Bq [])]) ?_
   obtain rfl := sj hm
   exact DW.ret (Ai [Ag [],Ar []] [100000,100001] (.tup [.agg [ow 0 0,pI 0,ow 1 0,pI 0],pI 4]))
  ·intro h4 hm
   refine Sk ?_
   obtain ⟨r5,hr5,hm⟩ := bo hm
   refine Sq (RD hnt (nn 2 (o83 [] true r5 :: nn 5 [])) [22] [(8,rr 1064)] [] [(1064,bx [ow 1208 r5.nodes.length,pI r5.next,.p (.sl .nil 0 0 (fun _ => [])),pI p0.next]),(1208,ob0 (Ag r5.nodes))] (an (Rj p0.tree r5 hr5) tv) ?_)
   refine Sq (Sq (RD hnt (.no :: []) [] [(9,pI 0)] [] [] tv ?_))
   refine Bk ?_
   obtain ⟨hc1,hm⟩ := go1 hm
   refine DW.rangeO (fun (k1 : Nat) (s1 : List At) => Aj [(1,pI p1),(2,rr 1016),(4,rr 1032),(8,rr 1064),(9,pI ((k1 : Nat) : Int))] [(AbM p0),(Acq),(1064,bx [ow 1208 r5.nodes.length,pI r5.next,ow 1448 s1.length,pI p0.next]),(1208,ob0 (Ag r5.nodes)),(1448,ob0 (Ar s1))]) Bq hm (Conv.ads [(.o 1064 2,1448,4,elems Ay Bq [])]) ?_
   intro k1 s1 n1 hk1 hs1 he1
   refine Sq (Sq (RD hnt (nn 5 []) [] [(34,pB (decide (((k1 : Nat) : Int) < ((p0.tasks.length : Nat) : Int))))] [] [] tv ?_))
   refine Cj (decide (((k1 : Nat) : Int) < ((p0.tasks.length : Nat) : Int))) ?_ ?_
   ·intro h15
    have hlt1 : k1 < p0.tasks.length := by have := of_decide_eq_true h15; omega
    have hm := hs1 hlt1
    unfold Uo at hm
    refine Sk ?_
    refine Sq ?_
    refine Jn (ι := List At) (fun (y3 : List At) => Aj [(1,pI p1),(2,rr 1016),(4,rr 1032),(8,rr 1064),(9,pI ((k1 : Nat) : Int))] [(AbM p0),(Acq),(1064,bx [ow 1208 r5.nodes.length,pI r5.next,ow 1448 y3.length,pI p0.next]),(1208,ob0 (Ag r5.nodes)),(1448,ob0 (Ar y3))]) (fun y3 => (Qz n1) y3 = some RES) ?_ ?_
    ·intro y3 hm
     unfold Qz at hm
     refine RD hnt (nn 3 []) [] [(9,pI (w64 (((k1 : Nat) : Int) + 1)))] [] [] tv ?_
     exact jD y3 ⟨hlt1,hm⟩ (Conv.tp [(9,pI (w64 (((k1 : Nat) : Int) + 1)))] [] (by kernel_rfl) (.cons rfl (.of_eq (congrArg pI (Bn hlt1 hc1))) .nil) .nil)
    ·refine Bk ?_
     refine Sq (RD hnt (nn 7 []) [34] [(10,rr 1080)] [] [(1080,bx (pm (Ay (Fb p0 k1))))] (an (nn0 k1) (an (ltc hlt1) tv)) ?_)
     refine Sq (DW.regJ (sl2 := [(1,pI p1),(2,rr 1016),(4,rr 1032),(8,rr 1064),(9,pI ((k1 : Nat) : Int)),(10,rr 1080),(51,pB (((Fb p0 k1).id != p1) && ((Fb p0 k1).process != p1)))]) (ob2 := [(AbM p0),(Acq),(1064,bx [ow 1208 r5.nodes.length,pI r5.next,ow 1448 s1.length,pI p0.next]),(1080,bx (pm (Ay (Fb p0 k1)))),(1208,ob0 (Ag r5.nodes)),(1448,ob0 (Ar s1))]) ?_ ?_)
     ·rcases bt ((Fb p0 k1).id != p1) with h16 | h16
      ·exact RT hnt (nn 9 (pT :: [])) [(51,pB ((Fb p0 k1).process != p1))] (an5 h16 tv) (by kernel_rfl) (.cons rfl (.of_eq (by rw [h16]; try rfl)) .nil)
      ·exact RT hnt (nn 5 (sk 4 (pF :: []))) [(51,pB false)] (an5 h16 tv) (by kernel_rfl) (.cons rfl (.of_eq (by rw [h16]; try rfl)) .nil)
     ·refine Af hm ?_ ?_
      ·intro h17 hm
       obtain ⟨g18,hm⟩ := go1 hm
       refine RN hnt (nn 7 []) [(1,pI p1),(2,rr 1016),(4,rr 1032),(8,rr 1064),(9,pI ((k1 : Nat) : Int))] [(AbM p0),(Acq),(1064,bx [ow 1208 r5.nodes.length,pI r5.next,ow 1448 (s1 ++ [(Fb p0 k1)]).length,pI p0.next]),(1208,ob0 (Ag r5.nodes)),(1448,ob0 (Ar (s1 ++ [(Fb p0 k1)])))] [] [(1064,.box [ow 1208 r5.nodes.length,pI r5.next,ow 1448 (s1.length + 1),pI p0.next]),(1448,.row 4 (s1.length + 1) (Dq s1.length (Aao s1) (cut 4 [vi (Fb p0 k1).id,vi (Fb p0 k1).process,vi (Fb p0 k1).group,vi (Fb p0 k1).user])))] (an (by omega : (s1.length + 1) * 32 ≤ 140737488355328) tv) (by kernel_rfl) .nil (.cons rfl (.box (.cons .rfl (.cons .rfl (.cons (MLe.ownLen (enc := Ay) (d := Bq) (f := (Dq s1.length (Aao s1) (cut 4 [vi (Fb p0 k1).id,vi (Fb p0 k1).process,vi (Fb p0 k1).group,vi (Fb p0 k1).user]))) (RowIs.cat RowIs.elems (RowIs.lit (enc := Ay) (d := Bq) (n := 1) (f := (cut 4 [vi (Fb p0 k1).id,vi (Fb p0 k1).process,vi (Fb p0 k1).group,vi (Fb p0 k1).user])) [(Fb p0 k1)] rfl (fun | 0,_ => rfl | n + 1,h => absurd h (by omega))))) (.cons .rfl .nil))))) (.cons rfl (BLe.typed (RowIs.cat RowIs.elems (RowIs.lit (enc := Ay) (d := Bq) (n := 1) (f := (cut 4 [vi (Fb p0 k1).id,vi (Fb p0 k1).process,vi (Fb p0 k1).group,vi (Fb p0 k1).user])) [(Fb p0 k1)] rfl (fun | 0,_ => rfl | n + 1,h => absurd h (by omega))))) .nil)) ?_
       exact bD (s1 ++ [(Fb p0 k1)]) hm .refl
      ·intro h17 hm
       refine Sk ?_
       exact bD s1 hm Conv.t0
   ·intro h15
    have hge1 : ¬ k1 < p0.tasks.length := by have := of_decide_eq_false h15; omega
    have hm := he1 hge1
    unfold Ul at hm
    refine DW.exit ?_
    refine An ?_
    refine Aw ?_
    refine Ak ?_
    show DW _ _ _ _ _
    refine Sq (RD hnt (nn 3 []) [1,2,8,9,34] [(5,pI 0)] [1016,1064] [(1032,bx [ow 1208 r5.nodes.length,pI r5.next,ow 1448 s1.length,pI p0.next])] tv ?_)
    obtain rfl := sj hm
    exact DW.ret (Ai [Ag r5.nodes,Ar s1] [1208,1448] (.tup [.agg [ow 0 r5.nodes.length,pI r5.next,ow 1 s1.length,pI p0.next],pI 0]))
abbrev o113 (ks : List Nat) (b : Bool) (RES : Aa × Int) (sm : List Nat := []) : Orc := .call 87 ks b (.tup [.agg [ow 0 RES.1.tree.nodes.length,pI RES.1.tree.next,ow 1 RES.1.tasks.length,pI RES.1.next],pI RES.2]) [] [Ag RES.1.tree.nodes,Ar RES.1.tasks] sm

abbrev AaW : Nat × Obj := (1048,bx [.p (.sl .nil 0 0 (fun _ => [])),pI 0,.p (.sl .nil 0 0 (fun _ => [])),pI 0])
theorem Yn (p0 : Ao) (p1 : Int) (p2 : Int) (RES : Aa × Ao) (hm : Ij p0 p1 p2 = some RES) : Spec Tryz.prog 16 [rr 0,pI p1,pI p2] [.box (pm (Al p0))] (.p (.agg (Ab RES.1))) [.box (pm (Al RES.2))] [] := by
 unfold Ij at hm
 refine SO Tryz.func16 rfl rfl [(0,rr 0),(1,pI p1),(2,pI p2)] [(0,bx (pm (Al p0)))] ?_
 intro cx hnt
 refine Sq (RD hnt (.no :: []) [] [(6,rr 1048)] [] [(AaW)] tv ?_)
 obtain ⟨r1,hr1,hm⟩ := bo hm
 refine Sq (RD hnt (o69 [] true r1 :: nn 2 []) [] [(7,rr 1056)] [] [(1056,bx [ow 1168 r1.tree.nodes.length,pI r1.tree.next,ow 1169 r1.tasks.length,pI r1.next]),(1168,ob0 (Ag r1.tree.nodes)),(1169,ob0 (Ar r1.tasks))] (an (AgE r1 hr1) tv) ?_)
 obtain ⟨r2,hr2,hm⟩ := bo hm
 refine Sq (RD hnt (nn 2 (o71 [0] true r2 :: nn 2 [])) [] [] [1168] [(0,bx (pm (Al r2.2))),(1056,bx [.p (Bb r2.1.nodes),pI r2.1.next,ow 1169 r1.tasks.length,pI r1.next])] (an (AbQ p0 p1 r2 hr2) (an tv tv)) ?_)
 obtain ⟨r3,hr3,hm⟩ := bo hm
 refine Sq (Sq (RD hnt (nn 3 (o72 [0] true r3 :: .no :: [])) [1] [(8,pI r3.1)] [] [(0,bx (pm (Al r3.2)))] (an (Bt r2.2 (w64 (p1 + 3)) r3 hr3) (an tv tv)) ?_))
 refine Bk ?_
 refine DW.whileO (fun (s1 : Ao × Aa × Int) => Aj [(0,rr 0),(2,pI p2),(6,rr 1048),(7,rr 1056),(8,pI s1.2.2)] [(0,bx (pm (Al s1.1))),(AaW),(1056,bx (pm (Ab s1.2.1)))]) hm (Conv.frz [1169]) ?_
 intro s1 n1 hm
 unfold Mo at hm
 refine Sq (Sq (RD hnt (nn 2 []) [] [(31,pB (decide (s1.2.2 > 0)))] [] [] tv ?_))
 refine Af hm ?_ ?_
 ·intro h56 hm
  refine Sk ?_
  refine Sq (Bk ?_)
  obtain ⟨r57,hr57,hm⟩ := bo hm
  refine RD hnt (nn 2 (o87 [0] true r57 :: .no :: [])) [31] [] [] [(0,bx (pm (Al r57.2))),(1056,bx (pm (Ab r57.1)))] (an (AbT s1.1 s1.2.1 r57 hr57) (an tv tv)) ?_
  refine DW.done ?_
  show DW _ _ _ _ _
  refine RD hnt (nn 3 []) [] [(8,pI (w64 (s1.2.2 - 1)))] [] [] tv ?_
  exact jD (r57.2,r57.1,(w64 (s1.2.2 - 1))) hm Conv.eqK
 ·intro h56 hm
  refine DW.exit ?_
  refine An ?_
  refine Aw ?_
  refine Ak ?_
  show DW _ _ _ _ _
  obtain ⟨r58,hr58,hm⟩ := bo hm
  refine Sq (Sq (RD hnt (nn 3 (o72 [0] true r58 :: .no :: [])) [2,8,31] [(9,pI r58.1)] [] [(0,bx (pm (Al r58.2)))] (an (Bt s1.1 (w64 (p2 + 1)) r58 hr58) (an tv tv)) ?_))
  refine Bk ?_
  refine DW.whileO (fun (s3 : Ao × Aa × Int) => Aj [(0,rr 0),(6,rr 1048),(7,rr 1056),(9,pI s3.2.2)] [(0,bx (pm (Al s3.1))),(AaW),(1056,bx (pm (Ab s3.2.1)))]) hm Conv.eqK ?_
  intro s3 n3 hm
  unfold Mx at hm
  refine Sq (Sq (RD hnt (nn 2 []) [] [(42,pB (decide (s3.2.2 > 0)))] [] [] tv ?_))
  refine Af hm ?_ ?_
  ·intro h82 hm
   refine Sk ?_
   refine Sq ?_
   refine Jn (ι := Ao × Aa) (fun (y13 : Ao × Aa) => Aj [(0,rr 0),(6,rr 1048),(7,rr 1056),(9,pI s3.2.2)] [(0,bx (pm (Al y13.1))),(AaW),(1056,bx (pm (Ab y13.2)))]) (fun y13 => (Dg s3 n3) y13 = some RES) ?_ ?_
   ·intro y13 hm
    unfold Dg at hm
    refine RD hnt (nn 3 []) [] [(9,pI (w64 (s3.2.2 - 1)))] [] [] tv ?_
    exact jD (y13.1,y13.2,(w64 (s3.2.2 - 1))) hm Conv.eqK
   ·refine Bk ?_
    obtain ⟨r83,hr83,hm⟩ := bo hm
    refine Sq (RD hnt (nn 3 (o88 [0] true r83 :: .no :: [])) [42] [(10,pI r83.1)] [] [(0,bx (pm (Al r83.2)))] (an (Lf s3.1 s3.2.1.tree r83 hr83) (an tv tv)) ?_)
    obtain ⟨r84,hr84,hm⟩ := bo hm
    refine Sq (Sq (RD hnt (nn 2 (o106 [] true r84 :: .no :: [])) [] [(52,pB (r84 != 0))] [] [] (an (Yr s3.2.1 r83.1 r84 hr84) tv) ?_))
    refine Af hm ?_ ?_
    ·intro h85 hm
     refine DW.exit ?_
     exact Ak (joinKQ (r83.2,s3.2.1) hm Conv.t0)
    ·intro h85 hm
     refine Sk ?_
     obtain ⟨r86,hr86,hm⟩ := bo hm
     obtain ⟨r87,hr87,hm⟩ := bo hm
     refine Sq (Sq (RD hnt (nn 3 (o72 [0] true r86 :: o107 [] true r87 :: nn 8 [])) [10,52] [(11,rr 1088),(13,pI r87.2.2)] [] [(0,bx (pm (Al r86.2))),(1088,bx [ow 1464 r87.1.tree.nodes.length,pI r87.1.tree.next,ow 1465 r87.1.tasks.length,pI r87.1.next]),(1464,ob0 (Ag r87.1.tree.nodes)),(1465,ob0 (Ar r87.1.tasks))] (an (Bt r83.2 3 r86 hr86) (an tv (an (AeJ s3.2.1 r83.1 r86.1 r87 hr87) tv))) ?_))
     refine Sq (RD hnt (nn 2 []) [13] [(63,pB (r87.2.2 == 0))] [] [] tv ?_)
     refine Jn (ι := Aa) (fun (y14 : Aa) => Aj [(0,rr 0),(6,rr 1048),(7,rr 1056),(9,pI s3.2.2)] [(0,bx (pm (Al r86.2))),(AaW),(1056,bx (pm (Ab y14)))]) (fun y14 => (Fu s3 n3 r86) y14 = some RES) ?_ ?_
     ·intro y14 hm
      unfold Fu at hm
      obtain ⟨r89,hr89,hm⟩ := bo hm
      refine Sq (Sq (RD hnt (.no :: o84 [0] true r89 :: []) [] [(66,pB r89.1)] [] [(0,bx (pm (Al r89.2)))] (an (Ed r86.2 3 r89 hr89) (an tv tv)) ?_))
      refine Jn (ι := Ao × Aa) (fun (y15 : Ao × Aa) => Aj [(0,rr 0),(6,rr 1048),(7,rr 1056),(9,pI s3.2.2)] [(0,bx (pm (Al y15.1))),(AaW),(1056,bx (pm (Ab y15.2)))]) (fun y15 => (Em s3 n3) y15 = some RES) ?_ ?_
      ·intro y15 hm
       unfold Em at hm
       obtain ⟨r94,hr94,hm⟩ := bo hm
       refine Sq (Sq (RD hnt (.no :: o84 [0] true r94 :: []) [] [(80,pB r94.1)] [] [(0,bx (pm (Al r94.2)))] (an (Ed y15.1 4 r94 hr94) (an tv tv)) ?_))
       refine Jn (ι := Ao × Aa) (fun (y16 : Ao × Aa) => Aj [(0,rr 0),(6,rr 1048),(7,rr 1056),(9,pI s3.2.2)] [(0,bx (pm (Al y16.1))),(AaW),(1056,bx (pm (Ab y16.2)))]) (fun y16 => (Eo s3 n3) y16 = some RES) ?_ ?_
       ·intro y16 hm
        unfold Eo at hm
        obtain ⟨r100,hr100,hm⟩ := bo hm
        refine Sq (RD hnt (.no :: o84 [0] true r100 :: []) [] [(97,pB r100.1)] [] [(0,bx (pm (Al r100.2)))] (an (Ed y16.1 8 r100 hr100) (an tv tv)) ?_)
        refine Af hm ?_ ?_
        ·intro h101 hm
         obtain ⟨r102,hr102,hm⟩ := bo hm
         obtain ⟨r103,hr103,hm⟩ := bo hm
         refine Sq (RD hnt (nn 3 (o109 [0] true r102 :: o113 [] true r103 :: nn 6 [])) [97] [(19,rr 1152),(20,pI r103.2)] [] [(0,bx (pm (Al r102.2))),(1152,bx [ow 1824 r103.1.tree.nodes.length,pI r103.1.tree.next,ow 1825 r103.1.tasks.length,pI r103.1.next]),(1824,ob0 (Ag r103.1.tree.nodes)),(1825,ob0 (Ar r103.1.tasks))] (an (Pg r100.2 y16.2 r102 hr102) (an tv (an (Afx y16.2 r102.1 r103 hr103) tv))) ?_)
         refine Sq (RD hnt (nn 2 []) [20] [(107,pB (r103.2 == 0))] [] [] tv ?_)
         refine Af hm ?_ ?_
         ·intro h104 hm
          refine RD hnt (nn 2 []) [19,107] [] [1152] [(1056,bx [ow 1824 r103.1.tree.nodes.length,pI r103.1.tree.next,ow 1825 r103.1.tasks.length,pI r103.1.next])] tv ?_
          exact bD (r102.2,r103.1) hm (Conv.frz [1824,1825])
         ·intro h104 hm
          refine Sk ?_
          exact bD (r102.2,y16.2) hm Conv.t0
        ·intro h101 hm
         refine Sk ?_
         exact bD (r100.2,y16.2) hm Conv.t0
       ·refine Af hm ?_ ?_
        ·intro h95 hm
         obtain ⟨r96,hr96,hm⟩ := bo hm
         obtain ⟨r97,hr97,hm⟩ := bo hm
         obtain ⟨r98,hr98,hm⟩ := bo hm
         refine Sq (RD hnt (nn 3 (o109 [0] true r96 :: nn 3 (o88 [0] true r97 :: o111 [] true r98 :: nn 6 []))) [80] [(17,rr 1136),(18,pI r98.2)] [] [(0,bx (pm (Al r97.2))),(1136,bx [ow 1720 r98.1.tree.nodes.length,pI r98.1.tree.next,ow 1721 r98.1.tasks.length,pI r98.1.next]),(1720,ob0 (Ag r98.1.tree.nodes)),(1721,ob0 (Ar r98.1.tasks))] (an (Pg r94.2 y15.2 r96 hr96) (an tv (an (Lf r96.2 y15.2.tree r97 hr97) (an tv (an (Aam y15.2 r96.1 r97.1 r98 hr98) tv))))) ?_)
         refine Sq (RD hnt (nn 2 []) [18] [(94,pB (r98.2 == 0))] [] [] tv ?_)
         refine Af hm ?_ ?_
         ·intro h99 hm
          refine RD hnt (nn 2 []) [17,94] [] [1136] [(1056,bx [ow 1720 r98.1.tree.nodes.length,pI r98.1.tree.next,ow 1721 r98.1.tasks.length,pI r98.1.next])] tv ?_
          exact jD (r97.2,r98.1) hm (Conv.frz [1720,1721])
         ·intro h99 hm
          refine Sk ?_
          exact jD (r97.2,y15.2) hm Conv.t0
        ·intro h95 hm
         refine Sk ?_
         exact jD (r94.2,y15.2) hm Conv.t0
      ·refine Af hm ?_ ?_
       ·intro h90 hm
        obtain ⟨r91,hr91,hm⟩ := bo hm
        obtain ⟨r92,hr92,hm⟩ := bo hm
        refine Sq (RD hnt (nn 3 (o109 [0] true r91 :: o110 [] true r92 :: nn 8 [])) [66] [(14,rr 1112),(16,pI r92.2.2)] [] [(0,bx (pm (Al r91.2))),(1112,bx [ow 1576 r92.1.tree.nodes.length,pI r92.1.tree.next,ow 1577 r92.1.tasks.length,pI r92.1.next]),(1576,ob0 (Ag r92.1.tree.nodes)),(1577,ob0 (Ar r92.1.tasks))] (an (Pg r89.2 y14 r91 hr91) (an tv (an (Afb y14 r91.1 r92 hr92) tv))) ?_)
        refine Sq (RD hnt (nn 2 []) [16] [(77,pB (r92.2.2 == 0))] [] [] tv ?_)
        refine Af hm ?_ ?_
        ·intro h93 hm
         refine RD hnt (nn 2 []) [14,77] [] [1112] [(1056,bx [ow 1576 r92.1.tree.nodes.length,pI r92.1.tree.next,ow 1577 r92.1.tasks.length,pI r92.1.next])] tv ?_
         exact jD (r91.2,r92.1) hm (Conv.frz [1576,1577])
        ·intro h93 hm
         refine Sk ?_
         exact jD (r91.2,y14) hm Conv.t0
       ·intro h90 hm
        refine Sk ?_
        exact jD (r89.2,y14) hm Conv.t0
     ·refine Af hm ?_ ?_
      ·intro h88 hm
       refine RD hnt (nn 2 []) [11,63] [] [1088] [(1056,bx [ow 1464 r87.1.tree.nodes.length,pI r87.1.tree.next,ow 1465 r87.1.tasks.length,pI r87.1.next])] tv ?_
       exact jD r87.1 hm (Conv.frz [1464,1465])
      ·intro h88 hm
       refine Sk ?_
       exact jD s3.2.1 hm Conv.t0
  ·intro h82 hm
   refine DW.exit ?_
   refine An ?_
   refine Aw ?_
   refine Ak ?_
   show DW _ _ _ _ _
   refine Sq (RD hnt (nn 2 []) [0,7,9,42] [] [1056] [(1048,bx (pm (Ab s3.2.1)))] tv ?_)
   obtain rfl := sj hm
   exact DW.ret (Ai [.box (pm (Al s3.1))] [] (.p (.agg (Ab s3.2.1))))
abbrev o68 (ks : List Nat) (b : Bool) (RES : Aa × Ao) (sm : List Nat := []) : Orc := .call 16 ks b (.p (.agg (Ab RES.1))) [.box (pm (Al RES.2))] [] sm

abbrev Rb (p1 : Aa) (k1 : Nat) := (p1.tasks.getD k1 (default : At))
abbrev Acj (p1 : Aa) : Nat × Obj := (1032,bx (pm (Ab p1)))
theorem AbB (p0 : Ao) (p1 : Aa) (p2 : Bool) (RES : (List Int) × Ao) (hm : Lz p0 p1 p2 = some RES) : Spec Tryz.prog 56 [rr 0,.p (.agg (Ab p1)),pB p2] [.box (pm (Al p0))] (ow 1 RES.1.length) [.box (pm (Al RES.2))] [roI RES.1] := by
 unfold Lz at hm
 refine SO Tryz.func56 rfl rfl [(0,rr 0),(1,.p (.agg (Ab p1))),(2,pB p2)] [(0,bx (pm (Al p0)))] ?_
 intro cx hnt
 refine Sq (RD hnt (nn 2 []) [1] [(4,rr 1032)] [] [(Acj p1)] tv ?_)
 refine Sq (RD hnt (.no :: []) [] [(7,.p (.sl .nil 0 0 (fun _ => [])))] [] [] tv ?_)
 refine Sq (Sq (RD hnt (.no :: []) [] [(8,pI 0)] [] [] tv ?_))
 refine Bk ?_
 obtain ⟨hc1,hm⟩ := go1 hm
 refine DW.rangeO (fun (k1 : Nat) (s1 : Ao × (List Int)) => Aj [(0,rr 0),(2,pB p2),(4,rr 1032),(7,ow 1240 s1.2.length),(8,pI ((k1 : Nat) : Int))] [(0,bx (pm (Al s1.1))),(Acj p1),(1240,ob0 (roI s1.2))]) Bq hm (Conv.ads [(.s 7,1240,1,elems Bo 0 [])]) ?_
 intro k1 s1 n1 hk1 hs1 he1
 refine Sq (Sq (RD hnt (nn 5 []) [] [(13,pB (decide (((k1 : Nat) : Int) < ((p1.tasks.length : Nat) : Int))))] [] [] tv ?_))
 refine Cj (decide (((k1 : Nat) : Int) < ((p1.tasks.length : Nat) : Int))) ?_ ?_
 ·intro h12
  have hlt1 : k1 < p1.tasks.length := by have := of_decide_eq_true h12; omega
  have hm := hs1 hlt1
  unfold Qo at hm
  refine Sk ?_
  refine Sq ?_
  refine Jn (ι := Ao × (List Int)) (fun (y5 : Ao × (List Int)) => Aj [(0,rr 0),(2,pB p2),(4,rr 1032),(7,ow 1240 y5.2.length),(8,pI ((k1 : Nat) : Int))] [(0,bx (pm (Al y5.1))),(Acj p1),(1240,ob0 (roI y5.2))]) (fun y5 => (Jw n1) y5 = some RES) ?_ ?_
  ·intro y5 hm
   unfold Jw at hm
   refine RD hnt (nn 3 []) [] [(8,pI (w64 (((k1 : Nat) : Int) + 1)))] [] [] tv ?_
   exact jD (y5.1,y5.2) ⟨hlt1,hm⟩ (Conv.tp [(8,pI (w64 (((k1 : Nat) : Int) + 1)))] [] (by kernel_rfl) (.cons rfl (.of_eq (congrArg pI (Bn hlt1 hc1))) .nil) .nil)
  ·refine Bk ?_
   refine Sq ?_
   refine Jn (ι := Ao × Bool) (fun (y6 : Ao × Bool) => Aj [(0,rr 0),(2,pB p2),(4,rr 1032),(7,ow 1240 s1.2.length),(8,pI ((k1 : Nat) : Int)),(21,pB y6.2)] [(0,bx (pm (Al y6.1))),(Acj p1),(1240,ob0 (roI s1.2))]) (fun y6 => (Ie (Rb p1 k1) s1 n1) y6 = some RES) ?_ ?_
   ·intro y6 hm
    unfold Ie at hm
    refine Af hm ?_ ?_
    ·intro h15 hm
     obtain ⟨g16,hm⟩ := go1 hm
     refine RN hnt (nn 10 []) [(0,rr 0),(2,pB p2),(4,rr 1032),(7,ow 1240 (s1.2 ++ [(Rb p1 k1).id]).length),(8,pI ((k1 : Nat) : Int))] [(0,bx (pm (Al y6.1))),(Acj p1),(1240,ob0 (roI (s1.2 ++ [(Rb p1 k1).id])))] [(7,ow 1240 (s1.2.length + 1))] [(1240,.row 1 (s1.2.length + 1) (Dq s1.2.length (elI s1.2) (cut 1 [vi (Rb p1 k1).id])))] (an (nn0 k1) (an (ltc hlt1) (an (by omega : (s1.2.length + 1) * 8 ≤ 140737488355328) tv))) (by kernel_rfl) (.cons rfl (MLe.ownLen (enc := Bo) (d := 0) (f := (Dq s1.2.length (elI s1.2) (cut 1 [vi (Rb p1 k1).id]))) (RowIs.cat RowIs.elems (RowIs.lit (enc := Bo) (d := 0) (n := 1) (f := (cut 1 [vi (Rb p1 k1).id])) [(Rb p1 k1).id] rfl (fun | 0,_ => rfl | n + 1,h => absurd h (by omega))))) .nil) (.cons rfl (BLe.typed (RowIs.cat RowIs.elems (RowIs.lit (enc := Bo) (d := 0) (n := 1) (f := (cut 1 [vi (Rb p1 k1).id])) [(Rb p1 k1).id] rfl (fun | 0,_ => rfl | n + 1,h => absurd h (by omega))))) .nil) ?_
     exact bD (y6.1,(s1.2 ++ [(Rb p1 k1).id])) hm .refl
    ·intro h15 hm
     refine Sk ?_
     exact bD (y6.1,s1.2) hm Conv.t0
   ·rcases bt p2 with h13 | h13
    ·replace hm := Bd h13 hm
     refine RD hnt (nn 2 (sk 3 (pT :: []))) [13] [(21,pB true)] [] [] (an4 h13 tv) ?_
     exact jD (s1.1,true) hm Conv.eqK
    ·replace hm := Be h13 hm
     obtain ⟨r14,hr14,hm⟩ := bo hm
     refine RD hnt (nn 3 (o72 [0] true r14 :: .no :: pF :: [])) [13] [(21,pB (decide (r14.1 > 0)))] [] [(0,bx (pm (Al r14.2)))] (an2 h13 (an (Bt s1.1 4 r14 hr14) (an tv (an2 h13 tv)))) ?_
     exact jD (r14.2,(decide (r14.1 > 0))) hm Conv.eqK
 ·intro h12
  have hge1 : ¬ k1 < p1.tasks.length := by have := of_decide_eq_false h12; omega
  have hm := he1 hge1
  unfold Vx at hm
  refine DW.exit ?_
  refine An ?_
  refine Aw ?_
  refine Ak ?_
  show DW _ _ _ _ _
  refine Sq (RD hnt (nn 2 []) [0,2,4,7,8,13] [(6,ow 1240 s1.2.length)] [1032] [] tv ?_)
  obtain rfl := sj hm
  exact DW.ret (Ai [.box (pm (Al s1.1)),roI s1.2] [1240] (ow 1 s1.2.length))
abbrev o114 (ks : List Nat) (b : Bool) (RES : (List Int) × Ao) (sm : List Nat := []) : Orc := .call 56 ks b (ow 1 RES.1.length) [.box (pm (Al RES.2))] [roI RES.1] sm
end Go.Dm


/- Go functions compute their models, printed by a program. -/
namespace Go.Dm
open Go.Proofs
set_option linter.unusedVariables false
theorem AgO (p0 : List Int) (p1 : Int) (RES : Bool) (hm : Md p0 p1 = some RES) : Spec Tryz.prog 46 [.p (slI p0),pI p1] [] (pB RES) [] [] := by
 unfold Md at hm
 refine SO Tryz.func46 rfl rfl [(0,.p (slI p0)),(1,pI p1)] [] ?_
 intro cx hnt
 refine Sq (RD hnt (.no :: []) [] [] [] [] tv ?_)
 refine Sq (Sq (RD hnt (.no :: []) [] [(5,pI 0)] [] [] tv ?_))
 refine Bk ?_
 obtain ⟨hc1,hm⟩ := go1 hm
 refine DW.rangeO (fun (k1 : Nat) (s1 : Unit) => Aj [(0,.p (slI p0)),(1,pI p1),(5,pI ((k1 : Nat) : Int))] []) 0 hm Conv.eqK ?_
 intro k1 s1 n1 hk1 hs1 he1
 refine Sq (Sq (RD hnt (nn 4 []) [] [(9,pB (decide (((k1 : Nat) : Int) < ((p0.length : Nat) : Int))))] [] [] tv ?_))
 refine Cj (decide (((k1 : Nat) : Int) < ((p0.length : Nat) : Int))) ?_ ?_
 ·intro h7
  have hlt1 : k1 < p0.length := by have := of_decide_eq_true h7; omega
  have hm := hs1 hlt1
  unfold AdZ at hm
  refine Sk ?_
  refine Sq (Bk ?_)
  refine Sq (RD hnt (nn 6 []) [9] [(17,pB ((p0.getD k1 0) == p1))] [] [] (an (nn0 k1) (an (ltc hlt1) tv)) ?_)
  refine Af hm ?_ ?_
  ·intro h8 hm
   refine Sq (RK hnt (.no :: []) [(4,pB true)] [] tv ?_)
   obtain rfl := sj hm
   exact DW.ret (Ai [] [] (pB true))
  ·intro h8 hm
   refine Sk ?_
   refine DW.done ?_
   show DW _ _ _ _ _
   refine RD hnt (nn 3 []) [17] [(5,pI (w64 (((k1 : Nat) : Int) + 1)))] [] [] tv ?_
   exact jD () ⟨hlt1,hm⟩ (Conv.tp [(5,pI (w64 (((k1 : Nat) : Int) + 1)))] [] (by kernel_rfl) (.cons rfl (.of_eq (congrArg pI (Bn hlt1 hc1))) .nil) .nil)
 ·intro h7
  have hge1 : ¬ k1 < p0.length := by have := of_decide_eq_false h7; omega
  have hm := he1 hge1
  unfold AeB at hm
  refine DW.exit ?_
  refine An ?_
  refine Aw ?_
  refine Ak ?_
  show DW _ _ _ _ _
  refine Sq (RK hnt (.no :: []) [(4,pB false)] [] tv ?_)
  obtain rfl := sj hm
  exact DW.ret (Ai [] [] (pB false))
abbrev o115 (ks : List Nat) (b : Bool) (RES : Bool) (sm : List Nat := []) : Orc := .call 46 ks b (pB RES) [] [] sm

theorem Vv (p0 : Ae) (p1 : Ac) (p2 : Int) (RES : Bool) (hm : Ll p0 p1 p2 = some RES) : Spec Tryz.prog 59 [.p (.agg (Aq p0)),.p (.agg (Az p1)),pI p2] [] (pB RES) [] [] := by
 unfold Ll at hm
 refine SO Tryz.func59 rfl rfl [(0,.p (.agg (Aq p0))),(1,.p (.agg (Az p1))),(2,pI p2)] [] ?_
 intro cx hnt
 refine Sq (RK hnt (nn 3 []) [(2,pI p2),(3,rr 1024),(4,rr 1032)] [(1024,bx (pm (Aq p0))),(1032,bx (pm (Az p1)))] tv ?_)
 obtain ⟨r1,hr1,hm⟩ := bo hm
 refine Sq ?_
 refine Jn (ι := Bool) (fun (y1 : Bool) => Aj [(6,pB y1)] []) (fun y1 => Pb y1 = some RES) ?_ ?_
 ·intro y1 hm
  unfold Pb at hm
  obtain rfl := sj hm
  exact DW.ret (Ai [] [] (pB y1))
 ·rcases bt r1 with h2 | h2
  ·replace hm := Bd h2 hm
   obtain ⟨r3,hr3,hm⟩ := bo hm
   refine RK hnt (.no :: o7 [] true r1 :: nn 4 (o23 [] true r3 :: pT :: .no :: [])) [(6,pB r3)] [] (an (Tw p0 r1 hr1) (an4 h2 (an (Ik p0 p1 p2 r3 hr3) (an h2 tv)))) ?_
   exact jD r3 hm .refl
  ·replace hm := Be h2 hm
   refine RK hnt (.no :: o7 [] true r1 :: .no :: sk 4 (pF :: .no :: [])) [(6,pB false)] [] (an (Tw p0 r1 hr1) (an5 h2 tv)) ?_
   exact jD false hm .refl
abbrev o116 (ks : List Nat) (b : Bool) (RES : Bool) (sm : List Nat := []) : Orc := .call 59 ks b (pB RES) [] [] sm

abbrev Lh (r5 : Aa × Ao) (k28 : Nat) := (r5.1.tree.nodes.getD k28 (default : Ah))
abbrev Vi (r5 : Aa × Ao) : Nat × Obj := (1032,bx (pm (Ab r5.1)))
abbrev c1e3 (y221 : Ac × Ao × Int) : Nat × Obj := (1176,bx (pm (Al y221.2.1)))
abbrev c1e4 (y222 : Ac) : Nat × Obj := (1040,bx (pm (Az y222)))
abbrev c1e5 (k28 : Nat) : Nat × MV := (9,pI ((k28 : Nat) : Int))
abbrev c1e6 (r5 : Aa × Ao) (k40 : Nat) := (r5.1.tasks.getD k40 (default : At))
abbrev c1e7 (k37 : Nat) : Nat × MV := (14,pI (w64 (((k37 : Nat) : Int) + 1)))
theorem AaB (p0 : List Int) (RES : Bool) (hm : Jx p0 = some RES) : Spec Tryz.prog 6 [.p (slI p0)] [] (pB RES) [] [] := by
 unfold Jx at hm
 refine SO Tryz.func6 rfl rfl [(0,.p (slI p0))] [] ?_
 intro cx hnt
 refine Sq (RK hnt (.no :: []) [(0,.p (slI p0))] [] tv ?_)
 obtain ⟨r1,hr1,hm⟩ := bo hm
 refine Sq (Sq (RD hnt (.no :: o2 [] true r1 :: .no :: []) [] [(19,pB (!r1))] [] [] (an (AeD p0 r1 hr1) tv) ?_))
 refine Af hm ?_ ?_
 ·intro h2 hm
  obtain ⟨r3,hr3,hm⟩ := bo hm
  refine Sq (RK hnt (o3 [] true r3 :: .no :: []) [(2,pB r3)] [] (an (Aas r3 hr3) tv) ?_)
  obtain rfl := sj hm
  exact DW.ret (Ai [] [] (pB r3))
 ·intro h2 hm
  refine Sk ?_
  obtain ⟨r4,hr4,hm⟩ := bo hm
  refine Sq (RK hnt (.no :: o67 [] true r4 :: .no :: []) [(3,rr 1176)] [(1176,bx (pm (Al r4)))] (an (AfM p0 r4 hr4) tv) ?_)
  obtain ⟨r5,hr5,hm⟩ := bo hm
  refine Sq (RK hnt (.no :: o68 [1176] true r5 :: nn 2 []) [(3,rr 1176),(4,rr 1032)] [(Vi r5),(1176,bx (pm (Al r5.2)))] (an (Yn r4 6 6 r5 hr5) (an tv tv)) ?_)
  obtain ⟨r6,hr6,hm⟩ := bo hm
  refine Sq (RD hnt (.no :: o5 [] true r6 :: nn 2 []) [] [(5,rr 1040)] [] [(1040,bx [ow 1208 r6.frosts.length,ow 1209 r6.stopped.length]),(1208,ob0 (As r6.frosts)),(1209,ob0 (roI r6.stopped))] (an (Tz r5.1 r6 hr6) tv) ?_)
  refine Sq (Sq (RD hnt (.no :: []) [] [(6,pI 0)] [] [] tv ?_))
  refine Bk ?_
  refine DW.forO (fun (k1 : Int) (s1 : Ac × Ao) => Aj [(3,rr 1176),(4,rr 1032),(5,rr 1040),(6,pI k1)] [(Vi r5),(1040,bx (pm (Az s1.1))),(1176,bx (pm (Al s1.2)))]) (lo := 0) (hi := 10) hm (Conv.frz [1208,1209]) ?_
  intro k1 s1 n1 hk1 hs1 he1
  refine Sq (Sq (RD hnt (nn 2 []) [] [(28,pB (decide (k1 < 10)))] [] [] tv ?_))
  refine Cj (decide (k1 < 10)) ?_ ?_
  ·intro h1415
   have hlt1 : k1 < 10 := by have := of_decide_eq_true h1415; omega
   have hm := hs1 hlt1
   unfold Ot at hm
   refine Sk ?_
   refine Sq (Bk ?_)
   obtain ⟨r1416,hr1416,hm⟩ := bo hm
   obtain ⟨r1417,hr1417,hm⟩ := bo hm
   refine Sq (RD hnt (nn 4 (o114 [1176] true r1416 :: o43 [] false r1417 :: nn 6 [])) [28] [(7,rr 1056),(8,pI r1417.2)] [] [(1056,bx [ow 1296 r1417.1.frosts.length,ow 1297 r1417.1.stopped.length]),(1176,bx (pm (Al r1416.2))),(1296,ob0 (As r1417.1.frosts)),(1297,ob0 (roI r1417.1.stopped))] (an (AbB s1.2 r5.1 false r1416 hr1416) (an tv (an (Sr r5.1 s1.1 r1416.1 r1417 hr1417) tv))) ?_)
   obtain ⟨r1418,hr1418,hm⟩ := bo hm
   refine Sq (Sq (RD hnt (.no :: o84 [1176] true r1418 :: []) [] [(41,pB r1418.1)] [] [(1176,bx (pm (Al r1418.2)))] (an (Ed r1416.2 2 r1418 hr1418) (an tv tv)) ?_))
   refine Jn (ι := Ac × Ao × Int) (fun (y221 : Ac × Ao × Int) => Aj [(3,rr 1176),(4,rr 1032),(5,rr 1040),(6,pI k1),(7,rr 1056),(8,pI y221.2.2)] [(Vi r5),(1040,bx (pm (Az s1.1))),(1056,bx (pm (Az y221.1))),(c1e3 y221)]) (fun y221 => (Ge r5 s1 n1) y221 = some RES) ?_ ?_
   ·intro y221 hm
    unfold Ge at hm
    refine Sq (Sq (RD hnt (nn 2 []) [8] [(56,pB (y221.2.2 == 0))] [] [] tv ?_))
    refine Jn (ι := Ac) (fun (y222 : Ac) => Aj [(3,rr 1176),(4,rr 1032),(5,rr 1040),(6,pI k1)] [(Vi r5),(c1e4 y222),(c1e3 y221)]) (fun y222 => (Gg r5 n1 y221) y222 = some RES) ?_ ?_
    ·intro y222 hm
     unfold Gg at hm
     refine Sq (RD hnt (.no :: []) [] [(9,pI 0)] [] [] tv ?_)
     refine Bk ?_
     obtain ⟨hc28,hm⟩ := go1 hm
     refine DW.rangeO (fun (k28 : Nat) (s28 : Unit) => Aj [(3,rr 1176),(4,rr 1032),(5,rr 1040),(6,pI k1),(c1e5 k28)] [(Vi r5),(c1e4 y222),(c1e3 y221)]) Bh hm Conv.eqK ?_
     intro k28 s28 n28 hk28 hs28 he28
     refine Sq (Sq (RD hnt (nn 6 []) [] [(63,pB (decide (((k28 : Nat) : Int) < ((r5.1.tree.nodes.length : Nat) : Int))))] [] [] tv ?_))
     refine Cj (decide (((k28 : Nat) : Int) < ((r5.1.tree.nodes.length : Nat) : Int))) ?_ ?_
     ·intro h1892
      have hlt28 : k28 < r5.1.tree.nodes.length := by have := of_decide_eq_true h1892; omega
      have hm := hs28 hlt28
      unfold Kf at hm
      refine Sk ?_
      refine Sq (Bk ?_)
      refine Sq (RD hnt (nn 8 []) [63] [(10,pI (Lh r5 k28).id)] [] [] (an (nn0 k28) (an (ltc hlt28) tv)) ?_)
      refine Sq (RD hnt (nn 2 []) [] [(11,pB false),(12,pB true)] [] [] tv ?_)
      obtain ⟨r1893,hr1893,hm⟩ := bo hm
      refine Sq (RD hnt (nn 3 (o82 [] true r1893 :: .no :: [])) [] [(13,ow 1608 r1893.length)] [] [(1608,ob0 (roI r1893))] (an (Lu r5.1.tree (Lh r5 k28).id r1893 hr1893) tv) ?_)
      refine Sq (Sq (RD hnt (.no :: []) [] [(14,pI 0)] [] [] tv ?_))
      refine Bk ?_
      obtain ⟨hc37,hm⟩ := go1 hm
      refine DW.rangeO (fun (k37 : Nat) (s37 : Bool) => Aj [(3,rr 1176),(4,rr 1032),(5,rr 1040),(6,pI k1),(c1e5 k28),(10,pI (Lh r5 k28).id),(11,pB s37),(12,pB true),(13,ow 1608 r1893.length),(14,pI ((k37 : Nat) : Int))] [(Vi r5),(c1e4 y222),(c1e3 y221),(1608,ob0 (roI r1893))]) 0 hm Conv.eqK ?_
      intro k37 s37 n37 hk37 hs37 he37
      refine Sq (Sq (RD hnt (nn 4 []) [] [(80,pB (decide (((k37 : Nat) : Int) < ((r1893.length : Nat) : Int))))] [] [] tv ?_))
      refine Cj (decide (((k37 : Nat) : Int) < ((r1893.length : Nat) : Int))) ?_ ?_
      ·intro h2040
       have hlt37 : k37 < r1893.length := by have := of_decide_eq_true h2040; omega
       have hm := hs37 hlt37
       unfold Ns at hm
       refine Sk ?_
       refine Sq (Bk ?_)
       rcases bt s37 with h2041 | h2041
       ·replace hm := Bd h2041 hm
        refine RD hnt (nn 2 (sk 7 (pT :: .no :: []))) [80] [(11,pB true)] [] [] (an2 h2041 (an6 h2041 tv)) ?_
        refine DW.done ?_
        show DW _ _ _ _ _
        refine RD hnt (nn 3 []) [] [(c1e7 k37)] [] [] tv ?_
        exact jD true ⟨hlt37,hm⟩ (Conv.tp [(c1e7 k37)] [] (by kernel_rfl) (.cons rfl (.of_eq (congrArg pI (Bn hlt37 hc37))) .nil) .nil)
       ·replace hm := Be h2041 hm
        obtain ⟨r2042,hr2042,hm⟩ := bo hm
        refine RD hnt (nn 7 (o26 [] true r2042 :: .no :: pF :: .no :: [])) [80] [(11,pB r2042.want)] [] [] (an4 h2041 (an (nn0 k37) (an (ltc hlt37) (an h2041 (an (by omega : k37 < r1893.length) (an h2041 (an (Au y222 (r1893.getD k37 0) r2042 hr2042) (an2 h2041 tv)))))))) ?_
        refine DW.done ?_
        show DW _ _ _ _ _
        refine RD hnt (nn 3 []) [] [(c1e7 k37)] [] [] tv ?_
        exact jD r2042.want ⟨hlt37,hm⟩ (Conv.tp [(c1e7 k37)] [] (by kernel_rfl) (.cons rfl (.of_eq (congrArg pI (Bn hlt37 hc37))) .nil) .nil)
      ·intro h2040
       have hge37 : ¬ k37 < r1893.length := by have := of_decide_eq_false h2040; omega
       have hm := he37 hge37
       unfold Kb at hm
       refine DW.exit ?_
       refine An ?_
       refine Aw ?_
       refine Ak ?_
       show DW _ _ _ _ _
       refine Sq (Sq (RD hnt (.no :: []) [13,14,80] [(15,pI 0)] [1608] [] tv ?_))
       refine Bk ?_
       obtain ⟨hc40,hm⟩ := go1 hm
       refine DW.rangeO (fun (k40 : Nat) (s40 : Bool) => Aj [(3,rr 1176),(4,rr 1032),(5,rr 1040),(6,pI k1),(c1e5 k28),(10,pI (Lh r5 k28).id),(11,pB s37),(12,pB s40),(15,pI ((k40 : Nat) : Int))] [(Vi r5),(c1e4 y222),(c1e3 y221)]) Bq hm Conv.eqK ?_
       intro k40 s40 n40 hk40 hs40 he40
       refine Sq (Sq (RD hnt (nn 5 []) [] [(97,pB (decide (((k40 : Nat) : Int) < ((r5.1.tasks.length : Nat) : Int))))] [] [] tv ?_))
       refine Cj (decide (((k40 : Nat) : Int) < ((r5.1.tasks.length : Nat) : Int))) ?_ ?_
       ·intro h2094
        have hlt40 : k40 < r5.1.tasks.length := by have := of_decide_eq_true h2094; omega
        have hm := hs40 hlt40
        unfold Nn at hm
        refine Sk ?_
        refine Sq (Bk ?_)
        obtain ⟨r2095,hr2095,hm⟩ := bo hm
        obtain ⟨r2096,hr2096,hm⟩ := bo hm
        refine Sq (Sq (RD hnt (nn 8 (o82 [] true r2095 :: .no :: o115 [] true r2096 :: [])) [97] [(110,pB r2096)] [] [] (an (nn0 k40) (an (ltc hlt40) (an (Lu r5.1.tree (c1e6 r5 k40).group r2095 hr2095) (an (AgO r2095 (Lh r5 k28).id r2096 hr2096) tv)))) ?_))
        refine Jn (ι := Bool) (fun (y327 : Bool) => Aj [(3,rr 1176),(4,rr 1032),(5,rr 1040),(6,pI k1),(c1e5 k28),(10,pI (Lh r5 k28).id),(11,pB s37),(12,pB y327),(15,pI ((k40 : Nat) : Int))] [(Vi r5),(c1e4 y222),(c1e3 y221)]) (fun y327 => (Ez y222 (Lh r5 k28) s37 (c1e6 r5 k40) n40) y327 = some RES) ?_ ?_
        ·intro y327 hm
         unfold Ez at hm
         refine Sq ?_
         refine Jn (ι := Bool) (fun (y328 : Bool) => Aj [(3,rr 1176),(4,rr 1032),(5,rr 1040),(6,pI k1),(c1e5 k28),(10,pI (Lh r5 k28).id),(11,pB s37),(12,pB y327),(15,pI ((k40 : Nat) : Int)),(143,pB y328)] [(Vi r5),(c1e4 y222),(c1e3 y221)]) (fun y328 => (Gf n40 y327) y328 = some RES) ?_ ?_
         ·intro y328 hm
          unfold Gf at hm
          refine Af hm ?_ ?_
          ·intro h2103 hm
           refine Sq (RK hnt (.no :: []) [(2,pB false)] [] tv ?_)
           obtain rfl := sj hm
           exact DW.ret (Ai [] [] (pB false))
          ·intro h2103 hm
           refine Sk ?_
           refine DW.done ?_
           show DW _ _ _ _ _
           refine RD hnt (nn 3 []) [143] [(15,pI (w64 (((k40 : Nat) : Int) + 1)))] [] [] tv ?_
           exact jD y327 ⟨hlt40,hm⟩ (Conv.tp [(15,pI (w64 (((k40 : Nat) : Int) + 1)))] [] (by kernel_rfl) (.cons rfl (.of_eq (congrArg pI (Bn hlt40 hc40))) .nil) .nil)
         ·rcases bt ((c1e6 r5 k40).group == (Lh r5 k28).id) with h2100 | h2100
          ·replace hm := Bd h2100 hm
           obtain ⟨r2101,hr2101,hm⟩ := bo hm
           rcases bt r2101 with h2102 | h2102
           ·replace hm := Bd h2102 hm
            refine RD hnt (nn 16 (o32 [] true r2101 :: pT :: nn 3 (pT :: []))) [] [(143,pB (!s37))] [] [] (an (nn0 k40) (an (ltc hlt40) (an5 h2100 (an (nn0 k40) (an (ltc hlt40) (an3 h2100 (an (Fj y222 (c1e6 r5 k40).id r2101 hr2101) (an h2100 (an3 h2102 tv))))))))) ?_
            exact jD (!s37) hm Conv.eqK
           ·replace hm := Be h2102 hm
            refine RD hnt (nn 16 (o32 [] true r2101 :: pT :: .no :: sk 2 (pF :: []))) [] [(143,pB false)] [] [] (an (nn0 k40) (an (ltc hlt40) (an5 h2100 (an (nn0 k40) (an (ltc hlt40) (an3 h2100 (an (Fj y222 (c1e6 r5 k40).id r2101 hr2101) (an h2100 (an3 h2102 tv))))))))) ?_
            exact jD false hm Conv.eqK
          ·replace hm := Be h2100 hm
           refine RD hnt (nn 9 (sk 8 (pF :: .no :: sk 2 (pF :: [])))) [] [(143,pB false)] [] [] (an (nn0 k40) (an (ltc hlt40) (an3 h2100 (an6 h2100 (an3 ff tv))))) ?_
           exact jD false hm Conv.eqK
        ·refine Af hm ?_ ?_
         ·intro h2097 hm
          rcases bt s40 with h2098 | h2098
          ·replace hm := Bd h2098 hm
           obtain ⟨r2099,hr2099,hm⟩ := bo hm
           refine RD hnt (nn 9 (o32 [] true r2099 :: pT :: .no :: [])) [110] [(12,pB r2099)] [] [] (an5 h2098 (an (nn0 k40) (an (ltc hlt40) (an3 h2098 (an (Fj y222 (c1e6 r5 k40).id r2099 hr2099) (an h2098 tv)))))) ?_
           exact jD r2099 hm Conv.eqK
          ·replace hm := Be h2098 hm
           refine RD hnt (nn 2 (sk 8 (pF :: .no :: []))) [110] [(12,pB false)] [] [] (an3 h2098 (an6 h2098 tv)) ?_
           exact jD false hm Conv.eqK
         ·intro h2097 hm
          refine Sk ?_
          exact jD s40 hm Conv.t0
       ·intro h2094
        have hge40 : ¬ k40 < r5.1.tasks.length := by have := of_decide_eq_false h2094; omega
        have hm := he40 hge40
        unfold Nm at hm
        refine DW.exit ?_
        refine An ?_
        refine Aw ?_
        refine Ak ?_
        show DW _ _ _ _ _
        obtain ⟨r2104,hr2104,hm⟩ := bo hm
        refine Sq (Sq ?_)
        refine Jn (ι := Bool) (fun (y329 : Bool) => Aj [(3,rr 1176),(4,rr 1032),(5,rr 1040),(6,pI k1),(c1e5 k28),(10,pI (Lh r5 k28).id),(161,pB y329)] [(Vi r5),(c1e4 y222),(c1e3 y221)]) (fun y329 => (Dv y222 (Lh r5 k28) n28) y329 = some RES) ?_ ?_
        ·intro y329 hm
         unfold Dv at hm
         refine Af hm ?_ ?_
         ·intro h2110 hm
          refine Sq (RK hnt (.no :: []) [(2,pB false)] [] tv ?_)
          obtain rfl := sj hm
          exact DW.ret (Ai [] [] (pB false))
         ·intro h2110 hm
          refine Sk ?_
          refine Sq (RD hnt (nn 8 []) [161] [(16,pI (Lh r5 k28).parent)] [] [] (an (nn0 k28) (an (ltc hlt28) tv)) ?_)
          refine Sq ?_
          refine Jn (ι := Bool) (fun (y330 : Bool) => Aj [(3,rr 1176),(4,rr 1032),(5,rr 1040),(6,pI k1),(c1e5 k28),(183,pB y330)] [(Vi r5),(c1e4 y222),(c1e3 y221)]) (fun y330 => (Gh n28) y330 = some RES) ?_ ?_
          ·intro y330 hm
           unfold Gh at hm
           refine Af hm ?_ ?_
           ·intro h2115 hm
            refine Sq (RK hnt (.no :: []) [(2,pB false)] [] tv ?_)
            obtain rfl := sj hm
            exact DW.ret (Ai [] [] (pB false))
           ·intro h2115 hm
            refine Sk ?_
            refine DW.done ?_
            show DW _ _ _ _ _
            refine RD hnt (nn 3 []) [183] [(9,pI (w64 (((k28 : Nat) : Int) + 1)))] [] [] tv ?_
            exact jD () ⟨hlt28,hm⟩ (Conv.tp [(9,pI (w64 (((k28 : Nat) : Int) + 1)))] [] (by kernel_rfl) (.cons rfl (.of_eq (congrArg pI (Bn hlt28 hc28))) .nil) .nil)
          ·rcases bt ((Lh r5 k28).parent != 0) with h2111 | h2111
           ·replace hm := Bd h2111 hm
            obtain ⟨r2112,hr2112,hm⟩ := bo hm
            rcases bt r2112.frozen with h2113 | h2113
            ·replace hm := Bd h2113 hm
             obtain ⟨r2114,hr2114,hm⟩ := bo hm
             refine RD hnt (nn 5 (o26 [] true r2112 :: .no :: pT :: nn 3 (o26 [] true r2114 :: nn 2 (pT :: [])))) [10,16] [(183,pB (!r2114.frozen))] [] [] (an3 h2111 (an (Au y222 (Lh r5 k28).parent r2112 hr2112) (an2 h2111 (an3 h2113 (an (Au y222 (Lh r5 k28).id r2114 hr2114) (an3 h2113 tv)))))) ?_
             exact jD (!r2114.frozen) hm Conv.eqK
            ·replace hm := Be h2113 hm
             refine RD hnt (nn 5 (o26 [] true r2112 :: .no :: pT :: .no :: sk 5 (pF :: []))) [10,16] [(183,pB false)] [] [] (an3 h2111 (an (Au y222 (Lh r5 k28).parent r2112 hr2112) (an2 h2111 (an6 h2113 tv)))) ?_
             exact jD false hm Conv.eqK
           ·replace hm := Be h2111 hm
            refine RD hnt (nn 3 (sk 4 (pF :: .no :: sk 5 (pF :: [])))) [10,16] [(183,pB false)] [] [] (an5 h2111 (an6 ff tv)) ?_
            exact jD false hm Conv.eqK
        ·rcases bt s37 with h2105 | h2105
         ·replace hm := Bd h2105 hm
          rcases bt (r2104.frozen != s40) with h2106 | h2106
          ·replace hm := Bd h2106 hm
           refine RD hnt (nn 2 (o26 [] true r2104 :: nn 4 (pT :: nn 2 (sk 7 (pT :: []))))) [11,12,15,97] [(161,pB true)] [] [] (an (Au y222 (Lh r5 k28).id r2104 hr2104) (an2 h2105 (an2 h2106 (an6 h2106 tv)))) ?_
           exact jD true hm Conv.eqK
          ·replace hm := Be h2106 hm
           obtain ⟨r2107,hr2107,hm⟩ := bo hm
           refine RD hnt (nn 2 (o26 [] true r2104 :: nn 4 (pT :: nn 6 (o116 [] true r2107 :: nn 2 (pF :: []))))) [11,12,15,97] [(161,pB (r2107 != s37))] [] [] (an (Au y222 (Lh r5 k28).id r2104 hr2104) (an2 h2105 (an5 h2106 (an (Vv r5.1.tree y222 (Lh r5 k28).id r2107 hr2107) (an3 h2106 tv))))) ?_
           exact jD (r2107 != s37) hm Conv.eqK
         ·replace hm := Be h2105 hm
          rcases bt (r2104.frozen != false) with h2108 | h2108
          ·replace hm := Bd h2108 hm
           refine RD hnt (nn 2 (o26 [] true r2104 :: nn 3 (.skip :: pF :: nn 2 (sk 7 (pT :: []))))) [11,12,15,97] [(161,pB true)] [] [] (an (Au y222 (Lh r5 k28).id r2104 hr2104) (an2 h2105 (an2 h2108 (an6 h2108 tv)))) ?_
           exact jD true hm Conv.eqK
          ·replace hm := Be h2108 hm
           obtain ⟨r2109,hr2109,hm⟩ := bo hm
           refine RD hnt (nn 2 (o26 [] true r2104 :: nn 3 (.skip :: pF :: nn 6 (o116 [] true r2109 :: nn 2 (pF :: []))))) [11,12,15,97] [(161,pB (r2109 != s37))] [] [] (an (Au y222 (Lh r5 k28).id r2104 hr2104) (an2 h2105 (an5 h2108 (an (Vv r5.1.tree y222 (Lh r5 k28).id r2109 hr2109) (an3 h2108 tv))))) ?_
           exact jD (r2109 != s37) hm Conv.eqK
     ·intro h1892
      have hge28 : ¬ k28 < r5.1.tree.nodes.length := by have := of_decide_eq_false h1892; omega
      have hm := he28 hge28
      unfold Td at hm
      refine DW.exit ?_
      refine An ?_
      refine Aw ?_
      refine Ak ?_
      show DW _ _ _ _ _
      refine DW.done ?_
      show DW _ _ _ _ _
      refine RD hnt (nn 3 []) [9,63] [(6,pI (w64 (k1 + 1)))] [] [] tv ?_
      exact jD (y222,y221.2.1) ⟨hlt1,hm⟩ (Conv.tp [(6,pI (w64 (k1 + 1)))] [] (by kernel_rfl) (.cons rfl (.of_eq (congrArg pI (To (lo := 0) (hi := 10) (by omega) hk1 hlt1 (by omega)))) .nil) .nil)
    ·refine Af hm ?_ ?_
     ·intro h1423 hm
      refine RD hnt (nn 2 []) [7,56] [] [1056] [(1040,bx (pm (Az y221.1)))] tv ?_
      exact jD y221.1 hm Conv.eqK
     ·intro h1423 hm
      refine Sk ?_
      exact jD s1.1 hm Conv.t0
   ·refine Af hm ?_ ?_
    ·intro h1419 hm
     obtain ⟨r1420,hr1420,hm⟩ := bo hm
     obtain ⟨r1421,hr1421,hm⟩ := bo hm
     obtain ⟨r1422,hr1422,hm⟩ := bo hm
     refine RD hnt (nn 5 (o88 [1176] true r1420 :: .no :: o72 [1176] true r1421 :: .no :: o20 [] true r1422 :: nn 5 [])) [41] [(8,pI r1422.2)] [1296,1297] [(1056,bx [ow 1416 r1422.1.frosts.length,ow 1417 r1422.1.stopped.length]),(1176,bx (pm (Al r1421.2))),(1416,ob0 (As r1422.1.frosts)),(1417,ob0 (roI r1422.1.stopped))] (an (Lf r1418.2 r5.1.tree r1420 hr1420) (an tv (an (Bt r1420.2 3 r1421 hr1421) (an tv (an (Ts r5.1 s1.1 r1420.1 (decide (r1421.1 > 0)) r1422 hr1422) tv))))) ?_
     exact jD (r1422.1,r1421.2,r1422.2) hm (Conv.frz [1416,1417])
    ·intro h1419 hm
     refine Sk ?_
     exact jD (r1417.1,r1418.2,r1417.2) hm (Conv.trans (τ := Aj [(3,rr 1176),(4,rr 1032),(5,rr 1040),(6,pI k1),(7,rr 1056),(8,pI r1417.2),(41,pB r1418.1)] [(Vi r5),(1040,bx (pm (Az s1.1))),(1056,bx (pm (Az r1417.1))),(1176,bx (pm (Al r1418.2)))]) (Conv.frz [1296,1297]) Conv.t0)
  ·intro h1415
   have hge1 : ¬ k1 < 10 := by have := of_decide_eq_false h1415; omega
   have hm := he1 hge1
   unfold Tl at hm
   refine DW.exit ?_
   refine An ?_
   refine Aw ?_
   refine Ak ?_
   show DW _ _ _ _ _
   obtain ⟨r2116,hr2116,hm⟩ := bo hm
   refine Sq (RK hnt (o3 [] true r2116 :: .no :: []) [(2,pB r2116)] [] (an (Aas r2116 hr2116) tv) ?_)
   obtain rfl := sj hm
   exact DW.ret (Ai [] [] (pB r2116))
abbrev o1 (ks : List Nat) (b : Bool) (RES : Bool) (sm : List Nat := []) : Orc := .call 6 ks b (pB RES) [] [] sm
end Go.Dm

