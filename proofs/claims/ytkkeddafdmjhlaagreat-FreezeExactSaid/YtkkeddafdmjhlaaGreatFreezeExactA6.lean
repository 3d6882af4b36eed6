/- Go functions compute their models, printed by a program. -/
import Derived.Test.YtkkeddafdmjhlaaGreatFreezeExactA5
set_option linter.unusedVariables false
set_option linter.unusedSimpArgs false
namespace Go.Dm
open Go.Proofs
set_option linter.unusedVariables false
theorem Ic (p0 : Ag) (p1 : Ac) (p2 : Int) (RES : Bool) (hm : Fi p0 p1 p2 = some RES) : Spec Tryz.prog 129 [.p (.agg (As p0)),.p (.agg (Al p1)),pI p2] [] (pB RES) [] [] := by
 unfold Fi at hm
 refine SO Tryz.func129 rfl rfl [(0,.p (.agg (As p0))),(1,.p (.agg (Al p1))),(2,pI p2)] [] ?_
 intro cx hnt
 refine Sq (RK hnt (nn 3 []) [(2,pI p2),(3,rr 1024),(4,rr 1032)] [(1024,bx (pm (As p0))),(1032,bx (pm (Al p1)))] tv ?_)
 obtain ⟨r1,hr1,hm⟩ := bo hm
 refine Sq (RD hnt (nn 2 (o82 [] true r1 :: .no :: [])) [2,3] [(7,ow 1088 r1.length)] [1024] [(1088,ob0 (roI r1))] (an (Kp p0 p2 r1 hr1) tv) ?_)
 refine Sq (Sq (RD hnt (.no :: []) [] [(8,pI 0)] [] [] tv ?_))
 refine Bk ?_
 obtain ⟨hc1,hm⟩ := go1 hm
 refine DW.rangeO (fun (k1 : Nat) (s1 : Unit) => Aj [(4,rr 1032),(7,ow 1088 r1.length),(8,pI ((k1 : Nat) : Int))] [(1032,bx (pm (Al p1))),(1088,ob0 (roI r1))]) 0 hm Conv.eqK ?_
 intro k1 s1 n1 hk1 hs1 he1
 refine Sq (Sq (RD hnt (nn 4 []) [] [(15,pB (decide (((k1 : Nat) : Int) < ((r1.length : Nat) : Int))))] [] [] tv ?_))
 refine Cd (decide (((k1 : Nat) : Int) < ((r1.length : Nat) : Int))) ?_ ?_
 ·intro h12
  have hlt1 : k1 < r1.length := by have := of_decide_eq_true h12; omega
  have hm := hs1 hlt1
  unfold Wd at hm
  refine Sk ?_
  refine Sq (Bk ?_)
  obtain ⟨r13,hr13,hm⟩ := bo hm
  refine Sq (RD hnt (nn 5 (o117 [] true r13 :: .no :: [])) [15] [(24,pB r13.want)] [] [] (an (nn0 k1) (an (ltc hlt1) (an (by omega : k1 < r1.length) (an (Gf p1 (r1.getD k1 0) r13 hr13) tv)))) ?_)
  refine Ah hm ?_ ?_
  ·intro h14 hm
   refine Sq (RK hnt (.no :: []) [(6,pB true)] [] tv ?_)
   obtain rfl := sj hm
   exact DW.ret (Ai [] [] (pB true))
  ·intro h14 hm
   refine Sk ?_
   refine DW.done ?_
   show DW _ _ _ _ _
   refine RD hnt (nn 3 []) [24] [(8,pI (w64 (((k1 : Nat) : Int) + 1)))] [] [] tv ?_
   exact jD () ⟨hlt1,hm⟩ (Conv.tp [(8,pI (w64 (((k1 : Nat) : Int) + 1)))] [] (by kernel_rfl) (.cons rfl (.of_eq (congrArg pI (Bo hlt1 hc1))) .nil) .nil)
 ·intro h12
  have hge1 : ¬ k1 < r1.length := by have := of_decide_eq_false h12; omega
  have hm := he1 hge1
  unfold Acl at hm
  refine DW.exit ?_
  refine Ap ?_
  refine Au ?_
  refine Am ?_
  show DW _ _ _ _ _
  refine Sq (RK hnt (.no :: []) [(6,pB false)] [] tv ?_)
  obtain rfl := sj hm
  exact DW.ret (Ai [] [] (pB false))
abbrev o121 (ks : List Nat) (b : Bool) (RES : Bool) (sm : List Nat := []) : Orc := .call 129 ks b (pB RES) [] [] sm

abbrev Om (p0 : Aa) (k1 : Nat) := (p0.tasks.getD k1 (default : Aw))
abbrev Aet (p0 : Aa) : Nat × Obj := (1016,bx (pm (Ab p0)))
abbrev AdJ (p1 : Ac) : Nat × Obj := (1024,bx (pm (Al p1)))
theorem Acf (p0 : Aa) (p1 : Ac) (RES : List Int) (hm : Ir p0 p1 = some RES) : Spec Tryz.prog 131 [.p (.agg (Ab p0)),.p (.agg (Al p1))] [] (ow 0 RES.length) [] [roI RES] := by
 unfold Ir at hm
 refine SO Tryz.func131 rfl rfl [(0,.p (.agg (Ab p0))),(1,.p (.agg (Al p1)))] [] ?_
 intro cx hnt
 refine Sq (RK hnt (nn 3 []) [(2,rr 1016),(3,rr 1024)] [(Aet p0),(AdJ p1)] tv ?_)
 refine Sq (RD hnt (.no :: []) [] [(5,.p (.sl .nil 0 0 (fun _ => [])))] [] [] tv ?_)
 refine Sq (Sq (RD hnt (.no :: []) [] [(6,pI 0)] [] [] tv ?_))
 refine Bk ?_
 obtain ⟨hc1,hm⟩ := go1 hm
 refine DW.rangeO (fun (k1 : Nat) (s1 : List Int) => Aj [(2,rr 1016),(3,rr 1024),(5,ow 1336 s1.length),(6,pI ((k1 : Nat) : Int))] [(Aet p0),(AdJ p1),(1336,ob0 (roI s1))]) Bu hm (Conv.ads [(.s 5,1336,1,elems Bi 0 [])]) ?_
 intro k1 s1 n1 hk1 hs1 he1
 refine Sq (Sq (RD hnt (nn 5 []) [] [(11,pB (decide (((k1 : Nat) : Int) < ((p0.tasks.length : Nat) : Int))))] [] [] tv ?_))
 refine Cd (decide (((k1 : Nat) : Int) < ((p0.tasks.length : Nat) : Int))) ?_ ?_
 ·intro h18
  have hlt1 : k1 < p0.tasks.length := by have := of_decide_eq_true h18; omega
  have hm := hs1 hlt1
  unfold AaQ at hm
  refine Sk ?_
  refine Sq ?_
  refine Jn (ι := List Int) (fun (y5 : List Int) => Aj [(2,rr 1016),(3,rr 1024),(5,ow 1336 y5.length),(6,pI ((k1 : Nat) : Int))] [(Aet p0),(AdJ p1),(1336,ob0 (roI y5))]) (fun y5 => (Rn n1) y5 = some RES) ?_ ?_
  ·intro y5 hm
   unfold Rn at hm
   refine RD hnt (nn 3 []) [] [(6,pI (w64 (((k1 : Nat) : Int) + 1)))] [] [] tv ?_
   exact jD y5 ⟨hlt1,hm⟩ (Conv.tp [(6,pI (w64 (((k1 : Nat) : Int) + 1)))] [] (by kernel_rfl) (.cons rfl (.of_eq (congrArg pI (Bo hlt1 hc1))) .nil) .nil)
  ·refine Bk ?_
   obtain ⟨r19,hr19,hm⟩ := bo hm
   refine Sq ?_
   refine Jn (ι := Bool) (fun (y6 : Bool) => Aj [(2,rr 1016),(3,rr 1024),(5,ow 1336 s1.length),(6,pI ((k1 : Nat) : Int)),(33,pB y6)] [(Aet p0),(AdJ p1),(1336,ob0 (roI s1))]) (fun y6 => (Rg (Om p0 k1) s1 n1) y6 = some RES) ?_ ?_
   ·intro y6 hm
    unfold Rg at hm
    refine Ah hm ?_ ?_
    ·intro h22 hm
     obtain ⟨g23,hm⟩ := go1 hm
     refine RN hnt (nn 10 []) [(2,rr 1016),(3,rr 1024),(5,ow 1336 (s1 ++ [(Om p0 k1).id]).length),(6,pI ((k1 : Nat) : Int))] [(Aet p0),(AdJ p1),(1336,ob0 (roI (s1 ++ [(Om p0 k1).id])))] [(5,ow 1336 (s1.length + 1))] [(1336,.row 1 (s1.length + 1) (Cp s1.length (elI s1) (cut 1 [vi (Om p0 k1).id])))] (an (nn0 k1) (an (ltc hlt1) (an (by omega : (s1.length + 1) * 8 ≤ 140737488355328) tv))) (by kernel_rfl) (.cons rfl (MLe.ownLen (enc := Bi) (d := 0) (f := (Cp s1.length (elI s1) (cut 1 [vi (Om p0 k1).id]))) (RowIs.cat RowIs.elems (RowIs.lit (enc := Bi) (d := 0) (n := 1) (f := (cut 1 [vi (Om p0 k1).id])) [(Om p0 k1).id] rfl (fun | 0,_ => rfl | n + 1,h => absurd h (by omega))))) .nil) (.cons rfl (BLe.typed (RowIs.cat RowIs.elems (RowIs.lit (enc := Bi) (d := 0) (n := 1) (f := (cut 1 [vi (Om p0 k1).id])) [(Om p0 k1).id] rfl (fun | 0,_ => rfl | n + 1,h => absurd h (by omega))))) .nil) ?_
     exact bD (s1 ++ [(Om p0 k1).id]) hm .refl
    ·intro h22 hm
     refine Sk ?_
     exact bD s1 hm Conv.t0
   ·rcases bt r19 with h20 | h20
    ·replace hm := Bg h20 hm
     obtain ⟨r21,hr21,hm⟩ := bo hm
     refine RD hnt (nn 7 (Vk [] true r19 :: nn 10 (o121 [] true r21 :: pT :: []))) [11] [(33,pB r21)] [] [] (an (nn0 k1) (an (ltc hlt1) (an (Cl p1 (Om p0 k1).id r19 hr19) (an h20 (an6 h20 (an (nn0 k1) (an (ltc hlt1) (an3 h20 (an (Ic p0.tree p1 (Om p0 k1).group r21 hr21) (an h20 tv)))))))))) ?_
     exact jD r21 hm Conv.eqK
    ·replace hm := Bf h20 hm
     refine RD hnt (nn 7 (Vk [] true r19 :: .no :: sk 10 (pF :: []))) [11] [(33,pB false)] [] [] (an (nn0 k1) (an (ltc hlt1) (an (Cl p1 (Om p0 k1).id r19 hr19) (an5 h20 (an6 h20 tv))))) ?_
     exact jD false hm Conv.eqK
 ·intro h18
  have hge1 : ¬ k1 < p0.tasks.length := by have := of_decide_eq_false h18; omega
  have hm := he1 hge1
  unfold Aam at hm
  refine DW.exit ?_
  refine Ap ?_
  refine Au ?_
  refine Am ?_
  show DW _ _ _ _ _
  refine Sq (RK hnt (nn 2 []) [(4,ow 1336 s1.length)] [(1336,ob0 (roI s1))] tv ?_)
  obtain rfl := sj hm
  exact DW.ret (Ai [roI s1] [1336] (ow 0 s1.length))
abbrev o118 (ks : List Nat) (b : Bool) (RES : List Int) (sm : List Nat := []) : Orc := .call 131 ks b (ow 0 RES.length) [] [roI RES] sm

theorem AaY (p0 : Aa) (p1 : Ac) (p2 : Int) (RES : Bool) (hm : Qf p0 p1 p2 = some RES) : Spec Tryz.prog 135 [.p (.agg (Ab p0)),.p (.agg (Al p1)),pI p2] [] (pB RES) [] [] := by
 unfold Qf at hm
 refine SO Tryz.func135 rfl rfl [(0,.p (.agg (Ab p0))),(1,.p (.agg (Al p1))),(2,pI p2)] [] ?_
 intro cx hnt
 refine Sq (RK hnt (nn 3 []) [(2,pI p2),(3,rr 1024),(4,rr 1032)] [(1024,bx (pm (Ab p0))),(1032,bx (pm (Al p1)))] tv ?_)
 obtain ⟨r1,hr1,hm⟩ := bo hm
 refine Sq (Sq (RD hnt (nn 4 (o121 [] true r1 :: .no :: [])) [] [(13,pB (!r1))] [] [] (an (Ic p0.tree p1 p2 r1 hr1) tv) ?_))
 refine Ah hm ?_ ?_
 ·intro h2 hm
  refine Sq (RK hnt (.no :: []) [(6,pB false)] [] tv ?_)
  obtain rfl := sj hm
  exact DW.ret (Ai [] [] (pB false))
 ·intro h2 hm
  refine Sk ?_
  refine Sq (Sq (RD hnt (.no :: []) [13] [(7,pI 0)] [] [] tv ?_))
  refine Bk ?_
  obtain ⟨hc1,hm⟩ := go1 hm
  refine DW.rangeO (fun (k1 : Nat) (s1 : Unit) => Aj [(2,pI p2),(3,rr 1024),(4,rr 1032),(7,pI ((k1 : Nat) : Int))] [(1024,bx (pm (Ab p0))),(1032,bx (pm (Al p1)))]) Bu hm Conv.eqK ?_
  intro k1 s1 n1 hk1 hs1 he1
  refine Sq (Sq (RD hnt (nn 5 []) [] [(18,pB (decide (((k1 : Nat) : Int) < ((p0.tasks.length : Nat) : Int))))] [] [] tv ?_))
  refine Cd (decide (((k1 : Nat) : Int) < ((p0.tasks.length : Nat) : Int))) ?_ ?_
  ·intro h19
   have hlt1 : k1 < p0.tasks.length := by have := of_decide_eq_true h19; omega
   have hm := hs1 hlt1
   unfold Yy at hm
   refine Sk ?_
   refine Sq (Bk ?_)
   obtain ⟨r20,hr20,hm⟩ := bo hm
   obtain ⟨r21,hr21,hm⟩ := bo hm
   refine Sq ?_
   refine Jn (ι := Bool) (fun (y3 : Bool) => Aj [(2,pI p2),(3,rr 1024),(4,rr 1032),(7,pI ((k1 : Nat) : Int)),(42,pB y3)] [(1024,bx (pm (Ab p0))),(1032,bx (pm (Al p1)))]) (fun y3 => (Ps n1) y3 = some RES) ?_ ?_
   ·intro y3 hm
    unfold Ps at hm
    refine Ah hm ?_ ?_
    ·intro h24 hm
     refine Sq (RK hnt (.no :: []) [(6,pB false)] [] tv ?_)
     obtain rfl := sj hm
     exact DW.ret (Ai [] [] (pB false))
    ·intro h24 hm
     refine Sk ?_
     refine DW.done ?_
     show DW _ _ _ _ _
     refine RD hnt (nn 3 []) [42] [(7,pI (w64 (((k1 : Nat) : Int) + 1)))] [] [] tv ?_
     exact jD () ⟨hlt1,hm⟩ (Conv.tp [(7,pI (w64 (((k1 : Nat) : Int) + 1)))] [] (by kernel_rfl) (.cons rfl (.of_eq (congrArg pI (Bo hlt1 hc1))) .nil) .nil)
   ·rcases bt r21 with h22 | h22
    ·replace hm := Bg h22 hm
     obtain ⟨r23,hr23,hm⟩ := bo hm
     refine RD hnt (nn 8 (o82 [] true r20 :: .no :: o120 [] true r21 :: nn 8 (Vk [] true r23 :: .no :: pT :: []))) [18] [(42,pB (!r23))] [] [] (an (nn0 k1) (an (ltc hlt1) (an (Kp p0.tree (p0.tasks.getD k1 (default : Aw)).group r20 hr20) (an (Un r20 p2 r21 hr21) (an5 h22 (an (nn0 k1) (an (ltc hlt1) (an3 h22 (an (Cl p1 (p0.tasks.getD k1 (default : Aw)).id r23 hr23) (an2 h22 tv)))))))))) ?_
     exact jD (!r23) hm Conv.eqK
    ·replace hm := Bf h22 hm
     refine RD hnt (nn 8 (o82 [] true r20 :: .no :: o120 [] true r21 :: .no :: sk 9 (pF :: []))) [18] [(42,pB false)] [] [] (an (nn0 k1) (an (ltc hlt1) (an (Kp p0.tree (p0.tasks.getD k1 (default : Aw)).group r20 hr20) (an (Un r20 p2 r21 hr21) (an4 h22 (an6 h22 tv)))))) ?_
     exact jD false hm Conv.eqK
  ·intro h19
   have hge1 : ¬ k1 < p0.tasks.length := by have := of_decide_eq_false h19; omega
   have hm := he1 hge1
   unfold AcZ at hm
   refine DW.exit ?_
   refine Ap ?_
   refine Au ?_
   refine Am ?_
   show DW _ _ _ _ _
   refine Sq (RK hnt (.no :: []) [(6,pB true)] [] tv ?_)
   obtain rfl := sj hm
   exact DW.ret (Ai [] [] (pB true))
abbrev o123 (ks : List Nat) (b : Bool) (RES : Bool) (sm : List Nat := []) : Orc := .call 135 ks b (pB RES) [] [] sm

abbrev AdQ : Nat × Obj := (1032,bx [.p (.sl .nil 0 0 (fun _ => [])),.p (.sl .nil 0 0 (fun _ => []))])
abbrev Th (p1 : Ac) (k1 : Nat) := (p1.frosts.getD k1 (default : Ae))
abbrev AdN (p0 : Aa) : Nat × Obj := (1016,bx (pm (Ab p0)))
abbrev Adq (p1 : Ac) : Nat × Obj := (1024,bx (pm (Al p1)))
theorem Vw (p0 : Aa) (p1 : Ac) (RES : Ac) (hm : Hb p0 p1 = some RES) : Spec Tryz.prog 130 [.p (.agg (Ab p0)),.p (.agg (Al p1))] [] (.agg [ow 0 RES.frosts.length,ow 1 RES.stopped.length]) [] [Af RES.frosts,roI RES.stopped] := by
 unfold Hb at hm
 refine SO Tryz.func130 rfl rfl [(0,.p (.agg (Ab p0))),(1,.p (.agg (Al p1)))] [] ?_
 intro cx hnt
 refine Sq (RK hnt (nn 3 []) [(2,rr 1016),(3,rr 1024),(4,rr 1032)] [(AdN p0),(Adq p1),(AdQ)] tv ?_)
 obtain ⟨g1,hm⟩ := go1 hm
 refine Sq (RN hnt (nn 6 []) [(2,rr 1016),(3,rr 1024),(4,rr 1032),(5,rr 1040)] [(AdN p0),(Adq p1),(AdQ),(1040,bx [.p (.sl .nil 0 0 (fun _ => [])),ow 1088 p1.stopped.length]),(1088,ob0 (roI p1.stopped))] [] [(1088,.row 1 p1.stopped.length (elI p1.stopped))] (an (by omega : p1.stopped.length * 8 ≤ 140737488355328) tv) (by kernel_rfl) .nil (.cons rfl (BLe.typed RowIs.elems) .nil) ?_)
 refine Sq (Sq (RD hnt (.no :: []) [] [(6,pI 0)] [] [] tv ?_))
 refine Bk ?_
 obtain ⟨hc1,hm⟩ := go1 hm
 refine DW.rangeO (fun (k1 : Nat) (s1 : List Ae) => Aj [(2,rr 1016),(3,rr 1024),(4,rr 1032),(5,rr 1040),(6,pI ((k1 : Nat) : Int))] [(AdN p0),(Adq p1),(AdQ),(1040,bx [ow 1360 s1.length,ow 1088 p1.stopped.length]),(1088,ob0 (roI p1.stopped)),(1360,ob0 (Af s1))]) Bc hm (Conv.ads [(.o 1040 0,1360,4,elems Bd Bc [])]) ?_
 intro k1 s1 n1 hk1 hs1 he1
 refine Sq (Sq (RD hnt (nn 5 []) [] [(17,pB (decide (((k1 : Nat) : Int) < ((p1.frosts.length : Nat) : Int))))] [] [] tv ?_))
 refine Cd (decide (((k1 : Nat) : Int) < ((p1.frosts.length : Nat) : Int))) ?_ ?_
 ·intro h11
  have hlt1 : k1 < p1.frosts.length := by have := of_decide_eq_true h11; omega
  have hm := hs1 hlt1
  unfold Yx at hm
  refine Sk ?_
  refine Sq (Bk ?_)
  refine Sq (RD hnt (nn 7 []) [17] [(7,rr 1056)] [] [(1056,bx (pm (Bd (Th p1 k1))))] (an (nn0 k1) (an (ltc hlt1) tv)) ?_)
  obtain ⟨r12,hr12,hm⟩ := bo hm
  refine Sq (Sq (RD hnt (nn 4 (o123 [] true r12 :: .no :: [])) [] [(8,pB r12)] [] [] (an (AaY p0 p1 (Th p1 k1).group r12 hr12) tv) ?_))
  refine Sq (RD hnt (nn 4 []) [] [(33,pB (r12 != (Th p1 k1).frozen))] [] [] tv ?_)
  refine Jn (ι := Ae) (fun (y3 : Ae) => Aj [(2,rr 1016),(3,rr 1024),(4,rr 1032),(5,rr 1040),(6,pI ((k1 : Nat) : Int)),(7,rr 1056)] [(AdN p0),(Adq p1),(AdQ),(1040,bx [ow 1360 s1.length,ow 1088 p1.stopped.length]),(1056,bx (pm (Bd y3))),(1088,ob0 (roI p1.stopped)),(1360,ob0 (Af s1))]) (fun y3 => (Mw s1 n1) y3 = some RES) ?_ ?_
  ·intro y3 hm
   unfold Mw at hm
   obtain ⟨g14,hm⟩ := go1 hm
   refine RN hnt (nn 7 []) [(2,rr 1016),(3,rr 1024),(4,rr 1032),(5,rr 1040),(6,pI ((k1 : Nat) : Int))] [(AdN p0),(Adq p1),(AdQ),(1040,bx [ow 1360 (s1 ++ [y3]).length,ow 1088 p1.stopped.length]),(1088,ob0 (roI p1.stopped)),(1360,ob0 (Af (s1 ++ [y3])))] [] [(1040,.box [ow 1360 (s1.length + 1),ow 1088 p1.stopped.length]),(1360,.row 4 (s1.length + 1) (Cp s1.length (Hq s1) (cut 4 [vi y3.group,vb y3.want,vb y3.frozen,vi y3.changes])))] (an (by omega : (s1.length + 1) * 24 ≤ 140737488355328) tv) (by kernel_rfl) .nil (.cons rfl (.box (.cons (MLe.ownLen (enc := Bd) (d := Bc) (f := (Cp s1.length (Hq s1) (cut 4 [vi y3.group,vb y3.want,vb y3.frozen,vi y3.changes]))) (RowIs.cat RowIs.elems (RowIs.lit (enc := Bd) (d := Bc) (n := 1) (f := (cut 4 [vi y3.group,vb y3.want,vb y3.frozen,vi y3.changes])) [y3] rfl (fun | 0,_ => rfl | n + 1,h => absurd h (by omega))))) (.cons .rfl .nil))) (.cons rfl (BLe.typed (RowIs.cat RowIs.elems (RowIs.lit (enc := Bd) (d := Bc) (n := 1) (f := (cut 4 [vi y3.group,vb y3.want,vb y3.frozen,vi y3.changes])) [y3] rfl (fun | 0,_ => rfl | n + 1,h => absurd h (by omega))))) .nil)) ?_
   refine DW.done ?_
   show DW _ _ _ _ _
   refine RD hnt (nn 3 []) [] [(6,pI (w64 (((k1 : Nat) : Int) + 1)))] [] [] tv ?_
   exact jD (s1 ++ [y3]) ⟨hlt1,hm⟩ (Conv.tp [(6,pI (w64 (((k1 : Nat) : Int) + 1)))] [] (by kernel_rfl) (.cons rfl (.of_eq (congrArg pI (Bo hlt1 hc1))) .nil) .nil)
  ·refine Ah hm ?_ ?_
   ·intro h13 hm
    refine RD hnt (nn 9 []) [8,33] [] [] [(1056,bx [pI (Th p1 k1).group,pB (Th p1 k1).want,pB r12,pI (Pc (w64 ((Th p1 k1).changes + 1)) 1099511627776)])] tv ?_
    exact jD ({ group := (Th p1 k1).group,want := (Th p1 k1).want,frozen := r12,changes := (Pc (w64 ((Th p1 k1).changes + 1)) 1099511627776) } : Ae) hm Conv.eqK
   ·intro h13 hm
    refine Sk ?_
    exact jD (Th p1 k1) hm Conv.t0
 ·intro h11
  have hge1 : ¬ k1 < p1.frosts.length := by have := of_decide_eq_false h11; omega
  have hm := he1 hge1
  unfold Ado at hm
  refine DW.exit ?_
  refine Ap ?_
  refine Au ?_
  refine Am ?_
  show DW _ _ _ _ _
  refine Sq (RD hnt (nn 2 []) [2,3,5,6,17] [] [1016,1024,1040] [(1032,bx [ow 1360 s1.length,ow 1088 p1.stopped.length])] tv ?_)
  obtain rfl := sj hm
  exact DW.ret (Ai [Af s1,roI p1.stopped] [1360,1088] (.agg [ow 0 s1.length,ow 1 p1.stopped.length]))
abbrev o122 (ks : List Nat) (b : Bool) (RES : Ac) (sm : List Nat := []) : Orc := .call 130 ks b (.agg [ow 0 RES.frosts.length,ow 1 RES.stopped.length]) [] [Af RES.frosts,roI RES.stopped] sm

abbrev Agn : Nat × Obj := (1032,bx [.p (.sl .nil 0 0 (fun _ => [])),.p (.sl .nil 0 0 (fun _ => []))])
abbrev AdG (r20 : Ae) := (maxI 0 (Pc r20.changes 1099511627776))
theorem Aax (p0 : Aa) (p1 : Ac) (RES : Ac × Int) (hm : Ht p0 p1 = some RES) : Spec Tryz.prog 76 [.p (.agg (Ab p0)),.p (.agg (Al p1))] [] (.tup [.agg [ow 0 RES.1.frosts.length,ow 1 RES.1.stopped.length],pI RES.2]) [] [Af RES.1.frosts,roI RES.1.stopped] := by
 unfold Ht at hm
 refine SO Tryz.func76 rfl rfl [(0,.p (.agg (Ab p0))),(1,.p (.agg (Al p1)))] [] ?_
 intro cx hnt
 refine Sq (RK hnt (nn 4 []) [(2,rr 1016),(3,rr 1024),(4,rr 1032)] [(1016,bx (pm (Ab p0))),(1024,bx (pm (Al p1))),(Agn)] tv ?_)
 obtain ⟨r1,hr1,hm⟩ := bo hm
 refine Sq (Sq (RD hnt (.no :: o93 [] true r1 :: .no :: []) [] [(11,pB (!r1))] [] [] (an (El p0 r1 hr1) tv) ?_))
 refine Ah hm ?_ ?_
 ·intro h2 hm
  refine Sq (RD hnt (nn 3 []) [2,3,11] [(5,pI 1)] [1016,1024] [] tv ?_)
  refine DW.cv [] [] [] [(1032,bx [ow 100000 0,ow 100001 0]),(100000,ob0 (Af [])),(100001,ob0 (roI []))] (Conv.ads [(.o 1032 0,100000,4,elems Bd Bc []),(.o 1032 1,100001,1,elems Bi 0 [])]) ?_
  obtain rfl := sj hm
  exact DW.ret (Ai [Af [],roI []] [100000,100001] (.tup [.agg [ow 0 0,ow 1 0],pI 1]))
 ·intro h2 hm
  refine Sk ?_
  refine Sq (RD hnt (nn 3 []) [11] [(6,rr 1048)] [] [(1048,bx [.p (.sl .nil 0 0 (fun _ => [])),.p (.sl .nil 0 0 (fun _ => []))])] tv ?_)
  refine Sq (Sq (RD hnt (.no :: []) [] [(7,pI 0)] [] [] tv ?_))
  refine Bk ?_
  obtain ⟨hc1,hm⟩ := go1 hm
  refine DW.rangeO (fun (k1 : Nat) (s1 : List Ae) => Aj [(2,rr 1016),(3,rr 1024),(4,rr 1032),(6,rr 1048),(7,pI ((k1 : Nat) : Int))] [(1016,bx (pm (Ab p0))),(1024,bx (pm (Al p1))),(Agn),(1048,bx [ow 1384 s1.length,.p (.sl .nil 0 0 (fun _ => []))]),(1384,ob0 (Af s1))]) Bm hm (Conv.ads [(.o 1048 0,1384,4,elems Bd Bc [])]) ?_
  intro k1 s1 n1 hk1 hs1 he1
  refine Sq (Sq (RD hnt (nn 6 []) [] [(19,pB (decide (((k1 : Nat) : Int) < ((p0.tree.nodes.length : Nat) : Int))))] [] [] tv ?_))
  refine Cd (decide (((k1 : Nat) : Int) < ((p0.tree.nodes.length : Nat) : Int))) ?_ ?_
  ·intro h19
   have hlt1 : k1 < p0.tree.nodes.length := by have := of_decide_eq_true h19; omega
   have hm := hs1 hlt1
   unfold We at hm
   refine Sk ?_
   refine Sq (Bk ?_)
   obtain ⟨r20,hr20,hm⟩ := bo hm
   refine Sq (RD hnt (nn 8 (o117 [] true r20 :: nn 2 [])) [19] [(8,rr 1064)] [] [(1064,bx (pm (Bd r20)))] (an (nn0 k1) (an (ltc hlt1) (an (Gf p1 (p0.tree.nodes.getD k1 (default : Ao)).id r20 hr20) tv))) ?_)
   refine Sq (RD hnt (nn 6 []) [] [] [] [(1064,bx [pI r20.group,pB r20.want,pB r20.frozen,pI (AdG r20)])] tv ?_)
   refine Sq ?_
   refine Jn (ι := Ae) (fun (y3 : Ae) => Aj [(2,rr 1016),(3,rr 1024),(4,rr 1032),(6,rr 1048),(7,pI ((k1 : Nat) : Int)),(8,rr 1064)] [(1016,bx (pm (Ab p0))),(1024,bx (pm (Al p1))),(Agn),(1048,bx [ow 1384 s1.length,.p (.sl .nil 0 0 (fun _ => []))]),(1064,bx (pm (Bd y3))),(1384,ob0 (Af s1))]) (fun y3 => (Oa s1 n1) y3 = some RES) ?_ ?_
   ·intro y3 hm
    unfold Oa at hm
    obtain ⟨g22,hm⟩ := go1 hm
    refine RN hnt (nn 7 []) [(2,rr 1016),(3,rr 1024),(4,rr 1032),(6,rr 1048),(7,pI ((k1 : Nat) : Int))] [(1016,bx (pm (Ab p0))),(1024,bx (pm (Al p1))),(Agn),(1048,bx [ow 1384 (s1 ++ [y3]).length,.p (.sl .nil 0 0 (fun _ => []))]),(1384,ob0 (Af (s1 ++ [y3])))] [] [(1048,.box [ow 1384 (s1.length + 1),.p (.sl .nil 0 0 (fun _ => []))]),(1384,.row 4 (s1.length + 1) (Cp s1.length (Hq s1) (cut 4 [vi y3.group,vb y3.want,vb y3.frozen,vi y3.changes])))] (an (by omega : (s1.length + 1) * 24 ≤ 140737488355328) tv) (by kernel_rfl) .nil (.cons rfl (.box (.cons (MLe.ownLen (enc := Bd) (d := Bc) (f := (Cp s1.length (Hq s1) (cut 4 [vi y3.group,vb y3.want,vb y3.frozen,vi y3.changes]))) (RowIs.cat RowIs.elems (RowIs.lit (enc := Bd) (d := Bc) (n := 1) (f := (cut 4 [vi y3.group,vb y3.want,vb y3.frozen,vi y3.changes])) [y3] rfl (fun | 0,_ => rfl | n + 1,h => absurd h (by omega))))) (.cons .rfl .nil))) (.cons rfl (BLe.typed (RowIs.cat RowIs.elems (RowIs.lit (enc := Bd) (d := Bc) (n := 1) (f := (cut 4 [vi y3.group,vb y3.want,vb y3.frozen,vi y3.changes])) [y3] rfl (fun | 0,_ => rfl | n + 1,h => absurd h (by omega))))) .nil)) ?_
    refine DW.done ?_
    show DW _ _ _ _ _
    refine RD hnt (nn 3 []) [] [(7,pI (w64 (((k1 : Nat) : Int) + 1)))] [] [] tv ?_
    exact jD (s1 ++ [y3]) ⟨hlt1,hm⟩ (Conv.tp [(7,pI (w64 (((k1 : Nat) : Int) + 1)))] [] (by kernel_rfl) (.cons rfl (.of_eq (congrArg pI (Bo hlt1 hc1))) .nil) .nil)
   ·rcases bt r20.want with h21 | h21
    ·replace hm := Bg h21 hm
     refine RD hnt (nn 6 (pT :: nn 2 [])) [] [] [] [(1064,bx [pI r20.group,pB (r20.group != 1),pB r20.frozen,pI (AdG r20)])] (an4 h21 tv) ?_
     exact jD ({ group := r20.group,want := (r20.group != 1),frozen := r20.frozen,changes := (AdG r20) } : Ae) hm Conv.eqK
    ·replace hm := Bf h21 hm
     refine RD hnt (nn 3 (sk 3 (pF :: nn 2 []))) [] [] [] [(1064,bx [pI r20.group,pB false,pB r20.frozen,pI (AdG r20)])] (an4 h21 tv) ?_
     exact jD ({ group := r20.group,want := false,frozen := r20.frozen,changes := (AdG r20) } : Ae) hm Conv.eqK
  ·intro h19
   have hge1 : ¬ k1 < p0.tree.nodes.length := by have := of_decide_eq_false h19; omega
   have hm := he1 hge1
   unfold Sh at hm
   refine DW.exit ?_
   refine Ap ?_
   refine Au ?_
   refine Am ?_
   show DW _ _ _ _ _
   refine Sq (RD hnt (nn 4 []) [3,7,19] [] [1024] [(1048,bx [ow 1384 s1.length,.p (slI p1.stopped)])] tv ?_)
   refine Sq (DW.cv [] [] [1384] [(1048,bx [.p (En s1),.p (slI p1.stopped)])] (Conv.frz [1384]) ?_)
   obtain ⟨r24,hr24,hm⟩ := bo hm
   refine RD hnt (nn 2 (o118 [] true r24 :: nn 2 [])) [] [] [] [(1048,bx [.p (En s1),ow 1440 r24.length]),(1440,ob0 (roI r24))] (an (Acf p0 ({ frosts := s1,stopped := p1.stopped } : Ac) r24 hr24) tv) ?_
   refine Sq (DW.cv [] [] [1440] [(1048,bx [.p (En s1),.p (slI r24)])] (Conv.frz [1440]) ?_)
   obtain ⟨r26,hr26,hm⟩ := bo hm
   refine RK hnt (nn 2 (o122 [] true r26 :: nn 2 [])) [(4,rr 1032),(5,pI 0)] [(1032,bx [ow 1472 r26.frosts.length,ow 1473 r26.stopped.length]),(1472,ob0 (Af r26.frosts)),(1473,ob0 (roI r26.stopped))] (an (Vw p0 ({ frosts := s1,stopped := r24 } : Ac) r26 hr26) tv) ?_
   obtain rfl := sj hm
   exact DW.ret (Ai [Af r26.frosts,roI r26.stopped] [1472,1473] (.tup [.agg [ow 0 r26.frosts.length,ow 1 r26.stopped.length],pI 0]))
abbrev o116 (ks : List Nat) (b : Bool) (RES : Ac × Int) (sm : List Nat := []) : Orc := .call 76 ks b (.tup [.agg [ow 0 RES.1.frosts.length,ow 1 RES.1.stopped.length],pI RES.2]) [] [Af RES.1.frosts,roI RES.1.stopped] sm

theorem Adn (p0 : Aa) (RES : Ac) (hm : Oz p0 = some RES) : Spec Tryz.prog 72 [.p (.agg (Ab p0))] [] (.agg [ow 0 RES.frosts.length,ow 1 RES.stopped.length]) [] [Af RES.frosts,roI RES.stopped] := by
 unfold Oz at hm
 refine SO Tryz.func72 rfl rfl [(0,.p (.agg (Ab p0)))] [] ?_
 intro cx hnt
 refine Sq (RK hnt (nn 2 []) [(1,rr 1008),(2,rr 1016)] [(1008,bx (pm (Ab p0))),(1016,bx [.p (.sl .nil 0 0 (fun _ => [])),.p (.sl .nil 0 0 (fun _ => []))])] tv ?_)
 obtain ⟨r1,hr1,hm⟩ := bo hm
 refine Sq (RD hnt (nn 2 (o116 [] true r1 :: nn 6 [])) [1] [(3,rr 1024)] [1008] [(1024,bx [ow 1064 r1.1.frosts.length,ow 1065 r1.1.stopped.length]),(1064,ob0 (Af r1.1.frosts)),(1065,ob0 (roI r1.1.stopped))] (an (Spec.args (xs := [.p (.agg (Ab p0)),.p (.agg [.sl .nil 0 0 (fun _ => []),.sl .nil 0 0 (fun _ => [])])]) (Aax p0 ({ frosts := [],stopped := [] } : Ac) r1 hr1) (.cons .rfl (.cons (.p (.agg (.cons PLe.nilL (.cons PLe.nilL .nil)))) .nil))) tv) ?_)
 refine Sq (RD hnt (nn 2 []) [3] [] [1024] [(1016,bx [ow 1064 r1.1.frosts.length,ow 1065 r1.1.stopped.length])] tv ?_)
 obtain rfl := sj hm
 exact DW.ret (Ai [Af r1.1.frosts,roI r1.1.stopped] [1064,1065] (.agg [ow 0 r1.1.frosts.length,ow 1 r1.1.stopped.length]))
abbrev o115 (ks : List Nat) (b : Bool) (RES : Ac) (sm : List Nat := []) : Orc := .call 72 ks b (.agg [ow 0 RES.frosts.length,ow 1 RES.stopped.length]) [] [Af RES.frosts,roI RES.stopped] sm

abbrev Tg (p1 : Aa) (k1 : Nat) := (p1.tasks.getD k1 (default : Aw))
abbrev AdH (p1 : Aa) : Nat × Obj := (1032,bx (pm (Ab p1)))
theorem Qn (p0 : Aq) (p1 : Aa) (p2 : Bool) (RES : (List Int) × Aq) (hm : Kx p0 p1 p2 = some RES) : Spec Tryz.prog 30 [rr 0,.p (.agg (Ab p1)),pB p2] [.box (pm (An p0))] (ow 1 RES.1.length) [.box (pm (An RES.2))] [roI RES.1] := by
 unfold Kx at hm
 refine SO Tryz.func30 rfl rfl [(0,rr 0),(1,.p (.agg (Ab p1))),(2,pB p2)] [(0,bx (pm (An p0)))] ?_
 intro cx hnt
 refine Sq (RD hnt (nn 2 []) [1] [(4,rr 1032)] [] [(AdH p1)] tv ?_)
 refine Sq (RD hnt (.no :: []) [] [(7,.p (.sl .nil 0 0 (fun _ => [])))] [] [] tv ?_)
 refine Sq (Sq (RD hnt (.no :: []) [] [(8,pI 0)] [] [] tv ?_))
 refine Bk ?_
 obtain ⟨hc1,hm⟩ := go1 hm
 refine DW.rangeO (fun (k1 : Nat) (s1 : Aq × (List Int)) => Aj [(0,rr 0),(2,pB p2),(4,rr 1032),(7,ow 1240 s1.2.length),(8,pI ((k1 : Nat) : Int))] [(0,bx (pm (An s1.1))),(AdH p1),(1240,ob0 (roI s1.2))]) Bu hm (Conv.ads [(.s 7,1240,1,elems Bi 0 [])]) ?_
 intro k1 s1 n1 hk1 hs1 he1
 refine Sq (Sq (RD hnt (nn 5 []) [] [(13,pB (decide (((k1 : Nat) : Int) < ((p1.tasks.length : Nat) : Int))))] [] [] tv ?_))
 refine Cd (decide (((k1 : Nat) : Int) < ((p1.tasks.length : Nat) : Int))) ?_ ?_
 ·intro h12
  have hlt1 : k1 < p1.tasks.length := by have := of_decide_eq_true h12; omega
  have hm := hs1 hlt1
  unfold Sy at hm
  refine Sk ?_
  refine Sq ?_
  refine Jn (ι := Aq × (List Int)) (fun (y5 : Aq × (List Int)) => Aj [(0,rr 0),(2,pB p2),(4,rr 1032),(7,ow 1240 y5.2.length),(8,pI ((k1 : Nat) : Int))] [(0,bx (pm (An y5.1))),(AdH p1),(1240,ob0 (roI y5.2))]) (fun y5 => (Lc n1) y5 = some RES) ?_ ?_
  ·intro y5 hm
   unfold Lc at hm
   refine RD hnt (nn 3 []) [] [(8,pI (w64 (((k1 : Nat) : Int) + 1)))] [] [] tv ?_
   exact jD (y5.1,y5.2) ⟨hlt1,hm⟩ (Conv.tp [(8,pI (w64 (((k1 : Nat) : Int) + 1)))] [] (by kernel_rfl) (.cons rfl (.of_eq (congrArg pI (Bo hlt1 hc1))) .nil) .nil)
  ·refine Bk ?_
   refine Sq ?_
   refine Jn (ι := Aq × Bool) (fun (y6 : Aq × Bool) => Aj [(0,rr 0),(2,pB p2),(4,rr 1032),(7,ow 1240 s1.2.length),(8,pI ((k1 : Nat) : Int)),(21,pB y6.2)] [(0,bx (pm (An y6.1))),(AdH p1),(1240,ob0 (roI s1.2))]) (fun y6 => (Jg (Tg p1 k1) s1 n1) y6 = some RES) ?_ ?_
   ·intro y6 hm
    unfold Jg at hm
    refine Ah hm ?_ ?_
    ·intro h15 hm
     obtain ⟨g16,hm⟩ := go1 hm
     refine RN hnt (nn 10 []) [(0,rr 0),(2,pB p2),(4,rr 1032),(7,ow 1240 (s1.2 ++ [(Tg p1 k1).id]).length),(8,pI ((k1 : Nat) : Int))] [(0,bx (pm (An y6.1))),(AdH p1),(1240,ob0 (roI (s1.2 ++ [(Tg p1 k1).id])))] [(7,ow 1240 (s1.2.length + 1))] [(1240,.row 1 (s1.2.length + 1) (Cp s1.2.length (elI s1.2) (cut 1 [vi (Tg p1 k1).id])))] (an (nn0 k1) (an (ltc hlt1) (an (by omega : (s1.2.length + 1) * 8 ≤ 140737488355328) tv))) (by kernel_rfl) (.cons rfl (MLe.ownLen (enc := Bi) (d := 0) (f := (Cp s1.2.length (elI s1.2) (cut 1 [vi (Tg p1 k1).id]))) (RowIs.cat RowIs.elems (RowIs.lit (enc := Bi) (d := 0) (n := 1) (f := (cut 1 [vi (Tg p1 k1).id])) [(Tg p1 k1).id] rfl (fun | 0,_ => rfl | n + 1,h => absurd h (by omega))))) .nil) (.cons rfl (BLe.typed (RowIs.cat RowIs.elems (RowIs.lit (enc := Bi) (d := 0) (n := 1) (f := (cut 1 [vi (Tg p1 k1).id])) [(Tg p1 k1).id] rfl (fun | 0,_ => rfl | n + 1,h => absurd h (by omega))))) .nil) ?_
     exact bD (y6.1,(s1.2 ++ [(Tg p1 k1).id])) hm .refl
    ·intro h15 hm
     refine Sk ?_
     exact bD (y6.1,s1.2) hm Conv.t0
   ·rcases bt p2 with h13 | h13
    ·replace hm := Bg h13 hm
     refine RD hnt (nn 2 (sk 3 (pT :: []))) [13] [(21,pB true)] [] [] (an4 h13 tv) ?_
     exact jD (s1.1,true) hm Conv.eqK
    ·replace hm := Bf h13 hm
     obtain ⟨r14,hr14,hm⟩ := bo hm
     refine RD hnt (nn 3 (o72 [0] true r14 :: .no :: pF :: [])) [13] [(21,pB (decide (r14.1 > 0)))] [] [(0,bx (pm (An r14.2)))] (an2 h13 (an (Bp s1.1 4 r14 hr14) (an tv (an2 h13 tv)))) ?_
     exact jD (r14.2,(decide (r14.1 > 0))) hm Conv.eqK
 ·intro h12
  have hge1 : ¬ k1 < p1.tasks.length := by have := of_decide_eq_false h12; omega
  have hm := he1 hge1
  unfold Ze at hm
  refine DW.exit ?_
  refine Ap ?_
  refine Au ?_
  refine Am ?_
  show DW _ _ _ _ _
  refine Sq (RD hnt (nn 2 []) [0,2,4,7,8,13] [(6,ow 1240 s1.2.length)] [1032] [] tv ?_)
  obtain rfl := sj hm
  exact DW.ret (Ai [.box (pm (An s1.1)),roI s1.2] [1240] (ow 1 s1.2.length))
abbrev o124 (ks : List Nat) (b : Bool) (RES : (List Int) × Aq) (sm : List Nat := []) : Orc := .call 30 ks b (ow 1 RES.1.length) [.box (pm (An RES.2))] [roI RES.1] sm

abbrev AaM (p0 : Aa) : Nat × Obj := (1016,bx (pm (Ab p0)))
abbrev AaI (p1 : Ac) : Nat × Obj := (1024,bx (pm (Al p1)))
abbrev Aek (p1 : Ac) (k1 : Nat) := (p1.frosts.getD k1 (default : Ae))
theorem Dj (p0 : Aa) (p1 : Ac) (RES : Bool) (hm : Ip p0 p1 = some RES) : Spec Tryz.prog 78 [.p (.agg (Ab p0)),.p (.agg (Al p1))] [] (pB RES) [] [] := by
 unfold Ip at hm
 refine SO Tryz.func78 rfl rfl [(0,.p (.agg (Ab p0))),(1,.p (.agg (Al p1)))] [] ?_
 intro cx hnt
 refine Sq (RK hnt (nn 3 []) [(2,rr 1016),(3,rr 1024)] [(AaM p0),(AaI p1)] tv ?_)
 obtain ⟨r1,hr1,hm⟩ := bo hm
 refine Sq (Sq ?_)
 refine Jn (ι := Bool) (fun (y1 : Bool) => Aj [(2,rr 1016),(3,rr 1024),(23,pB y1)] [(AaM p0),(AaI p1)]) (fun y1 => (Py p0 p1) y1 = some RES) ?_ ?_
 ·intro y1 hm
  unfold Py at hm
  refine Ah hm ?_ ?_
  ·intro h3 hm
   refine Sq (RK hnt (.no :: []) [(4,pB false)] [] tv ?_)
   obtain rfl := sj hm
   exact DW.ret (Ai [] [] (pB false))
  ·intro h3 hm
   refine Sk ?_
   refine Sq (Sq (RD hnt (.no :: []) [23] [(5,pI 0)] [] [] tv ?_))
   refine Bk ?_
   obtain ⟨hc1,hm⟩ := go1 hm
   refine DW.rangeO (fun (k1 : Nat) (s1 : Unit) => Aj [(2,rr 1016),(3,rr 1024),(5,pI ((k1 : Nat) : Int))] [(AaM p0),(AaI p1)]) Bc hm Conv.eqK ?_
   intro k1 s1 n1 hk1 hs1 he1
   refine Sq (Sq (RD hnt (nn 5 []) [] [(28,pB (decide (((k1 : Nat) : Int) < ((p1.frosts.length : Nat) : Int))))] [] [] tv ?_))
   refine Cd (decide (((k1 : Nat) : Int) < ((p1.frosts.length : Nat) : Int))) ?_ ?_
   ·intro h119
    have hlt1 : k1 < p1.frosts.length := by have := of_decide_eq_true h119; omega
    have hm := hs1 hlt1
    unfold Yp at hm
    refine Sk ?_
    refine Sq (Bk ?_)
    refine Sq (RD hnt (nn 7 []) [28] [(6,rr 1048)] [] [(1048,bx (pm (Bd (Aek p1 k1))))] (an (nn0 k1) (an (ltc hlt1) tv)) ?_)
    obtain ⟨g120,hm⟩ := go1 hm
    refine Sq ?_
    refine Jn (ι := Bool) (fun (y10 : Bool) => Aj [(2,rr 1016),(3,rr 1024),(5,pI ((k1 : Nat) : Int)),(55,pB y10)] [(AaM p0),(AaI p1)]) (fun y10 => (Lx n1) y10 = some RES) ?_ ?_
    ·intro y10 hm
     unfold Lx at hm
     refine Ah hm ?_ ?_
     ·intro h124 hm
      refine Sq (RK hnt (.no :: []) [(4,pB false)] [] tv ?_)
      obtain rfl := sj hm
      exact DW.ret (Ai [] [] (pB false))
     ·intro h124 hm
      refine Sk ?_
      refine DW.done ?_
      show DW _ _ _ _ _
      refine RD hnt (nn 3 []) [55] [(5,pI (w64 (((k1 : Nat) : Int) + 1)))] [] [] tv ?_
      exact jD () ⟨hlt1,hm⟩ (Conv.tp [(5,pI (w64 (((k1 : Nat) : Int) + 1)))] [] (by kernel_rfl) (.cons rfl (.of_eq (congrArg pI (Bo hlt1 hc1))) .nil) .nil)
    ·rcases bt ((Aek p1 k1).group != (p0.tree.nodes.getD k1 Bm).id) with h121 | h121
     ·replace hm := Bg h121 hm
      refine RD hnt (nn 11 (sk 3 (pT :: .no :: sk 3 (pT :: [])))) [6] [(55,pB true)] [1048] [] (an (nn0 k1) (an (ltc g120) (an4 h121 (an4 tt tv)))) ?_
      exact jD true hm Conv.eqK
     ·replace hm := Bf h121 hm
      rcases bt (decide ((Aek p1 k1).changes < 0)) with h122 | h122
      ·replace hm := Bg h122 hm
       refine RD hnt (nn 14 (pF :: .no :: sk 3 (pT :: []))) [6] [(55,pB true)] [1048] [] (an (nn0 k1) (an (ltc g120) (an4 h121 (an4 h122 tv)))) ?_
       exact jD true hm Conv.eqK
      ·replace hm := Bf h122 hm
       refine RD hnt (nn 14 (pF :: nn 4 (pF :: []))) [6] [(55,pB (decide ((Aek p1 k1).changes > 1099511627776)))] [1048] [] (an (nn0 k1) (an (ltc g120) (an4 h121 (an4 h122 tv)))) ?_
       exact jD (decide ((Aek p1 k1).changes > 1099511627776)) hm Conv.eqK
   ·intro h119
    have hge1 : ¬ k1 < p1.frosts.length := by have := of_decide_eq_false h119; omega
    have hm := he1 hge1
    unfold Ym at hm
    refine DW.exit ?_
    refine Ap ?_
    refine Au ?_
    refine Am ?_
    show DW _ _ _ _ _
    refine Sq (Sq (RD hnt (.no :: []) [5,28] [(7,pI 0)] [] [] tv ?_))
    refine Bk ?_
    obtain ⟨hc10,hm⟩ := go1 hm
    refine DW.rangeO (fun (k10 : Nat) (s10 : Unit) => Aj [(2,rr 1016),(3,rr 1024),(7,pI ((k10 : Nat) : Int))] [(AaM p0),(AaI p1)]) 0 hm Conv.eqK ?_
    intro k10 s10 n10 hk10 hs10 he10
    refine Sq (Sq (RD hnt (nn 5 []) [] [(60,pB (decide (((k10 : Nat) : Int) < ((p1.stopped.length : Nat) : Int))))] [] [] tv ?_))
    refine Cd (decide (((k10 : Nat) : Int) < ((p1.stopped.length : Nat) : Int))) ?_ ?_
    ·intro h173
     have hlt10 : k10 < p1.stopped.length := by have := of_decide_eq_true h173; omega
     have hm := hs10 hlt10
     unfold Wu at hm
     refine Sk ?_
     refine Sq (Bk ?_)
     obtain ⟨r174,hr174,hm⟩ := bo hm
     refine Sq (RD hnt (nn 6 (o98 [] true r174 :: nn 6 [])) [60] [(8,rr 1064),(9,pB r174.2)] [] [(1064,bx (pm (Az r174.1)))] (an (nn0 k10) (an (ltc hlt10) (an (Mv p0 (p1.stopped.getD k10 0) r174 hr174) tv))) ?_)
     refine Sq ?_
     refine Jn (ι := Bool) (fun (y13 : Bool) => Aj [(2,rr 1016),(3,rr 1024),(7,pI ((k10 : Nat) : Int)),(101,pB y13)] [(AaM p0),(AaI p1)]) (fun y13 => (Ih n10) y13 = some RES) ?_ ?_
     ·intro y13 hm
      unfold Ih at hm
      refine Ah hm ?_ ?_
      ·intro h181 hm
       refine Sq (RK hnt (.no :: []) [(4,pB false)] [] tv ?_)
       obtain rfl := sj hm
       exact DW.ret (Ai [] [] (pB false))
      ·intro h181 hm
       refine Sk ?_
       refine DW.done ?_
       show DW _ _ _ _ _
       refine RD hnt (nn 3 []) [101] [(7,pI (w64 (((k10 : Nat) : Int) + 1)))] [] [] tv ?_
       exact jD () ⟨hlt10,hm⟩ (Conv.tp [(7,pI (w64 (((k10 : Nat) : Int) + 1)))] [] (by kernel_rfl) (.cons rfl (.of_eq (congrArg pI (Bo hlt10 hc10))) .nil) .nil)
     ·rcases bt (!r174.2) with h175 | h175
      ·replace hm := Bg h175 hm
       refine RD hnt (nn 3 (sk 16 (pT :: .no :: sk 7 (pT :: [])))) [8,9] [(101,pB true)] [1064] [] (an5 h175 (an2 tt (an6 tt tv))) ?_
       exact jD true hm Conv.eqK
      ·replace hm := Bf h175 hm
       rcases bt (decide (((k10 : Nat) : Int) > 0)) with h176 | h176
       ·replace hm := Bg h176 hm
        obtain ⟨g177,hm⟩ := go1 hm
        rcases bt (decide ((p1.stopped.getD k10 0) ≤ (p1.stopped.getD (Int.toNat (w64 (((k10 : Nat) : Int) - 1))) 0))) with h178 | h178
        ·replace hm := Bg h178 hm
         refine RD hnt (nn 18 (pT :: pF :: .no :: sk 7 (pT :: []))) [8,9] [(101,pB true)] [1064] [] (an3 h175 (an4 h176 (an (nn0 k10) (an (ltc hlt10) (an6 h176 (an g177.1 (an g177.2 (an2 h176 (an h175 (an h176 (an h175 (an2 h178 (an6 h178 tv))))))))))))) ?_
         exact jD true hm Conv.eqK
        ·replace hm := Bf h178 hm
         obtain ⟨r179,hr179,hm⟩ := bo hm
         refine RD hnt (nn 18 (pT :: pF :: nn 6 (o121 [] true r179 :: .no :: pF :: []))) [8,9] [(101,pB (!r179))] [1064] [] (an3 h175 (an4 h176 (an (nn0 k10) (an (ltc hlt10) (an6 h176 (an g177.1 (an g177.2 (an2 h176 (an h175 (an h176 (an h175 (an6 h178 (an (Ic p0.tree p1 r174.1.group r179 hr179) (an2 h178 tv)))))))))))))) ?_
         exact jD (!r179) hm Conv.eqK
       ·replace hm := Bf h176 hm
        obtain ⟨r180,hr180,hm⟩ := bo hm
        refine RD hnt (nn 6 (sk 12 (pF :: pF :: nn 6 (o121 [] true r180 :: .no :: pF :: [])))) [8,9] [(101,pB (!r180))] [1064] [] (an3 h175 (an6 h176 (an6 h176 (an h175 (an h176 (an h175 (an6 ff (an (Ic p0.tree p1 r174.1.group r180 hr180) (an2 ff tv))))))))) ?_
        exact jD (!r180) hm Conv.eqK
    ·intro h173
     have hge10 : ¬ k10 < p1.stopped.length := by have := of_decide_eq_false h173; omega
     have hm := he10 hge10
     unfold Ws at hm
     refine DW.exit ?_
     refine Ap ?_
     refine Au ?_
     refine Am ?_
     show DW _ _ _ _ _
     refine Sq (Sq (RD hnt (.no :: []) [7,60] [(10,pI 0)] [] [] tv ?_))
     refine Bk ?_
     obtain ⟨hc13,hm⟩ := go1 hm
     refine DW.rangeO (fun (k13 : Nat) (s13 : Unit) => Aj [(2,rr 1016),(3,rr 1024),(10,pI ((k13 : Nat) : Int))] [(AaM p0),(AaI p1)]) Bc hm Conv.eqK ?_
     intro k13 s13 n13 hk13 hs13 he13
     refine Sq (Sq (RD hnt (nn 5 []) [] [(106,pB (decide (((k13 : Nat) : Int) < ((p1.frosts.length : Nat) : Int))))] [] [] tv ?_))
     refine Cd (decide (((k13 : Nat) : Int) < ((p1.frosts.length : Nat) : Int))) ?_ ?_
     ·intro h192
      have hlt13 : k13 < p1.frosts.length := by have := of_decide_eq_true h192; omega
      have hm := hs13 hlt13
      unfold Wh at hm
      refine Sk ?_
      refine Sq (Bk ?_)
      obtain ⟨r193,hr193,hm⟩ := bo hm
      refine Sq (RD hnt (nn 14 (o123 [] true r193 :: .no :: [])) [106] [(124,pB ((p1.frosts.getD k13 (default : Ae)).frozen != r193))] [] [] (an (nn0 k13) (an (ltc hlt13) (an (nn0 k13) (an (ltc hlt13) (an (AaY p0 p1 (p1.frosts.getD k13 (default : Ae)).group r193 hr193) tv))))) ?_)
      refine Ah hm ?_ ?_
      ·intro h194 hm
       refine Sq (RK hnt (.no :: []) [(4,pB false)] [] tv ?_)
       obtain rfl := sj hm
       exact DW.ret (Ai [] [] (pB false))
      ·intro h194 hm
       refine Sk ?_
       refine DW.done ?_
       show DW _ _ _ _ _
       refine RD hnt (nn 3 []) [124] [(10,pI (w64 (((k13 : Nat) : Int) + 1)))] [] [] tv ?_
       exact jD () ⟨hlt13,hm⟩ (Conv.tp [(10,pI (w64 (((k13 : Nat) : Int) + 1)))] [] (by kernel_rfl) (.cons rfl (.of_eq (congrArg pI (Bo hlt13 hc13))) .nil) .nil)
     ·intro h192
      have hge13 : ¬ k13 < p1.frosts.length := by have := of_decide_eq_false h192; omega
      have hm := he13 hge13
      unfold Aci at hm
      refine DW.exit ?_
      refine Ap ?_
      refine Au ?_
      refine Am ?_
      show DW _ _ _ _ _
      refine Sq (RK hnt (.no :: []) [(4,pB true)] [] tv ?_)
      obtain rfl := sj hm
      exact DW.ret (Ai [] [] (pB true))
 ·rcases bt (!r1) with h2 | h2
  ·replace hm := Bg h2 hm
   refine RD hnt (.no :: o93 [] true r1 :: nn 2 (sk 8 (pT :: []))) [] [(23,pB true)] [] [] (an (El p0 r1 hr1) (an3 h2 (an6 h2 tv))) ?_
   exact jD true hm Conv.eqK
  ·replace hm := Bf h2 hm
   refine RD hnt (.no :: o93 [] true r1 :: nn 10 (pF :: [])) [] [(23,pB (((p1.frosts.length : Nat) : Int) != ((p0.tree.nodes.length : Nat) : Int)))] [] [] (an (El p0 r1 hr1) (an3 h2 (an6 h2 tv))) ?_
   exact jD (((p1.frosts.length : Nat) : Int) != ((p0.tree.nodes.length : Nat) : Int)) hm Conv.eqK
abbrev Wi (ks : List Nat) (b : Bool) (RES : Bool) (sm : List Nat := []) : Orc := .call 78 ks b (pB RES) [] [] sm

abbrev Jm (p0 : Aa) (k1 : Nat) := (p0.tasks.getD k1 (default : Aw))
abbrev AdX : Nat × Obj := (1048,bx [.p (.sl .nil 0 0 (fun _ => [])),.p (.sl .nil 0 0 (fun _ => []))])
abbrev Aej (p0 : Aa) : Nat × Obj := (1024,bx (pm (Ab p0)))
abbrev AdK (p1 : Ac) : Nat × Obj := (1032,bx (pm (Al p1)))
theorem AbV (p0 : Aa) (p1 : Ac) (p2 : List Int) (RES : Ac × Int) (hm : Lh p0 p1 p2 = some RES) : Spec Tryz.prog 73 [.p (.agg (Ab p0)),.p (.agg (Al p1)),.p (slI p2)] [] (.tup [.agg [ow 0 RES.1.frosts.length,ow 1 RES.1.stopped.length],pI RES.2]) [] [Af RES.1.frosts,roI RES.1.stopped] := by
 unfold Lh at hm
 refine SO Tryz.func73 rfl rfl [(0,.p (.agg (Ab p0))),(1,.p (.agg (Al p1))),(2,.p (slI p2))] [] ?_
 intro cx hnt
 refine Sq (RK hnt (nn 4 []) [(2,.p (slI p2)),(3,rr 1024),(4,rr 1032),(6,rr 1048)] [(Aej p0),(AdK p1),(AdX)] tv ?_)
 obtain ⟨r1,hr1,hm⟩ := bo hm
 refine Sq (Sq (RD hnt (nn 2 (Wi [] true r1 :: .no :: [])) [] [(14,pB (!r1))] [] [] (an (Dj p0 p1 r1 hr1) tv) ?_))
 refine Ah hm ?_ ?_
 ·intro h2 hm
  refine Sq (RD hnt (nn 3 []) [2,3,4,14] [(7,pI 1)] [1024,1032] [] tv ?_)
  refine DW.cv [] [] [] [(1048,bx [ow 100000 0,ow 100001 0]),(100000,ob0 (Af [])),(100001,ob0 (roI []))] (Conv.ads [(.o 1048 0,100000,4,elems Bd Bc []),(.o 1048 1,100001,1,elems Bi 0 [])]) ?_
  obtain rfl := sj hm
  exact DW.ret (Ai [Af [],roI []] [100000,100001] (.tup [.agg [ow 0 0,ow 1 0],pI 1]))
 ·intro h2 hm
  refine Sk ?_
  refine Sq (RD hnt (.no :: []) [14] [(8,.p (.sl .nil 0 0 (fun _ => [])))] [] [] tv ?_)
  refine Sq (Sq (RD hnt (.no :: []) [] [(9,pI 0)] [] [] tv ?_))
  refine Bk ?_
  obtain ⟨hc1,hm⟩ := go1 hm
  refine DW.rangeO (fun (k1 : Nat) (s1 : List Int) => Aj [(2,.p (slI p2)),(3,rr 1024),(4,rr 1032),(6,rr 1048),(8,ow 1408 s1.length),(9,pI ((k1 : Nat) : Int))] [(Aej p0),(AdK p1),(AdX),(1408,ob0 (roI s1))]) Bu hm (Conv.ads [(.s 8,1408,1,elems Bi 0 [])]) ?_
  intro k1 s1 n1 hk1 hs1 he1
  refine Sq (Sq (RD hnt (nn 5 []) [] [(20,pB (decide (((k1 : Nat) : Int) < ((p0.tasks.length : Nat) : Int))))] [] [] tv ?_))
  refine Cd (decide (((k1 : Nat) : Int) < ((p0.tasks.length : Nat) : Int))) ?_ ?_
  ·intro h23
   have hlt1 : k1 < p0.tasks.length := by have := of_decide_eq_true h23; omega
   have hm := hs1 hlt1
   unfold Aai at hm
   refine Sk ?_
   refine Sq ?_
   refine Jn (ι := List Int) (fun (y5 : List Int) => Aj [(2,.p (slI p2)),(3,rr 1024),(4,rr 1032),(6,rr 1048),(8,ow 1408 y5.length),(9,pI ((k1 : Nat) : Int))] [(Aej p0),(AdK p1),(AdX),(1408,ob0 (roI y5))]) (fun y5 => (Rk n1) y5 = some RES) ?_ ?_
   ·intro y5 hm
    unfold Rk at hm
    refine RD hnt (nn 3 []) [] [(9,pI (w64 (((k1 : Nat) : Int) + 1)))] [] [] tv ?_
    exact jD y5 ⟨hlt1,hm⟩ (Conv.tp [(9,pI (w64 (((k1 : Nat) : Int) + 1)))] [] (by kernel_rfl) (.cons rfl (.of_eq (congrArg pI (Bo hlt1 hc1))) .nil) .nil)
   ·refine Bk ?_
    refine Sq (RD hnt (nn 7 []) [20] [(10,rr 1080)] [] [(1080,bx (pm (Az (Jm p0 k1))))] (an (nn0 k1) (an (ltc hlt1) tv)) ?_)
    obtain ⟨r24,hr24,hm⟩ := bo hm
    refine Sq ?_
    refine Jn (ι := Bool) (fun (y6 : Bool) => Aj [(2,.p (slI p2)),(3,rr 1024),(4,rr 1032),(6,rr 1048),(8,ow 1408 s1.length),(9,pI ((k1 : Nat) : Int)),(10,rr 1080),(46,pB y6)] [(Aej p0),(AdK p1),(AdX),(1080,bx (pm (Az (Jm p0 k1)))),(1408,ob0 (roI s1))]) (fun y6 => (Ou (Jm p0 k1) s1 n1) y6 = some RES) ?_ ?_
    ·intro y6 hm
     unfold Ou at hm
     refine Ah hm ?_ ?_
     ·intro h29 hm
      obtain ⟨g30,hm⟩ := go1 hm
      refine RN hnt (nn 6 []) [(2,.p (slI p2)),(3,rr 1024),(4,rr 1032),(6,rr 1048),(8,ow 1408 (s1 ++ [(Jm p0 k1).id]).length),(9,pI ((k1 : Nat) : Int))] [(Aej p0),(AdK p1),(AdX),(1408,ob0 (roI (s1 ++ [(Jm p0 k1).id])))] [(8,ow 1408 (s1.length + 1))] [(1408,.row 1 (s1.length + 1) (Cp s1.length (elI s1) (cut 1 [vi (Jm p0 k1).id])))] (an (by omega : (s1.length + 1) * 8 ≤ 140737488355328) tv) (by kernel_rfl) (.cons rfl (MLe.ownLen (enc := Bi) (d := 0) (f := (Cp s1.length (elI s1) (cut 1 [vi (Jm p0 k1).id]))) (RowIs.cat RowIs.elems (RowIs.lit (enc := Bi) (d := 0) (n := 1) (f := (cut 1 [vi (Jm p0 k1).id])) [(Jm p0 k1).id] rfl (fun | 0,_ => rfl | n + 1,h => absurd h (by omega))))) .nil) (.cons rfl (BLe.typed (RowIs.cat RowIs.elems (RowIs.lit (enc := Bi) (d := 0) (n := 1) (f := (cut 1 [vi (Jm p0 k1).id])) [(Jm p0 k1).id] rfl (fun | 0,_ => rfl | n + 1,h => absurd h (by omega))))) .nil) ?_
      exact bD (s1 ++ [(Jm p0 k1).id]) hm .refl
     ·intro h29 hm
      refine Sk ?_
      exact bD s1 hm Conv.t0
    ·rcases bt r24 with h25 | h25
     ·replace hm := Bg h25 hm
      refine RD hnt (nn 3 (Vk [] true r24 :: .no :: sk 13 (pT :: []))) [] [(46,pB true)] [] [] (an (Cl p1 (Jm p0 k1).id r24 hr24) (an3 h25 (an6 h25 tv))) ?_
      exact jD true hm Conv.eqK
     ·replace hm := Bf h25 hm
      obtain ⟨r26,hr26,hm⟩ := bo hm
      rcases bt r26 with h27 | h27
      ·replace hm := Bg h27 hm
       obtain ⟨r28,hr28,hm⟩ := bo hm
       refine RD hnt (nn 3 (Vk [] true r24 :: nn 6 (o121 [] true r26 :: nn 4 (o120 [] true r28 :: .no :: pT :: pF :: [])))) [] [(46,pB (!r28))] [] [] (an (Cl p1 (Jm p0 k1).id r24 hr24) (an6 h25 (an (Ic p0.tree p1 (Jm p0 k1).group r26 hr26) (an h25 (an4 h27 (an (Un p2 (Jm p0 k1).id r28 hr28) (an h27 (an h25 (an h27 (an h25 tv)))))))))) ?_
       exact jD (!r28) hm Conv.eqK
      ·replace hm := Bf h27 hm
       refine RD hnt (nn 3 (Vk [] true r24 :: nn 6 (o121 [] true r26 :: .no :: sk 5 (pF :: pF :: [])))) [] [(46,pB false)] [] [] (an (Cl p1 (Jm p0 k1).id r24 hr24) (an6 h25 (an (Ic p0.tree p1 (Jm p0 k1).group r26 hr26) (an h25 (an5 h27 (an h25 (an h27 (an h25 tv)))))))) ?_
       exact jD false hm Conv.eqK
  ·intro h23
   have hge1 : ¬ k1 < p0.tasks.length := by have := of_decide_eq_false h23; omega
   have hm := he1 hge1
   unfold Uq at hm
   refine DW.exit ?_
   refine Ap ?_
   refine Au ?_
   refine Am ?_
   show DW _ _ _ _ _
   refine Sq (DW.cv [] [(8,.p (slI s1))] [1408] [] (Conv.frz [1408]) ?_)
   obtain ⟨r32,hr32,hm⟩ := bo hm
   refine RK hnt (nn 5 (o122 [] true r32 :: nn 2 [])) [(6,rr 1048),(7,pI 0)] [(1048,bx [ow 1456 r32.frosts.length,ow 1457 r32.stopped.length]),(1456,ob0 (Af r32.frosts)),(1457,ob0 (roI r32.stopped))] (an (Vw p0 ({ frosts := p1.frosts,stopped := s1 } : Ac) r32 hr32) tv) ?_
   obtain rfl := sj hm
   exact DW.ret (Ai [Af r32.frosts,roI r32.stopped] [1456,1457] (.tup [.agg [ow 0 r32.frosts.length,ow 1 r32.stopped.length],pI 0]))
abbrev o125 (ks : List Nat) (b : Bool) (RES : Ac × Int) (sm : List Nat := []) : Orc := .call 73 ks b (.tup [.agg [ow 0 RES.1.frosts.length,ow 1 RES.1.stopped.length],pI RES.2]) [] [Af RES.1.frosts,roI RES.1.stopped] sm

abbrev AdF (s1 : (List Ae) × Int) (p3 : Bool) := ({ group := (s1.1.getD (Int.toNat s1.2) Bc).group,want := p3,frozen := (s1.1.getD (Int.toNat s1.2) Bc).frozen,changes := (s1.1.getD (Int.toNat s1.2) Bc).changes } : Ae)
abbrev Aer : Nat × Obj := (1064,bx [.p (.sl .nil 0 0 (fun _ => [])),.p (.sl .nil 0 0 (fun _ => []))])
abbrev c127e3 (s1 : (List Ae) × Int) (p3 : Bool) := (Ca (Hq s1.1) (Int.toNat s1.2) [vi (s1.1.getD (Int.toNat s1.2) Bc).group,vb p3,vb (s1.1.getD (Int.toNat s1.2) Bc).frozen,vi (s1.1.getD (Int.toNat s1.2) Bc).changes])
abbrev AeB (p0 : Aa) : Nat × Obj := (1032,bx (pm (Ab p0)))
theorem Add (p0 : Aa) (p1 : Ac) (p2 : Int) (p3 : Bool) (RES : Ac × Int) (hm : Ng p0 p1 p2 p3 = some RES) : Spec Tryz.prog 74 [.p (.agg (Ab p0)),.p (.agg (Al p1)),pI p2,pB p3] [] (.tup [.agg [ow 0 RES.1.frosts.length,ow 1 RES.1.stopped.length],pI RES.2]) [] [Af RES.1.frosts,roI RES.1.stopped] := by
 unfold Ng at hm
 refine SO Tryz.func74 rfl rfl [(0,.p (.agg (Ab p0))),(1,.p (.agg (Al p1))),(2,pI p2),(3,pB p3)] [] ?_
 intro cx hnt
 refine Sq (RD hnt (nn 4 []) [0,1] [(4,rr 1032),(5,rr 1040),(8,rr 1064)] [] [(AeB p0),(1040,bx (pm (Al p1))),(Aer)] tv ?_)
 refine Sq (Bk ?_)
 obtain ⟨r1,hr1,hm⟩ := bo hm
 refine Sq (RD hnt (nn 2 (Wi [] true r1 :: nn 2 [])) [] [(11,pB (!r1))] [] [] (an (Dj p0 p1 r1 hr1) tv) ?_)
 refine Ah hm ?_ ?_
 ·intro h2 hm
  refine Sq (RD hnt (nn 3 []) [2,3,4,5,11] [(9,pI 1)] [1032,1040] [] tv ?_)
  refine DW.cv [] [] [] [(1064,bx [ow 100000 0,ow 100001 0]),(100000,ob0 (Af [])),(100001,ob0 (roI []))] (Conv.ads [(.o 1064 0,100000,4,elems Bd Bc []),(.o 1064 1,100001,1,elems Bi 0 [])]) ?_
  obtain rfl := sj hm
  exact DW.ret (Ai [Af [],roI []] [100000,100001] (.tup [.agg [ow 0 0,ow 1 0],pI 1]))
 ·intro h2 hm
  obtain ⟨r3,hr3,hm⟩ := bo hm
  refine Sq (RD hnt (nn 3 (o79 [] true r3 :: nn 2 [])) [11] [(17,pB (!r3))] [] [] (an (Cy p0.tree p2 r3 hr3) tv) ?_)
  refine Ah hm ?_ ?_
  ·intro h4 hm
   refine Sq (RD hnt (nn 3 []) [2,3,4,5,17] [(9,pI 4)] [1032,1040] [] tv ?_)
   refine DW.cv [] [] [] [(1064,bx [ow 100000 0,ow 100001 0]),(100000,ob0 (Af [])),(100001,ob0 (roI []))] (Conv.ads [(.o 1064 0,100000,4,elems Bd Bc []),(.o 1064 1,100001,1,elems Bi 0 [])]) ?_
   obtain rfl := sj hm
   exact DW.ret (Ai [Af [],roI []] [100000,100001] (.tup [.agg [ow 0 0,ow 1 0],pI 4]))
  ·intro h4 hm
   refine Sq (RD hnt (nn 3 []) [17] [(24,pB (p2 == 1))] [] [] tv ?_)
   refine Ah hm ?_ ?_
   ·intro h5 hm
    refine Sq (RD hnt (nn 3 []) [2,3,4,5,24] [(9,pI 9)] [1032,1040] [] tv ?_)
    refine DW.cv [] [] [] [(1064,bx [ow 100000 0,ow 100001 0]),(100000,ob0 (Af [])),(100001,ob0 (roI []))] (Conv.ads [(.o 1064 0,100000,4,elems Bd Bc []),(.o 1064 1,100001,1,elems Bi 0 [])]) ?_
    obtain rfl := sj hm
    exact DW.ret (Ai [Af [],roI []] [100000,100001] (.tup [.agg [ow 0 0,ow 1 0],pI 9]))
   ·intro h5 hm
    refine Sk ?_
    refine DW.done ?_
    show DW _ _ _ _ _
    obtain ⟨g6,hm⟩ := go1 hm
    refine Sq (RN hnt (nn 5 []) [(2,pI p2),(3,pB p3),(4,rr 1032),(5,rr 1040),(8,rr 1064)] [(AeB p0),(1040,bx [ow 1240 p1.frosts.length,.p (slI p1.stopped)]),(Aer),(1240,ob0 (Af p1.frosts))] [] [(1240,.row 4 p1.frosts.length (Hq p1.frosts))] (an (by omega : p1.frosts.length * 24 ≤ 140737488355328) tv) (by kernel_rfl) .nil (.cons rfl (BLe.typed RowIs.elems) .nil) ?_)
    refine Sq (Sq (RD hnt (.no :: []) [] [(10,pI 0)] [] [] tv ?_))
    refine Bk ?_
    refine DW.whileO (fun (s1 : (List Ae) × Int) => Aj [(2,pI p2),(3,pB p3),(4,rr 1032),(5,rr 1040),(8,rr 1064),(10,pI s1.2)] [(AeB p0),(1040,bx [ow 1240 s1.1.length,.p (slI p1.stopped)]),(Aer),(1240,ob0 (Af s1.1))]) hm Conv.eqK ?_
    intro s1 n1 hm
    unfold Xq at hm
    refine Sq (Sq (RD hnt (nn 5 []) [] [(36,pB (decide (s1.2 < ((s1.1.length : Nat) : Int))))] [] [] tv ?_))
    refine Ah hm ?_ ?_
    ·intro h17 hm
     refine Sk ?_
     refine Sq ?_
     refine Jn (ι := List Ae) (fun (y2 : List Ae) => Aj [(2,pI p2),(3,pB p3),(4,rr 1032),(5,rr 1040),(8,rr 1064),(10,pI s1.2)] [(AeB p0),(1040,bx [ow 1240 y2.length,.p (slI p1.stopped)]),(Aer),(1240,ob0 (Af y2))]) (fun y2 => (Tk s1 n1) y2 = some RES) ?_ ?_
     ·intro y2 hm
      unfold Tk at hm
      refine RD hnt (nn 3 []) [] [(10,pI (w64 (s1.2 + 1)))] [] [] tv ?_
      exact jD (y2,(w64 (s1.2 + 1))) hm Conv.eqK
     ·refine Bk ?_
      obtain ⟨g18,g19,hm⟩ := go2 hm
      refine Sq (RD hnt (nn 8 []) [36] [(46,pB ((s1.1.getD (Int.toNat s1.2) Bc).group == p2))] [] [] (an g18.1 (an g18.2 (an g19 tv))) ?_)
      refine Ah hm ?_ ?_
      ·intro h20 hm
       obtain ⟨g21,g22,hm⟩ := go2 hm
       refine RN hnt (nn 7 []) [(2,pI p2),(3,pB p3),(4,rr 1032),(5,rr 1040),(8,rr 1064),(10,pI s1.2)] [(AeB p0),(1040,bx [ow 1240 (s1.1.set (Int.toNat s1.2) (AdF s1 p3)).length,.p (slI p1.stopped)]),(Aer),(1240,ob0 (Af (s1.1.set (Int.toNat s1.2) (AdF s1 p3))))] [] [(1040,.box [ow 1240 s1.1.length,.p (slI p1.stopped)]),(1240,.row 4 s1.1.length (c127e3 s1 p3))] (an g21.1 (an g21.2 (an g22 tv))) (by kernel_rfl) .nil (.cons rfl (.box (.cons (MLe.ownLen (enc := Bd) (d := Bc) (f := (c127e3 s1 p3)) (RowIs.upd RowIs.elems (AdF s1 p3) rfl)) (.cons .rfl .nil))) (.cons rfl (BLe.typed (RowIs.upd RowIs.elems (AdF s1 p3) rfl)) .nil)) ?_
       exact bD (s1.1.set (Int.toNat s1.2) (AdF s1 p3)) hm .refl
      ·intro h20 hm
       refine Sk ?_
       exact bD s1.1 hm Conv.t0
    ·intro h17 hm
     refine DW.exit ?_
     refine Ap ?_
     refine Au ?_
     refine Am ?_
     show DW _ _ _ _ _
     refine Sq (DW.cv [] [] [1240] [(1040,bx [.p (En s1.1),.p (slI p1.stopped)])] (Conv.frz [1240]) ?_)
     obtain ⟨r24,hr24,hm⟩ := bo hm
     refine RD hnt (nn 2 (o118 [] true r24 :: nn 2 [])) [2,3,10,36] [] [] [(1040,bx [.p (En s1.1),ow 1440 r24.length]),(1440,ob0 (roI r24))] (an (Acf p0 ({ frosts := s1.1,stopped := p1.stopped } : Ac) r24 hr24) tv) ?_
     refine Sq (DW.cv [] [] [1440] [(1040,bx [.p (En s1.1),.p (slI r24)])] (Conv.frz [1440]) ?_)
     obtain ⟨r26,hr26,hm⟩ := bo hm
     refine RK hnt (nn 2 (o122 [] true r26 :: nn 2 [])) [(8,rr 1064),(9,pI 0)] [(1064,bx [ow 1472 r26.frosts.length,ow 1473 r26.stopped.length]),(1472,ob0 (Af r26.frosts)),(1473,ob0 (roI r26.stopped))] (an (Vw p0 ({ frosts := s1.1,stopped := r24 } : Ac) r26 hr26) tv) ?_
     obtain rfl := sj hm
     exact DW.ret (Ai [Af r26.frosts,roI r26.stopped] [1472,1473] (.tup [.agg [ow 0 r26.frosts.length,ow 1 r26.stopped.length],pI 0]))
abbrev o127 (ks : List Nat) (b : Bool) (RES : Ac × Int) (sm : List Nat := []) : Orc := .call 74 ks b (.tup [.agg [ow 0 RES.1.frosts.length,ow 1 RES.1.stopped.length],pI RES.2]) [] [Af RES.1.frosts,roI RES.1.stopped] sm

abbrev AbS : Nat × Obj := (1048,bx [.p (.sl .nil 0 0 (fun _ => [])),.p (.sl .nil 0 0 (fun _ => []))])
abbrev Agu (s1 : Aq × (List Ae) × (List Int) × Int) : Nat × Obj := (1056,bx [ow 1096 s1.2.1.length,ow 1097 s1.2.2.1.length])
abbrev Acn (p1 : Aa) : Nat × Obj := (1032,bx (pm (Ab p1)))
theorem AbG (p0 : Aq) (p1 : Aa) (p2 : Int) (RES : Ac × Aq) (hm : Km p0 p1 p2 = some RES) : Spec Tryz.prog 24 [rr 0,.p (.agg (Ab p1)),pI p2] [.box (pm (An p0))] (.agg [ow 1 RES.1.frosts.length,ow 2 RES.1.stopped.length]) [.box (pm (An RES.2))] [Af RES.1.frosts,roI RES.1.stopped] := by
 unfold Km at hm
 refine SO Tryz.func24 rfl rfl [(0,rr 0),(1,.p (.agg (Ab p1))),(2,pI p2)] [(0,bx (pm (An p0)))] ?_
 intro cx hnt
 refine Sq (RD hnt (nn 2 []) [1] [(4,rr 1032),(6,rr 1048)] [] [(Acn p1),(AbS)] tv ?_)
 obtain ⟨r1,hr1,hm⟩ := bo hm
 refine Sq (RD hnt (.no :: o115 [] true r1 :: nn 2 []) [] [(7,rr 1056)] [] [(1056,bx [ow 1096 r1.frosts.length,ow 1097 r1.stopped.length]),(1096,ob0 (Af r1.frosts)),(1097,ob0 (roI r1.stopped))] (an (Adn p1 r1 hr1) tv) ?_)
 obtain ⟨r2,hr2,hm⟩ := bo hm
 refine Sq (Sq (RD hnt (nn 3 (o72 [0] true r2 :: .no :: [])) [2] [(8,pI r2.1)] [] [(0,bx (pm (An r2.2)))] (an (Bp p0 (w64 (p2 + 1)) r2 hr2) (an tv tv)) ?_))
 refine Bk ?_
 refine DW.whileO (fun (s1 : Aq × (List Ae) × (List Int) × Int) => Aj [(0,rr 0),(4,rr 1032),(6,rr 1048),(7,rr 1056),(8,pI s1.2.2.2)] [(0,bx (pm (An s1.1))),(Acn p1),(AbS),(Agu s1),(1096,ob0 (Af s1.2.1)),(1097,ob0 (roI s1.2.2.1))]) hm Conv.eqK ?_
 intro s1 n1 hm
 unfold Pr at hm
 refine Sq (Sq (RD hnt (nn 2 []) [] [(18,pB (decide (s1.2.2.2 > 0)))] [] [] tv ?_))
 refine Ah hm ?_ ?_
 ·intro h12 hm
  refine Sk ?_
  refine Sq ?_
  refine Jn (ι := Aq × (List Ae) × (List Int)) (fun (y3 : Aq × (List Ae) × (List Int)) => Aj [(0,rr 0),(4,rr 1032),(6,rr 1048),(7,rr 1056),(8,pI s1.2.2.2)] [(0,bx (pm (An y3.1))),(Acn p1),(AbS),(1056,bx [ow 1336 y3.2.1.length,ow 1337 y3.2.2.length]),(1336,ob0 (Af y3.2.1)),(1337,ob0 (roI y3.2.2))]) (fun y3 => (Iz s1 n1) y3 = some RES) ?_ ?_
  ·intro y3 hm
   unfold Iz at hm
   refine RD hnt (nn 3 []) [] [(8,pI (w64 (s1.2.2.2 - 1)))] [] [] tv ?_
   exact jD (y3.1,y3.2.1,y3.2.2,(w64 (s1.2.2.2 - 1))) hm (Conv.rns [(1336,1096),(1337,1097)])
  ·refine Bk ?_
   obtain ⟨r13,hr13,hm⟩ := bo hm
   obtain ⟨r14,hr14,hm⟩ := bo hm
   refine Sq (RD hnt (nn 4 (o124 [0] true r13 :: o125 [] true r14 :: nn 6 [])) [18] [(9,rr 1072),(10,pI r14.2)] [] [(0,bx (pm (An r13.2))),(1072,bx [ow 1216 r14.1.frosts.length,ow 1217 r14.1.stopped.length]),(1216,ob0 (Af r14.1.frosts)),(1217,ob0 (roI r14.1.stopped))] (an (Qn s1.1 p1 false r13 hr13) (an tv (an (AbV p1 ({ frosts := s1.2.1,stopped := s1.2.2.1 } : Ac) r13.1 r14 hr14) (an ((fun _ => rfl) : ∀ i,((Hq r14.1.frosts) i).all PV.flat = true) (an ((fun _ => rfl) : ∀ i,((elI r14.1.stopped) i).all PV.flat = true) tv))))) ?_)
   obtain ⟨r15,hr15,hm⟩ := bo hm
   refine Sq (Sq (RD hnt (.no :: o84 [0] true r15 :: []) [] [(31,pB r15.1)] [] [(0,bx (pm (An r15.2)))] (an (Cm r13.2 2 r15 hr15) (an tv tv)) ?_))
   refine Jn (ι := Aq × (List Ae) × (List Int) × Int) (fun (y4 : Aq × (List Ae) × (List Int) × Int) => Aj [(0,rr 0),(4,rr 1032),(6,rr 1048),(7,rr 1056),(8,pI s1.2.2.2),(9,rr 1072),(10,pI y4.2.2.2)] [(0,bx (pm (An y4.1))),(Acn p1),(AbS),(Agu s1),(1072,bx [ow 1336 y4.2.1.length,ow 1337 y4.2.2.1.length]),(1096,ob0 (Af s1.2.1)),(1097,ob0 (roI s1.2.2.1)),(1336,ob0 (Af y4.2.1)),(1337,ob0 (roI y4.2.2.1))]) (fun y4 => (He s1 n1) y4 = some RES) ?_ ?_
   ·intro y4 hm
    unfold He at hm
    refine Sq (RD hnt (nn 2 []) [10] [(46,pB (y4.2.2.2 == 0))] [] [] tv ?_)
    refine Ah hm ?_ ?_
    ·intro h20 hm
     refine RD hnt (nn 2 []) [9,46] [] [1072,1096,1097] [(1056,bx [ow 1336 y4.2.1.length,ow 1337 y4.2.2.1.length])] tv ?_
     exact bD (y4.1,y4.2.1,y4.2.2.1) hm Conv.eqK
    ·intro h20 hm
     refine Sk ?_
     exact bD (y4.1,s1.2.1,s1.2.2.1) hm (Conv.trans (τ := Aj [(0,rr 0),(4,rr 1032),(6,rr 1048),(7,rr 1056),(8,pI s1.2.2.2)] [(0,bx (pm (An y4.1))),(Acn p1),(AbS),(Agu s1),(1096,ob0 (Af s1.2.1)),(1097,ob0 (roI s1.2.2.1))]) Conv.t0 (Conv.rns [(1096,1336),(1097,1337)]))
   ·refine Ah hm ?_ ?_
    ·intro h16 hm
     obtain ⟨r17,hr17,hm⟩ := bo hm
     obtain ⟨r18,hr18,hm⟩ := bo hm
     obtain ⟨r19,hr19,hm⟩ := bo hm
     refine RD hnt (nn 5 (o88 [0] true r17 :: .no :: o72 [0] true r18 :: .no :: o127 [] true r19 :: nn 5 [])) [31] [(10,pI r19.2)] [1216,1217] [(0,bx (pm (An r18.2))),(1072,bx [ow 1336 r19.1.frosts.length,ow 1337 r19.1.stopped.length]),(1336,ob0 (Af r19.1.frosts)),(1337,ob0 (roI r19.1.stopped))] (an (Gn r15.2 p1.tree r17 hr17) (an tv (an (Bp r17.2 3 r18 hr18) (an tv (an (Add p1 ({ frosts := s1.2.1,stopped := s1.2.2.1 } : Ac) r17.1 (decide (r18.1 > 0)) r19 hr19) (an ((fun _ => rfl) : ∀ i,((Hq r19.1.frosts) i).all PV.flat = true) (an ((fun _ => rfl) : ∀ i,((elI r19.1.stopped) i).all PV.flat = true) tv))))))) ?_
     exact jD (r18.2,r19.1.frosts,r19.1.stopped,r19.2) hm Conv.eqK
    ·intro h16 hm
     refine Sk ?_
     exact jD (r15.2,r14.1.frosts,r14.1.stopped,r14.2) hm (Conv.trans (τ := Aj [(0,rr 0),(4,rr 1032),(6,rr 1048),(7,rr 1056),(8,pI s1.2.2.2),(9,rr 1072),(10,pI r14.2),(31,pB r15.1)] [(0,bx (pm (An r15.2))),(Acn p1),(AbS),(Agu s1),(1072,bx [ow 1336 r14.1.frosts.length,ow 1337 r14.1.stopped.length]),(1096,ob0 (Af s1.2.1)),(1097,ob0 (roI s1.2.2.1)),(1336,ob0 (Af r14.1.frosts)),(1337,ob0 (roI r14.1.stopped))]) (Conv.rns [(1216,1336),(1217,1337)]) Conv.t0)
 ·intro h12 hm
  refine DW.exit ?_
  refine Ap ?_
  refine Au ?_
  refine Am ?_
  show DW _ _ _ _ _
  refine Sq (RD hnt (nn 2 []) [0,4,7,8,18] [] [1032,1056] [(1048,bx [ow 1096 s1.2.1.length,ow 1097 s1.2.2.1.length])] tv ?_)
  obtain rfl := sj hm
  exact DW.ret (Ai [.box (pm (An s1.1)),Af s1.2.1,roI s1.2.2.1] [1096,1097] (.agg [ow 1 s1.2.1.length,ow 2 s1.2.2.1.length]))
abbrev o114 (ks : List Nat) (b : Bool) (RES : Ac × Aq) (sm : List Nat := []) : Orc := .call 24 ks b (.agg [ow 1 RES.1.frosts.length,ow 2 RES.1.stopped.length]) [.box (pm (An RES.2))] [Af RES.1.frosts,roI RES.1.stopped] sm

theorem Xt (p0 : Aq) (p1 : List Int) (RES : Int × Aq) (hm : Lt p0 p1 = some RES) : Spec Tryz.prog 26 [rr 0,.p (slI p1)] [.box (pm (An p0))] (pI RES.1) [.box (pm (An RES.2))] [] := by
 unfold Lt at hm
 refine SO Tryz.func26 rfl rfl [(0,rr 0),(1,.p (slI p1))] [(0,bx (pm (An p0)))] ?_
 intro cx hnt
 refine Sq (RD hnt (.no :: []) [] [] [] [] tv ?_)
 obtain ⟨r1,hr1,hm⟩ := bo hm
 obtain ⟨g2,hm⟩ := go1 hm
 refine Sq (RK hnt (nn 4 (o72 [0] true r1 :: nn 3 [])) [(4,pI (p1.getD (Int.toNat r1.1) 0))] [(0,bx (pm (An r1.2)))] (an (Bp p0 ((p1.length : Nat) : Int) r1 hr1) (an tv (an g2.1 (an g2.2 tv)))) ?_)
 obtain rfl := sj hm
 exact DW.ret (Ai [.box (pm (An r1.2))] [] (pI (p1.getD (Int.toNat r1.1) 0)))
abbrev o128 (ks : List Nat) (b : Bool) (RES : Int × Aq) (sm : List Nat := []) : Orc := .call 26 ks b (pI RES.1) [.box (pm (An RES.2))] [] sm

abbrev Xz (s4 : (List Int) × Int) (k1 : Int) (k4 : Int) := (s4.1.getD (Vd (Int.toNat k1) (Int.toNat k4)) 0)
abbrev Agb (k1 : Int) (p0 : List Int) : Nat × MV := (4,.own 0 0 (Int.toNat k1) (Fz p0.length (Int.toNat k1)))
abbrev c131e3 (s4 : (List Int) × Int) := (Kt s4.1 (Int.toNat s4.2) (Fz s4.1.length (Int.toNat s4.2)) 0)
theorem Abx (p0 : List Int) (RES : Nat × (List Int)) (hm : Il p0 = some RES) : Spec Tryz.prog 132 [ow 0 p0.length] [roI p0] (ow 0 RES.1) [roI RES.2] [] := by
 unfold Il at hm
 refine SO Tryz.func132 rfl rfl [(0,ow 0 p0.length)] [(0,ob0 (roI p0))] ?_
 intro cx hnt
 refine Sq (RD hnt (.no :: []) [] [] [] [] tv ?_)
 refine Sq (Sq (RD hnt (nn 3 []) [] [(8,pB (decide (((p0.length : Nat) : Int) < 2)))] [] [] tv ?_))
 refine Ah hm ?_ ?_
 ·intro h1 hm
  refine Sq (RK hnt (nn 2 []) [(2,ow 0 p0.length)] [(0,ob0 (roI p0))] tv ?_)
  obtain rfl := sj hm
  exact DW.ret (Ai [roI p0] [] (ow 0 p0.length))
 ·intro h1 hm
  refine Sk ?_
  refine Sq (Sq (RD hnt (.no :: []) [8] [(3,pI 1)] [] [] tv ?_))
  refine Bk ?_
  obtain ⟨hc1,hm⟩ := go1 hm
  refine DW.forO (fun (k1 : Int) (s1 : Unit) => Aj [(0,ow 0 p0.length),(3,pI k1)] [(0,ob0 (roI p0))]) (lo := 1) (hi := ((p0.length : Nat) : Int)) hm Conv.eqK ?_
  intro k1 s1 n1 hk1 hs1 he1
  refine Sq (Sq (RD hnt (nn 4 []) [] [(13,pB (decide (k1 < ((p0.length : Nat) : Int))))] [] [] tv ?_))
  refine Cd (decide (k1 < ((p0.length : Nat) : Int))) ?_ ?_
  ·intro h94
   have hlt1 : k1 < ((p0.length : Nat) : Int) := by have := of_decide_eq_true h94; omega
   have hm := hs1 hlt1
   unfold Pj at hm
   refine Sk ?_
   refine Sq (Bk ?_)
   obtain ⟨g95,g96,g97,g98,hm⟩ := go4 hm
   refine Sq (RD hnt (nn 10 []) [13] [(25,pB ((p0.getD (Int.toNat k1) 0) == (p0.getD (Int.toNat (w64 (k1 - 1))) 0)))] [] [] (an g95.1 (an g95.2 (an g96 (an g97.1 (an g97.2 (an g98 tv)))))) ?_)
   refine Ah hm ?_ ?_
   ·intro h99 hm
    obtain ⟨g100,hm⟩ := go1 hm
    refine Sq (RD hnt (nn 4 []) [25] [(Agb k1 p0)] [] [] (an (by omega : (0 : Int) ≤ k1) (an (by omega : k1 ≤ ((p0.length : Nat) : Int)) (an (by omega : ((p0.length : Nat) : Int) ≤ ((p0.length : Nat) : Int)) tv))) ?_)
    refine Sq (Sq (RD hnt (.no :: []) [] [(5,pI 1)] [] [] tv ?_))
    refine Bk ?_
    obtain ⟨hc4,hm⟩ := go1 hm
    refine DW.forO (fun (k4 : Int) (s4 : (List Int) × Int) => Aj [(0,ow 0 s4.1.length),(3,pI s4.2),(Agb k1 p0),(5,pI k4)] [(0,ob0 (roI s4.1))]) (lo := 1) (hi := (((Fz p0.length (Int.toNat k1)) : Nat) : Int)) hm Conv.eqK ?_
    intro k4 s4 n4 hk4 hs4 he4
    refine Sq (Sq (RD hnt (nn 4 []) [] [(32,pB (decide (k4 < (((Fz p0.length (Int.toNat k1)) : Nat) : Int))))] [] [] tv ?_))
    refine Cd (decide (k4 < (((Fz p0.length (Int.toNat k1)) : Nat) : Int))) ?_ ?_
    ·intro h127
     have hlt4 : k4 < (((Fz p0.length (Int.toNat k1)) : Nat) : Int) := by have := of_decide_eq_true h127; omega
     have hm := hs4 hlt4
     unfold Pq at hm
     refine Sk ?_
     refine Sq ?_
     refine Jn (ι := (List Int) × Int) (fun (y9 : (List Int) × Int) => Aj [(0,ow 0 y9.1.length),(3,pI y9.2),(Agb k1 p0),(5,pI k4)] [(0,ob0 (roI y9.1))]) (fun y9 => (Lk n4) y9 = some RES) ?_ ?_
     ·intro y9 hm
      unfold Lk at hm
      refine RD hnt (nn 3 []) [] [(5,pI (w64 (k4 + 1)))] [] [] tv ?_
      exact jD (y9.1,y9.2) ⟨hlt4,hm⟩ (Conv.tp [(5,pI (w64 (k4 + 1)))] [] (by kernel_rfl) (.cons rfl (.of_eq (congrArg pI (Sn (lo := 1) (hi := (((Fz p0.length (Int.toNat k1)) : Nat) : Int)) (by omega) hk4 hlt4 (by omega)))) .nil) .nil)
     ·refine Bk ?_
      obtain ⟨g128,g129,g130,g131,hm⟩ := go4 hm
      refine Sq (RD hnt (nn 10 []) [32] [(44,pB ((Xz s4 k1 k4) != (s4.1.getD (Vd (Int.toNat k1) (Int.toNat (w64 (k4 - 1)))) 0)))] [] [] (an g128.1 (an g128.2 (an g129 (an g130.1 (an g130.2 (an g131 tv)))))) ?_)
      refine Ah hm ?_ ?_
      ·intro h132 hm
       obtain ⟨g133,g134,g135,g136,hm⟩ := go4 hm
       refine Sq (RN hnt (nn 8 []) [(0,ow 0 (s4.1.set (Int.toNat s4.2) (Xz s4 k1 k4)).length),(3,pI s4.2),(Agb k1 p0),(5,pI k4)] [(0,ob0 (roI (s4.1.set (Int.toNat s4.2) (Xz s4 k1 k4))))] [(0,ow 0 s4.1.length)] [(0,.row 1 s4.1.length (Ca (elI s4.1) (Int.toNat s4.2) [vi (Xz s4 k1 k4)]))] (an g133.1 (an g133.2 (an g134 (an g135.1 (an g135.2 (an g136 tv)))))) (by kernel_rfl) (.cons rfl (MLe.ownLen (enc := Bi) (d := 0) (f := (Ca (elI s4.1) (Int.toNat s4.2) [vi (Xz s4 k1 k4)])) (RowIs.upd RowIs.elems (Xz s4 k1 k4) rfl)) .nil) (.cons rfl (BLe.typed (RowIs.upd RowIs.elems (Xz s4 k1 k4) rfl)) .nil) ?_)
       refine RD hnt (nn 3 []) [] [(3,pI (w64 (s4.2 + 1)))] [] [] tv ?_
       exact bD ((s4.1.set (Int.toNat s4.2) (Xz s4 k1 k4)),(w64 (s4.2 + 1))) hm Conv.eqK
      ·intro h132 hm
       refine Sk ?_
       exact bD (s4.1,s4.2) hm Conv.t0
    ·intro h127
     have hge4 : ¬ k4 < (((Fz p0.length (Int.toNat k1)) : Nat) : Int) := by have := of_decide_eq_false h127; omega
     have hm := he4 hge4
     unfold Pf at hm
     refine DW.exit ?_
     refine Ap ?_
     refine Au ?_
     refine Am ?_
     show DW _ _ _ _ _
     obtain ⟨g137,g138,hm⟩ := go2 hm
     refine Sq (RN hnt (nn 4 []) [(0,ow 0 (c131e3 s4).length),(3,pI s4.2)] [(0,ob0 (roI (c131e3 s4)))] [(0,ow 0 s4.1.length)] [(0,.row 1 s4.1.length (Mm (elI s4.1) (Int.toNat s4.2) (Fz s4.1.length (Int.toNat s4.2)) (fun _ => [vi 0])))] (an (by omega : (0 : Int) ≤ s4.2) (an (by omega : s4.2 ≤ ((s4.1.length : Nat) : Int)) (an (by omega : ((s4.1.length : Nat) : Int) ≤ ((s4.1.length : Nat) : Int)) (an g138 tv)))) (by kernel_rfl) (.cons rfl (MLe.ownLen (enc := Bi) (d := 0) (f := (Mm (elI s4.1) (Int.toNat s4.2) (Fz s4.1.length (Int.toNat s4.2)) (fun _ => [vi 0]))) (RowIs.fill RowIs.elems 0 rfl (by first | exact g138 | omega))) .nil) (.cons rfl (BLe.typed (RowIs.fill RowIs.elems 0 rfl (by first | exact g138 | omega))) .nil) ?_)
     obtain ⟨g139,hm⟩ := go1 hm
     refine Sq (RD hnt (nn 4 []) [0,3] [(2,ow 0 (Int.toNat s4.2))] [] [] (an (by omega : (0 : Int) ≤ 0) (an (by omega : (0 : Int) ≤ s4.2) (an (by omega : s4.2 ≤ (((Kt s4.1 (Int.toNat s4.2) (Fz s4.1.length (Int.toNat s4.2)) 0).length : Nat) : Int)) tv))) ?_)
     obtain rfl := sj hm
     exact DW.ret (Ai [roI (c131e3 s4)] [] (ow 0 (Int.toNat s4.2)))
   ·intro h99 hm
    refine Sk ?_
    refine DW.done ?_
    show DW _ _ _ _ _
    refine RD hnt (nn 3 []) [25] [(3,pI (w64 (k1 + 1)))] [] [] tv ?_
    exact jD () ⟨hlt1,hm⟩ (Conv.tp [(3,pI (w64 (k1 + 1)))] [] (by kernel_rfl) (.cons rfl (.of_eq (congrArg pI (Sn (lo := 1) (hi := ((p0.length : Nat) : Int)) (by omega) hk1 hlt1 (by omega)))) .nil) .nil)
  ·intro h94
   have hge1 : ¬ k1 < ((p0.length : Nat) : Int) := by have := of_decide_eq_false h94; omega
   have hm := he1 hge1
   unfold Uo at hm
   refine DW.exit ?_
   refine Ap ?_
   refine Au ?_
   refine Am ?_
   show DW _ _ _ _ _
   refine Sq (RK hnt (nn 2 []) [(2,ow 0 p0.length)] [(0,ob0 (roI p0))] tv ?_)
   obtain rfl := sj hm
   exact DW.ret (Ai [roI p0] [] (ow 0 p0.length))
abbrev o131 (ks : List Nat) (b : Bool) (RES : Nat × (List Int)) (sm : List Nat := []) : Orc := .call 132 ks b (ow 0 RES.1) [roI RES.2] [] sm

abbrev Vp : Nat × Obj := (1032,bx [.p (.sl .nil 0 0 (fun _ => [])),.p (.sl .nil 0 0 (fun _ => []))])
abbrev c130e2 (r48 : freezer × Nat) : Nat × Obj := (1128,bx [.p (Ba r48.1.h.tree.nodes),pI r48.1.h.tree.next,.p (Be r48.1.h.tasks),pI r48.1.h.next,ow 1400 r48.1.f.frosts.length,ow 1464 r48.2])
abbrev AdB (r39 : Ae) := (Pc (maxI r39.changes 0) 1099511627776)
abbrev c130e4 (p0 : Aa) (s1 : List Ae) : Nat × Obj := (1128,bx [.p (Ba p0.tree.nodes),pI p0.tree.next,.p (Be p0.tasks),pI p0.next,ow 1400 s1.length,.p (.sl .nil 0 0 (fun _ => []))])
abbrev Agi (p0 : Aa) : Nat × MV := (20,pI ((p0.tree.nodes.length : Nat) : Int))
theorem Afh (p0 : Aa) (p1 : Ac) (RES : Ac × Int) (hm : La p0 p1 = some RES) : Spec Tryz.prog 75 [.p (.agg (Ab p0)),.p (.agg (Al p1))] [] (.tup [.agg [ow 0 RES.1.frosts.length,ow 1 RES.1.stopped.length],pI RES.2]) [] [Af RES.1.frosts,roI RES.1.stopped] := by
 unfold La at hm
 refine SO Tryz.func75 rfl rfl [(0,.p (.agg (Ab p0))),(1,.p (.agg (Al p1)))] [] ?_
 intro cx hnt
 refine Sq (RK hnt (nn 4 []) [(2,rr 1016),(3,rr 1024),(4,rr 1032)] [(1016,bx (pm (Ab p0))),(1024,bx (pm (Al p1))),(Vp)] tv ?_)
 obtain ⟨r1,hr1,hm⟩ := bo hm
 refine Sq (Sq (RD hnt (.no :: o6 [] true r1 :: .no :: []) [] [(12,pB (!r1))] [] [] (an (Pg p0 r1 hr1) tv) ?_))
 refine Ah hm ?_ ?_
 ·intro h2 hm
  refine Sq (RD hnt (nn 3 []) [2,3,12] [(5,pI 1)] [1016,1024] [] tv ?_)
  refine DW.cv [] [] [] [(1032,bx [ow 100000 0,ow 100001 0]),(100000,ob0 (Af [])),(100001,ob0 (roI []))] (Conv.ads [(.o 1032 0,100000,4,elems Bd Bc []),(.o 1032 1,100001,1,elems Bi 0 [])]) ?_
  obtain rfl := sj hm
  exact DW.ret (Ai [Af [],roI []] [100000,100001] (.tup [.agg [ow 0 0,ow 1 0],pI 1]))
 ·intro h2 hm
  refine Sk ?_
  refine Sq (RD hnt (nn 4 []) [12] [(6,rr 1128)] [] [(1128,bx [.p (Ba p0.tree.nodes),pI p0.tree.next,.p (Be p0.tasks),pI p0.next,.p (.sl .nil 0 0 (fun _ => [])),.p (.sl .nil 0 0 (fun _ => []))])] tv ?_)
  refine Sq (Sq (RD hnt (nn 5 []) [2] [(19,.p (Ba p0.tree.nodes)),(Agi p0),(21,pI 0)] [1016] [] tv ?_))
  refine Bk ?_
  obtain ⟨hc1,hm⟩ := go1 hm
  refine DW.rangeO (fun (k1 : Nat) (s1 : List Ae) => Aj [(3,rr 1024),(4,rr 1032),(6,rr 1128),(19,.p (Ba p0.tree.nodes)),(Agi p0),(21,pI ((k1 : Nat) : Int))] [(1024,bx (pm (Al p1))),(Vp),(c130e4 p0 s1),(1400,ob0 (Af s1))]) Bm hm (Conv.ads [(.o 1128 4,1400,4,elems Bd Bc [])]) ?_
  intro k1 s1 n1 hk1 hs1 he1
  refine Sq (RD hnt (.no :: []) [] [(22,pB (decide (((k1 : Nat) : Int) < ((p0.tree.nodes.length : Nat) : Int))))] [] [] tv ?_)
  refine Sq (Cd (decide (((k1 : Nat) : Int) < ((p0.tree.nodes.length : Nat) : Int))) ?_ ?_)
  ·intro h38
   have hlt1 : k1 < p0.tree.nodes.length := by have := of_decide_eq_true h38; omega
   have hm := hs1 hlt1
   unfold Uu at hm
   refine Sk ?_
   refine Sq (Bk ?_)
   refine Sq (RD hnt (nn 4 []) [22] [(8,rr 1064)] [] [(1064,bx (pm (Ar (p0.tree.nodes.getD k1 (default : Ao)))))] (an (nn0 k1) (an (ltc hlt1) tv)) ?_)
   obtain ⟨r39,hr39,hm⟩ := bo hm
   refine Sq (RD hnt (nn 3 (o26 [] true r39 :: nn 2 [])) [] [(9,rr 1072)] [] [(1072,bx (pm (Bd r39)))] (an (Ax p1 (p0.tree.nodes.getD k1 (default : Ao)).id r39 hr39) tv) ?_)
   refine Sq (RD hnt (nn 6 []) [] [] [] [(1072,bx [pI r39.group,pB r39.want,pB r39.frozen,pI (AdB r39)])] tv ?_)
   refine Sq ?_
   refine Jn (ι := Ae) (fun (y3 : Ae) => Aj [(3,rr 1024),(4,rr 1032),(6,rr 1128),(9,rr 1072),(19,.p (Ba p0.tree.nodes)),(Agi p0),(21,pI ((k1 : Nat) : Int))] [(1024,bx (pm (Al p1))),(Vp),(1072,bx (pm (Bd y3))),(c130e4 p0 s1),(1400,ob0 (Af s1))]) (fun y3 => (Mx s1 n1) y3 = some RES) ?_ ?_
   ·intro y3 hm
    unfold Mx at hm
    obtain ⟨g41,hm⟩ := go1 hm
    refine RN hnt (nn 13 []) [(3,rr 1024),(4,rr 1032),(6,rr 1128),(19,.p (Ba p0.tree.nodes)),(Agi p0),(21,pI ((k1 : Nat) : Int))] [(1024,bx (pm (Al p1))),(Vp),(1128,bx [.p (Ba p0.tree.nodes),pI p0.tree.next,.p (Be p0.tasks),pI p0.next,ow 1400 (s1 ++ [y3]).length,.p (.sl .nil 0 0 (fun _ => []))]),(1400,ob0 (Af (s1 ++ [y3])))] [] [(1128,.box [.p (Ba p0.tree.nodes),pI p0.tree.next,.p (Be p0.tasks),pI p0.next,ow 1400 (s1.length + 1),.p (.sl .nil 0 0 (fun _ => []))]),(1400,.row 4 (s1.length + 1) (Cp s1.length (Hq s1) (cut 4 [vi y3.group,vb y3.want,vb y3.frozen,vi y3.changes])))] (an (by omega : (s1.length + 1) * 24 ≤ 140737488355328) tv) (by kernel_rfl) .nil (.cons rfl (.box (.cons .rfl (.cons .rfl (.cons .rfl (.cons .rfl (.cons (MLe.ownLen (enc := Bd) (d := Bc) (f := (Cp s1.length (Hq s1) (cut 4 [vi y3.group,vb y3.want,vb y3.frozen,vi y3.changes]))) (RowIs.cat RowIs.elems (RowIs.lit (enc := Bd) (d := Bc) (n := 1) (f := (cut 4 [vi y3.group,vb y3.want,vb y3.frozen,vi y3.changes])) [y3] rfl (fun | 0,_ => rfl | n + 1,h => absurd h (by omega))))) (.cons .rfl .nil))))))) (.cons rfl (BLe.typed (RowIs.cat RowIs.elems (RowIs.lit (enc := Bd) (d := Bc) (n := 1) (f := (cut 4 [vi y3.group,vb y3.want,vb y3.frozen,vi y3.changes])) [y3] rfl (fun | 0,_ => rfl | n + 1,h => absurd h (by omega))))) .nil)) ?_
    refine DW.done ?_
    show DW _ _ _ _ _
    refine RD hnt (nn 2 []) [] [(21,pI (w64 (((k1 : Nat) : Int) + 1)))] [] [] tv ?_
    exact jD (s1 ++ [y3]) ⟨hlt1,hm⟩ (Conv.tp [(21,pI (w64 (((k1 : Nat) : Int) + 1)))] [] (by kernel_rfl) (.cons rfl (.of_eq (congrArg pI (Bo hlt1 hc1))) .nil) .nil)
   ·rcases bt r39.want with h40 | h40
    ·replace hm := Bg h40 hm
     refine RD hnt (nn 6 (pT :: nn 2 [])) [8] [] [1064] [(1072,bx [pI r39.group,pB ((p0.tree.nodes.getD k1 (default : Ao)).id != 1),pB r39.frozen,pI (AdB r39)])] (an4 h40 tv) ?_
     exact jD ({ group := r39.group,want := ((p0.tree.nodes.getD k1 (default : Ao)).id != 1),frozen := r39.frozen,changes := (AdB r39) } : Ae) hm Conv.eqK
    ·replace hm := Bf h40 hm
     refine RD hnt (nn 3 (sk 3 (pF :: nn 2 []))) [8] [] [1064] [(1072,bx [pI r39.group,pB false,pB r39.frozen,pI (AdB r39)])] (an4 h40 tv) ?_
     exact jD ({ group := r39.group,want := false,frozen := r39.frozen,changes := (AdB r39) } : Ae) hm Conv.eqK
  ·intro h38
   have hge1 : ¬ k1 < p0.tree.nodes.length := by have := of_decide_eq_false h38; omega
   have hm := he1 hge1
   unfold Qx at hm
   refine DW.exit ?_
   refine Ap ?_
   refine Au ?_
   refine Am ?_
   show DW _ _ _ _ _
   obtain ⟨r42,hr42,hm⟩ := bo hm
   refine Sq (RD hnt (nn 3 (o37 [] true r42 :: nn 4 [])) [3,19,20,21,22] [] [1024] [(1128,bx [.p (Ba p0.tree.nodes),pI p0.tree.next,.p (Be p0.tasks),pI p0.next,ow 1400 s1.length,ow 1464 r42.length]),(1464,ob0 (roI r42))] (an (Vu p1.stopped r42 hr42) tv) ?_)
   obtain ⟨r43,hr43,hm⟩ := bo hm
   obtain ⟨g44,hm⟩ := go1 hm
   refine Sq (RN hnt (nn 5 (o44 [1464] true r43 :: [])) [(4,rr 1032),(6,rr 1128)] [(Vp),(1128,bx [.p (Ba p0.tree.nodes),pI p0.tree.next,.p (Be p0.tasks),pI p0.next,ow 1400 s1.length,ow 1464 r43.length]),(1400,ob0 (Af s1)),(1464,ob0 (roI r43))] [] [(1128,.box [.p (Ba p0.tree.nodes),pI p0.tree.next,.p (Be p0.tasks),pI p0.next,ow 1400 s1.length,ow 1464 r42.length])] (an (Wa r42 r43 hr43) (an (⟨rfl,g44⟩ : Body.same (roI r42) (roI r43)) tv)) (by kernel_rfl) .nil (.cons rfl (.box (.cons .rfl (.cons .rfl (.cons .rfl (.cons .rfl (.cons .rfl (.cons (MLe.of_eq (congrArg (MV.own 1464 0 0) g44)) .nil))))))) .nil) ?_)
   obtain ⟨r45,hr45,hm⟩ := bo hm
   obtain ⟨g46,g47,hm⟩ := go2 hm
   refine Sq (RD hnt (nn 6 (o131 [1464] true r45 :: nn 4 [])) [] [] [] [(1128,bx [.p (Ba p0.tree.nodes),pI p0.tree.next,.p (Be p0.tasks),pI p0.next,ow 1400 s1.length,ow 1464 r45.1]),(1464,ob0 (roI r45.2))] (an (Abx r43 r45 hr45) (an (⟨rfl,g46⟩ : Body.same (roI r43) (roI r45.2)) tv)) ?_)
   refine Sq (DW.conv (τ := Aj [(4,rr 1032),(6,rr 1128)] [(Vp),(1128,bx [.p (Ba p0.tree.nodes),pI p0.tree.next,.p (Be p0.tasks),pI p0.next,ow 1400 s1.length,ow 1464 (r45.2.take r45.1).length]),(1400,ob0 (Af s1)),(1464,ob0 (roI (r45.2.take r45.1)))]) (Conv.trans (τ := Aj [(4,rr 1032),(6,rr 1128)] [(Vp),(1128,bx [.p (Ba p0.tree.nodes),pI p0.tree.next,.p (Be p0.tasks),pI p0.next,ow 1400 s1.length,ow 1464 r45.1]),(1400,ob0 (Af s1)),(1464,ob0 (.row 1 r45.1 (elI r45.2)))]) (Conv.cut 1464 r45.1 (And.intro (show r45.1 ≤ r45.2.length by omega) (an (Nat.le_of_eq (Nat.zero_add r45.1)) tv))) (Conv.tp [] [(1128,.box [.p (Ba p0.tree.nodes),pI p0.tree.next,.p (Be p0.tasks),pI p0.next,ow 1400 s1.length,ow 1464 r45.1]),(1464,.row 1 r45.1 (elI r45.2))] (by kernel_rfl) .nil (.cons rfl (.box (.cons .rfl (.cons .rfl (.cons .rfl (.cons .rfl (.cons .rfl (.cons (MLe.ownLen (enc := Bi) (d := 0) (f := (elI r45.2)) (RowIs.elems.take (by omega))) .nil))))))) (.cons rfl (BLe.typed (RowIs.elems.take (by omega))) .nil)))) ?_)
   obtain ⟨r48,hr48,hm⟩ := bo hm
   obtain ⟨g49,g50,g51,hm⟩ := go3 hm
   refine RD hnt (.no :: o38 [1128,1400,1464] true r48 :: []) [] [] [] [(c130e2 r48),(1400,ob0 (Af r48.1.f.frosts)),(1464,ob0 (roI r48.1.f.stopped))] (an (Rh ({ h := p0,f := ({ frosts := s1,stopped := (r45.2.take r45.1) } : Ac) } : freezer) r48 hr48) (an tv (an (⟨rfl,g49⟩ : Body.same (Af s1) (Af r48.1.f.frosts)) (an (⟨rfl,g50⟩ : Body.same (roI (r45.2.take r45.1)) (roI r48.1.f.stopped)) tv)))) ?_
   refine Sq (DW.conv (τ := Aj [(4,rr 1032),(6,rr 1128)] [(Vp),(1128,bx [.p (Ba r48.1.h.tree.nodes),pI r48.1.h.tree.next,.p (Be r48.1.h.tasks),pI r48.1.h.next,ow 1400 r48.1.f.frosts.length,ow 1464 (r48.1.f.stopped.take r48.2).length]),(1400,ob0 (Af r48.1.f.frosts)),(1464,ob0 (roI (r48.1.f.stopped.take r48.2)))]) (Conv.trans (τ := Aj [(4,rr 1032),(6,rr 1128)] [(Vp),(c130e2 r48),(1400,ob0 (Af r48.1.f.frosts)),(1464,ob0 (.row 1 r48.2 (elI r48.1.f.stopped)))]) (Conv.cut 1464 r48.2 (And.intro (show r48.2 ≤ r48.1.f.stopped.length by omega) (an (Nat.le_of_eq (Nat.zero_add r48.2)) tv))) (Conv.tp [] [(1128,.box [.p (Ba r48.1.h.tree.nodes),pI r48.1.h.tree.next,.p (Be r48.1.h.tasks),pI r48.1.h.next,ow 1400 r48.1.f.frosts.length,ow 1464 r48.2]),(1464,.row 1 r48.2 (elI r48.1.f.stopped))] (by kernel_rfl) .nil (.cons rfl (.box (.cons .rfl (.cons .rfl (.cons .rfl (.cons .rfl (.cons .rfl (.cons (MLe.ownLen (enc := Bi) (d := 0) (f := (elI r48.1.f.stopped)) (RowIs.elems.take (by omega))) .nil))))))) (.cons rfl (BLe.typed (RowIs.elems.take (by omega))) .nil)))) ?_)
   obtain ⟨r52,hr52,hm⟩ := bo hm
   obtain ⟨g53,g54,hm⟩ := go2 hm
   refine RK hnt (.no :: o42 [1128,1400,1464] true r52 :: nn 2 []) [(4,rr 1032),(5,pI 0)] [(1032,bx [ow 1400 r52.2.f.frosts.length,ow 1464 r52.2.f.stopped.length]),(1400,ob0 (Af r52.2.f.frosts)),(1464,ob0 (roI r52.2.f.stopped))] (an (Li ({ h := r48.1.h,f := ({ frosts := r48.1.f.frosts,stopped := (r48.1.f.stopped.take r48.2) } : Ac) } : freezer) r52 hr52) (an tv (an (⟨rfl,g53⟩ : Body.same (Af r48.1.f.frosts) (Af r52.2.f.frosts)) (an (⟨rfl,g54⟩ : Body.same (roI (r48.1.f.stopped.take r48.2)) (roI r52.2.f.stopped)) tv)))) ?_
   obtain rfl := sj hm
   exact DW.ret (Ai [Af r52.2.f.frosts,roI r52.2.f.stopped] [1400,1464] (.tup [.agg [ow 0 r52.2.f.frosts.length,ow 1 r52.2.f.stopped.length],pI 0]))
abbrev o130 (ks : List Nat) (b : Bool) (RES : Ac × Int) (sm : List Nat := []) : Orc := .call 75 ks b (.tup [.agg [ow 0 RES.1.frosts.length,ow 1 RES.1.stopped.length],pI RES.2]) [] [Af RES.1.frosts,roI RES.1.stopped] sm

theorem Ef (p0 : Ag) (p1 : Ac) (p2 : Int) (RES : Bool) (hm : Jh p0 p1 p2 = some RES) : Spec Tryz.prog 79 [.p (.agg (As p0)),.p (.agg (Al p1)),pI p2] [] (pB RES) [] [] := by
 unfold Jh at hm
 refine SO Tryz.func79 rfl rfl [(0,.p (.agg (As p0))),(1,.p (.agg (Al p1))),(2,pI p2)] [] ?_
 intro cx hnt
 refine Sq (RK hnt (nn 3 []) [(2,pI p2),(3,rr 1024),(4,rr 1032)] [(1024,bx (pm (As p0))),(1032,bx (pm (Al p1)))] tv ?_)
 obtain ⟨r1,hr1,hm⟩ := bo hm
 refine Sq ?_
 refine Jn (ι := Bool) (fun (y1 : Bool) => Aj [(6,pB y1)] []) (fun y1 => Rb y1 = some RES) ?_ ?_
 ·intro y1 hm
  unfold Rb at hm
  obtain rfl := sj hm
  exact DW.ret (Ai [] [] (pB y1))
 ·rcases bt r1 with h2 | h2
  ·replace hm := Bg h2 hm
   obtain ⟨r3,hr3,hm⟩ := bo hm
   refine RK hnt (.no :: o7 [] true r1 :: nn 4 (o23 [] true r3 :: pT :: .no :: [])) [(6,pB r3)] [] (an (Wg p0 r1 hr1) (an4 h2 (an (Jp p0 p1 p2 r3 hr3) (an h2 tv)))) ?_
   exact jD r3 hm .refl
  ·replace hm := Bf h2 hm
   refine RK hnt (.no :: o7 [] true r1 :: .no :: sk 4 (pF :: .no :: [])) [(6,pB false)] [] (an (Wg p0 r1 hr1) (an5 h2 tv)) ?_
   exact jD false hm .refl
abbrev o132 (ks : List Nat) (b : Bool) (RES : Bool) (sm : List Nat := []) : Orc := .call 79 ks b (pB RES) [] [] sm

theorem Ey (p0 : Ag) (p1 : Ac) (p2 : Int) (RES : Bool) (hm : Mh p0 p1 p2 = some RES) : Spec Tryz.prog 80 [.p (.agg (As p0)),.p (.agg (Al p1)),pI p2] [] (pB RES) [] [] := by
 unfold Mh at hm
 refine SO Tryz.func80 rfl rfl [(0,.p (.agg (As p0))),(1,.p (.agg (Al p1))),(2,pI p2)] [] ?_
 intro cx hnt
 refine Sq (RK hnt (nn 3 []) [(2,pI p2),(3,rr 1024),(4,rr 1032)] [(1024,bx (pm (As p0))),(1032,bx (pm (Al p1)))] tv ?_)
 obtain ⟨r1,hr1,hm⟩ := bo hm
 refine Sq (RK hnt (nn 3 (o121 [] true r1 :: .no :: [])) [(6,pB r1)] [] (an (Ic p0 p1 p2 r1 hr1) tv) ?_)
 obtain rfl := sj hm
 exact DW.ret (Ai [] [] (pB r1))
abbrev o133 (ks : List Nat) (b : Bool) (RES : Bool) (sm : List Nat := []) : Orc := .call 80 ks b (pB RES) [] [] sm

theorem Nd (p0 : Aa) (p1 : Ac) (p2 : Int) (p3 : Bool) (p4 : List Int) (RES : Bool) (hm : Nn p0 p1 p2 p3 p4 = some RES) : Spec Tryz.prog 28 [.p (.agg (Ab p0)),.p (.agg (Al p1)),pI p2,pB p3,.p (slI p4)] [] (pB RES) [] [] := by
 unfold Nn at hm
 refine SO Tryz.func28 rfl rfl [(0,.p (.agg (Ab p0))),(1,.p (.agg (Al p1))),(2,pI p2),(3,pB p3),(4,.p (slI p4))] [] ?_
 intro cx hnt
 refine Sq (RD hnt (nn 3 []) [0,1] [(5,rr 1040),(6,rr 1048)] [] [(1040,bx (pm (Ab p0))),(1048,bx (pm (Al p1)))] tv ?_)
 obtain ⟨r1,hr1,hm⟩ := bo hm
 refine Sq (RD hnt (nn 4 (o20 [] true r1 :: nn 6 [])) [] [(11,rr 1088),(12,pI r1.2)] [] [(1088,bx [ow 1224 r1.1.frosts.length,ow 1225 r1.1.stopped.length]),(1224,ob0 (Af r1.1.frosts)),(1225,ob0 (roI r1.1.stopped))] (an (Wo p0 p1 p2 p3 r1 hr1) tv) ?_)
 obtain ⟨r2,hr2,hm⟩ := bo hm
 refine Sq (RD hnt (nn 4 (o127 [] true r2 :: nn 6 [])) [3] [(13,rr 1104),(14,pI r2.2)] [] [(1104,bx [ow 1288 r2.1.frosts.length,ow 1289 r2.1.stopped.length]),(1288,ob0 (Af r2.1.frosts)),(1289,ob0 (roI r2.1.stopped))] (an (Add p0 p1 p2 p3 r2 hr2) tv) ?_)
 obtain ⟨r3,hr3,hm⟩ := bo hm
 refine Sq (RD hnt (nn 3 (o43 [] true r3 :: nn 6 [])) [] [(15,rr 1120),(16,pI r3.2)] [] [(1120,bx [ow 1344 r3.1.frosts.length,ow 1345 r3.1.stopped.length]),(1344,ob0 (Af r3.1.frosts)),(1345,ob0 (roI r3.1.stopped))] (an (Vs p0 p1 p4 r3 hr3) tv) ?_)
 obtain ⟨r4,hr4,hm⟩ := bo hm
 refine Sq (RD hnt (nn 3 (o125 [] true r4 :: nn 6 [])) [4] [(17,rr 1136),(18,pI r4.2)] [] [(1136,bx [ow 1400 r4.1.frosts.length,ow 1401 r4.1.stopped.length]),(1400,ob0 (Af r4.1.frosts)),(1401,ob0 (roI r4.1.stopped))] (an (AbV p0 p1 p4 r4 hr4) tv) ?_)
 obtain ⟨r5,hr5,hm⟩ := bo hm
 refine Sq (RD hnt (nn 2 (o130 [] true r5 :: nn 6 [])) [] [(19,rr 1152),(20,pI r5.2)] [] [(1152,bx [ow 1448 r5.1.frosts.length,ow 1449 r5.1.stopped.length]),(1448,ob0 (Af r5.1.frosts)),(1449,ob0 (roI r5.1.stopped))] (an (Afh p0 p1 r5 hr5) tv) ?_)
 obtain ⟨r6,hr6,hm⟩ := bo hm
 refine Sq (RD hnt (nn 2 (o116 [] true r6 :: nn 6 [])) [] [(21,rr 1168),(22,pI r6.2)] [] [(1168,bx [ow 1496 r6.1.frosts.length,ow 1497 r6.1.stopped.length]),(1496,ob0 (Af r6.1.frosts)),(1497,ob0 (roI r6.1.stopped))] (an (Aax p0 p1 r6 hr6) tv) ?_)
 obtain ⟨r7,hr7,hm⟩ := bo hm
 obtain ⟨r8,hr8,hm⟩ := bo hm
 refine Sq ?_
 refine Jn (ι := Bool) (fun (y1 : Bool) => Aj [(10,pB y1)] []) (fun y1 => Dx y1 = some RES) ?_ ?_
 ·intro y1 hm
  unfold Dx at hm
  obtain rfl := sj hm
  exact DW.ret (Ai [] [] (pB y1))
 ·rcases bt (r7 == r8) with h9 | h9
  ·replace hm := Bg h9 hm
   obtain ⟨r10,hr10,hm⟩ := bo hm
   obtain ⟨r11,hr11,hm⟩ := bo hm
   rcases bt (r10 == r11) with h12 | h12
   ·replace hm := Bg h12 hm
    obtain ⟨r13,hr13,hm⟩ := bo hm
    obtain ⟨r14,hr14,hm⟩ := bo hm
    rcases bt (Zz r13 r14) with h15 | h15
    ·replace hm := Bg h15 hm
     obtain ⟨r16,hr16,hm⟩ := bo hm
     obtain ⟨r17,hr17,hm⟩ := bo hm
     rcases bt (r16 == r17) with h18 | h18
     ·replace hm := Bg h18 hm
      obtain ⟨r19,hr19,hm⟩ := bo hm
      rcases bt r19 with h20 | h20
      ·replace hm := Bg h20 hm
       rcases bt (r1.2 == r2.2) with h21 | h21
       ·replace hm := Bg h21 hm
        obtain ⟨r22,hr22,hm⟩ := bo hm
        rcases bt r22 with h23 | h23
        ·replace hm := Bg h23 hm
         rcases bt (r3.2 == r4.2) with h24 | h24
         ·replace hm := Bg h24 hm
          obtain ⟨r25,hr25,hm⟩ := bo hm
          rcases bt r25 with h26 | h26
          ·replace hm := Bg h26 hm
           rcases bt (r5.2 == r6.2) with h27 | h27
           ·replace hm := Bg h27 hm
            obtain ⟨r28,hr28,hm⟩ := bo hm
            obtain ⟨r29,hr29,hm⟩ := bo hm
            obtain ⟨r30,hr30,hm⟩ := bo hm
            refine RK hnt (nn 2 (o21 [] true r7 :: nn 2 (Wi [] true r8 :: nn 6 (o132 [] true r10 :: nn 4 (o133 [] true r11 :: .no :: pT :: nn 3 (o26 [] true r13 :: nn 2 (o117 [] true r14 :: .no :: pT :: nn 3 (o32 [] true r16 :: nn 2 (Vk [] true r17 :: .no :: pT :: nn 3 (o64 [] true r19 :: pT :: nn 4 (pT :: nn 3 (o64 [] true r22 :: pT :: nn 4 (pT :: nn 3 (o64 [] true r25 :: pT :: nn 4 (pT :: nn 2 (o5 [] true r28 :: .no :: o115 [] true r29 :: o64 [] true r30 :: pT :: .no :: [])))))))))))))))) [(10,pB r30)] [] (an (Db p0 p1 r7 hr7) (an (Dj p0 p1 r8 hr8) (an5 h9 (an (Ef p0.tree p1 p2 r10 hr10) (an5 h9 (an (Ey p0.tree p1 p2 r11 hr11) (an2 h9 (an3 h12 (an (Ax p1 p2 r13 hr13) (an3 h12 (an (Gf p1 p2 r14 hr14) (an2 h12 (an3 h15 (an (Cn p1 p2 r16 hr16) (an3 h15 (an (Cl p1 p2 r17 hr17) (an2 h15 (an3 h18 (an (Bh r1.1 r2.1 r19 hr19) (an h18 (an4 h20 (an3 h21 (an (Bh r3.1 r4.1 r22 hr22) (an h21 (an4 h23 (an3 h24 (an (Bh r5.1 r6.1 r25 hr25) (an h24 (an4 h26 (an2 h27 (an (Wm p0 r28 hr28) (an2 h27 (an (Adn p0 r29 hr29) (an h27 (an (Bh r28 r29 r30 hr30) (an h27 tv)))))))))))))))))))))))))))))))))))) ?_
            exact jD r30 hm .refl
           ·replace hm := Bf h27 hm
            refine RK hnt (nn 2 (o21 [] true r7 :: nn 2 (Wi [] true r8 :: nn 6 (o132 [] true r10 :: nn 4 (o133 [] true r11 :: .no :: pT :: nn 3 (o26 [] true r13 :: nn 2 (o117 [] true r14 :: .no :: pT :: nn 3 (o32 [] true r16 :: nn 2 (Vk [] true r17 :: .no :: pT :: nn 3 (o64 [] true r19 :: pT :: nn 4 (pT :: nn 3 (o64 [] true r22 :: pT :: nn 4 (pT :: nn 3 (o64 [] true r25 :: pT :: nn 4 (pT :: .no :: sk 5 (pF :: .no :: [])))))))))))))))) [(10,pB false)] [] (an (Db p0 p1 r7 hr7) (an (Dj p0 p1 r8 hr8) (an5 h9 (an (Ef p0.tree p1 p2 r10 hr10) (an5 h9 (an (Ey p0.tree p1 p2 r11 hr11) (an2 h9 (an3 h12 (an (Ax p1 p2 r13 hr13) (an3 h12 (an (Gf p1 p2 r14 hr14) (an2 h12 (an3 h15 (an (Cn p1 p2 r16 hr16) (an3 h15 (an (Cl p1 p2 r17 hr17) (an2 h15 (an3 h18 (an (Bh r1.1 r2.1 r19 hr19) (an h18 (an4 h20 (an3 h21 (an (Bh r3.1 r4.1 r22 hr22) (an h21 (an4 h23 (an3 h24 (an (Bh r5.1 r6.1 r25 hr25) (an h24 (an4 h26 (an6 h27 tv)))))))))))))))))))))))))))))) ?_
            exact jD false hm .refl
          ·replace hm := Bf h26 hm
           refine RK hnt (nn 2 (o21 [] true r7 :: nn 2 (Wi [] true r8 :: nn 6 (o132 [] true r10 :: nn 4 (o133 [] true r11 :: .no :: pT :: nn 3 (o26 [] true r13 :: nn 2 (o117 [] true r14 :: .no :: pT :: nn 3 (o32 [] true r16 :: nn 2 (Vk [] true r17 :: .no :: pT :: nn 3 (o64 [] true r19 :: pT :: nn 4 (pT :: nn 3 (o64 [] true r22 :: pT :: nn 4 (pT :: nn 3 (o64 [] true r25 :: pT :: .no :: sk 3 (pF :: .no :: sk 5 (pF :: .no :: [])))))))))))))))) [(10,pB false)] [] (an (Db p0 p1 r7 hr7) (an (Dj p0 p1 r8 hr8) (an5 h9 (an (Ef p0.tree p1 p2 r10 hr10) (an5 h9 (an (Ey p0.tree p1 p2 r11 hr11) (an2 h9 (an3 h12 (an (Ax p1 p2 r13 hr13) (an3 h12 (an (Gf p1 p2 r14 hr14) (an2 h12 (an3 h15 (an (Cn p1 p2 r16 hr16) (an3 h15 (an (Cl p1 p2 r17 hr17) (an2 h15 (an3 h18 (an (Bh r1.1 r2.1 r19 hr19) (an h18 (an4 h20 (an3 h21 (an (Bh r3.1 r4.1 r22 hr22) (an h21 (an4 h23 (an3 h24 (an (Bh r5.1 r6.1 r25 hr25) (an h24 (an4 h26 (an6 ff tv)))))))))))))))))))))))))))))) ?_
           exact jD false hm .refl
         ·replace hm := Bf h24 hm
          refine RK hnt (nn 2 (o21 [] true r7 :: nn 2 (Wi [] true r8 :: nn 6 (o132 [] true r10 :: nn 4 (o133 [] true r11 :: .no :: pT :: nn 3 (o26 [] true r13 :: nn 2 (o117 [] true r14 :: .no :: pT :: nn 3 (o32 [] true r16 :: nn 2 (Vk [] true r17 :: .no :: pT :: nn 3 (o64 [] true r19 :: pT :: nn 4 (pT :: nn 3 (o64 [] true r22 :: pT :: nn 4 (pT :: .no :: sk 3 (pF :: .no :: sk 3 (pF :: .no :: sk 5 (pF :: .no :: [])))))))))))))))) [(10,pB false)] [] (an (Db p0 p1 r7 hr7) (an (Dj p0 p1 r8 hr8) (an5 h9 (an (Ef p0.tree p1 p2 r10 hr10) (an5 h9 (an (Ey p0.tree p1 p2 r11 hr11) (an2 h9 (an3 h12 (an (Ax p1 p2 r13 hr13) (an3 h12 (an (Gf p1 p2 r14 hr14) (an2 h12 (an3 h15 (an (Cn p1 p2 r16 hr16) (an3 h15 (an (Cl p1 p2 r17 hr17) (an2 h15 (an3 h18 (an (Bh r1.1 r2.1 r19 hr19) (an h18 (an4 h20 (an3 h21 (an (Bh r3.1 r4.1 r22 hr22) (an h21 (an4 h23 (an4 h24 (an4 ff (an6 ff tv)))))))))))))))))))))))))))) ?_
          exact jD false hm .refl
        ·replace hm := Bf h23 hm
         refine RK hnt (nn 2 (o21 [] true r7 :: nn 2 (Wi [] true r8 :: nn 6 (o132 [] true r10 :: nn 4 (o133 [] true r11 :: .no :: pT :: nn 3 (o26 [] true r13 :: nn 2 (o117 [] true r14 :: .no :: pT :: nn 3 (o32 [] true r16 :: nn 2 (Vk [] true r17 :: .no :: pT :: nn 3 (o64 [] true r19 :: pT :: nn 4 (pT :: nn 3 (o64 [] true r22 :: pT :: .no :: sk 3 (pF :: .no :: sk 3 (pF :: .no :: sk 3 (pF :: .no :: sk 5 (pF :: .no :: [])))))))))))))))) [(10,pB false)] [] (an (Db p0 p1 r7 hr7) (an (Dj p0 p1 r8 hr8) (an5 h9 (an (Ef p0.tree p1 p2 r10 hr10) (an5 h9 (an (Ey p0.tree p1 p2 r11 hr11) (an2 h9 (an3 h12 (an (Ax p1 p2 r13 hr13) (an3 h12 (an (Gf p1 p2 r14 hr14) (an2 h12 (an3 h15 (an (Cn p1 p2 r16 hr16) (an3 h15 (an (Cl p1 p2 r17 hr17) (an2 h15 (an3 h18 (an (Bh r1.1 r2.1 r19 hr19) (an h18 (an4 h20 (an3 h21 (an (Bh r3.1 r4.1 r22 hr22) (an h21 (an4 h23 (an2 ff (an6 ff (an6 ff tv)))))))))))))))))))))))))))) ?_
         exact jD false hm .refl
       ·replace hm := Bf h21 hm
        refine RK hnt (nn 2 (o21 [] true r7 :: nn 2 (Wi [] true r8 :: nn 6 (o132 [] true r10 :: nn 4 (o133 [] true r11 :: .no :: pT :: nn 3 (o26 [] true r13 :: nn 2 (o117 [] true r14 :: .no :: pT :: nn 3 (o32 [] true r16 :: nn 2 (Vk [] true r17 :: .no :: pT :: nn 3 (o64 [] true r19 :: pT :: nn 4 (pT :: .no :: sk 3 (pF :: .no :: sk 3 (pF :: .no :: sk 3 (pF :: .no :: sk 3 (pF :: .no :: sk 5 (pF :: .no :: [])))))))))))))))) [(10,pB false)] [] (an (Db p0 p1 r7 hr7) (an (Dj p0 p1 r8 hr8) (an5 h9 (an (Ef p0.tree p1 p2 r10 hr10) (an5 h9 (an (Ey p0.tree p1 p2 r11 hr11) (an2 h9 (an3 h12 (an (Ax p1 p2 r13 hr13) (an3 h12 (an (Gf p1 p2 r14 hr14) (an2 h12 (an3 h15 (an (Cn p1 p2 r16 hr16) (an3 h15 (an (Cl p1 p2 r17 hr17) (an2 h15 (an3 h18 (an (Bh r1.1 r2.1 r19 hr19) (an h18 (an4 h20 (an4 h21 (an6 ff (an6 ff (an6 ff tv))))))))))))))))))))))))) ?_
        exact jD false hm .refl
      ·replace hm := Bf h20 hm
       refine RK hnt (nn 2 (o21 [] true r7 :: nn 2 (Wi [] true r8 :: nn 6 (o132 [] true r10 :: nn 4 (o133 [] true r11 :: .no :: pT :: nn 3 (o26 [] true r13 :: nn 2 (o117 [] true r14 :: .no :: pT :: nn 3 (o32 [] true r16 :: nn 2 (Vk [] true r17 :: .no :: pT :: nn 3 (o64 [] true r19 :: pT :: .no :: sk 3 (pF :: .no :: sk 3 (pF :: .no :: sk 3 (pF :: .no :: sk 3 (pF :: .no :: sk 3 (pF :: .no :: sk 5 (pF :: .no :: [])))))))))))))))) [(10,pB false)] [] (an (Db p0 p1 r7 hr7) (an (Dj p0 p1 r8 hr8) (an5 h9 (an (Ef p0.tree p1 p2 r10 hr10) (an5 h9 (an (Ey p0.tree p1 p2 r11 hr11) (an2 h9 (an3 h12 (an (Ax p1 p2 r13 hr13) (an3 h12 (an (Gf p1 p2 r14 hr14) (an2 h12 (an3 h15 (an (Cn p1 p2 r16 hr16) (an3 h15 (an (Cl p1 p2 r17 hr17) (an2 h15 (an3 h18 (an (Bh r1.1 r2.1 r19 hr19) (an h18 (an4 h20 (an4 ff (an6 ff (an6 ff (an6 ff tv))))))))))))))))))))))))) ?_
       exact jD false hm .refl
     ·replace hm := Bf h18 hm
      refine RK hnt (nn 2 (o21 [] true r7 :: nn 2 (Wi [] true r8 :: nn 6 (o132 [] true r10 :: nn 4 (o133 [] true r11 :: .no :: pT :: nn 3 (o26 [] true r13 :: nn 2 (o117 [] true r14 :: .no :: pT :: nn 3 (o32 [] true r16 :: nn 2 (Vk [] true r17 :: .no :: pT :: .no :: sk 3 (pF :: .no :: sk 3 (pF :: .no :: sk 3 (pF :: .no :: sk 3 (pF :: .no :: sk 3 (pF :: .no :: sk 3 (pF :: .no :: sk 5 (pF :: .no :: [])))))))))))))))) [(10,pB false)] [] (an (Db p0 p1 r7 hr7) (an (Dj p0 p1 r8 hr8) (an5 h9 (an (Ef p0.tree p1 p2 r10 hr10) (an5 h9 (an (Ey p0.tree p1 p2 r11 hr11) (an2 h9 (an3 h12 (an (Ax p1 p2 r13 hr13) (an3 h12 (an (Gf p1 p2 r14 hr14) (an2 h12 (an3 h15 (an (Cn p1 p2 r16 hr16) (an3 h15 (an (Cl p1 p2 r17 hr17) (an2 h15 (an4 h18 (an2 ff (an6 ff (an6 ff (an6 ff (an6 ff tv))))))))))))))))))))))) ?_
      exact jD false hm .refl
    ·replace hm := Bf h15 hm
     refine RK hnt (nn 2 (o21 [] true r7 :: nn 2 (Wi [] true r8 :: nn 6 (o132 [] true r10 :: nn 4 (o133 [] true r11 :: .no :: pT :: nn 3 (o26 [] true r13 :: nn 2 (o117 [] true r14 :: .no :: pT :: .no :: sk 7 (pF :: .no :: sk 3 (pF :: .no :: sk 3 (pF :: .no :: sk 3 (pF :: .no :: sk 3 (pF :: .no :: sk 3 (pF :: .no :: sk 3 (pF :: .no :: sk 5 (pF :: .no :: []))))))))))))))) [(10,pB false)] [] (an (Db p0 p1 r7 hr7) (an (Dj p0 p1 r8 hr8) (an5 h9 (an (Ef p0.tree p1 p2 r10 hr10) (an5 h9 (an (Ey p0.tree p1 p2 r11 hr11) (an2 h9 (an3 h12 (an (Ax p1 p2 r13 hr13) (an3 h12 (an (Gf p1 p2 r14 hr14) (an2 h12 (an2 h15 (an6 h15 (an6 ff (an6 ff (an6 ff (an6 ff (an6 ff tv))))))))))))))))))) ?_
     exact jD false hm .refl
   ·replace hm := Bf h12 hm
    refine RK hnt (nn 2 (o21 [] true r7 :: nn 2 (Wi [] true r8 :: nn 6 (o132 [] true r10 :: nn 4 (o133 [] true r11 :: .no :: pT :: .no :: sk 7 (pF :: .no :: sk 7 (pF :: .no :: sk 3 (pF :: .no :: sk 3 (pF :: .no :: sk 3 (pF :: .no :: sk 3 (pF :: .no :: sk 3 (pF :: .no :: sk 3 (pF :: .no :: sk 5 (pF :: .no :: [])))))))))))))) [(10,pB false)] [] (an (Db p0 p1 r7 hr7) (an (Dj p0 p1 r8 hr8) (an5 h9 (an (Ef p0.tree p1 p2 r10 hr10) (an5 h9 (an (Ey p0.tree p1 p2 r11 hr11) (an2 h9 (an2 h12 (an6 h12 (an2 ff (an6 ff (an6 ff (an6 ff (an6 ff (an6 ff (an6 ff tv)))))))))))))))) ?_
    exact jD false hm .refl
  ·replace hm := Bf h9 hm
   refine RK hnt (nn 2 (o21 [] true r7 :: nn 2 (Wi [] true r8 :: nn 2 (sk 11 (pF :: .no :: sk 7 (pF :: .no :: sk 7 (pF :: .no :: sk 3 (pF :: .no :: sk 3 (pF :: .no :: sk 3 (pF :: .no :: sk 3 (pF :: .no :: sk 3 (pF :: .no :: sk 3 (pF :: .no :: sk 5 (pF :: .no :: [])))))))))))))) [(10,pB false)] [] (an (Db p0 p1 r7 hr7) (an (Dj p0 p1 r8 hr8) (an6 h9 (an6 h9 (an4 ff (an6 ff (an6 ff (an6 ff (an6 ff (an6 ff (an6 ff (an6 ff tv)))))))))))) ?_
   exact jD false hm .refl
abbrev o129 (ks : List Nat) (b : Bool) (RES : Bool) (sm : List Nat := []) : Orc := .call 28 ks b (pB RES) [] [] sm

abbrev Sc (r87 : Ac × Aq) (r89 : Int × Aq) := (r87.1.frosts.getD (Int.toNat r89.1) Bc)
abbrev c1e2 (r98 : List Ae) (r89 : Int × Aq) (r99 : Bool × Aq) := (Ca (Hq r98) (Int.toNat r89.1) [vi (r98.getD (Int.toNat r89.1) Bc).group,vb (r98.getD (Int.toNat r89.1) Bc).want,vb r99.1,vi (r98.getD (Int.toNat r89.1) Bc).changes])
abbrev c1e3 (r87 : Ac × Aq) (r89 : Int × Aq) (r92 : Int × Aq) := (Ca (Hq r87.1.frosts) (Int.toNat r89.1) [vi r92.1,vb (Sc r87 r89).want,vb (Sc r87 r89).frozen,vi (Sc r87 r89).changes])
abbrev c1e4 (p1 : Aa) : Nat × Obj := (1056,bx (pm (Ab p1)))
abbrev c1e5 (p2 : Ac) : Nat × Obj := (1064,bx (pm (Al p2)))
abbrev c1e6 (r96 : List Ae) (r89 : Int × Aq) (r94 : Int × Aq) := ({ group := (r96.getD (Int.toNat r89.1) Bc).group,want := (r96.getD (Int.toNat r89.1) Bc).want,frozen := (r96.getD (Int.toNat r89.1) Bc).frozen,changes := r94.1 } : Ae)
abbrev c1e7 (r98 : List Ae) (r89 : Int × Aq) (r99 : Bool × Aq) := ({ group := (r98.getD (Int.toNat r89.1) Bc).group,want := (r98.getD (Int.toNat r89.1) Bc).want,frozen := r99.1,changes := (r98.getD (Int.toNat r89.1) Bc).changes } : Ae)
abbrev c1e8 (r102 : List Ae) (r89 : Int × Aq) (r100 : Bool × Aq) := ({ group := (r102.getD (Int.toNat r89.1) Bc).group,want := r100.1,frozen := (r102.getD (Int.toNat r89.1) Bc).frozen,changes := (r102.getD (Int.toNat r89.1) Bc).changes } : Ae)
abbrev c1e9 (r86 : Aa × Aq) : Nat × Obj := (1120,bx (pm (Ab r86.1)))
theorem Acd (p0 : List Int) (p1 : Aa) (p2 : Ac) (p3 : Int) (p4 : Bool) (p5 : List Int) (RES : Bool) (hm : Ld p0 p1 p2 p3 p4 p5 = some RES) : Spec Tryz.prog 4 [.p (slI p0),.p (.agg (Ab p1)),.p (.agg (Al p2)),pI p3,pB p4,.p (slI p5)] [] (pB RES) [] [] := by
 unfold Ld at hm
 refine SO Tryz.func4 rfl rfl [(0,.p (slI p0)),(1,.p (.agg (Ab p1))),(2,.p (.agg (Al p2))),(3,pI p3),(4,pB p4),(5,.p (slI p5))] [] ?_
 intro cx hnt
 refine Sq (RD hnt (nn 3 []) [1,2] [(7,rr 1056),(8,rr 1064)] [] [(c1e4 p1),(c1e5 p2)] tv ?_)
 obtain ⟨r1,hr1,hm⟩ := bo hm
 refine Sq (Sq (RD hnt (.no :: o2 [] true r1 :: .no :: []) [] [(21,pB (!r1))] [] [] (an (Ahh p0 r1 hr1) tv) ?_))
 refine Ah hm ?_ ?_
 ·intro h2 hm
  obtain ⟨r3,hr3,hm⟩ := bo hm
  refine Sq (RK hnt (o3 [] true r3 :: .no :: []) [(12,pB r3)] [] (an (Wp r3 hr3) tv) ?_)
  obtain rfl := sj hm
  exact DW.ret (Ai [] [] (pB r3))
 ·intro h2 hm
  refine Sk ?_
  obtain ⟨r4,hr4,hm⟩ := bo hm
  refine Sq (RD hnt (.no :: o67 [] true r4 :: .no :: []) [0,21] [(13,rr 1192)] [] [(1192,bx (pm (An r4)))] (an (Aih p0 r4 hr4) tv) ?_)
  refine Sq (Sq (RD hnt (.no :: []) [] [(14,pI 0)] [] [] tv ?_))
  refine Bk ?_
  refine DW.forO (fun (k1 : Int) (s1 : Aq) => Aj [(3,pI p3),(4,pB p4),(5,.p (slI p5)),(7,rr 1056),(8,rr 1064),(13,rr 1192),(14,pI k1)] [(c1e4 p1),(c1e5 p2),(1192,bx (pm (An s1)))]) (lo := 0) (hi := 3) hm Conv.eqK ?_
  intro k1 s1 n1 hk1 hs1 he1
  refine Sq (Sq (RD hnt (nn 2 []) [] [(26,pB (decide (k1 < 3)))] [] [] tv ?_))
  refine Cd (decide (k1 < 3)) ?_ ?_
  ·intro h85
   have hlt1 : k1 < 3 := by have := of_decide_eq_true h85; omega
   have hm := hs1 hlt1
   unfold Qo at hm
   refine Sk ?_
   refine Sq (Bk ?_)
   obtain ⟨r86,hr86,hm⟩ := bo hm
   refine Sq (RD hnt (.no :: o68 [1192] true r86 :: nn 2 []) [26] [(15,rr 1120)] [] [(c1e9 r86),(1192,bx (pm (An r86.2)))] (an (Su s1 5 6 r86 hr86) (an tv tv)) ?_)
   obtain ⟨r87,hr87,hm⟩ := bo hm
   refine Sq (RD hnt (nn 2 (o114 [1192] true r87 :: nn 2 [])) [] [(16,rr 1128)] [] [(1128,bx [ow 1264 r87.1.frosts.length,ow 1265 r87.1.stopped.length]),(1192,bx (pm (An r87.2))),(1264,ob0 (Af r87.1.frosts)),(1265,ob0 (roI r87.1.stopped))] (an (AbG r86.2 r86.1 6 r87 hr87) (an tv tv)) ?_)
   refine Sq (Sq (RD hnt (nn 2 []) [] [(35,pB (k1 == 2))] [] [] tv ?_))
   refine Jn (ι := Aq × (List Ae) × (List Int)) (fun (y7 : Aq × (List Ae) × (List Int)) => Aj [(3,pI p3),(4,pB p4),(5,.p (slI p5)),(7,rr 1056),(8,rr 1064),(13,rr 1192),(14,pI k1),(15,rr 1120),(16,rr 1128)] [(c1e4 p1),(c1e5 p2),(c1e9 r86),(1128,bx [ow 1264 y7.2.1.length,ow 1265 y7.2.2.length]),(1192,bx (pm (An y7.1))),(1264,ob0 (Af y7.2.1)),(1265,ob0 (roI y7.2.2))]) (fun y7 => (Ho p4 p5 n1 r86) y7 = some RES) ?_ ?_
   ·intro y7 hm
    unfold Ho at hm
    obtain ⟨r107,hr107,hm⟩ := bo hm
    refine Sq (RD hnt (.no :: o68 [1192] true r107 :: nn 2 []) [] [(18,rr 1144)] [] [(1144,bx (pm (Ab r107.1))),(1192,bx (pm (An r107.2)))] (an (Su y7.1 5 6 r107 hr107) (an tv tv)) ?_)
    obtain ⟨r108,hr108,hm⟩ := bo hm
    obtain ⟨r109,hr109,hm⟩ := bo hm
    obtain ⟨r110,hr110,hm⟩ := bo hm
    obtain ⟨r111,hr111,hm⟩ := bo hm
    refine Sq ?_
    refine Jn (ι := Aq × Bool) (fun (y8 : Aq × Bool) => Aj [(3,pI p3),(4,pB p4),(5,.p (slI p5)),(7,rr 1056),(8,rr 1064),(13,rr 1192),(14,pI k1),(107,pB y8.2)] [(c1e4 p1),(c1e5 p2),(1192,bx (pm (An y8.1)))]) (fun y8 => (Jo n1) y8 = some RES) ?_ ?_
    ·intro y8 hm
     unfold Jo at hm
     refine Ah hm ?_ ?_
     ·intro h115 hm
      refine Sq (RK hnt (.no :: []) [(12,pB false)] [] tv ?_)
      obtain rfl := sj hm
      exact DW.ret (Ai [] [] (pB false))
     ·intro h115 hm
      refine Sk ?_
      refine DW.done ?_
      show DW _ _ _ _ _
      refine RD hnt (nn 3 []) [107] [(14,pI (w64 (k1 + 1)))] [] [] tv ?_
      exact jD y8.1 ⟨hlt1,hm⟩ (Conv.tp [(14,pI (w64 (k1 + 1)))] [] (by kernel_rfl) (.cons rfl (.of_eq (congrArg pI (Sn (lo := 0) (hi := 3) (by omega) hk1 hlt1 (by omega)))) .nil) .nil)
    ·rcases bt (!r111) with h112 | h112
     ·replace hm := Bg h112 hm
      refine RD hnt (nn 5 (o88 [1192] true r108 :: .no :: o84 [1192] true r109 :: nn 2 (o124 [1192] true r110 :: o129 [] true r111 :: nn 2 (sk 10 (pT :: []))))) [15,16,18] [(107,pB true)] [1120,1128,1144,1264,1265] [(1192,bx (pm (An r110.2)))] (an (Gn r107.2 r86.1.tree r108 hr108) (an tv (an (Cm r108.2 2 r109 hr109) (an tv (an (Qn r109.2 r86.1 false r110 hr110) (an tv (an (Nd r86.1 ({ frosts := y7.2.1,stopped := y7.2.2 } : Ac) r108.1 r109.1 r110.1 r111 hr111) (an5 h112 (an6 h112 tv))))))))) ?_
      exact jD (r110.2,true) hm Conv.eqK
     ·replace hm := Bf h112 hm
      obtain ⟨r113,hr113,hm⟩ := bo hm
      obtain ⟨r114,hr114,hm⟩ := bo hm
      refine RD hnt (nn 5 (o88 [1192] true r108 :: .no :: o84 [1192] true r109 :: nn 2 (o124 [1192] true r110 :: o129 [] true r111 :: nn 7 (o88 [1192] true r113 :: nn 2 (o129 [] true r114 :: .no :: pF :: []))))) [15,16,18] [(107,pB (!r114))] [1120,1128,1144,1264,1265] [(1192,bx (pm (An r113.2)))] (an (Gn r107.2 r86.1.tree r108 hr108) (an tv (an (Cm r108.2 2 r109 hr109) (an tv (an (Qn r109.2 r86.1 false r110 hr110) (an tv (an (Nd r86.1 ({ frosts := y7.2.1,stopped := y7.2.2 } : Ac) r108.1 r109.1 r110.1 r111 hr111) (an6 h112 (an (Gn r110.2 r107.1.tree r113 hr113) (an tv (an3 h112 (an (Nd r107.1 ({ frosts := y7.2.1,stopped := y7.2.2 } : Ac) r113.1 p4 p5 r114 hr114) (an2 h112 tv))))))))))))) ?_
      exact jD (r113.2,(!r114)) hm Conv.eqK
   ·refine Ah hm ?_ ?_
    ·intro h88 hm
     obtain ⟨r89,hr89,hm⟩ := bo hm
     obtain ⟨g90,hm⟩ := go1 hm
     refine Sq (RD hnt (nn 6 (o72 [1192] true r89 :: nn 2 [])) [35] [(17,.eref 1264 0 (Int.toNat r89.1) 0)] [] [(1192,bx (pm (An r89.2)))] (an (Bp r87.2 ((r87.1.frosts.length : Nat) : Int) r89 hr89) (an tv (an g90.1 (an g90.2 tv)))) ?_)
     obtain ⟨g91,hm⟩ := go1 hm
     obtain ⟨r92,hr92,hm⟩ := bo hm
     obtain ⟨g93,hm⟩ := go1 hm
     obtain ⟨r94,hr94,hm⟩ := bo hm
     obtain ⟨g95,hm⟩ := go1 hm
     obtain ⟨r96,hr96,hm⟩ := bo hm
     obtain ⟨g97,hm⟩ := go1 hm
     obtain ⟨r98,hr98,hm⟩ := bo hm
     refine Sq (RN hnt (nn 8 (o128 [1192] false r92 :: nn 6 (o128 [1192] false r94 :: nn 6 []))) [(3,pI p3),(4,pB p4),(5,.p (slI p5)),(7,rr 1056),(8,rr 1064),(13,rr 1192),(14,pI k1),(15,rr 1120),(16,rr 1128),(17,.eref 1264 0 (Int.toNat r89.1) 0)] [(c1e4 p1),(c1e5 p2),(c1e9 r86),(1128,bx [ow 1264 r98.length,ow 1265 r87.1.stopped.length]),(1192,bx (pm (An r94.2))),(1264,ob0 (Af r98)),(1265,ob0 (roI r87.1.stopped))] [] [(1128,.box [ow 1264 r87.1.frosts.length,ow 1265 r87.1.stopped.length]),(1264,.row 4 r87.1.frosts.length (Ca (c1e3 r87 r89 r92) (Int.toNat r89.1) (setRange ((c1e3 r87 r89 r92) (Int.toNat r89.1)) 3 [vi r94.1])))] (an g91 (an (Spec.args (xs := [rr 0,.p (.sl .unk 1 2 (cut 1 [vi (Sc r87 r89).group,vi 9]))]) (Xt r89.2 [(Sc r87 r89).group,9] r92 hr92) (.cons .rfl (.cons (.p (PLe.typed (RowIs.lit (enc := Bi) (d := 0) (n := 2) (f := (cut 1 [vi (Sc r87 r89).group,vi 9])) [(Sc r87 r89).group,9] rfl (fun | 0,_ => rfl | 1,_ => rfl | n + 2,h => absurd h (by omega))))) .nil))) (an tv (an g93 (an (Spec.args (xs := [rr 0,.p (.sl .unk 1 4 (cut 1 [vi (Sc r87 r89).changes,vi (-1),vi 1099511627776,vi 1099511627777]))]) (Xt r92.2 [(Sc r87 r89).changes,(-1),1099511627776,1099511627777] r94 hr94) (.cons .rfl (.cons (.p (PLe.typed (RowIs.lit (enc := Bi) (d := 0) (n := 4) (f := (cut 1 [vi (Sc r87 r89).changes,vi (-1),vi 1099511627776,vi 1099511627777])) [(Sc r87 r89).changes,(-1),1099511627776,1099511627777] rfl (fun | 0,_ => rfl | 1,_ => rfl | 2,_ => rfl | 3,_ => rfl | n + 4,h => absurd h (by omega))))) .nil))) (an tv (an g95 (an g97 tv)))))))) (by kernel_rfl) .nil (.cons rfl (.box (.cons (MLe.ownLen (enc := Bd) (d := Bc) (f := (Ca (c1e3 r87 r89 r92) (Int.toNat r89.1) (setRange ((c1e3 r87 r89 r92) (Int.toNat r89.1)) 3 [vi r94.1]))) (RowIs.named hr98 (RowIs.updR (RowIs.named hr96 (RowIs.upd RowIs.elems ({ group := r92.1,want := (Sc r87 r89).want,frozen := (Sc r87 r89).frozen,changes := (Sc r87 r89).changes } : Ae) rfl)) (by omega) (c1e6 r96 r89 r94) rfl))) (.cons .rfl .nil))) (.cons rfl (BLe.typed (RowIs.named hr98 (RowIs.updR (RowIs.named hr96 (RowIs.upd RowIs.elems ({ group := r92.1,want := (Sc r87 r89).want,frozen := (Sc r87 r89).frozen,changes := (Sc r87 r89).changes } : Ae) rfl)) (by omega) (c1e6 r96 r89 r94) rfl))) .nil)) ?_)
     obtain ⟨r99,hr99,hm⟩ := bo hm
     obtain ⟨r100,hr100,hm⟩ := bo hm
     obtain ⟨g101,hm⟩ := go1 hm
     obtain ⟨r102,hr102,hm⟩ := bo hm
     obtain ⟨g103,hm⟩ := go1 hm
     obtain ⟨r104,hr104,hm⟩ := bo hm
     refine Sq (RN hnt (nn 3 (o84 [1192] true r99 :: .no :: o84 [1192] true r100 :: nn 6 [])) [(3,pI p3),(4,pB p4),(5,.p (slI p5)),(7,rr 1056),(8,rr 1064),(13,rr 1192),(14,pI k1),(15,rr 1120),(16,rr 1128)] [(c1e4 p1),(c1e5 p2),(c1e9 r86),(1128,bx [ow 1264 r104.length,ow 1265 r87.1.stopped.length]),(1192,bx (pm (An r100.2))),(1264,ob0 (Af r104)),(1265,ob0 (roI r87.1.stopped))] [] [(1128,.box [ow 1264 r98.length,ow 1265 r87.1.stopped.length]),(1264,.row 4 r98.length (Ca (c1e2 r98 r89 r99) (Int.toNat r89.1) (setRange ((c1e2 r98 r89 r99) (Int.toNat r89.1)) 1 [vb r100.1])))] (an (Cm r94.2 2 r99 hr99) (an tv (an (Cm r99.2 2 r100 hr100) (an tv (an g101 (an g103 tv)))))) (by kernel_rfl) .nil (.cons rfl (.box (.cons (MLe.ownLen (enc := Bd) (d := Bc) (f := (Ca (c1e2 r98 r89 r99) (Int.toNat r89.1) (setRange ((c1e2 r98 r89 r99) (Int.toNat r89.1)) 1 [vb r100.1]))) (RowIs.named hr104 (RowIs.updR (RowIs.named hr102 (RowIs.upd RowIs.elems (c1e7 r98 r89 r99) rfl)) (by omega) (c1e8 r102 r89 r100) rfl))) (.cons .rfl .nil))) (.cons rfl (BLe.typed (RowIs.named hr104 (RowIs.updR (RowIs.named hr102 (RowIs.upd RowIs.elems (c1e7 r98 r89 r99) rfl)) (by omega) (c1e8 r102 r89 r100) rfl))) .nil)) ?_)
     obtain ⟨r105,hr105,hm⟩ := bo hm
     obtain ⟨g106,hm⟩ := go1 hm
     refine RN hnt (nn 3 (o72 [1192] true r105 :: nn 4 [])) [(3,pI p3),(4,pB p4),(5,.p (slI p5)),(7,rr 1056),(8,rr 1064),(13,rr 1192),(14,pI k1),(15,rr 1120),(16,rr 1128)] [(c1e4 p1),(c1e5 p2),(c1e9 r86),(1128,bx [ow 1264 r104.length,ow 1265 (r87.1.stopped ++ [r105.1]).length]),(1192,bx (pm (An r105.2))),(1264,ob0 (Af r104)),(1265,ob0 (roI (r87.1.stopped ++ [r105.1])))] [] [(1128,.box [ow 1264 r104.length,ow 1265 (r87.1.stopped.length + 1)]),(1265,.row 1 (r87.1.stopped.length + 1) (Cp r87.1.stopped.length (elI r87.1.stopped) (cut 1 [vi r105.1])))] (an (Bp r100.2 5 r105 hr105) (an tv (an (by omega : (r87.1.stopped.length + 1) * 8 ≤ 140737488355328) tv))) (by kernel_rfl) .nil (.cons rfl (.box (.cons .rfl (.cons (MLe.ownLen (enc := Bi) (d := 0) (f := (Cp r87.1.stopped.length (elI r87.1.stopped) (cut 1 [vi r105.1]))) (RowIs.cat RowIs.elems (RowIs.lit (enc := Bi) (d := 0) (n := 1) (f := (cut 1 [vi r105.1])) [r105.1] rfl (fun | 0,_ => rfl | n + 1,h => absurd h (by omega))))) .nil))) (.cons rfl (BLe.typed (RowIs.cat RowIs.elems (RowIs.lit (enc := Bi) (d := 0) (n := 1) (f := (cut 1 [vi r105.1])) [r105.1] rfl (fun | 0,_ => rfl | n + 1,h => absurd h (by omega))))) .nil)) ?_
     exact jD (r105.2,r104,(r87.1.stopped ++ [r105.1])) hm .refl
    ·intro h88 hm
     refine Sk ?_
     exact jD (r87.2,r87.1.frosts,r87.1.stopped) hm Conv.t0
  ·intro h85
   have hge1 : ¬ k1 < 3 := by have := of_decide_eq_false h85; omega
   have hm := he1 hge1
   unfold Qs at hm
   refine DW.exit ?_
   refine Ap ?_
   refine Au ?_
   refine Am ?_
   show DW _ _ _ _ _
   refine Sq (Sq (DW.regJ (sl2 := [(3,pI p3),(4,pB p4),(5,.p (slI p5)),(7,rr 1056),(8,rr 1064),(135,pB (((((decide (((p1.tree.nodes.length : Nat) : Int) > 30)) || (decide (((p1.tasks.length : Nat) : Int) > 60))) || (decide (((p2.frosts.length : Nat) : Int) > 40))) || (decide (((p2.stopped.length : Nat) : Int) > 80))) || (decide (((p5.length : Nat) : Int) > 200))))]) (ob2 := [(c1e4 p1),(c1e5 p2)]) ?_ ?_))
   ·rcases bt (decide (((p1.tree.nodes.length : Nat) : Int) > 30)) with h116 | h116
    ·exact RT hnt (nn 6 (sk 4 (pT :: .no :: sk 4 (pT :: .no :: sk 4 (pT :: .no :: sk 3 (pT :: [])))))) [(135,pB true)] (an5 h116 (an2 tt (an6 tt (an6 tt tv)))) (by kernel_rfl) (.cons rfl (.of_eq (by rw [h116]; try rfl)) .nil)
    ·rcases bt (decide (((p1.tasks.length : Nat) : Int) > 60)) with h117 | h117
     ·exact RT hnt (nn 10 (pF :: .no :: sk 4 (pT :: .no :: sk 4 (pT :: .no :: sk 3 (pT :: []))))) [(135,pB true)] (an5 h116 (an5 h117 (an3 tt (an6 tt tv)))) (by kernel_rfl) (.cons rfl (.of_eq (by rw [h116,h117]; try rfl)) .nil)
     ·rcases bt (decide (((p2.frosts.length : Nat) : Int) > 40)) with h118 | h118
      ·exact RT hnt (nn 10 (pF :: nn 5 (pF :: .no :: sk 4 (pT :: .no :: sk 3 (pT :: []))))) [(135,pB true)] (an5 h116 (an5 h117 (an5 h118 (an4 tt tv)))) (by kernel_rfl) (.cons rfl (.of_eq (by rw [h116,h117,h118]; try rfl)) .nil)
      ·rcases bt (decide (((p2.stopped.length : Nat) : Int) > 80)) with h119 | h119
       ·exact RT hnt (nn 10 (pF :: nn 5 (pF :: nn 5 (pF :: .no :: sk 3 (pT :: []))))) [(135,pB true)] (an5 h116 (an5 h117 (an5 h118 (an4 h119 tv)))) (by kernel_rfl) (.cons rfl (.of_eq (by rw [h116,h117,h118,h119]; try rfl)) .nil)
       ·exact RT hnt (nn 10 (pF :: nn 5 (pF :: nn 5 (pF :: nn 4 (pF :: []))))) [(135,pB (decide (((p5.length : Nat) : Int) > 200)))] (an5 h116 (an5 h117 (an5 h118 (an4 h119 tv)))) (by kernel_rfl) (.cons rfl (.of_eq (by rw [h116,h117,h118,h119]; try rfl)) .nil)
   ·refine Ah hm ?_ ?_
    ·intro h120 hm
     obtain ⟨r121,hr121,hm⟩ := bo hm
     refine Sq (RK hnt (o3 [] true r121 :: .no :: []) [(12,pB r121)] [] (an (Wp r121 hr121) tv) ?_)
     obtain rfl := sj hm
     exact DW.ret (Ai [] [] (pB r121))
    ·intro h120 hm
     refine Sk ?_
     obtain ⟨r122,hr122,hm⟩ := bo hm
     refine Sq ?_
     refine Jn (ι := Bool) (fun (y9 : Bool) => Aj [(12,pB y9)] []) (fun y9 => Jl y9 = some RES) ?_ ?_
     ·intro y9 hm
      unfold Jl at hm
      obtain rfl := sj hm
      exact DW.ret (Ai [] [] (pB y9))
     ·rcases bt r122 with h123 | h123
      ·replace hm := Bg h123 hm
       obtain ⟨r124,hr124,hm⟩ := bo hm
       refine RK hnt (nn 5 (o129 [] true r122 :: .no :: o3 [] true r124 :: pT :: .no :: [])) [(12,pB r124)] [] (an (Nd p1 p2 p3 p4 p5 r122 hr122) (an h123 (an (Wp r124 hr124) (an h123 tv)))) ?_
       exact jD r124 hm .refl
      ·replace hm := Bf h123 hm
       refine RK hnt (nn 5 (o129 [] true r122 :: .no :: .skip :: pF :: .no :: [])) [(12,pB false)] [] (an (Nd p1 p2 p3 p4 p5 r122 hr122) (an2 h123 tv)) ?_
       exact jD false hm .refl
abbrev o1 (ks : List Nat) (b : Bool) (RES : Bool) (sm : List Nat := []) : Orc := .call 4 ks b (pB RES) [] [] sm
end Go.Dm

