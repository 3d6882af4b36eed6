/- Texts of the proof of MemberReads: the data machine, the models of the Go functions, their contracts. -/
import Derived.Test.YtonaidnipimjgaaGreatMemberReadsA3
set_option linter.unusedVariables false
set_option linter.unusedSimpArgs false
/- Go functions compute their models, printed by a program. -/
namespace Go.Dm
open Go.Proofs
set_option linter.unusedVariables false
theorem Adl (p0 : Ae) (p1 : Int) (RES : List Int) (hm : Ww p0 p1 = some RES) : Spec Tryz.prog 128 [.p (.agg (Aq p0)),pI p1] [] (ow 0 RES.length) [] [roI RES] := by
 unfold Ww at hm
 refine SO Tryz.func128 rfl rfl [(0,.p (.agg (Aq p0))),(1,pI p1)] [] ?_
 intro cx hnt
 refine Sq (RK hnt (nn 2 []) [(1,pI p1),(2,rr 1016)] [(1016,bx (pm (Aq p0)))] tv ?_)
 refine Sq (RD hnt (.no :: []) [] [(5,.p (.sl .nil 0 0 (fun _ => [])))] [] [] tv ?_)
 refine Sq (Sq (RD hnt (nn 5 []) [] [(6,pI (w64 (((p0.nodes.length : Nat) : Int) - 1)))] [] [] tv ?_))
 refine Bk ?_
 refine DW.whileO (fun (s1 : (List Int) × Int × Int) => Ao [(1,pI s1.2.1),(2,rr 1016),(5,ow 1208 s1.1.length),(6,pI s1.2.2)] [(1016,bx (pm (Aq p0))),(1208,ob0 (roI s1.1))]) hm (Conv.ads [(.s 5,1208,1,elems Bd 0 [])]) ?_
 intro s1 n1 hm
 unfold Ace at hm
 refine Sq (Sq (RD hnt (nn 2 []) [] [(12,pB (decide (s1.2.2 ≥ 0)))] [] [] tv ?_))
 refine Ag hm ?_ ?_
 ·intro h5 hm
  refine Sk ?_
  refine Sq ?_
  refine Jn (ι := (List Int) × Int) (fun (y2 : (List Int) × Int) => Ao [(1,pI y2.2),(2,rr 1016),(5,ow 1208 y2.1.length),(6,pI s1.2.2)] [(1016,bx (pm (Aq p0))),(1208,ob0 (roI y2.1))]) (fun y2 => (Sb s1 n1) y2 = some RES) ?_ ?_
  ·intro y2 hm
   unfold Sb at hm
   refine RD hnt (nn 3 []) [] [(6,pI (w64 (s1.2.2 - 1)))] [] [] tv ?_
   exact jD (y2.1,y2.2,(w64 (s1.2.2 - 1))) hm Conv.eqK
  ·refine Bk ?_
   obtain ⟨g6,hm⟩ := go1 hm
   refine Sq (RD hnt (nn 8 []) [12] [(22,pB ((p0.nodes.getD (Int.toNat s1.2.2) Aw).id == s1.2.1))] [] [] (an g6.1 (an g6.2 tv)) ?_)
   refine Ag hm ?_ ?_
   ·intro h7 hm
    obtain ⟨g8,hm⟩ := go1 hm
    refine Sq (RN hnt (nn 5 []) [(2,rr 1016),(5,ow 1208 (s1.1 ++ [s1.2.1]).length),(6,pI s1.2.2)] [(1016,bx (pm (Aq p0))),(1208,ob0 (roI (s1.1 ++ [s1.2.1])))] [(5,ow 1208 (s1.1.length + 1))] [(1208,.row 1 (s1.1.length + 1) (Cp s1.1.length (elI s1.1) (cut 1 [vi s1.2.1])))] (an (by omega : (s1.1.length + 1) * 8 ≤ 140737488355328) tv) (by kernel_rfl) (.cons rfl (MLe.ownLen (enc := Bd) (d := 0) (f := (Cp s1.1.length (elI s1.1) (cut 1 [vi s1.2.1]))) (RowIs.cat RowIs.elems (RowIs.lit (enc := Bd) (d := 0) (n := 1) (f := (cut 1 [vi s1.2.1])) [s1.2.1] rfl (fun | 0,_ => rfl | n + 1,h => absurd h (by omega))))) .nil) (.cons rfl (BLe.typed (RowIs.cat RowIs.elems (RowIs.lit (enc := Bd) (d := 0) (n := 1) (f := (cut 1 [vi s1.2.1])) [s1.2.1] rfl (fun | 0,_ => rfl | n + 1,h => absurd h (by omega))))) .nil) ?_)
    obtain ⟨g9,hm⟩ := go1 hm
    refine RD hnt (nn 7 []) [] [(1,pI (p0.nodes.getD (Int.toNat s1.2.2) Aw).parent)] [] [] (an g9.1 (an g9.2 tv)) ?_
    exact bD ((s1.1 ++ [s1.2.1]),(p0.nodes.getD (Int.toNat s1.2.2) Aw).parent) hm Conv.eqK
   ·intro h7 hm
    refine Sk ?_
    exact bD (s1.1,s1.2.1) hm Conv.t0
 ·intro h5 hm
  refine DW.exit ?_
  refine Ar ?_
  refine Au ?_
  refine Ap ?_
  show DW _ _ _ _ _
  refine Sq (RK hnt (nn 2 []) [(4,ow 1208 s1.1.length)] [(1208,ob0 (roI s1.1))] tv ?_)
  obtain rfl := sj hm
  exact DW.ret (Ak [roI s1.1] [1208] (ow 0 s1.1.length))
abbrev o41 (ks : List Nat) (b : Bool) (RES : List Int) : Orc := .call 128 ks b (ow 0 RES.length) [] [roI RES]

abbrev c38e1 (p0 : Ae) : Nat × MV := (3,pI ((p0.nodes.length : Nat) : Int))
theorem Gi (p0 : Ae) (RES : Bool) (hm : Jo p0 = some RES) : Spec Tryz.prog 94 [.p (.agg (Aq p0))] [] (pB RES) [] [] := by
 unfold Jo at hm
 refine SO Tryz.func94 rfl rfl [(0,.p (.agg (Aq p0)))] [] ?_
 intro cx hnt
 refine Sq (RK hnt (nn 2 []) [(1,rr 1008)] [(1008,bx (pm (Aq p0)))] tv ?_)
 refine Sq (RD hnt (nn 4 []) [] [(c38e1 p0)] [] [] tv ?_)
 refine Sq (Sq (DW.regJ (sl2 := [(1,rr 1008),(c38e1 p0),(14,pB ((decide (((p0.nodes.length : Nat) : Int) < 1)) || (decide (((p0.nodes.length : Nat) : Int) > 64))))]) (ob2 := [(1008,bx (pm (Aq p0)))]) ?_ ?_))
 ·rcases bt (decide (((p0.nodes.length : Nat) : Int) < 1)) with h1 | h1
  ·exact RT hnt (nn 3 (sk 2 (pT :: []))) [(14,pB true)] (an3 h1 tv) (by kernel_rfl) (.cons rfl (.of_eq (by rw [h1]; try rfl)) .nil)
  ·exact RT hnt (nn 5 (pF :: [])) [(14,pB (decide (((p0.nodes.length : Nat) : Int) > 64)))] (an3 h1 tv) (by kernel_rfl) (.cons rfl (.of_eq (by rw [h1]; try rfl)) .nil)
 ·refine Ag hm ?_ ?_
  ·intro h2 hm
   refine Sq (RK hnt (.no :: []) [(2,pB false)] [] tv ?_)
   obtain rfl := sj hm
   exact DW.ret (Ak [] [] (pB false))
  ·intro h2 hm
   refine Sk ?_
   refine Sq (Sq (RD hnt (.no :: []) [14] [(4,pI 0)] [] [] tv ?_))
   refine Bk ?_
   obtain ⟨hc1,hm⟩ := go1 hm
   refine DW.rangeO (fun (k1 : Nat) (s1 : Unit) => Ao [(1,rr 1008),(c38e1 p0),(4,pI ((k1 : Nat) : Int))] [(1008,bx (pm (Aq p0)))]) Aw hm Conv.eqK ?_
   intro k1 s1 n1 hk1 hs1 he1
   refine Sq (Sq (RD hnt (nn 3 []) [] [(17,pB (decide (((k1 : Nat) : Int) < ((p0.nodes.length : Nat) : Int))))] [] [] tv ?_))
   refine Cm (decide (((k1 : Nat) : Int) < ((p0.nodes.length : Nat) : Int))) ?_ ?_
   ·intro h32
    have hlt1 : k1 < p0.nodes.length := by have := of_decide_eq_true h32; omega
    have hm := hs1 hlt1
    unfold Yc at hm
    refine Sk ?_
    refine Sq (Bk ?_)
    obtain ⟨r33,hr33,hm⟩ := bo hm
    refine Sq (RD hnt (nn 2 (o39 [] true r33 :: .no :: [])) [17] [(23,pB (!r33))] [] [] (an (Agl p0 ((k1 : Nat) : Int) r33 hr33) tv) ?_)
    refine Ag hm ?_ ?_
    ·intro h34 hm
     refine Sq (RK hnt (.no :: []) [(2,pB false)] [] tv ?_)
     obtain rfl := sj hm
     exact DW.ret (Ak [] [] (pB false))
    ·intro h34 hm
     refine Sk ?_
     refine DW.done ?_
     show DW _ _ _ _ _
     refine RD hnt (nn 3 []) [23] [(4,pI (w64 (((k1 : Nat) : Int) + 1)))] [] [] tv ?_
     exact jD () ⟨hlt1,hm⟩ (Conv.tp [(4,pI (w64 (((k1 : Nat) : Int) + 1)))] [] (by kernel_rfl) (.cons rfl (.of_eq (congrArg pI (Br hlt1 hc1))) .nil) .nil)
   ·intro h32
    have hge1 : ¬ k1 < p0.nodes.length := by have := of_decide_eq_false h32; omega
    have hm := he1 hge1
    unfold Yv at hm
    refine DW.exit ?_
    refine Ar ?_
    refine Au ?_
    refine Ap ?_
    show DW _ _ _ _ _
    refine Sq (Sq (RD hnt (.no :: []) [4,17] [(5,pI 0)] [] [] tv ?_))
    refine Bk ?_
    obtain ⟨hc4,hm⟩ := go1 hm
    refine DW.rangeO (fun (k4 : Nat) (s4 : Unit) => Ao [(1,rr 1008),(c38e1 p0),(5,pI ((k4 : Nat) : Int))] [(1008,bx (pm (Aq p0)))]) Aw hm Conv.eqK ?_
    intro k4 s4 n4 hk4 hs4 he4
    refine Sq (Sq (RD hnt (nn 3 []) [] [(26,pB (decide (((k4 : Nat) : Int) < ((p0.nodes.length : Nat) : Int))))] [] [] tv ?_))
    refine Cm (decide (((k4 : Nat) : Int) < ((p0.nodes.length : Nat) : Int))) ?_ ?_
    ·intro h49
     have hlt4 : k4 < p0.nodes.length := by have := of_decide_eq_true h49; omega
     have hm := hs4 hlt4
     unfold Yh at hm
     refine Sk ?_
     refine Sq (Bk ?_)
     obtain ⟨r50,hr50,hm⟩ := bo hm
     refine Sq (RD hnt (nn 7 (o41 [] true r50 :: nn 2 [])) [26] [(38,pB (decide (((r50.length : Nat) : Int) > 9)))] [] [] (an (nn0 k4) (an (ltc hlt4) (an (Adl p0 (p0.nodes.getD k4 (default : Af)).id r50 hr50) tv))) ?_)
     refine Ag hm ?_ ?_
     ·intro h51 hm
      refine Sq (RK hnt (.no :: []) [(2,pB false)] [] tv ?_)
      obtain rfl := sj hm
      exact DW.ret (Ak [] [] (pB false))
     ·intro h51 hm
      refine Sk ?_
      refine DW.done ?_
      show DW _ _ _ _ _
      refine RD hnt (nn 3 []) [38] [(5,pI (w64 (((k4 : Nat) : Int) + 1)))] [] [] tv ?_
      exact jD () ⟨hlt4,hm⟩ (Conv.tp [(5,pI (w64 (((k4 : Nat) : Int) + 1)))] [] (by kernel_rfl) (.cons rfl (.of_eq (congrArg pI (Br hlt4 hc4))) .nil) .nil)
    ·intro h49
     have hge4 : ¬ k4 < p0.nodes.length := by have := of_decide_eq_false h49; omega
     have hm := he4 hge4
     unfold Yg at hm
     refine DW.exit ?_
     refine Ar ?_
     refine Au ?_
     refine Ap ?_
     show DW _ _ _ _ _
     obtain ⟨g52,hm⟩ := go1 hm
     refine Sq ?_
     refine Jn (ι := Bool) (fun (y7 : Bool) => Ao [(2,pB y7)] []) (fun y7 => Qb y7 = some RES) ?_ ?_
     ·intro y7 hm
      unfold Qb at hm
      obtain rfl := sj hm
      exact DW.ret (Ak [] [] (pB y7))
     ·rcases bt (decide (p0.next > (p0.nodes.getD (Int.toNat (w64 (((p0.nodes.length : Nat) : Int) - 1))) Aw).id)) with h53 | h53
      ·replace hm := Bg h53 hm
       refine RK hnt (nn 14 (pT :: .no :: [])) [(2,pB (decide (p0.next ≤ 2147483648)))] [] (an g52.1 (an g52.2 (an4 h53 tv))) ?_
       exact jD (decide (p0.next ≤ 2147483648)) hm .refl
      ·replace hm := Bh h53 hm
       refine RK hnt (nn 11 (sk 3 (pF :: .no :: []))) [(2,pB false)] [] (an g52.1 (an g52.2 (an4 h53 tv))) ?_
       exact jD false hm .refl
abbrev o38 (ks : List Nat) (b : Bool) (RES : Bool) : Orc := .call 94 ks b (pB RES) [] []

theorem Dj (p0 : Ae) (p1 : Int) (RES : Af × Bool) (hm : Dk p0 p1 = some RES) : Spec Tryz.prog 44 [.p (.agg (Aq p0)),pI p1] [] (.p (.tup [.agg (An RES.1),vb RES.2])) [] [] := by
 unfold Dk at hm
 refine SO Tryz.func44 rfl rfl [(0,.p (.agg (Aq p0))),(1,pI p1)] [] ?_
 intro cx hnt
 refine Sq (RK hnt (nn 3 []) [(1,pI p1),(2,rr 1016),(4,rr 1032)] [(1016,bx (pm (Aq p0))),(1032,bx [pI 0,pI 0,pS ByteArray.empty,pI 0,pI 0,pI 0])] tv ?_)
 obtain ⟨r1,hr1,hm⟩ := bo hm
 refine Sq (Sq (RD hnt (.no :: o38 [] true r1 :: .no :: []) [] [(9,pB (!r1))] [] [] (an (Gi p0 r1 hr1) tv) ?_))
 refine Ag hm ?_ ?_
 ·intro h2 hm
  refine Sq (RD hnt (nn 3 []) [1,2,9] [(5,pB false)] [1016] [] tv ?_)
  obtain rfl := sj hm
  exact DW.ret (Ak [] [] (.p (.tup [.agg [vi 0,vi 0,vs ByteArray.empty,vi 0,vi 0,vi 0],vb false])))
 ·intro h2 hm
  refine Sk ?_
  refine Sq (Sq (RD hnt (.no :: []) [9] [(6,pI 0)] [] [] tv ?_))
  refine Bk ?_
  obtain ⟨hc1,hm⟩ := go1 hm
  refine DW.rangeO (fun (k1 : Nat) (s1 : Unit) => Ao [(1,pI p1),(2,rr 1016),(4,rr 1032),(6,pI ((k1 : Nat) : Int))] [(1016,bx (pm (Aq p0))),(1032,bx [pI 0,pI 0,pS ByteArray.empty,pI 0,pI 0,pI 0])]) Aw hm Conv.eqK ?_
  intro k1 s1 n1 hk1 hs1 he1
  refine Sq (Sq (RD hnt (nn 5 []) [] [(15,pB (decide (((k1 : Nat) : Int) < ((p0.nodes.length : Nat) : Int))))] [] [] tv ?_))
  refine Cm (decide (((k1 : Nat) : Int) < ((p0.nodes.length : Nat) : Int))) ?_ ?_
  ·intro h11
   have hlt1 : k1 < p0.nodes.length := by have := of_decide_eq_true h11; omega
   have hm := hs1 hlt1
   unfold AdD at hm
   refine Sk ?_
   refine Sq (Bk ?_)
   refine Sq (RD hnt (nn 8 []) [15] [(25,pB ((p0.nodes.getD k1 (default : Af)).id == p1))] [] [] (an (nn0 k1) (an (ltc hlt1) tv)) ?_)
   refine Ag hm ?_ ?_
   ·intro h12 hm
    refine Sq (RK hnt (nn 7 []) [(4,rr 1032),(5,pB true)] [(1032,bx (pm (An (p0.nodes.getD k1 (default : Af)))))] (an (nn0 k1) (an (ltc hlt1) tv)) ?_)
    obtain rfl := sj hm
    exact DW.ret (Ak [] [] (.p (.tup [.agg (An (p0.nodes.getD k1 (default : Af))),vb true])))
   ·intro h12 hm
    refine Sk ?_
    refine DW.done ?_
    show DW _ _ _ _ _
    refine RD hnt (nn 3 []) [25] [(6,pI (w64 (((k1 : Nat) : Int) + 1)))] [] [] tv ?_
    exact jD () ⟨hlt1,hm⟩ (Conv.tp [(6,pI (w64 (((k1 : Nat) : Int) + 1)))] [] (by kernel_rfl) (.cons rfl (.of_eq (congrArg pI (Br hlt1 hc1))) .nil) .nil)
  ·intro h11
   have hge1 : ¬ k1 < p0.nodes.length := by have := of_decide_eq_false h11; omega
   have hm := he1 hge1
   unfold Adu at hm
   refine DW.exit ?_
   refine Ar ?_
   refine Au ?_
   refine Ap ?_
   show DW _ _ _ _ _
   refine Sq (RD hnt (nn 3 []) [1,2,6,15] [(5,pB false)] [1016] [] tv ?_)
   obtain rfl := sj hm
   exact DW.ret (Ak [] [] (.p (.tup [.agg [vi 0,vi 0,vs ByteArray.empty,vi 0,vi 0,vi 0],vb false])))
abbrev o43 (ks : List Nat) (b : Bool) (RES : Af × Bool) : Orc := .call 44 ks b (.p (.tup [.agg (An RES.1),vb RES.2])) [] []

theorem Cy (p0 : Ae) (p1 : Int) (RES : Bool) (hm : Fx p0 p1 = some RES) : Spec Tryz.prog 96 [.p (.agg (Aq p0)),pI p1] [] (pB RES) [] [] := by
 unfold Fx at hm
 refine SO Tryz.func96 rfl rfl [(0,.p (.agg (Aq p0))),(1,pI p1)] [] ?_
 intro cx hnt
 refine Sq (RK hnt (nn 2 []) [(1,pI p1),(2,rr 1016)] [(1016,bx (pm (Aq p0)))] tv ?_)
 obtain ⟨r1,hr1,hm⟩ := bo hm
 refine Sq (RK hnt (nn 2 (o43 [] true r1 :: nn 6 [])) [(6,pB r1.2)] [] (an (Dj p0 p1 r1 hr1) tv) ?_)
 refine Sq (RK hnt (nn 2 []) [(4,pB r1.2)] [] tv ?_)
 obtain rfl := sj hm
 exact DW.ret (Ak [] [] (pB r1.2))
abbrev o42 (ks : List Nat) (b : Bool) (RES : Bool) : Orc := .call 96 ks b (pB RES) [] []

theorem Vj (p0 : Ae) (p1 : Int) (RES : List Int) (hm : Hx p0 p1 = some RES) : Spec Tryz.prog 54 [.p (.agg (Aq p0)),pI p1] [] (ow 0 RES.length) [] [roI RES] := by
 unfold Hx at hm
 refine SO Tryz.func54 rfl rfl [(0,.p (.agg (Aq p0))),(1,pI p1)] [] ?_
 intro cx hnt
 refine Sq (RK hnt (nn 2 []) [(1,pI p1),(2,rr 1016)] [(1016,bx (pm (Aq p0)))] tv ?_)
 obtain ⟨r1,hr1,hm⟩ := bo hm
 refine Sq (Sq (RD hnt (nn 2 (o42 [] true r1 :: .no :: [])) [] [(8,pB (!r1))] [] [] (an (Cy p0 p1 r1 hr1) tv) ?_))
 refine Ag hm ?_ ?_
 ·intro h2 hm
  refine Sq (RK hnt (.no :: []) [(4,.p (.sl .nil 0 0 (fun _ => [])))] [] tv ?_)
  refine DW.cv [] [(4,ow 100000 0)] [] [(100000,ob0 (roI []))] (Conv.ads [(.s 4,100000,1,elems Bd 0 [])]) ?_
  obtain rfl := sj hm
  exact DW.ret (Ak [roI []] [100000] (ow 0 0))
 ·intro h2 hm
  refine Sk ?_
  obtain ⟨r3,hr3,hm⟩ := bo hm
  refine Sq (RK hnt (nn 2 (o41 [] true r3 :: .no :: [])) [(4,ow 1088 r3.length)] [(1088,ob0 (roI r3))] (an (Adl p0 p1 r3 hr3) tv) ?_)
  obtain rfl := sj hm
  exact DW.ret (Ak [roI r3] [1088] (ow 0 r3.length))
abbrev o45 (ks : List Nat) (b : Bool) (RES : List Int) : Orc := .call 54 ks b (ow 0 RES.length) [] [roI RES]

theorem Uc (p0 : Ae) (p1 : Int) (RES : Int) (hm : Si p0 p1 = some RES) : Spec Tryz.prog 175 [.p (.agg (Aq p0)),pI p1] [] (pI RES) [] [] := by
 unfold Si at hm
 refine SO Tryz.func175 rfl rfl [(0,.p (.agg (Aq p0))),(1,pI p1)] [] ?_
 intro cx hnt
 refine Sq (RK hnt (nn 2 []) [(1,pI p1),(2,rr 1016)] [(1016,bx (pm (Aq p0)))] tv ?_)
 obtain ⟨r1,hr1,hm⟩ := bo hm
 refine Sq (RK hnt (nn 2 (o45 [] true r1 :: nn 3 [])) [(4,pI (w64 (((r1.length : Nat) : Int) - 1)))] [] (an (Vj p0 p1 r1 hr1) tv) ?_)
 obtain rfl := sj hm
 exact DW.ret (Ak [] [] (pI (w64 (((r1.length : Nat) : Int) - 1))))
abbrev o44 (ks : List Nat) (b : Bool) (RES : Int) : Orc := .call 175 ks b (pI RES) [] []

theorem Rn (p0 : Ae) (RES : Ae) (hm : Ns p0 = some RES) : Spec Tryz.prog 166 [.p (.agg (Aq p0))] [] (.agg [ow 0 RES.nodes.length,pI RES.next]) [] [Ac RES.nodes] := by
 unfold Ns at hm
 refine SO Tryz.func166 rfl rfl [(0,.p (.agg (Aq p0)))] [] ?_
 intro cx hnt
 refine Sq (RK hnt (nn 2 []) [(1,rr 1008),(2,rr 1016)] [(1008,bx (pm (Aq p0))),(1016,bx [.p (.sl .nil 0 0 (fun _ => [])),pI 0])] tv ?_)
 obtain ⟨g1,hm⟩ := go1 hm
 refine Sq (RN hnt (nn 7 []) [(2,rr 1016)] [(1016,bx [ow 1040 p0.nodes.length,pI p0.next]),(1040,ob0 (Ac p0.nodes))] [] [(1040,.row 6 p0.nodes.length (Fz p0.nodes))] (an (by omega : p0.nodes.length * 56 ≤ 140737488355328) tv) (by kernel_rfl) .nil (.cons rfl (BLe.typed RowIs.elems) .nil) ?_)
 obtain rfl := sj hm
 exact DW.ret (Ak [Ac p0.nodes] [1040] (.agg [ow 0 p0.nodes.length,pI p0.next]))
abbrev o46 (ks : List Nat) (b : Bool) (RES : Ae) : Orc := .call 166 ks b (.agg [ow 0 RES.nodes.length,pI RES.next]) [] [Ac RES.nodes]

abbrev Zd (p0 : Ae) (p1 : Int) (p2 : ByteArray) := ({ id := p0.next,parent := p1,name := p2,control := 0,kind := 0,owner := 0 } : Af)
abbrev AcY : Nat × Obj := (1048,bx [.p (.sl .nil 0 0 (fun _ => [])),pI 0])
abbrev Adc (p0 : Ae) : Nat × Obj := (1024,bx (pm (Aq p0)))
abbrev c37e4 : Nat × Obj := (1048,bx [ow 100000 0,pI 0])
theorem AgV (p0 : Ae) (p1 : Int) (p2 : ByteArray) (RES : Ae × Int × Int) (hm : Yr p0 p1 p2 = some RES) : Spec Tryz.prog 108 [.p (.agg (Aq p0)),pI p1,pS p2] [] (.tup [.agg [ow 0 RES.1.nodes.length,pI RES.1.next],pI RES.2.1,pI RES.2.2]) [] [Ac RES.1.nodes] := by
 unfold Yr at hm
 refine SO Tryz.func108 rfl rfl [(0,.p (.agg (Aq p0))),(1,pI p1),(2,pS p2)] [] ?_
 intro cx hnt
 refine Sq (RD hnt (nn 4 []) [0] [(3,rr 1024),(6,rr 1048)] [] [(Adc p0),(AcY)] tv ?_)
 obtain ⟨r1,hr1,hm⟩ := bo hm
 refine Sq (Sq ?_)
 refine Jn (ι := Bool) (fun (y1 : Bool) => Ao [(1,pI p1),(2,pS p2),(3,rr 1024),(6,rr 1048),(18,pB y1)] [(Adc p0),(AcY)]) (fun y1 => (Th p0 p1 p2) y1 = some RES) ?_ ?_
 ·intro y1 hm
  unfold Th at hm
  refine Ag hm ?_ ?_
  ·intro h4 hm
   refine Sq (RD hnt (nn 4 []) [1,2,3,18] [(7,pI 0),(8,pI 1)] [1024] [] tv ?_)
   refine DW.cv [] [] [] [(c37e4),(100000,ob0 (Ac []))] (Conv.ads [(.o 1048 0,100000,6,elems An Aw [])]) ?_
   obtain rfl := sj hm
   exact DW.ret (Ak [Ac []] [100000] (.tup [.agg [ow 0 0,pI 0],pI 0,pI 1]))
  ·intro h4 hm
   refine Sk ?_
   obtain ⟨r5,hr5,hm⟩ := bo hm
   refine Sq (Sq (RD hnt (nn 2 (o42 [] true r5 :: .no :: [])) [18] [(23,pB (!r5))] [] [] (an (Cy p0 p1 r5 hr5) tv) ?_))
   refine Ag hm ?_ ?_
   ·intro h6 hm
    refine Sq (RD hnt (nn 4 []) [1,2,3,23] [(7,pI 0),(8,pI 4)] [1024] [] tv ?_)
    refine DW.cv [] [] [] [(c37e4),(100000,ob0 (Ac []))] (Conv.ads [(.o 1048 0,100000,6,elems An Aw [])]) ?_
    obtain rfl := sj hm
    exact DW.ret (Ak [Ac []] [100000] (.tup [.agg [ow 0 0,pI 0],pI 0,pI 4]))
   ·intro h6 hm
    refine Sk ?_
    refine Sq (Sq (RD hnt (.no :: []) [23] [(9,pI 0)] [] [] tv ?_))
    refine Bk ?_
    obtain ⟨hc1,hm⟩ := go1 hm
    refine DW.rangeO (fun (k1 : Nat) (s1 : Unit) => Ao [(1,pI p1),(2,pS p2),(3,rr 1024),(6,rr 1048),(9,pI ((k1 : Nat) : Int))] [(Adc p0),(AcY)]) Aw hm Conv.eqK ?_
    intro k1 s1 n1 hk1 hs1 he1
    refine Sq (Sq (RD hnt (nn 5 []) [] [(29,pB (decide (((k1 : Nat) : Int) < ((p0.nodes.length : Nat) : Int))))] [] [] tv ?_))
    refine Cm (decide (((k1 : Nat) : Int) < ((p0.nodes.length : Nat) : Int))) ?_ ?_
    ·intro h29
     have hlt1 : k1 < p0.nodes.length := by have := of_decide_eq_true h29; omega
     have hm := hs1 hlt1
     unfold Abl at hm
     refine Sk ?_
     refine Sq (Bk ?_)
     refine Sq (DW.regJ (sl2 := [(1,pI p1),(2,pS p2),(3,rr 1024),(6,rr 1048),(9,pI ((k1 : Nat) : Int)),(49,pB (((p0.nodes.getD k1 (default : Af)).parent == p1) && (Dx (p0.nodes.getD k1 (default : Af)).name p2)))]) (ob2 := [(Adc p0),(AcY)]) ?_ ?_)
     ·rcases bt ((p0.nodes.getD k1 (default : Af)).parent == p1) with h30 | h30
      ·exact RT hnt (nn 17 (pT :: [])) [(49,pB (Dx (p0.nodes.getD k1 (default : Af)).name p2))] (an (nn0 k1) (an (ltc hlt1) (an4 h30 (an (nn0 k1) (an (ltc hlt1) (an5 h30 tv)))))) (by kernel_rfl) (.cons rfl (.of_eq (by rw [h30]; try rfl)) .nil)
      ·exact RT hnt (nn 9 (sk 8 (pF :: []))) [(49,pB false)] (an (nn0 k1) (an (ltc hlt1) (an3 h30 (an6 h30 tv)))) (by kernel_rfl) (.cons rfl (.of_eq (by rw [h30]; try rfl)) .nil)
     ·refine Ag hm ?_ ?_
      ·intro h31 hm
       refine Sq (RD hnt (nn 4 []) [1,2,3,9,49] [(7,pI 0),(8,pI 5)] [1024] [] tv ?_)
       refine DW.cv [] [] [] [(c37e4),(100000,ob0 (Ac []))] (Conv.ads [(.o 1048 0,100000,6,elems An Aw [])]) ?_
       obtain rfl := sj hm
       exact DW.ret (Ak [Ac []] [100000] (.tup [.agg [ow 0 0,pI 0],pI 0,pI 5]))
      ·intro h31 hm
       refine Sk ?_
       refine DW.done ?_
       show DW _ _ _ _ _
       refine RD hnt (nn 3 []) [49] [(9,pI (w64 (((k1 : Nat) : Int) + 1)))] [] [] tv ?_
       exact jD () ⟨hlt1,hm⟩ (Conv.tp [(9,pI (w64 (((k1 : Nat) : Int) + 1)))] [] (by kernel_rfl) (.cons rfl (.of_eq (congrArg pI (Br hlt1 hc1))) .nil) .nil)
    ·intro h29
     have hge1 : ¬ k1 < p0.nodes.length := by have := of_decide_eq_false h29; omega
     have hm := he1 hge1
     unfold Aba at hm
     refine DW.exit ?_
     refine Ar ?_
     refine Au ?_
     refine Ap ?_
     show DW _ _ _ _ _
     obtain ⟨r32,hr32,hm⟩ := bo hm
     refine Sq (Sq ?_)
     refine Jn (ι := Bool) (fun (y6 : Bool) => Ao [(1,pI p1),(2,pS p2),(3,rr 1024),(6,rr 1048),(65,pB y6)] [(Adc p0),(AcY)]) (fun y6 => (Ny p0 p1 p2) y6 = some RES) ?_ ?_
     ·intro y6 hm
      unfold Ny at hm
      refine Ag hm ?_ ?_
      ·intro h35 hm
       refine Sq (RD hnt (nn 4 []) [1,2,3,65] [(7,pI 0),(8,pI 7)] [1024] [] tv ?_)
       refine DW.cv [] [] [] [(c37e4),(100000,ob0 (Ac []))] (Conv.ads [(.o 1048 0,100000,6,elems An Aw [])]) ?_
       obtain rfl := sj hm
       exact DW.ret (Ak [Ac []] [100000] (.tup [.agg [ow 0 0,pI 0],pI 0,pI 7]))
      ·intro h35 hm
       refine Sk ?_
       obtain ⟨r36,hr36,hm⟩ := bo hm
       refine Sq (RD hnt (.no :: o46 [] true r36 :: nn 2 []) [65] [(10,rr 1080)] [] [(1080,bx [ow 1544 r36.nodes.length,pI r36.next]),(1544,ob0 (Ac r36.nodes))] (an (Rn p0 r36 hr36) tv) ?_)
       obtain ⟨g37,hm⟩ := go1 hm
       refine Sq (RN hnt (nn 11 []) [(3,rr 1024),(6,rr 1048),(10,rr 1080)] [(Adc p0),(AcY),(1080,bx [ow 1544 (r36.nodes ++ [(Zd p0 p1 p2)]).length,pI r36.next]),(1544,ob0 (Ac (r36.nodes ++ [(Zd p0 p1 p2)])))] [] [(1080,.box [ow 1544 (r36.nodes.length + 1),pI r36.next]),(1544,.row 6 (r36.nodes.length + 1) (Cp r36.nodes.length (Fz r36.nodes) (cut 6 [vi p0.next,vi p1,vs p2,vi 0,vi 0,vi 0])))] (an (by omega : (r36.nodes.length + 1) * 56 ≤ 140737488355328) tv) (by kernel_rfl) .nil (.cons rfl (.box (.cons (MLe.ownLen (enc := An) (d := Aw) (f := (Cp r36.nodes.length (Fz r36.nodes) (cut 6 [vi p0.next,vi p1,vs p2,vi 0,vi 0,vi 0]))) (RowIs.cat RowIs.elems (RowIs.lit (enc := An) (d := Aw) (n := 1) (f := (cut 6 [vi p0.next,vi p1,vs p2,vi 0,vi 0,vi 0])) [(Zd p0 p1 p2)] rfl (fun | 0,_ => rfl | n + 1,h => absurd h (by omega))))) (.cons .rfl .nil))) (.cons rfl (BLe.typed (RowIs.cat RowIs.elems (RowIs.lit (enc := An) (d := Aw) (n := 1) (f := (cut 6 [vi p0.next,vi p1,vs p2,vi 0,vi 0,vi 0])) [(Zd p0 p1 p2)] rfl (fun | 0,_ => rfl | n + 1,h => absurd h (by omega))))) .nil)) ?_)
       refine Sq (RD hnt (nn 5 []) [] [] [] [(1080,bx [ow 1544 (r36.nodes ++ [(Zd p0 p1 p2)]).length,pI (w64 (r36.next + 1))])] tv ?_)
       refine Sq (RD hnt (nn 6 []) [3,10] [(7,pI p0.next),(8,pI 0)] [1024,1080] [(1048,bx [ow 1544 (r36.nodes ++ [(Zd p0 p1 p2)]).length,pI (w64 (r36.next + 1))])] tv ?_)
       obtain rfl := sj hm
       exact DW.ret (Ak [Ac (r36.nodes ++ [(Zd p0 p1 p2)])] [1544] (.tup [.agg [ow 0 (r36.nodes ++ [(Zd p0 p1 p2)]).length,pI (w64 (r36.next + 1))],pI p0.next,pI 0]))
     ·rcases bt (decide (r32 ≥ 8)) with h33 | h33
      ·replace hm := Bg h33 hm
       refine RD hnt (nn 2 (o44 [] true r32 :: nn 2 (sk 4 (pT :: .no :: sk 3 (pT :: []))))) [9,29] [(65,pB true)] [] [] (an (Uc p0 p1 r32 hr32) (an5 h33 (an4 tt tv))) ?_
       exact jD true hm Conv.eqK
      ·replace hm := Bh h33 hm
       rcases bt (decide (((p0.nodes.length : Nat) : Int) ≥ 64)) with h34 | h34
       ·replace hm := Bg h34 hm
        refine RD hnt (nn 2 (o44 [] true r32 :: nn 6 (pF :: .no :: sk 3 (pT :: [])))) [9,29] [(65,pB true)] [] [] (an (Uc p0 p1 r32 hr32) (an5 h33 (an4 h34 tv))) ?_
        exact jD true hm Conv.eqK
       ·replace hm := Bh h34 hm
        refine RD hnt (nn 2 (o44 [] true r32 :: nn 6 (pF :: nn 4 (pF :: [])))) [9,29] [(65,pB (decide (p0.next > 2147483647)))] [] [] (an (Uc p0 p1 r32 hr32) (an5 h33 (an4 h34 tv))) ?_
        exact jD (decide (p0.next > 2147483647)) hm Conv.eqK
 ·rcases bt (!r1) with h2 | h2
  ·replace hm := Bg h2 hm
   refine RD hnt (.no :: o38 [] true r1 :: nn 2 (sk 3 (pT :: []))) [] [(18,pB true)] [] [] (an (Gi p0 r1 hr1) (an4 h2 tv)) ?_
   exact jD true hm Conv.eqK
  ·replace hm := Bh h2 hm
   obtain ⟨r3,hr3,hm⟩ := bo hm
   refine RD hnt (.no :: o38 [] true r1 :: nn 3 (o40 [] true r3 :: .no :: pF :: [])) [] [(18,pB (!r3))] [] [] (an (Gi p0 r1 hr1) (an2 h2 (an (AaF p2 r3 hr3) (an2 h2 tv)))) ?_
   exact jD (!r3) hm Conv.eqK
abbrev o37 (ks : List Nat) (b : Bool) (RES : Ae × Int × Int) : Orc := .call 108 ks b (.tup [.agg [ow 0 RES.1.nodes.length,pI RES.1.next],pI RES.2.1,pI RES.2.2]) [] [Ac RES.1.nodes]

theorem Fv (p0 : Al) (p1 : Int) (RES : Bool × Al) (hm : Gg p0 p1 = some RES) : Spec Tryz.prog 57 [rr 0,pI p1] [.box (pm (Ah p0))] (pB RES.1) [.box (pm (Ah RES.2))] [] := by
 unfold Gg at hm
 refine SO Tryz.func57 rfl rfl [(0,rr 0),(1,pI p1)] [(0,bx (pm (Ah p0)))] ?_
 intro cx hnt
 refine Sq (RD hnt (.no :: []) [] [] [] [] tv ?_)
 obtain ⟨r1,hr1,hm⟩ := bo hm
 refine Sq (RK hnt (nn 2 (o35 [0] true r1 :: nn 4 [])) [(4,pB (r1.1 == (w64 (p1 - 1))))] [(0,bx (pm (Ah r1.2)))] (an (As p0 p1 r1 hr1) (an tv tv)) ?_)
 obtain rfl := sj hm
 exact DW.ret (Ak [.box (pm (Ah r1.2))] [] (pB (r1.1 == (w64 (p1 - 1)))))
abbrev o47 (ks : List Nat) (b : Bool) (RES : Bool × Al) : Orc := .call 57 ks b (pB RES.1) [.box (pm (Ah RES.2))] []

abbrev Uh (p0 : Ae) (k1 : Nat) := (p0.nodes.getD k1 (default : Af))
theorem Mu (p0 : Ae) (p1 : Int) (RES : List Int) (hm : Gy p0 p1 = some RES) : Spec Tryz.prog 146 [.p (.agg (Aq p0)),pI p1] [] (ow 0 RES.length) [] [roI RES] := by
 unfold Gy at hm
 refine SO Tryz.func146 rfl rfl [(0,.p (.agg (Aq p0))),(1,pI p1)] [] ?_
 intro cx hnt
 refine Sq (RK hnt (nn 2 []) [(1,pI p1),(2,rr 1016)] [(1016,bx (pm (Aq p0)))] tv ?_)
 obtain ⟨r1,hr1,hm⟩ := bo hm
 refine Sq (Sq (RD hnt (nn 2 (o42 [] true r1 :: .no :: [])) [] [(10,pB (!r1))] [] [] (an (Cy p0 p1 r1 hr1) tv) ?_))
 refine Ag hm ?_ ?_
 ·intro h2 hm
  refine Sq (RK hnt (.no :: []) [(4,.p (.sl .nil 0 0 (fun _ => [])))] [] tv ?_)
  refine DW.cv [] [(4,ow 100000 0)] [] [(100000,ob0 (roI []))] (Conv.ads [(.s 4,100000,1,elems Bd 0 [])]) ?_
  obtain rfl := sj hm
  exact DW.ret (Ak [roI []] [100000] (ow 0 0))
 ·intro h2 hm
  refine Sk ?_
  refine Sq (RD hnt (.no :: []) [10] [(5,.p (.sl .nil 0 0 (fun _ => [])))] [] [] tv ?_)
  refine Sq (Sq (RD hnt (.no :: []) [] [(6,pI 0)] [] [] tv ?_))
  refine Bk ?_
  obtain ⟨hc1,hm⟩ := go1 hm
  refine DW.rangeO (fun (k1 : Nat) (s1 : List Int) => Ao [(1,pI p1),(2,rr 1016),(5,ow 1272 s1.length),(6,pI ((k1 : Nat) : Int))] [(1016,bx (pm (Aq p0))),(1272,ob0 (roI s1))]) Aw hm (Conv.ads [(.s 5,1272,1,elems Bd 0 [])]) ?_
  intro k1 s1 n1 hk1 hs1 he1
  refine Sq (Sq (RD hnt (nn 5 []) [] [(15,pB (decide (((k1 : Nat) : Int) < ((p0.nodes.length : Nat) : Int))))] [] [] tv ?_))
  refine Cm (decide (((k1 : Nat) : Int) < ((p0.nodes.length : Nat) : Int))) ?_ ?_
  ·intro h12
   have hlt1 : k1 < p0.nodes.length := by have := of_decide_eq_true h12; omega
   have hm := hs1 hlt1
   unfold Tk at hm
   refine Sk ?_
   refine Sq ?_
   refine Jn (ι := List Int) (fun (y3 : List Int) => Ao [(1,pI p1),(2,rr 1016),(5,ow 1272 y3.length),(6,pI ((k1 : Nat) : Int))] [(1016,bx (pm (Aq p0))),(1272,ob0 (roI y3))]) (fun y3 => (Mf n1) y3 = some RES) ?_ ?_
   ·intro y3 hm
    unfold Mf at hm
    refine RD hnt (nn 3 []) [] [(6,pI (w64 (((k1 : Nat) : Int) + 1)))] [] [] tv ?_
    exact jD y3 ⟨hlt1,hm⟩ (Conv.tp [(6,pI (w64 (((k1 : Nat) : Int) + 1)))] [] (by kernel_rfl) (.cons rfl (.of_eq (congrArg pI (Br hlt1 hc1))) .nil) .nil)
   ·refine Bk ?_
    refine Sq (RD hnt (nn 8 []) [15] [(25,pB ((Uh p0 k1).parent == p1))] [] [] (an (nn0 k1) (an (ltc hlt1) tv)) ?_)
    refine Ag hm ?_ ?_
    ·intro h13 hm
     obtain ⟨g14,hm⟩ := go1 hm
     refine RN hnt (nn 10 []) [(1,pI p1),(2,rr 1016),(5,ow 1272 (s1 ++ [(Uh p0 k1).id]).length),(6,pI ((k1 : Nat) : Int))] [(1016,bx (pm (Aq p0))),(1272,ob0 (roI (s1 ++ [(Uh p0 k1).id])))] [(5,ow 1272 (s1.length + 1))] [(1272,.row 1 (s1.length + 1) (Cp s1.length (elI s1) (cut 1 [vi (Uh p0 k1).id])))] (an (nn0 k1) (an (ltc hlt1) (an (by omega : (s1.length + 1) * 8 ≤ 140737488355328) tv))) (by kernel_rfl) (.cons rfl (MLe.ownLen (enc := Bd) (d := 0) (f := (Cp s1.length (elI s1) (cut 1 [vi (Uh p0 k1).id]))) (RowIs.cat RowIs.elems (RowIs.lit (enc := Bd) (d := 0) (n := 1) (f := (cut 1 [vi (Uh p0 k1).id])) [(Uh p0 k1).id] rfl (fun | 0,_ => rfl | n + 1,h => absurd h (by omega))))) .nil) (.cons rfl (BLe.typed (RowIs.cat RowIs.elems (RowIs.lit (enc := Bd) (d := 0) (n := 1) (f := (cut 1 [vi (Uh p0 k1).id])) [(Uh p0 k1).id] rfl (fun | 0,_ => rfl | n + 1,h => absurd h (by omega))))) .nil) ?_
     exact bD (s1 ++ [(Uh p0 k1).id]) hm .refl
    ·intro h13 hm
     refine Sk ?_
     exact bD s1 hm Conv.t0
  ·intro h12
   have hge1 : ¬ k1 < p0.nodes.length := by have := of_decide_eq_false h12; omega
   have hm := he1 hge1
   unfold Zg at hm
   refine DW.exit ?_
   refine Ar ?_
   refine Au ?_
   refine Ap ?_
   show DW _ _ _ _ _
   refine Sq (RK hnt (nn 2 []) [(4,ow 1272 s1.length)] [(1272,ob0 (roI s1))] tv ?_)
   obtain rfl := sj hm
   exact DW.ret (Ak [roI s1] [1272] (ow 0 s1.length))
abbrev o49 (ks : List Nat) (b : Bool) (RES : List Int) : Orc := .call 146 ks b (ow 0 RES.length) [] [roI RES]

abbrev Ge (p0 : Ae) (k1 : Nat) := (p0.nodes.getD k1 (default : Af))
abbrev c48e2 : Nat × Obj := (1032,bx [.p (.sl .nil 0 0 (fun _ => [])),pI 0])
abbrev c48e3 : Nat × Obj := (1032,bx [ow 100000 0,pI 0])
theorem Afa (p0 : Ae) (p1 : Int) (RES : Ae × Int) (hm : Rj p0 p1 = some RES) : Spec Tryz.prog 111 [.p (.agg (Aq p0)),pI p1] [] (.tup [.agg [ow 0 RES.1.nodes.length,pI RES.1.next],pI RES.2]) [] [Ac RES.1.nodes] := by
 unfold Rj at hm
 refine SO Tryz.func111 rfl rfl [(0,.p (.agg (Aq p0))),(1,pI p1)] [] ?_
 intro cx hnt
 refine Sq (RK hnt (nn 3 []) [(1,pI p1),(2,rr 1016),(4,rr 1032)] [(1016,bx (pm (Aq p0))),(c48e2)] tv ?_)
 refine Sq (Bk ?_)
 obtain ⟨r1,hr1,hm⟩ := bo hm
 refine Sq (RD hnt (.no :: o38 [] true r1 :: nn 2 []) [] [(8,pB (!r1))] [] [] (an (Gi p0 r1 hr1) tv) ?_)
 refine Ag hm ?_ ?_
 ·intro h2 hm
  refine Sq (RD hnt (nn 3 []) [1,2,8] [(5,pI 1)] [1016] [] tv ?_)
  refine DW.cv [] [] [] [(c48e3),(100000,ob0 (Ac []))] (Conv.ads [(.o 1032 0,100000,6,elems An Aw [])]) ?_
  obtain rfl := sj hm
  exact DW.ret (Ak [Ac []] [100000] (.tup [.agg [ow 0 0,pI 0],pI 1]))
 ·intro h2 hm
  obtain ⟨r3,hr3,hm⟩ := bo hm
  refine Sq (RD hnt (nn 2 (o42 [] true r3 :: nn 2 [])) [8] [(13,pB (!r3))] [] [] (an (Cy p0 p1 r3 hr3) tv) ?_)
  refine Ag hm ?_ ?_
  ·intro h4 hm
   refine Sq (RD hnt (nn 3 []) [1,2,13] [(5,pI 4)] [1016] [] tv ?_)
   refine DW.cv [] [] [] [(c48e3),(100000,ob0 (Ac []))] (Conv.ads [(.o 1032 0,100000,6,elems An Aw [])]) ?_
   obtain rfl := sj hm
   exact DW.ret (Ak [Ac []] [100000] (.tup [.agg [ow 0 0,pI 0],pI 4]))
  ·intro h4 hm
   refine Sq (RD hnt (nn 3 []) [13] [(19,pB (p1 == 1))] [] [] tv ?_)
   refine Ag hm ?_ ?_
   ·intro h5 hm
    refine Sq (RD hnt (nn 3 []) [1,2,19] [(5,pI 9)] [1016] [] tv ?_)
    refine DW.cv [] [] [] [(c48e3),(100000,ob0 (Ac []))] (Conv.ads [(.o 1032 0,100000,6,elems An Aw [])]) ?_
    obtain rfl := sj hm
    exact DW.ret (Ak [Ac []] [100000] (.tup [.agg [ow 0 0,pI 0],pI 9]))
   ·intro h5 hm
    obtain ⟨r6,hr6,hm⟩ := bo hm
    refine Sq (RD hnt (nn 2 (o49 [] true r6 :: nn 3 [])) [19] [(23,pB (decide (((r6.length : Nat) : Int) > 0)))] [] [] (an (Mu p0 p1 r6 hr6) tv) ?_)
    refine Ag hm ?_ ?_
    ·intro h7 hm
     refine Sq (RD hnt (nn 3 []) [1,2,23] [(5,pI 6)] [1016] [] tv ?_)
     refine DW.cv [] [] [] [(c48e3),(100000,ob0 (Ac []))] (Conv.ads [(.o 1032 0,100000,6,elems An Aw [])]) ?_
     obtain rfl := sj hm
     exact DW.ret (Ak [Ac []] [100000] (.tup [.agg [ow 0 0,pI 0],pI 6]))
    ·intro h7 hm
     refine Sk ?_
     refine DW.done ?_
     show DW _ _ _ _ _
     refine Sq (RD hnt (nn 5 []) [23] [(6,rr 1048)] [] [(1048,bx [.p (.sl .nil 0 0 (fun _ => [])),pI p0.next])] tv ?_)
     refine Sq (Sq (RD hnt (.no :: []) [] [(7,pI 0)] [] [] tv ?_))
     refine Bk ?_
     obtain ⟨hc1,hm⟩ := go1 hm
     refine DW.rangeO (fun (k1 : Nat) (s1 : List Af) => Ao [(1,pI p1),(2,rr 1016),(4,rr 1032),(6,rr 1048),(7,pI ((k1 : Nat) : Int))] [(1016,bx (pm (Aq p0))),(c48e2),(1048,bx [ow 1448 s1.length,pI p0.next]),(1448,ob0 (Ac s1))]) Aw hm (Conv.ads [(.o 1048 0,1448,6,elems An Aw [])]) ?_
     intro k1 s1 n1 hk1 hs1 he1
     refine Sq (Sq (RD hnt (nn 5 []) [] [(37,pB (decide (((k1 : Nat) : Int) < ((p0.nodes.length : Nat) : Int))))] [] [] tv ?_))
     refine Cm (decide (((k1 : Nat) : Int) < ((p0.nodes.length : Nat) : Int))) ?_ ?_
     ·intro h17
      have hlt1 : k1 < p0.nodes.length := by have := of_decide_eq_true h17; omega
      have hm := hs1 hlt1
      unfold Rm at hm
      refine Sk ?_
      refine Sq ?_
      refine Jn (ι := List Af) (fun (y3 : List Af) => Ao [(1,pI p1),(2,rr 1016),(4,rr 1032),(6,rr 1048),(7,pI ((k1 : Nat) : Int))] [(1016,bx (pm (Aq p0))),(c48e2),(1048,bx [ow 1448 y3.length,pI p0.next]),(1448,ob0 (Ac y3))]) (fun y3 => (Ol n1) y3 = some RES) ?_ ?_
      ·intro y3 hm
       unfold Ol at hm
       refine RD hnt (nn 3 []) [] [(7,pI (w64 (((k1 : Nat) : Int) + 1)))] [] [] tv ?_
       exact jD y3 ⟨hlt1,hm⟩ (Conv.tp [(7,pI (w64 (((k1 : Nat) : Int) + 1)))] [] (by kernel_rfl) (.cons rfl (.of_eq (congrArg pI (Br hlt1 hc1))) .nil) .nil)
      ·refine Bk ?_
       refine Sq (RD hnt (nn 8 []) [37] [(47,pB ((Ge p0 k1).id != p1))] [] [] (an (nn0 k1) (an (ltc hlt1) tv)) ?_)
       refine Ag hm ?_ ?_
       ·intro h18 hm
        obtain ⟨g19,hm⟩ := go1 hm
        refine RN hnt (nn 11 []) [(1,pI p1),(2,rr 1016),(4,rr 1032),(6,rr 1048),(7,pI ((k1 : Nat) : Int))] [(1016,bx (pm (Aq p0))),(c48e2),(1048,bx [ow 1448 (s1 ++ [(Ge p0 k1)]).length,pI p0.next]),(1448,ob0 (Ac (s1 ++ [(Ge p0 k1)])))] [] [(1048,.box [ow 1448 (s1.length + 1),pI p0.next]),(1448,.row 6 (s1.length + 1) (Cp s1.length (Fz s1) (cut 6 [vi (Ge p0 k1).id,vi (Ge p0 k1).parent,vs (Ge p0 k1).name,vi (Ge p0 k1).control,vi (Ge p0 k1).kind,vi (Ge p0 k1).owner])))] (an (nn0 k1) (an (ltc hlt1) (an (by omega : (s1.length + 1) * 56 ≤ 140737488355328) tv))) (by kernel_rfl) .nil (.cons rfl (.box (.cons (MLe.ownLen (enc := An) (d := Aw) (f := (Cp s1.length (Fz s1) (cut 6 [vi (Ge p0 k1).id,vi (Ge p0 k1).parent,vs (Ge p0 k1).name,vi (Ge p0 k1).control,vi (Ge p0 k1).kind,vi (Ge p0 k1).owner]))) (RowIs.cat RowIs.elems (RowIs.lit (enc := An) (d := Aw) (n := 1) (f := (cut 6 [vi (Ge p0 k1).id,vi (Ge p0 k1).parent,vs (Ge p0 k1).name,vi (Ge p0 k1).control,vi (Ge p0 k1).kind,vi (Ge p0 k1).owner])) [(Ge p0 k1)] rfl (fun | 0,_ => rfl | n + 1,h => absurd h (by omega))))) (.cons .rfl .nil))) (.cons rfl (BLe.typed (RowIs.cat RowIs.elems (RowIs.lit (enc := An) (d := Aw) (n := 1) (f := (cut 6 [vi (Ge p0 k1).id,vi (Ge p0 k1).parent,vs (Ge p0 k1).name,vi (Ge p0 k1).control,vi (Ge p0 k1).kind,vi (Ge p0 k1).owner])) [(Ge p0 k1)] rfl (fun | 0,_ => rfl | n + 1,h => absurd h (by omega))))) .nil)) ?_
        exact bD (s1 ++ [(Ge p0 k1)]) hm .refl
       ·intro h18 hm
        refine Sk ?_
        exact bD s1 hm Conv.t0
     ·intro h17
      have hge1 : ¬ k1 < p0.nodes.length := by have := of_decide_eq_false h17; omega
      have hm := he1 hge1
      unfold Rq at hm
      refine DW.exit ?_
      refine Ar ?_
      refine Au ?_
      refine Ap ?_
      show DW _ _ _ _ _
      refine Sq (RK hnt (nn 3 []) [(4,rr 1032),(5,pI 0)] [(1032,bx [ow 1448 s1.length,pI p0.next]),(1448,ob0 (Ac s1))] tv ?_)
      obtain rfl := sj hm
      exact DW.ret (Ak [Ac s1] [1448] (.tup [.agg [ow 0 s1.length,pI p0.next],pI 0]))
abbrev o48 (ks : List Nat) (b : Bool) (RES : Ae × Int) : Orc := .call 111 ks b (.tup [.agg [ow 0 RES.1.nodes.length,pI RES.1.next],pI RES.2]) [] [Ac RES.1.nodes]

abbrev c34e1 : Nat × Obj := (1032,bx [.p (.sl .nil 0 0 (fun _ => [])),pI 0])
theorem Acs (p0 : Al) (p1 : Int) (RES : Ae × Al) (hm : Nq p0 p1 = some RES) : Spec Tryz.prog 39 [rr 0,pI p1] [.box (pm (Ah p0))] (.p (.agg (Aq RES.1))) [.box (pm (Ah RES.2))] [] := by
 unfold Nq at hm
 refine SO Tryz.func39 rfl rfl [(0,rr 0),(1,pI p1)] [(0,bx (pm (Ah p0)))] ?_
 intro cx hnt
 refine Sq (RD hnt (.no :: []) [] [(4,rr 1032)] [] [(c34e1)] tv ?_)
 obtain ⟨r1,hr1,hm⟩ := bo hm
 refine Sq (RD hnt (o33 [] true r1 :: nn 2 []) [] [(5,rr 1040)] [] [(1040,bx [ow 1104 r1.nodes.length,pI r1.next]),(1104,ob0 (Ac r1.nodes))] (an (AcD r1 hr1) tv) ?_)
 obtain ⟨r2,hr2,hm⟩ := bo hm
 refine Sq (Sq (RD hnt (nn 3 (o35 [0] true r2 :: .no :: [])) [1] [(6,pI r2.1)] [] [(0,bx (pm (Ah r2.2)))] (an (As p0 (w64 (p1 + 1)) r2 hr2) (an tv tv)) ?_))
 refine Bk ?_
 refine DW.whileO (fun (s1 : Al × Ae × Int) => Ao [(0,rr 0),(4,rr 1032),(5,rr 1040),(6,pI s1.2.2)] [(0,bx (pm (Ah s1.1))),(c34e1),(1040,bx (pm (Aq s1.2.1)))]) hm (Conv.frz [1104]) ?_
 intro s1 n1 hm
 unfold Ru at hm
 refine Sq (Sq (RD hnt (nn 2 []) [] [(19,pB (decide (s1.2.2 > 0)))] [] [] tv ?_))
 refine Ag hm ?_ ?_
 ·intro h18 hm
  refine Sk ?_
  refine Sq ?_
  refine Jn (ι := Al × Ae) (fun (y3 : Al × Ae) => Ao [(0,rr 0),(4,rr 1032),(5,rr 1040),(6,pI s1.2.2)] [(0,bx (pm (Ah y3.1))),(c34e1),(1040,bx (pm (Aq y3.2)))]) (fun y3 => (Hv s1 n1) y3 = some RES) ?_ ?_
  ·intro y3 hm
   unfold Hv at hm
   refine RD hnt (nn 3 []) [] [(6,pI (w64 (s1.2.2 - 1)))] [] [] tv ?_
   exact jD (y3.1,y3.2,(w64 (s1.2.2 - 1))) hm Conv.eqK
  ·refine Bk ?_
   obtain ⟨r19,hr19,hm⟩ := bo hm
   obtain ⟨g20,hm⟩ := go1 hm
   refine Sq (RD hnt (nn 6 (o35 [0] true r19 :: nn 4 [])) [19] [(7,pI (s1.2.1.nodes.getD (Int.toNat r19.1) Aw).id)] [] [(0,bx (pm (Ah r19.2)))] (an (As s1.1 ((s1.2.1.nodes.length : Nat) : Int) r19 hr19) (an tv (an g20.1 (an g20.2 tv)))) ?_)
   obtain ⟨r21,hr21,hm⟩ := bo hm
   obtain ⟨r22,hr22,hm⟩ := bo hm
   refine Sq (Sq (RD hnt (nn 3 (o36 [0] true r21 :: o37 [] true r22 :: nn 8 [])) [7] [(8,rr 1064),(10,pI r22.2.2)] [] [(0,bx (pm (Ah r21.2))),(1064,bx [ow 1296 r22.1.nodes.length,pI r22.1.next]),(1296,ob0 (Ac r22.1.nodes))] (an (Acd r19.2 r21 hr21) (an tv (an (AgV s1.2.1 (s1.2.1.nodes.getD (Int.toNat r19.1) Aw).id r21.1 r22 hr22) tv))) ?_))
   refine Sq (RD hnt (nn 2 []) [10] [(42,pB (r22.2.2 == 0))] [] [] tv ?_)
   refine Jn (ι := Ae) (fun (y4 : Ae) => Ao [(0,rr 0),(4,rr 1032),(5,rr 1040),(6,pI s1.2.2)] [(0,bx (pm (Ah r21.2))),(c34e1),(1040,bx (pm (Aq y4)))]) (fun y4 => (Jg s1 n1 r21) y4 = some RES) ?_ ?_
   ·intro y4 hm
    unfold Jg at hm
    obtain ⟨r24,hr24,hm⟩ := bo hm
    refine Sq (RD hnt (.no :: o47 [0] true r24 :: []) [] [(45,pB r24.1)] [] [(0,bx (pm (Ah r24.2)))] (an (Fv r21.2 6 r24 hr24) (an tv tv)) ?_)
    refine Ag hm ?_ ?_
    ·intro h25 hm
     obtain ⟨r26,hr26,hm⟩ := bo hm
     obtain ⟨g27,hm⟩ := go1 hm
     obtain ⟨r28,hr28,hm⟩ := bo hm
     refine Sq (RD hnt (nn 7 (o35 [0] true r26 :: nn 3 (o48 [] true r28 :: nn 6 []))) [45] [(11,rr 1088),(12,pI r28.2)] [] [(0,bx (pm (Ah r26.2))),(1088,bx [ow 1464 r28.1.nodes.length,pI r28.1.next]),(1464,ob0 (Ac r28.1.nodes))] (an (As r24.2 ((y4.nodes.length : Nat) : Int) r26 hr26) (an tv (an g27.1 (an g27.2 (an (Afa y4 (y4.nodes.getD (Int.toNat r26.1) Aw).id r28 hr28) tv))))) ?_)
     refine Sq (RD hnt (nn 2 []) [12] [(62,pB (r28.2 == 0))] [] [] tv ?_)
     refine Ag hm ?_ ?_
     ·intro h29 hm
      refine RD hnt (nn 2 []) [11,62] [] [1088] [(1040,bx [ow 1464 r28.1.nodes.length,pI r28.1.next])] tv ?_
      exact bD (r26.2,r28.1) hm (Conv.frz [1464])
     ·intro h29 hm
      refine Sk ?_
      exact bD (r26.2,y4) hm Conv.t0
    ·intro h25 hm
     refine Sk ?_
     exact bD (r24.2,y4) hm Conv.t0
   ·refine Ag hm ?_ ?_
    ·intro h23 hm
     refine RD hnt (nn 2 []) [8,42] [] [1064] [(1040,bx [ow 1296 r22.1.nodes.length,pI r22.1.next])] tv ?_
     exact jD r22.1 hm (Conv.frz [1296])
    ·intro h23 hm
     refine Sk ?_
     exact jD s1.2.1 hm Conv.t0
 ·intro h18 hm
  refine DW.exit ?_
  refine Ar ?_
  refine Au ?_
  refine Ap ?_
  show DW _ _ _ _ _
  refine Sq (RD hnt (nn 2 []) [0,5,6,19] [] [1040] [(1032,bx (pm (Aq s1.2.1)))] tv ?_)
  obtain rfl := sj hm
  exact DW.ret (Ak [.box (pm (Ah s1.1))] [] (.p (.agg (Aq s1.2.1))))
abbrev o34 (ks : List Nat) (b : Bool) (RES : Ae × Al) : Orc := .call 39 ks b (.p (.agg (Aq RES.1))) [.box (pm (Ah RES.2))] []

theorem Lv (p0 : Al) (p1 : Ae) (RES : Int × Al) (hm : Hh p0 p1 = some RES) : Spec Tryz.prog 20 [rr 0,.p (.agg (Aq p1))] [.box (pm (Ah p0))] (pI RES.1) [.box (pm (Ah RES.2))] [] := by
 unfold Hh at hm
 refine SO Tryz.func20 rfl rfl [(0,rr 0),(1,.p (.agg (Aq p1)))] [(0,bx (pm (Ah p0)))] ?_
 intro cx hnt
 refine Sq (RD hnt (nn 2 []) [1] [(3,rr 1024)] [] [(1024,bx (pm (Aq p1)))] tv ?_)
 obtain ⟨r1,hr1,hm⟩ := bo hm
 refine Sq (Sq ?_)
 refine Jn (ι := Bool) (fun (y1 : Bool) => Ao [(0,rr 0),(3,rr 1024),(12,pB y1)] [(0,bx (pm (Ah r1.2))),(1024,bx (pm (Aq p1)))]) (fun y1 => (Io p1 r1) y1 = some RES) ?_ ?_
 ·intro y1 hm
  unfold Io at hm
  refine Ag hm ?_ ?_
  ·intro h3 hm
   obtain ⟨r4,hr4,hm⟩ := bo hm
   refine Sq (RK hnt (.no :: o35 [0] true r4 :: nn 2 []) [(4,pI (w64 (r4.1 - 1)))] [(0,bx (pm (Ah r4.2)))] (an (As r1.2 9 r4 hr4) (an tv tv)) ?_)
   obtain rfl := sj hm
   exact DW.ret (Ak [.box (pm (Ah r4.2))] [] (pI (w64 (r4.1 - 1))))
  ·intro h3 hm
   refine Sk ?_
   obtain ⟨r5,hr5,hm⟩ := bo hm
   obtain ⟨g6,hm⟩ := go1 hm
   refine Sq (RK hnt (nn 6 (o35 [0] true r5 :: nn 4 [])) [(4,pI (p1.nodes.getD (Int.toNat r5.1) Aw).id)] [(0,bx (pm (Ah r5.2)))] (an (As r1.2 ((p1.nodes.length : Nat) : Int) r5 hr5) (an tv (an g6.1 (an g6.2 tv)))) ?_)
   obtain rfl := sj hm
   exact DW.ret (Ak [.box (pm (Ah r5.2))] [] (pI (p1.nodes.getD (Int.toNat r5.1) Aw).id))
 ·rcases bt r1.1 with h2 | h2
  ·replace hm := Bg h2 hm
   refine RD hnt (.no :: o47 [0] true r1 :: .no :: sk 4 (pT :: [])) [] [(12,pB true)] [] [(0,bx (pm (Ah r1.2)))] (an (Fv p0 15 r1 hr1) (an tv (an5 h2 tv))) ?_
   exact jD true hm Conv.eqK
  ·replace hm := Bh h2 hm
   refine RD hnt (.no :: o47 [0] true r1 :: nn 5 (pF :: [])) [] [(12,pB (((p1.nodes.length : Nat) : Int) == 0))] [] [(0,bx (pm (Ah r1.2)))] (an (Fv p0 15 r1 hr1) (an tv (an5 h2 tv))) ?_
   exact jD (((p1.nodes.length : Nat) : Int) == 0) hm Conv.eqK
abbrev o51 (ks : List Nat) (b : Bool) (RES : Int × Al) : Orc := .call 20 ks b (pI RES.1) [.box (pm (Ah RES.2))] []

theorem Kh (p0 : Al) (RES : Int × Al) (hm : Gp p0 = some RES) : Spec Tryz.prog 90 [rr 0] [.box (pm (Ah p0))] (pI RES.1) [.box (pm (Ah RES.2))] [] := by
 unfold Gp at hm
 refine SO Tryz.func90 rfl rfl [(0,rr 0)] [(0,bx (pm (Ah p0)))] ?_
 intro cx hnt
 refine Sq (RD hnt (.no :: []) [] [] [] [] tv ?_)
 obtain ⟨r3,hr3,hm⟩ := bo hm
 obtain ⟨g4,g5,hm⟩ := go2 hm
 refine Sq (RK hnt (.asR (ow 1024 [1,9,31,2,25,4,0,32,(-1)].length) [1,9,31,2,25,4,0,32,(-1)].length (elems Bd 0 [1,9,31,2,25,4,0,32,(-1)]) :: .no :: o35 [0] true r3 :: nn 3 []) [(2,pI ([1,9,31,2,25,4,0,32,(-1)].getD (Int.toNat r3.1) 0))] [(0,bx (pm (Ah r3.2)))] (an (congrArg (MV.own 1024 0 0) (RowIs.asP (enc := Bd) (d := 0) (L := [1,9,31,2,25,4,0,32,(-1)]) (RowIs.lit (enc := Bd) (d := 0) (n := 9) (f := (cut 1 [vi 1,vi 9,vi 31,vi 2,vi 25,vi 4,vi 0,vi 32,vi (-1)])) [1,9,31,2,25,4,0,32,(-1)] rfl (fun | 0,_ => rfl | 1,_ => rfl | 2,_ => rfl | 3,_ => rfl | 4,_ => rfl | 5,_ => rfl | 6,_ => rfl | 7,_ => rfl | 8,_ => rfl | n + 9,h => absurd h (by omega)))).1) (an (RowIs.asP (enc := Bd) (d := 0) (L := [1,9,31,2,25,4,0,32,(-1)]) (RowIs.lit (enc := Bd) (d := 0) (n := 9) (f := (cut 1 [vi 1,vi 9,vi 31,vi 2,vi 25,vi 4,vi 0,vi 32,vi (-1)])) [1,9,31,2,25,4,0,32,(-1)] rfl (fun | 0,_ => rfl | 1,_ => rfl | 2,_ => rfl | 3,_ => rfl | 4,_ => rfl | 5,_ => rfl | 6,_ => rfl | 7,_ => rfl | 8,_ => rfl | n + 9,h => absurd h (by omega)))) (an (As p0 9 r3 hr3) (an tv (an g4.1 (an g4.2 (an g5 tv))))))) ?_)
 obtain rfl := sj hm
 exact DW.ret (Ak [.box (pm (Ah r3.2))] [] (pI ([1,9,31,2,25,4,0,32,(-1)].getD (Int.toNat r3.1) 0)))
abbrev o52 (ks : List Nat) (b : Bool) (RES : Int × Al) : Orc := .call 90 ks b (pI RES.1) [.box (pm (Ah RES.2))] []

theorem AeA (p0 : List Aj) (p1 : Int) (RES : Aj × Bool) (hm : Ri p0 p1 = some RES) : Spec Tryz.prog 95 [.p (Bt p0),pI p1] [] (.p (.tup [.agg (Am RES.1),vb RES.2])) [] [] := by
 unfold Ri at hm
 refine SO Tryz.func95 rfl rfl [(0,.p (Bt p0)),(1,pI p1)] [] ?_
 intro cx hnt
 refine Sq (RD hnt (nn 2 []) [] [(4,rr 1032)] [] [(1032,bx [pI 0,pI 0,pI 0,pI 0])] tv ?_)
 refine Sq (Sq (RD hnt (.no :: []) [] [(6,pI 0)] [] [] tv ?_))
 refine Bk ?_
 obtain ⟨hc1,hm⟩ := go1 hm
 refine DW.rangeO (fun (k1 : Nat) (s1 : Unit) => Ao [(0,.p (Bt p0)),(1,pI p1),(4,rr 1032),(6,pI ((k1 : Nat) : Int))] [(1032,bx [pI 0,pI 0,pI 0,pI 0])]) Ba hm Conv.eqK ?_
 intro k1 s1 n1 hk1 hs1 he1
 refine Sq (Sq (RD hnt (nn 4 []) [] [(10,pB (decide (((k1 : Nat) : Int) < ((p0.length : Nat) : Int))))] [] [] tv ?_))
 refine Cm (decide (((k1 : Nat) : Int) < ((p0.length : Nat) : Int))) ?_ ?_
 ·intro h11
  have hlt1 : k1 < p0.length := by have := of_decide_eq_true h11; omega
  have hm := hs1 hlt1
  unfold Abv at hm
  refine Sk ?_
  refine Sq (Bk ?_)
  refine Sq (RD hnt (nn 7 []) [10] [(19,pB ((p0.getD k1 (default : Aj)).id == p1))] [] [] (an (nn0 k1) (an (ltc hlt1) tv)) ?_)
  refine Ag hm ?_ ?_
  ·intro h12 hm
   refine Sq (RK hnt (nn 13 []) [(4,rr 1032),(5,pB ((p0.getD k1 (default : Aj)).process == p1))] [(1032,bx (pm (Am (p0.getD k1 (default : Aj)))))] (an (nn0 k1) (an (ltc hlt1) (an (nn0 k1) (an (ltc hlt1) tv)))) ?_)
   obtain rfl := sj hm
   exact DW.ret (Ak [] [] (.p (.tup [.agg (Am (p0.getD k1 (default : Aj))),vb ((p0.getD k1 (default : Aj)).process == p1)])))
  ·intro h12 hm
   refine Sk ?_
   refine DW.done ?_
   show DW _ _ _ _ _
   refine RD hnt (nn 3 []) [19] [(6,pI (w64 (((k1 : Nat) : Int) + 1)))] [] [] tv ?_
   exact jD () ⟨hlt1,hm⟩ (Conv.tp [(6,pI (w64 (((k1 : Nat) : Int) + 1)))] [] (by kernel_rfl) (.cons rfl (.of_eq (congrArg pI (Br hlt1 hc1))) .nil) .nil)
 ·intro h11
  have hge1 : ¬ k1 < p0.length := by have := of_decide_eq_false h11; omega
  have hm := he1 hge1
  unfold AbG at hm
  refine DW.exit ?_
  refine Ar ?_
  refine Au ?_
  refine Ap ?_
  show DW _ _ _ _ _
  refine Sq (RD hnt (nn 3 []) [0,1,6,10] [(5,pB false)] [] [] tv ?_)
  obtain rfl := sj hm
  exact DW.ret (Ak [] [] (.p (.tup [.agg [vi 0,vi 0,vi 0,vi 0],vb false])))
abbrev o57 (ks : List Nat) (b : Bool) (RES : Aj × Bool) : Orc := .call 95 ks b (.p (.tup [.agg (Am RES.1),vb RES.2])) [] []

abbrev Is (p0 : Aa) (k1 : Nat) := (p0.tasks.getD k1 (default : Aj))
abbrev c56e2 (p0 : Aa) : Nat × MV := (3,pI ((p0.tasks.length : Nat) : Int))
theorem Ei (p0 : Aa) (RES : Bool) (hm : Em p0 = some RES) : Spec Tryz.prog 19 [.p (.agg (Ab p0))] [] (pB RES) [] [] := by
 unfold Em at hm
 refine SO Tryz.func19 rfl rfl [(0,.p (.agg (Ab p0)))] [] ?_
 intro cx hnt
 refine Sq (RK hnt (nn 2 []) [(1,rr 1008)] [(1008,bx (pm (Ab p0)))] tv ?_)
 refine Sq (RD hnt (nn 4 []) [] [(c56e2 p0)] [] [] tv ?_)
 obtain ⟨r1,hr1,hm⟩ := bo hm
 refine Sq (Sq ?_)
 refine Jn (ι := Bool) (fun (y1 : Bool) => Ao [(1,rr 1008),(c56e2 p0),(44,pB y1)] [(1008,bx (pm (Ab p0)))]) (fun y1 => (Ih p0) y1 = some RES) ?_ ?_
 ·intro y1 hm
  unfold Ih at hm
  refine Ag hm ?_ ?_
  ·intro h8 hm
   refine Sq (RK hnt (.no :: []) [(2,pB false)] [] tv ?_)
   obtain rfl := sj hm
   exact DW.ret (Ak [] [] (pB false))
  ·intro h8 hm
   refine Sk ?_
   refine Sq (Sq (RD hnt (.no :: []) [44] [(4,pI 0)] [] [] tv ?_))
   refine Bk ?_
   obtain ⟨hc1,hm⟩ := go1 hm
   refine DW.rangeO (fun (k1 : Nat) (s1 : Unit) => Ao [(1,rr 1008),(c56e2 p0),(4,pI ((k1 : Nat) : Int))] [(1008,bx (pm (Ab p0)))]) Ba hm Conv.eqK ?_
   intro k1 s1 n1 hk1 hs1 he1
   refine Sq (Sq (RD hnt (nn 3 []) [] [(47,pB (decide (((k1 : Nat) : Int) < ((p0.tasks.length : Nat) : Int))))] [] [] tv ?_))
   refine Cm (decide (((k1 : Nat) : Int) < ((p0.tasks.length : Nat) : Int))) ?_ ?_
   ·intro h45
    have hlt1 : k1 < p0.tasks.length := by have := of_decide_eq_true h45; omega
    have hm := hs1 hlt1
    unfold Tg at hm
    refine Sk ?_
    refine Sq (Bk ?_)
    refine Sq (RD hnt (nn 7 []) [47] [(5,rr 1040)] [] [(1040,bx (pm (Am (Is p0 k1))))] (an (nn0 k1) (an (ltc hlt1) tv)) ?_)
    obtain ⟨r46,hr46,hm⟩ := bo hm
    refine Sq (RD hnt (nn 4 (o57 [] true r46 :: nn 6 [])) [] [(6,rr 1048),(7,pB r46.2)] [] [(1048,bx (pm (Am r46.1)))] (an (AeA p0.tasks (Is p0 k1).process r46 hr46) tv) ?_)
    refine Sq ?_
    refine Jn (ι := Bool) (fun (y4 : Bool) => Ao [(1,rr 1008),(c56e2 p0),(4,pI ((k1 : Nat) : Int)),(110,pB y4)] [(1008,bx (pm (Ab p0)))]) (fun y4 => (Cg n1) y4 = some RES) ?_ ?_
    ·intro y4 hm
     unfold Cg at hm
     refine Ag hm ?_ ?_
     ·intro h61 hm
      refine Sq (RK hnt (.no :: []) [(2,pB false)] [] tv ?_)
      obtain rfl := sj hm
      exact DW.ret (Ak [] [] (pB false))
     ·intro h61 hm
      refine Sk ?_
      refine DW.done ?_
      show DW _ _ _ _ _
      refine RD hnt (nn 3 []) [110] [(4,pI (w64 (((k1 : Nat) : Int) + 1)))] [] [] tv ?_
      exact jD () ⟨hlt1,hm⟩ (Conv.tp [(4,pI (w64 (((k1 : Nat) : Int) + 1)))] [] (by kernel_rfl) (.cons rfl (.of_eq (congrArg pI (Br hlt1 hc1))) .nil) .nil)
    ·rcases bt (decide ((Is p0 k1).id < 1)) with h47 | h47
     ·replace hm := Bg h47 hm
      refine RD hnt (nn 4 (sk 14 (pT :: .no :: sk 6 (pT :: .no :: sk 3 (pT :: .no :: sk 3 (pT :: .no :: sk 2 (pT :: .no :: sk 5 (pT :: [])))))))) [5,6,7] [(110,pB true)] [1040,1048] [] (an5 h47 (an6 tt (an6 tt (an6 tt (an6 tt tv))))) ?_
      exact jD true hm Conv.eqK
     ·replace hm := Bh h47 hm
      rcases bt (decide (((k1 : Nat) : Int) > 0)) with h48 | h48
      ·replace hm := Bg h48 hm
       obtain ⟨g49,hm⟩ := go1 hm
       rcases bt (decide ((p0.tasks.getD (Int.toNat (w64 (((k1 : Nat) : Int) - 1))) Ba).id ≥ (Is p0 k1).id)) with h50 | h50
       ·replace hm := Bg h50 hm
        refine RD hnt (nn 17 (pT :: pF :: .no :: sk 6 (pT :: .no :: sk 3 (pT :: .no :: sk 3 (pT :: .no :: sk 2 (pT :: .no :: sk 5 (pT :: []))))))) [5,6,7] [(110,pB true)] [1040,1048] [] (an3 h47 (an5 h48 (an g49.1 (an g49.2 (an5 h48 (an h47 (an h48 (an h47 (an h50 (an6 h50 (an5 tt (an6 tt (an6 tt tv))))))))))))) ?_
        exact jD true hm Conv.eqK
       ·replace hm := Bh h50 hm
        obtain ⟨r51,hr51,hm⟩ := bo hm
        rcases bt (!r51) with h52 | h52
        ·replace hm := Bg h52 hm
         refine RD hnt (nn 17 (pT :: pF :: nn 5 (o42 [] true r51 :: .no :: pF :: .no :: sk 3 (pT :: .no :: sk 3 (pT :: .no :: sk 2 (pT :: .no :: sk 5 (pT :: []))))))) [5,6,7] [(110,pB true)] [1040,1048] [] (an3 h47 (an5 h48 (an g49.1 (an g49.2 (an5 h48 (an h47 (an h48 (an h47 (an5 h50 (an (Cy p0.tree (Is p0 k1).group r51 hr51) (an2 h50 (an4 h52 (an tt (an6 tt (an6 tt tv))))))))))))))) ?_
         exact jD true hm Conv.eqK
        ·replace hm := Bh h52 hm
         rcases bt (decide ((Is p0 k1).user < 0)) with h53 | h53
         ·replace hm := Bg h53 hm
          refine RD hnt (nn 17 (pT :: pF :: nn 5 (o42 [] true r51 :: .no :: pF :: nn 4 (pF :: .no :: sk 3 (pT :: .no :: sk 2 (pT :: .no :: sk 5 (pT :: []))))))) [5,6,7] [(110,pB true)] [1040,1048] [] (an3 h47 (an5 h48 (an g49.1 (an g49.2 (an5 h48 (an h47 (an h48 (an h47 (an5 h50 (an (Cy p0.tree (Is p0 k1).group r51 hr51) (an2 h50 (an4 h52 (an4 h53 (an3 tt (an6 tt tv))))))))))))))) ?_
          exact jD true hm Conv.eqK
         ·replace hm := Bh h53 hm
          rcases bt (decide ((Is p0 k1).user > 1048576)) with h54 | h54
          ·replace hm := Bg h54 hm
           refine RD hnt (nn 17 (pT :: pF :: nn 5 (o42 [] true r51 :: .no :: pF :: nn 4 (pF :: nn 4 (pF :: .no :: sk 2 (pT :: .no :: sk 5 (pT :: []))))))) [5,6,7] [(110,pB true)] [1040,1048] [] (an3 h47 (an5 h48 (an g49.1 (an g49.2 (an5 h48 (an h47 (an h48 (an h47 (an5 h50 (an (Cy p0.tree (Is p0 k1).group r51 hr51) (an2 h50 (an4 h52 (an4 h53 (an3 h54 (an6 tt tv))))))))))))))) ?_
           exact jD true hm Conv.eqK
          ·replace hm := Bh h54 hm
           rcases bt (!r46.2) with h55 | h55
           ·replace hm := Bg h55 hm
            refine RD hnt (nn 17 (pT :: pF :: nn 5 (o42 [] true r51 :: .no :: pF :: nn 4 (pF :: nn 4 (pF :: nn 3 (pF :: .no :: sk 5 (pT :: []))))))) [5,6,7] [(110,pB true)] [1040,1048] [] (an3 h47 (an5 h48 (an g49.1 (an g49.2 (an5 h48 (an h47 (an h48 (an h47 (an5 h50 (an (Cy p0.tree (Is p0 k1).group r51 hr51) (an2 h50 (an4 h52 (an4 h53 (an3 h54 (an6 h55 tv))))))))))))))) ?_
            exact jD true hm Conv.eqK
           ·replace hm := Bh h55 hm
            refine RD hnt (nn 17 (pT :: pF :: nn 5 (o42 [] true r51 :: .no :: pF :: nn 4 (pF :: nn 4 (pF :: nn 3 (pF :: nn 6 (pF :: []))))))) [5,6,7] [(110,pB (r46.1.user != (Is p0 k1).user))] [1040,1048] [] (an3 h47 (an5 h48 (an g49.1 (an g49.2 (an5 h48 (an h47 (an h48 (an h47 (an5 h50 (an (Cy p0.tree (Is p0 k1).group r51 hr51) (an2 h50 (an4 h52 (an4 h53 (an3 h54 (an6 h55 tv))))))))))))))) ?_
            exact jD (r46.1.user != (Is p0 k1).user) hm Conv.eqK
      ·replace hm := Bh h48 hm
       obtain ⟨r56,hr56,hm⟩ := bo hm
       rcases bt (!r56) with h57 | h57
       ·replace hm := Bg h57 hm
        refine RD hnt (nn 7 (sk 10 (pF :: pF :: nn 5 (o42 [] true r56 :: .no :: pF :: .no :: sk 3 (pT :: .no :: sk 3 (pT :: .no :: sk 2 (pT :: .no :: sk 5 (pT :: [])))))))) [5,6,7] [(110,pB true)] [1040,1048] [] (an3 h47 (an4 h48 (an6 h48 (an h47 (an h48 (an h47 (an5 ff (an (Cy p0.tree (Is p0 k1).group r56 hr56) (an2 ff (an4 h57 (an tt (an6 tt (an6 tt tv))))))))))))) ?_
        exact jD true hm Conv.eqK
       ·replace hm := Bh h57 hm
        rcases bt (decide ((Is p0 k1).user < 0)) with h58 | h58
        ·replace hm := Bg h58 hm
         refine RD hnt (nn 7 (sk 10 (pF :: pF :: nn 5 (o42 [] true r56 :: .no :: pF :: nn 4 (pF :: .no :: sk 3 (pT :: .no :: sk 2 (pT :: .no :: sk 5 (pT :: [])))))))) [5,6,7] [(110,pB true)] [1040,1048] [] (an3 h47 (an4 h48 (an6 h48 (an h47 (an h48 (an h47 (an5 ff (an (Cy p0.tree (Is p0 k1).group r56 hr56) (an2 ff (an4 h57 (an4 h58 (an3 tt (an6 tt tv))))))))))))) ?_
         exact jD true hm Conv.eqK
        ·replace hm := Bh h58 hm
         rcases bt (decide ((Is p0 k1).user > 1048576)) with h59 | h59
         ·replace hm := Bg h59 hm
          refine RD hnt (nn 7 (sk 10 (pF :: pF :: nn 5 (o42 [] true r56 :: .no :: pF :: nn 4 (pF :: nn 4 (pF :: .no :: sk 2 (pT :: .no :: sk 5 (pT :: [])))))))) [5,6,7] [(110,pB true)] [1040,1048] [] (an3 h47 (an4 h48 (an6 h48 (an h47 (an h48 (an h47 (an5 ff (an (Cy p0.tree (Is p0 k1).group r56 hr56) (an2 ff (an4 h57 (an4 h58 (an3 h59 (an6 tt tv))))))))))))) ?_
          exact jD true hm Conv.eqK
         ·replace hm := Bh h59 hm
          rcases bt (!r46.2) with h60 | h60
          ·replace hm := Bg h60 hm
           refine RD hnt (nn 7 (sk 10 (pF :: pF :: nn 5 (o42 [] true r56 :: .no :: pF :: nn 4 (pF :: nn 4 (pF :: nn 3 (pF :: .no :: sk 5 (pT :: [])))))))) [5,6,7] [(110,pB true)] [1040,1048] [] (an3 h47 (an4 h48 (an6 h48 (an h47 (an h48 (an h47 (an5 ff (an (Cy p0.tree (Is p0 k1).group r56 hr56) (an2 ff (an4 h57 (an4 h58 (an3 h59 (an6 h60 tv))))))))))))) ?_
           exact jD true hm Conv.eqK
          ·replace hm := Bh h60 hm
           refine RD hnt (nn 7 (sk 10 (pF :: pF :: nn 5 (o42 [] true r56 :: .no :: pF :: nn 4 (pF :: nn 4 (pF :: nn 3 (pF :: nn 6 (pF :: [])))))))) [5,6,7] [(110,pB (r46.1.user != (Is p0 k1).user))] [1040,1048] [] (an3 h47 (an4 h48 (an6 h48 (an h47 (an h48 (an h47 (an5 ff (an (Cy p0.tree (Is p0 k1).group r56 hr56) (an2 ff (an4 h57 (an4 h58 (an3 h59 (an6 h60 tv))))))))))))) ?_
           exact jD (r46.1.user != (Is p0 k1).user) hm Conv.eqK
   ·intro h45
    have hge1 : ¬ k1 < p0.tasks.length := by have := of_decide_eq_false h45; omega
    have hm := he1 hge1
    unfold Xp at hm
    refine DW.exit ?_
    refine Ar ?_
    refine Au ?_
    refine Ap ?_
    show DW _ _ _ _ _
    refine Sq (RK hnt (.no :: []) [(2,pB true)] [] tv ?_)
    obtain rfl := sj hm
    exact DW.ret (Ak [] [] (pB true))
 ·rcases bt (!r1) with h2 | h2
  ·replace hm := Bg h2 hm
   refine RD hnt (nn 2 (o38 [] true r1 :: nn 2 (sk 2 (pT :: .no :: sk 3 (pT :: .no :: sk 3 (pT :: .no :: sk 14 (pT :: []))))))) [] [(44,pB true)] [] [] (an (Gi p0.tree r1 hr1) (an3 h2 (an tt (an6 tt (an6 tt tv))))) ?_
   exact jD true hm Conv.eqK
  ·replace hm := Bh h2 hm
   rcases bt (decide (((p0.tasks.length : Nat) : Int) > 128)) with h3 | h3
   ·replace hm := Bg h3 hm
    refine RD hnt (nn 2 (o38 [] true r1 :: nn 4 (pF :: .no :: sk 3 (pT :: .no :: sk 3 (pT :: .no :: sk 14 (pT :: [])))))) [] [(44,pB true)] [] [] (an (Gi p0.tree r1 hr1) (an3 h2 (an4 h3 (an3 tt (an6 tt tv))))) ?_
    exact jD true hm Conv.eqK
   ·replace hm := Bh h3 hm
    rcases bt (decide (p0.next < 1)) with h4 | h4
    ·replace hm := Bg h4 hm
     refine RD hnt (nn 2 (o38 [] true r1 :: nn 4 (pF :: nn 4 (pF :: .no :: sk 3 (pT :: .no :: sk 14 (pT :: [])))))) [] [(44,pB true)] [] [] (an (Gi p0.tree r1 hr1) (an3 h2 (an4 h3 (an4 h4 (an5 tt tv))))) ?_
     exact jD true hm Conv.eqK
    ·replace hm := Bh h4 hm
     rcases bt (decide (p0.next > 2147483648)) with h5 | h5
     ·replace hm := Bg h5 hm
      refine RD hnt (nn 2 (o38 [] true r1 :: nn 4 (pF :: nn 4 (pF :: nn 4 (pF :: .no :: sk 14 (pT :: [])))))) [] [(44,pB true)] [] [] (an (Gi p0.tree r1 hr1) (an3 h2 (an4 h3 (an4 h4 (an5 h5 tv))))) ?_
      exact jD true hm Conv.eqK
     ·replace hm := Bh h5 hm
      rcases bt (decide (((p0.tasks.length : Nat) : Int) > 0)) with h6 | h6
      ·replace hm := Bg h6 hm
       obtain ⟨g7,hm⟩ := go1 hm
       refine RD hnt (nn 2 (o38 [] true r1 :: nn 4 (pF :: nn 4 (pF :: nn 4 (pF :: nn 14 (pT :: pF :: [])))))) [] [(44,pB (decide (p0.next ≤ (p0.tasks.getD (Int.toNat (w64 (((p0.tasks.length : Nat) : Int) - 1))) Ba).id)))] [] [] (an (Gi p0.tree r1 hr1) (an3 h2 (an4 h3 (an4 h4 (an3 h5 (an h6 (an6 h6 (an g7.1 (an g7.2 (an3 h6 (an h5 (an h6 (an h5 tv))))))))))))) ?_
       exact jD (decide (p0.next ≤ (p0.tasks.getD (Int.toNat (w64 (((p0.tasks.length : Nat) : Int) - 1))) Ba).id)) hm Conv.eqK
      ·replace hm := Bh h6 hm
       refine RD hnt (nn 2 (o38 [] true r1 :: nn 4 (pF :: nn 4 (pF :: nn 4 (pF :: nn 4 (sk 10 (pF :: pF :: []))))))) [] [(44,pB false)] [] [] (an (Gi p0.tree r1 hr1) (an3 h2 (an4 h3 (an4 h4 (an3 h5 (an4 h6 (an6 h6 (an h5 (an h6 (an h5 tv)))))))))) ?_
       exact jD false hm Conv.eqK
abbrev o56 (ks : List Nat) (b : Bool) (RES : Bool) : Orc := .call 19 ks b (pB RES) [] []

theorem AeP (p0 : Ae) (p1 : Int) (RES : Int) (hm : Re p0 p1 = some RES) : Spec Tryz.prog 250 [.p (.agg (Aq p0)),pI p1] [] (pI RES) [] [] := by
 unfold Re at hm
 refine SO Tryz.func250 rfl rfl [(0,.p (.agg (Aq p0))),(1,pI p1)] [] ?_
 intro cx hnt
 refine Sq (RK hnt (nn 2 []) [(1,pI p1),(2,rr 1016)] [(1016,bx (pm (Aq p0)))] tv ?_)
 obtain ⟨r1,hr1,hm⟩ := bo hm
 refine Sq (RD hnt (nn 2 (o43 [] true r1 :: nn 6 [])) [] [(5,rr 1040),(6,pB r1.2)] [] [(1040,bx (pm (An r1.1)))] (an (Dj p0 p1 r1 hr1) tv) ?_)
 refine Sq (Sq (DW.regJ (sl2 := [(2,rr 1016),(5,rr 1040),(20,pB ((!r1.2) || (p1 == 1)))]) (ob2 := [(1016,bx (pm (Aq p0))),(1040,bx (pm (An r1.1)))]) ?_ ?_))
 ·rcases bt (!r1.2) with h2 | h2
  ·exact RT hnt (nn 3 (sk 2 (pT :: []))) [(20,pB true)] (an3 h2 tv) (by kernel_rfl) (.cons rfl (.of_eq (by rw [h2]; try rfl)) .nil)
  ·exact RT hnt (nn 5 (pF :: [])) [(20,pB (p1 == 1))] (an3 h2 tv) (by kernel_rfl) (.cons rfl (.of_eq (by rw [h2]; try rfl)) .nil)
 ·refine Ag hm ?_ ?_
  ·intro h3 hm
   refine Sq (RK hnt (.no :: []) [(4,pI 0)] [] tv ?_)
   obtain rfl := sj hm
   exact DW.ret (Ak [] [] (pI 0))
  ·intro h3 hm
   refine Sk ?_
   obtain ⟨r4,hr4,hm⟩ := bo hm
   refine Sq (RD hnt (nn 3 (o43 [] true r4 :: nn 6 [])) [2,20] [(7,rr 1056)] [1016] [(1056,bx (pm (An r4.1)))] (an (Dj p0 r1.1.parent r4 hr4) tv) ?_)
   refine Sq (Sq (RD hnt (nn 3 []) [5] [(30,pB (r1.1.kind == 1))] [1040] [] tv ?_))
   refine Ag hm ?_ ?_
   ·intro h5 hm
    refine Sq (RK hnt (nn 4 []) [(4,pI (Ej .i64 r4.1.control 6))] [] tv ?_)
    obtain rfl := sj hm
    exact DW.ret (Ak [] [] (pI (Ej .i64 r4.1.control 6)))
   ·intro h5 hm
    refine Sk ?_
    refine Sq (RK hnt (nn 3 []) [(4,pI r4.1.control)] [] tv ?_)
    obtain rfl := sj hm
    exact DW.ret (Ak [] [] (pI r4.1.control))
abbrev o59 (ks : List Nat) (b : Bool) (RES : Int) : Orc := .call 250 ks b (pI RES) [] []

theorem Jt (p0 : Ae) (p1 : Int) (RES : Int) (hm : Ky p0 p1 = some RES) : Spec Tryz.prog 235 [.p (.agg (Aq p0)),pI p1] [] (pI RES) [] [] := by
 unfold Ky at hm
 refine SO Tryz.func235 rfl rfl [(0,.p (.agg (Aq p0))),(1,pI p1)] [] ?_
 intro cx hnt
 refine Sq (RK hnt (nn 2 []) [(1,pI p1),(2,rr 1016)] [(1016,bx (pm (Aq p0)))] tv ?_)
 obtain ⟨r1,hr1,hm⟩ := bo hm
 refine Sq (RD hnt (nn 2 (o43 [] true r1 :: nn 6 [])) [] [(5,rr 1040),(6,pB r1.2)] [] [(1040,bx (pm (An r1.1)))] (an (Dj p0 p1 r1 hr1) tv) ?_)
 refine Sq (Sq (RD hnt (nn 2 []) [6] [(15,pB (!r1.2))] [] [] tv ?_))
 refine Ag hm ?_ ?_
 ·intro h2 hm
  refine Sq (RK hnt (.no :: []) [(4,pI 0)] [] tv ?_)
  obtain rfl := sj hm
  exact DW.ret (Ak [] [] (pI 0))
 ·intro h2 hm
  refine Sk ?_
  refine Sq (RD hnt (.no :: []) [15] [(7,pI 31)] [] [] tv ?_)
  refine Sq (Sq (RD hnt (nn 2 []) [] [(17,pB (p1 != 1))] [] [] tv ?_))
  refine Jn (ι := Int) (fun (y1 : Int) => Ao [(5,rr 1040),(7,pI y1)] [(1040,bx (pm (An r1.1)))]) (fun y1 => (Jf r1) y1 = some RES) ?_ ?_
  ·intro y1 hm
   unfold Jf at hm
   refine Sq (Sq (RK hnt (nn 3 []) [(7,pI y1),(23,pB (r1.1.kind == 1))] [] tv ?_))
   refine Jn (ι := Int) (fun (y2 : Int) => Ao [(7,pI y2)] []) (fun y2 => Lh y2 = some RES) ?_ ?_
   ·intro y2 hm
    unfold Lh at hm
    refine Sq (RK hnt (nn 2 []) [(4,pI y2)] [] tv ?_)
    obtain rfl := sj hm
    exact DW.ret (Ak [] [] (pI y2))
   ·refine Ag hm ?_ ?_
    ·intro h5 hm
     refine RK hnt (nn 3 []) [(7,pI (Ej .i64 y1 6))] [] tv ?_
     exact jD (Ej .i64 y1 6) hm .refl
    ·intro h5 hm
     refine Sk ?_
     exact jD y1 hm Conv.t0
  ·refine Ag hm ?_ ?_
   ·intro h3 hm
    obtain ⟨r4,hr4,hm⟩ := bo hm
    refine RD hnt (nn 2 (o59 [] true r4 :: .no :: [])) [1,2,17] [(7,pI r4)] [1016] [] (an (AeP p0 p1 r4 hr4) tv) ?_
    exact jD r4 hm Conv.eqK
   ·intro h3 hm
    refine Sk ?_
    exact jD 31 hm Conv.t0
abbrev o58 (ks : List Nat) (b : Bool) (RES : Int) : Orc := .call 235 ks b (pI RES) [] []

abbrev Uj (p0 : Aa) (k1 : Nat) := (p0.tasks.getD k1 (default : Aj))
theorem Fg (p0 : Aa) (p1 : Int) (RES : List Int) (hm : Hc p0 p1 = some RES) : Spec Tryz.prog 26 [.p (.agg (Ab p0)),pI p1] [] (ow 0 RES.length) [] [roI RES] := by
 unfold Hc at hm
 refine SO Tryz.func26 rfl rfl [(0,.p (.agg (Ab p0))),(1,pI p1)] [] ?_
 intro cx hnt
 refine Sq (RK hnt (nn 2 []) [(1,pI p1),(2,rr 1016)] [(1016,bx (pm (Ab p0)))] tv ?_)
 obtain ⟨r1,hr1,hm⟩ := bo hm
 refine Sq (Sq (RD hnt (.no :: o56 [] true r1 :: .no :: []) [] [(9,pB (!r1))] [] [] (an (Ei p0 r1 hr1) tv) ?_))
 refine Ag hm ?_ ?_
 ·intro h2 hm
  refine Sq (RK hnt (.no :: []) [(4,.p (.sl .nil 0 0 (fun _ => [])))] [] tv ?_)
  refine DW.cv [] [(4,ow 100000 0)] [] [(100000,ob0 (roI []))] (Conv.ads [(.s 4,100000,1,elems Bd 0 [])]) ?_
  obtain rfl := sj hm
  exact DW.ret (Ak [roI []] [100000] (ow 0 0))
 ·intro h2 hm
  refine Sk ?_
  refine Sq (RD hnt (.no :: []) [9] [(5,.p (.sl .nil 0 0 (fun _ => [])))] [] [] tv ?_)
  refine Sq (Sq (RD hnt (.no :: []) [] [(6,pI 0)] [] [] tv ?_))
  refine Bk ?_
  obtain ⟨hc1,hm⟩ := go1 hm
  refine DW.rangeO (fun (k1 : Nat) (s1 : List Int) => Ao [(1,pI p1),(2,rr 1016),(5,ow 1264 s1.length),(6,pI ((k1 : Nat) : Int))] [(1016,bx (pm (Ab p0))),(1264,ob0 (roI s1))]) Ba hm (Conv.ads [(.s 5,1264,1,elems Bd 0 [])]) ?_
  intro k1 s1 n1 hk1 hs1 he1
  refine Sq (Sq (RD hnt (nn 5 []) [] [(14,pB (decide (((k1 : Nat) : Int) < ((p0.tasks.length : Nat) : Int))))] [] [] tv ?_))
  refine Cm (decide (((k1 : Nat) : Int) < ((p0.tasks.length : Nat) : Int))) ?_ ?_
  ·intro h12
   have hlt1 : k1 < p0.tasks.length := by have := of_decide_eq_true h12; omega
   have hm := hs1 hlt1
   unfold Xr at hm
   refine Sk ?_
   refine Sq ?_
   refine Jn (ι := List Int) (fun (y3 : List Int) => Ao [(1,pI p1),(2,rr 1016),(5,ow 1264 y3.length),(6,pI ((k1 : Nat) : Int))] [(1016,bx (pm (Ab p0))),(1264,ob0 (roI y3))]) (fun y3 => (Pn n1) y3 = some RES) ?_ ?_
   ·intro y3 hm
    unfold Pn at hm
    refine RD hnt (nn 3 []) [] [(6,pI (w64 (((k1 : Nat) : Int) + 1)))] [] [] tv ?_
    exact jD y3 ⟨hlt1,hm⟩ (Conv.tp [(6,pI (w64 (((k1 : Nat) : Int) + 1)))] [] (by kernel_rfl) (.cons rfl (.of_eq (congrArg pI (Br hlt1 hc1))) .nil) .nil)
   ·refine Bk ?_
    refine Sq (RD hnt (nn 8 []) [14] [(24,pB ((Uj p0 k1).group == p1))] [] [] (an (nn0 k1) (an (ltc hlt1) tv)) ?_)
    refine Ag hm ?_ ?_
    ·intro h13 hm
     obtain ⟨g14,hm⟩ := go1 hm
     refine RN hnt (nn 10 []) [(1,pI p1),(2,rr 1016),(5,ow 1264 (s1 ++ [(Uj p0 k1).id]).length),(6,pI ((k1 : Nat) : Int))] [(1016,bx (pm (Ab p0))),(1264,ob0 (roI (s1 ++ [(Uj p0 k1).id])))] [(5,ow 1264 (s1.length + 1))] [(1264,.row 1 (s1.length + 1) (Cp s1.length (elI s1) (cut 1 [vi (Uj p0 k1).id])))] (an (nn0 k1) (an (ltc hlt1) (an (by omega : (s1.length + 1) * 8 ≤ 140737488355328) tv))) (by kernel_rfl) (.cons rfl (MLe.ownLen (enc := Bd) (d := 0) (f := (Cp s1.length (elI s1) (cut 1 [vi (Uj p0 k1).id]))) (RowIs.cat RowIs.elems (RowIs.lit (enc := Bd) (d := 0) (n := 1) (f := (cut 1 [vi (Uj p0 k1).id])) [(Uj p0 k1).id] rfl (fun | 0,_ => rfl | n + 1,h => absurd h (by omega))))) .nil) (.cons rfl (BLe.typed (RowIs.cat RowIs.elems (RowIs.lit (enc := Bd) (d := 0) (n := 1) (f := (cut 1 [vi (Uj p0 k1).id])) [(Uj p0 k1).id] rfl (fun | 0,_ => rfl | n + 1,h => absurd h (by omega))))) .nil) ?_
     exact bD (s1 ++ [(Uj p0 k1).id]) hm .refl
    ·intro h13 hm
     refine Sk ?_
     exact bD s1 hm Conv.t0
  ·intro h12
   have hge1 : ¬ k1 < p0.tasks.length := by have := of_decide_eq_false h12; omega
   have hm := he1 hge1
   unfold Aca at hm
   refine DW.exit ?_
   refine Ar ?_
   refine Au ?_
   refine Ap ?_
   show DW _ _ _ _ _
   refine Sq (RK hnt (nn 2 []) [(4,ow 1264 s1.length)] [(1264,ob0 (roI s1))] tv ?_)
   obtain rfl := sj hm
   exact DW.ret (Ak [roI s1] [1264] (ow 0 s1.length))
abbrev o60 (ks : List Nat) (b : Bool) (RES : List Int) : Orc := .call 26 ks b (ow 0 RES.length) [] [roI RES]

abbrev Wh (p0 : Aa) (k1 : Nat) := (p0.tree.nodes.getD k1 (default : Af))
theorem Nj (p0 : Aa) (RES : Bool) (hm : Qq p0 = some RES) : Spec Tryz.prog 209 [.p (.agg (Ab p0))] [] (pB RES) [] [] := by
 unfold Qq at hm
 refine SO Tryz.func209 rfl rfl [(0,.p (.agg (Ab p0)))] [] ?_
 intro cx hnt
 refine Sq (RK hnt (nn 2 []) [(1,rr 1008)] [(1008,bx (pm (Ab p0)))] tv ?_)
 obtain ⟨r1,hr1,hm⟩ := bo hm
 refine Sq (Sq (RD hnt (.no :: o56 [] true r1 :: .no :: []) [] [(7,pB (!r1))] [] [] (an (Ei p0 r1 hr1) tv) ?_))
 refine Ag hm ?_ ?_
 ·intro h2 hm
  refine Sq (RK hnt (.no :: []) [(2,pB false)] [] tv ?_)
  obtain rfl := sj hm
  exact DW.ret (Ak [] [] (pB false))
 ·intro h2 hm
  refine Sk ?_
  refine Sq (Sq (RD hnt (.no :: []) [7] [(3,pI 0)] [] [] tv ?_))
  refine Bk ?_
  obtain ⟨hc1,hm⟩ := go1 hm
  refine DW.rangeO (fun (k1 : Nat) (s1 : Unit) => Ao [(1,rr 1008),(3,pI ((k1 : Nat) : Int))] [(1008,bx (pm (Ab p0)))]) Aw hm Conv.eqK ?_
  intro k1 s1 n1 hk1 hs1 he1
  refine Sq (Sq (RD hnt (nn 6 []) [] [(13,pB (decide (((k1 : Nat) : Int) < ((p0.tree.nodes.length : Nat) : Int))))] [] [] tv ?_))
  refine Cm (decide (((k1 : Nat) : Int) < ((p0.tree.nodes.length : Nat) : Int))) ?_ ?_
  ·intro h19
   have hlt1 : k1 < p0.tree.nodes.length := by have := of_decide_eq_true h19; omega
   have hm := hs1 hlt1
   unfold Xw at hm
   refine Sk ?_
   refine Sq (Bk ?_)
   refine Sq (RD hnt (nn 8 []) [13] [(4,rr 1032)] [] [(1032,bx (pm (An (Wh p0 k1))))] (an (nn0 k1) (an (ltc hlt1) tv)) ?_)
   obtain ⟨r20,hr20,hm⟩ := bo hm
   refine Sq ?_
   refine Jn (ι := Bool) (fun (y3 : Bool) => Ao [(1,rr 1008),(3,pI ((k1 : Nat) : Int)),(49,pB y3)] [(1008,bx (pm (Ab p0)))]) (fun y3 => (Ju n1) y3 = some RES) ?_ ?_
   ·intro y3 hm
    unfold Ju at hm
    refine Ag hm ?_ ?_
    ·intro h25 hm
     refine Sq (RK hnt (.no :: []) [(2,pB false)] [] tv ?_)
     obtain rfl := sj hm
     exact DW.ret (Ak [] [] (pB false))
    ·intro h25 hm
     refine Sk ?_
     refine DW.done ?_
     show DW _ _ _ _ _
     refine RD hnt (nn 3 []) [49] [(3,pI (w64 (((k1 : Nat) : Int) + 1)))] [] [] tv ?_
     exact jD () ⟨hlt1,hm⟩ (Conv.tp [(3,pI (w64 (((k1 : Nat) : Int) + 1)))] [] (by kernel_rfl) (.cons rfl (.of_eq (congrArg pI (Br hlt1 hc1))) .nil) .nil)
   ·rcases bt ((Ej .i64 (Wh p0 k1).control r20) != 0) with h21 | h21
    ·replace hm := Bg h21 hm
     refine RD hnt (nn 6 (o58 [] true r20 :: nn 3 (sk 17 (pT :: [])))) [4] [(49,pB true)] [1032] [] (an (Jt p0.tree (Wh p0 k1).id r20 hr20) (an2 h21 (an6 h21 tv))) ?_
     exact jD true hm Conv.eqK
    ·replace hm := Bh h21 hm
     rcases bt ((Wh p0 k1).id != 1) with h22 | h22
     ·replace hm := Bg h22 hm
      rcases bt ((kand .i64 (Wh p0 k1).control 6) != 0) with h23 | h23
      ·replace hm := Bg h23 hm
       obtain ⟨r24,hr24,hm⟩ := bo hm
       refine RD hnt (nn 6 (o58 [] true r20 :: nn 11 (pT :: nn 4 (o60 [] true r24 :: nn 2 (pT :: pF :: []))))) [4] [(49,pB (decide (((r24.length : Nat) : Int) > 0)))] [1032] [] (an (Jt p0.tree (Wh p0 k1).id r20 hr20) (an4 h21 (an4 h22 (an h21 (an h22 (an h21 (an4 h23 (an (Fg p0 (Wh p0 k1).id r24 hr24) (an2 h23 (an h21 (an h23 (an h21 tv)))))))))))) ?_
       exact jD (decide (((r24.length : Nat) : Int) > 0)) hm Conv.eqK
      ·replace hm := Bh h23 hm
       refine RD hnt (nn 6 (o58 [] true r20 :: nn 11 (pT :: .no :: sk 6 (pF :: pF :: [])))) [4] [(49,pB false)] [1032] [] (an (Jt p0.tree (Wh p0 k1).id r20 hr20) (an4 h21 (an4 h22 (an h21 (an h22 (an h21 (an6 h23 (an h21 (an h23 (an h21 tv)))))))))) ?_
       exact jD false hm Conv.eqK
     ·replace hm := Bh h22 hm
      refine RD hnt (nn 6 (o58 [] true r20 :: nn 7 (sk 4 (pF :: .no :: sk 6 (pF :: pF :: []))))) [4] [(49,pB false)] [1032] [] (an (Jt p0.tree (Wh p0 k1).id r20 hr20) (an4 h21 (an4 h22 (an h21 (an h22 (an h21 (an6 ff (an h21 (an ff (an h21 tv)))))))))) ?_
      exact jD false hm Conv.eqK
  ·intro h19
   have hge1 : ¬ k1 < p0.tree.nodes.length := by have := of_decide_eq_false h19; omega
   have hm := he1 hge1
   unfold AcB at hm
   refine DW.exit ?_
   refine Ar ?_
   refine Au ?_
   refine Ap ?_
   show DW _ _ _ _ _
   refine Sq (RK hnt (.no :: []) [(2,pB true)] [] tv ?_)
   obtain rfl := sj hm
   exact DW.ret (Ak [] [] (pB true))
abbrev o55 (ks : List Nat) (b : Bool) (RES : Bool) : Orc := .call 209 ks b (pB RES) [] []

theorem Jz (p0 : Aa) (p1 : Int) (RES : Aj × Bool) (hm : Gt p0 p1 = some RES) : Spec Tryz.prog 23 [.p (.agg (Ab p0)),pI p1] [] (.p (.tup [.agg (Am RES.1),vb RES.2])) [] [] := by
 unfold Gt at hm
 refine SO Tryz.func23 rfl rfl [(0,.p (.agg (Ab p0))),(1,pI p1)] [] ?_
 intro cx hnt
 refine Sq (RK hnt (nn 3 []) [(1,pI p1),(2,rr 1016),(4,rr 1032)] [(1016,bx (pm (Ab p0))),(1032,bx [pI 0,pI 0,pI 0,pI 0])] tv ?_)
 obtain ⟨r1,hr1,hm⟩ := bo hm
 refine Sq (Sq (RD hnt (.no :: o56 [] true r1 :: .no :: []) [] [(9,pB (!r1))] [] [] (an (Ei p0 r1 hr1) tv) ?_))
 refine Ag hm ?_ ?_
 ·intro h2 hm
  refine Sq (RD hnt (nn 3 []) [1,2,9] [(5,pB false)] [1016] [] tv ?_)
  obtain rfl := sj hm
  exact DW.ret (Ak [] [] (.p (.tup [.agg [vi 0,vi 0,vi 0,vi 0],vb false])))
 ·intro h2 hm
  refine Sk ?_
  refine Sq (Sq (RD hnt (.no :: []) [9] [(6,pI 0)] [] [] tv ?_))
  refine Bk ?_
  obtain ⟨hc1,hm⟩ := go1 hm
  refine DW.rangeO (fun (k1 : Nat) (s1 : Unit) => Ao [(1,pI p1),(2,rr 1016),(4,rr 1032),(6,pI ((k1 : Nat) : Int))] [(1016,bx (pm (Ab p0))),(1032,bx [pI 0,pI 0,pI 0,pI 0])]) Ba hm Conv.eqK ?_
  intro k1 s1 n1 hk1 hs1 he1
  refine Sq (Sq (RD hnt (nn 5 []) [] [(15,pB (decide (((k1 : Nat) : Int) < ((p0.tasks.length : Nat) : Int))))] [] [] tv ?_))
  refine Cm (decide (((k1 : Nat) : Int) < ((p0.tasks.length : Nat) : Int))) ?_ ?_
  ·intro h11
   have hlt1 : k1 < p0.tasks.length := by have := of_decide_eq_true h11; omega
   have hm := hs1 hlt1
   unfold AdE at hm
   refine Sk ?_
   refine Sq (Bk ?_)
   refine Sq (RD hnt (nn 8 []) [15] [(25,pB ((p0.tasks.getD k1 (default : Aj)).id == p1))] [] [] (an (nn0 k1) (an (ltc hlt1) tv)) ?_)
   refine Ag hm ?_ ?_
   ·intro h12 hm
    refine Sq (RK hnt (nn 7 []) [(4,rr 1032),(5,pB true)] [(1032,bx (pm (Am (p0.tasks.getD k1 (default : Aj)))))] (an (nn0 k1) (an (ltc hlt1) tv)) ?_)
    obtain rfl := sj hm
    exact DW.ret (Ak [] [] (.p (.tup [.agg (Am (p0.tasks.getD k1 (default : Aj))),vb true])))
   ·intro h12 hm
    refine Sk ?_
    refine DW.done ?_
    show DW _ _ _ _ _
    refine RD hnt (nn 3 []) [25] [(6,pI (w64 (((k1 : Nat) : Int) + 1)))] [] [] tv ?_
    exact jD () ⟨hlt1,hm⟩ (Conv.tp [(6,pI (w64 (((k1 : Nat) : Int) + 1)))] [] (by kernel_rfl) (.cons rfl (.of_eq (congrArg pI (Br hlt1 hc1))) .nil) .nil)
  ·intro h11
   have hge1 : ¬ k1 < p0.tasks.length := by have := of_decide_eq_false h11; omega
   have hm := he1 hge1
   unfold Adp at hm
   refine DW.exit ?_
   refine Ar ?_
   refine Au ?_
   refine Ap ?_
   show DW _ _ _ _ _
   refine Sq (RD hnt (nn 3 []) [1,2,6,15] [(5,pB false)] [1016] [] tv ?_)
   obtain rfl := sj hm
   exact DW.ret (Ak [] [] (.p (.tup [.agg [vi 0,vi 0,vi 0,vi 0],vb false])))
abbrev o61 (ks : List Nat) (b : Bool) (RES : Aj × Bool) : Orc := .call 23 ks b (.p (.tup [.agg (Am RES.1),vb RES.2])) [] []

theorem Pe (p0 : Ae) (p1 : Int) (RES : Int × Bool) (hm : Ku p0 p1 = some RES) : Spec Tryz.prog 165 [.p (.agg (Aq p0)),pI p1] [] (.p (.tup [vi RES.1,vb RES.2])) [] [] := by
 unfold Ku at hm
 refine SO Tryz.func165 rfl rfl [(0,.p (.agg (Aq p0))),(1,pI p1)] [] ?_
 intro cx hnt
 refine Sq (RK hnt (nn 3 []) [(1,pI p1),(2,rr 1016)] [(1016,bx (pm (Aq p0)))] tv ?_)
 obtain ⟨r1,hr1,hm⟩ := bo hm
 refine Sq (RD hnt (nn 2 (o45 [] true r1 :: .no :: [])) [1] [(6,ow 1096 r1.length)] [] [(1096,ob0 (roI r1))] (an (Vj p0 p1 r1 hr1) tv) ?_)
 refine Sq (Sq (RD hnt (.no :: []) [] [(7,pI 0)] [] [] tv ?_))
 refine Bk ?_
 obtain ⟨hc1,hm⟩ := go1 hm
 refine DW.rangeO (fun (k1 : Nat) (s1 : Unit) => Ao [(2,rr 1016),(6,ow 1096 r1.length),(7,pI ((k1 : Nat) : Int))] [(1016,bx (pm (Aq p0))),(1096,ob0 (roI r1))]) 0 hm Conv.eqK ?_
 intro k1 s1 n1 hk1 hs1 he1
 refine Sq (Sq (RD hnt (nn 4 []) [] [(16,pB (decide (((k1 : Nat) : Int) < ((r1.length : Nat) : Int))))] [] [] tv ?_))
 refine Cm (decide (((k1 : Nat) : Int) < ((r1.length : Nat) : Int))) ?_ ?_
 ·intro h16
  have hlt1 : k1 < r1.length := by have := of_decide_eq_true h16; omega
  have hm := hs1 hlt1
  unfold Vq at hm
  refine Sk ?_
  refine Sq (Bk ?_)
  obtain ⟨r17,hr17,hm⟩ := bo hm
  refine Sq (RD hnt (nn 5 (o43 [] true r17 :: nn 6 [])) [16] [(8,rr 1064)] [] [(1064,bx (pm (An r17.1)))] (an (nn0 k1) (an (ltc hlt1) (an (by omega : k1 < r1.length) (an (Dj p0 (r1.getD k1 0) r17 hr17) tv)))) ?_)
  refine Sq (RD hnt (nn 3 []) [8] [(30,pB (r17.1.kind != 1))] [1064] [] tv ?_)
  refine Ag hm ?_ ?_
  ·intro h18 hm
   refine Sq (RK hnt (nn 6 []) [(4,pI (r1.getD k1 0)),(5,pB true)] [] (an (nn0 k1) (an (ltc hlt1) (an (by omega : k1 < r1.length) tv))) ?_)
   obtain rfl := sj hm
   exact DW.ret (Ak [] [] (.p (.tup [vi (r1.getD k1 0),vb true])))
  ·intro h18 hm
   refine Sk ?_
   refine DW.done ?_
   show DW _ _ _ _ _
   refine RD hnt (nn 3 []) [30] [(7,pI (w64 (((k1 : Nat) : Int) + 1)))] [] [] tv ?_
   exact jD () ⟨hlt1,hm⟩ (Conv.tp [(7,pI (w64 (((k1 : Nat) : Int) + 1)))] [] (by kernel_rfl) (.cons rfl (.of_eq (congrArg pI (Br hlt1 hc1))) .nil) .nil)
 ·intro h16
  have hge1 : ¬ k1 < r1.length := by have := of_decide_eq_false h16; omega
  have hm := he1 hge1
  unfold Abw at hm
  refine DW.exit ?_
  refine Ar ?_
  refine Au ?_
  refine Ap ?_
  show DW _ _ _ _ _
  refine Sq (RK hnt (nn 2 []) [(4,pI 0),(5,pB false)] [] tv ?_)
  obtain rfl := sj hm
  exact DW.ret (Ak [] [] (.p (.tup [vi 0,vb false])))
abbrev o62 (ks : List Nat) (b : Bool) (RES : Int × Bool) : Orc := .call 165 ks b (.p (.tup [vi RES.1,vb RES.2])) [] []

theorem AfP (rec : Ae → Int → Option Int) (ih : ∀ (p0 : Ae) (p1 : Int) (RES : Int),rec p0 p1 = some RES → Spec Tryz.prog 163 [.p (.agg (Aq p0)),pI p1] [] (pI RES) [] []) (p0 : Ae) (p1 : Int) (RES : Int) (hm : Qh rec p0 p1 = some RES) : Spec Tryz.prog 163 [.p (.agg (Aq p0)),pI p1] [] (pI RES) [] [] := by
 unfold Qh at hm
 refine SO Tryz.func163 rfl rfl [(0,.p (.agg (Aq p0))),(1,pI p1)] [] ?_
 intro cx hnt
 refine Sq (RK hnt (nn 2 []) [(1,pI p1),(2,rr 1016)] [(1016,bx (pm (Aq p0)))] tv ?_)
 obtain ⟨r1,hr1,hm⟩ := bo hm
 refine Sq (RD hnt (nn 2 (o43 [] true r1 :: nn 6 [])) [] [(5,rr 1040),(6,pB r1.2)] [] [(1040,bx (pm (An r1.1)))] (an (Dj p0 p1 r1 hr1) tv) ?_)
 refine Sq (Sq (RD hnt (nn 2 []) [6] [(20,pB (!r1.2))] [] [] tv ?_))
 refine Ag hm ?_ ?_
 ·intro h2 hm
  refine Sq (RK hnt (.no :: []) [(4,pI 0)] [] tv ?_)
  obtain rfl := sj hm
  exact DW.ret (Ak [] [] (pI 0))
 ·intro h2 hm
  refine Sk ?_
  refine Sq (Sq (RD hnt (nn 3 []) [20] [(23,pB (r1.1.kind == 1))] [] [] tv ?_))
  refine Ag hm ?_ ?_
  ·intro h3 hm
   refine Sq (RK hnt (.no :: []) [(4,pI 2)] [] tv ?_)
   obtain rfl := sj hm
   exact DW.ret (Ak [] [] (pI 2))
  ·intro h3 hm
   refine Sk ?_
   obtain ⟨r4,hr4,hm⟩ := bo hm
   refine Sq (Sq (RD hnt (nn 3 (o43 [] true r4 :: nn 6 [])) [5,23] [(7,rr 1056),(8,pB r4.2)] [1040] [(1056,bx (pm (An r4.1)))] (an (Dj p0 r1.1.parent r4 hr4) tv) ?_))
   refine Sq ?_
   refine Jn (ι := Bool) (fun (y1 : Bool) => Ao [(1,pI p1),(2,rr 1016),(43,pB y1)] [(1016,bx (pm (Aq p0)))]) (fun y1 => (Mr p0 p1) y1 = some RES) ?_ ?_
   ·intro y1 hm
    unfold Mr at hm
    refine Ag hm ?_ ?_
    ·intro h8 hm
     refine Sq (RK hnt (.no :: []) [(4,pI 3)] [] tv ?_)
     obtain rfl := sj hm
     exact DW.ret (Ak [] [] (pI 3))
    ·intro h8 hm
     refine Sk ?_
     obtain ⟨r9,hr9,hm⟩ := bo hm
     refine Sq (RD hnt (nn 2 (o49 [] true r9 :: .no :: [])) [1,43] [(9,ow 1368 r9.length)] [] [(1368,ob0 (roI r9))] (an (Mu p0 p1 r9 hr9) tv) ?_)
     refine Sq (Sq (RD hnt (.no :: []) [] [(10,pI 0)] [] [] tv ?_))
     refine Bk ?_
     obtain ⟨hc1,hm⟩ := go1 hm
     refine DW.rangeO (fun (k1 : Nat) (s1 : Unit) => Ao [(2,rr 1016),(9,ow 1368 r9.length),(10,pI ((k1 : Nat) : Int))] [(1016,bx (pm (Aq p0))),(1368,ob0 (roI r9))]) 0 hm Conv.eqK ?_
     intro k1 s1 n1 hk1 hs1 he1
     refine Sq (Sq (RD hnt (nn 4 []) [] [(50,pB (decide (((k1 : Nat) : Int) < ((r9.length : Nat) : Int))))] [] [] tv ?_))
     refine Cm (decide (((k1 : Nat) : Int) < ((r9.length : Nat) : Int))) ?_ ?_
     ·intro h20
      have hlt1 : k1 < r9.length := by have := of_decide_eq_true h20; omega
      have hm := hs1 hlt1
      unfold Aal at hm
      refine Sk ?_
      refine Sq (Bk ?_)
      obtain ⟨r21,hr21,hm⟩ := bo hm
      refine Sq (RD hnt (nn 5 (o43 [] true r21 :: nn 6 [])) [50] [(11,rr 1088)] [] [(1088,bx (pm (An r21.1)))] (an (nn0 k1) (an (ltc hlt1) (an (by omega : k1 < r9.length) (an (Dj p0 (r9.getD k1 0) r21 hr21) tv)))) ?_)
      refine Sq (RD hnt (nn 3 []) [11] [(64,pB (r21.1.kind == 1))] [1088] [] tv ?_)
      refine Ag hm ?_ ?_
      ·intro h22 hm
       refine Sq (RK hnt (.no :: []) [(4,pI 1)] [] tv ?_)
       obtain rfl := sj hm
       exact DW.ret (Ak [] [] (pI 1))
      ·intro h22 hm
       refine Sk ?_
       refine DW.done ?_
       show DW _ _ _ _ _
       refine RD hnt (nn 3 []) [64] [(10,pI (w64 (((k1 : Nat) : Int) + 1)))] [] [] tv ?_
       exact jD () ⟨hlt1,hm⟩ (Conv.tp [(10,pI (w64 (((k1 : Nat) : Int) + 1)))] [] (by kernel_rfl) (.cons rfl (.of_eq (congrArg pI (Br hlt1 hc1))) .nil) .nil)
     ·intro h20
      have hge1 : ¬ k1 < r9.length := by have := of_decide_eq_false h20; omega
      have hm := he1 hge1
      unfold Adx at hm
      refine DW.exit ?_
      refine Ar ?_
      refine Au ?_
      refine Ap ?_
      show DW _ _ _ _ _
      refine Sq (RK hnt (.no :: []) [(4,pI 0)] [] tv ?_)
      obtain rfl := sj hm
      exact DW.ret (Ak [] [] (pI 0))
   ·rcases bt r4.2 with h5 | h5
    ·replace hm := Bg h5 hm
     rcases bt (r4.1.kind == 1) with h6 | h6
     ·replace hm := Bg h6 hm
      refine RD hnt (nn 6 (sk 5 (pT :: pT :: []))) [7,8] [(43,pB true)] [1056] [] (an4 h5 (an5 h6 (an h5 (an h6 (an h5 tv))))) ?_
      exact jD true hm Conv.eqK
     ·replace hm := Bh h6 hm
      obtain ⟨r7,hr7,hm⟩ := bo hm
      refine RD hnt (nn 9 (.call 163 [] true (pI r7) [] [] :: .no :: pF :: pT :: [])) [7,8] [(43,pB (r7 == 3))] [1056] [] (an4 h5 (an4 h6 (an (ih p0 r4.1.id r7 hr7) (an h6 (an h5 (an h6 (an h5 tv))))))) ?_
      exact jD (r7 == 3) hm Conv.eqK
    ·replace hm := Bh h5 hm
     refine RD hnt (nn 2 (sk 10 (pF :: []))) [7,8] [(43,pB false)] [1056] [] (an6 h5 tv) ?_
     exact jD false hm Conv.eqK
theorem AaD : ∀ (n : Nat) (p0 : Ae) (p1 : Int) (RES : Int),Km n p0 p1 = some RES → Spec Tryz.prog 163 [.p (.agg (Aq p0)),pI p1] [] (pI RES) [] []
  | 0,p0,p1,RES,hm => by simp [Km] at hm
  | n + 1,p0,p1,RES,hm => AfP (Km n) (AaD n) p0 p1 RES hm
theorem Hp (p0 : Ae) (p1 : Int) (RES : Int) (hm : Mm p0 p1 = some RES) : Spec Tryz.prog 163 [.p (.agg (Aq p0)),pI p1] [] (pI RES) [] [] := AaD Ea p0 p1 RES hm
abbrev o63 (ks : List Nat) (b : Bool) (RES : Int) : Orc := .call 163 ks b (pI RES) [] []

abbrev Up (p0 : Aa) (k4 : Nat) := (p0.tree.nodes.getD k4 (default : Af))
abbrev c54e2 (p0 : Aa) : Nat × Obj := (1008,bx (pm (Ab p0)))
theorem Ma (p0 : Aa) (RES : Bool) (hm : Kr p0 = some RES) : Spec Tryz.prog 162 [.p (.agg (Ab p0))] [] (pB RES) [] [] := by
 unfold Kr at hm
 refine SO Tryz.func162 rfl rfl [(0,.p (.agg (Ab p0)))] [] ?_
 intro cx hnt
 refine Sq (RK hnt (nn 2 []) [(1,rr 1008)] [(c54e2 p0)] tv ?_)
 obtain ⟨r1,hr1,hm⟩ := bo hm
 refine Sq (Sq (RD hnt (.no :: o55 [] true r1 :: .no :: []) [] [(16,pB (!r1))] [] [] (an (Nj p0 r1 hr1) tv) ?_))
 refine Ag hm ?_ ?_
 ·intro h2 hm
  refine Sq (RK hnt (.no :: []) [(2,pB false)] [] tv ?_)
  obtain rfl := sj hm
  exact DW.ret (Ak [] [] (pB false))
 ·intro h2 hm
  refine Sk ?_
  refine Sq (Sq (RD hnt (.no :: []) [16] [(3,pI 0)] [] [] tv ?_))
  refine Bk ?_
  obtain ⟨hc1,hm⟩ := go1 hm
  refine DW.rangeO (fun (k1 : Nat) (s1 : Unit) => Ao [(1,rr 1008),(3,pI ((k1 : Nat) : Int))] [(c54e2 p0)]) Ba hm Conv.eqK ?_
  intro k1 s1 n1 hk1 hs1 he1
  refine Sq (Sq (RD hnt (nn 5 []) [] [(21,pB (decide (((k1 : Nat) : Int) < ((p0.tasks.length : Nat) : Int))))] [] [] tv ?_))
  refine Cm (decide (((k1 : Nat) : Int) < ((p0.tasks.length : Nat) : Int))) ?_ ?_
  ·intro h99
   have hlt1 : k1 < p0.tasks.length := by have := of_decide_eq_true h99; omega
   have hm := hs1 hlt1
   unfold Aar at hm
   refine Sk ?_
   refine Sq (Bk ?_)
   obtain ⟨r100,hr100,hm⟩ := bo hm
   refine Sq (RD hnt (nn 7 (o61 [] true r100 :: nn 6 [])) [21] [(4,rr 1032)] [] [(1032,bx (pm (Am r100.1)))] (an (nn0 k1) (an (ltc hlt1) (an (Jz p0 (p0.tasks.getD k1 (default : Aj)).process r100 hr100) tv))) ?_)
   obtain ⟨r101,hr101,hm⟩ := bo hm
   refine Sq (RD hnt (nn 8 (o62 [] true r101 :: nn 5 [])) [] [(6,pI r101.1)] [] [] (an (nn0 k1) (an (ltc hlt1) (an (Pe p0.tree (p0.tasks.getD k1 (default : Aj)).group r101 hr101) tv))) ?_)
   obtain ⟨r102,hr102,hm⟩ := bo hm
   refine Sq (RD hnt (nn 4 (o62 [] true r102 :: nn 5 [])) [4] [(8,pI r102.1)] [1032] [] (an (Pe p0.tree r100.1.group r102 hr102) tv) ?_)
   refine Sq (RD hnt (nn 3 []) [6,8] [(57,pB (r101.1 != r102.1))] [] [] tv ?_)
   refine Ag hm ?_ ?_
   ·intro h103 hm
    refine Sq (RK hnt (.no :: []) [(2,pB false)] [] tv ?_)
    obtain rfl := sj hm
    exact DW.ret (Ak [] [] (pB false))
   ·intro h103 hm
    refine Sk ?_
    refine DW.done ?_
    show DW _ _ _ _ _
    refine RD hnt (nn 3 []) [57] [(3,pI (w64 (((k1 : Nat) : Int) + 1)))] [] [] tv ?_
    exact jD () ⟨hlt1,hm⟩ (Conv.tp [(3,pI (w64 (((k1 : Nat) : Int) + 1)))] [] (by kernel_rfl) (.cons rfl (.of_eq (congrArg pI (Br hlt1 hc1))) .nil) .nil)
  ·intro h99
   have hge1 : ¬ k1 < p0.tasks.length := by have := of_decide_eq_false h99; omega
   have hm := he1 hge1
   unfold Aab at hm
   refine DW.exit ?_
   refine Ar ?_
   refine Au ?_
   refine Ap ?_
   show DW _ _ _ _ _
   refine Sq (Sq (RD hnt (.no :: []) [3,21] [(10,pI 0)] [] [] tv ?_))
   refine Bk ?_
   obtain ⟨hc4,hm⟩ := go1 hm
   refine DW.rangeO (fun (k4 : Nat) (s4 : Unit) => Ao [(1,rr 1008),(10,pI ((k4 : Nat) : Int))] [(c54e2 p0)]) Aw hm Conv.eqK ?_
   intro k4 s4 n4 hk4 hs4 he4
   refine Sq (Sq (RD hnt (nn 6 []) [] [(63,pB (decide (((k4 : Nat) : Int) < ((p0.tree.nodes.length : Nat) : Int))))] [] [] tv ?_))
   refine Cm (decide (((k4 : Nat) : Int) < ((p0.tree.nodes.length : Nat) : Int))) ?_ ?_
   ·intro h132
    have hlt4 : k4 < p0.tree.nodes.length := by have := of_decide_eq_true h132; omega
    have hm := hs4 hlt4
    unfold Aaq at hm
    refine Sk ?_
    refine Sq (Bk ?_)
    refine Sq (RD hnt (nn 8 []) [63] [(11,rr 1088)] [] [(1088,bx (pm (An (Up p0 k4))))] (an (nn0 k4) (an (ltc hlt4) tv)) ?_)
    obtain ⟨r133,hr133,hm⟩ := bo hm
    refine Sq (RD hnt (nn 4 (o43 [] true r133 :: nn 6 [])) [] [(12,rr 1096)] [] [(1096,bx (pm (An r133.1)))] (an (Dj p0.tree (Up p0 k4).parent r133 hr133) tv) ?_)
    obtain ⟨r134,hr134,hm⟩ := bo hm
    refine Sq (Sq ?_)
    refine Jn (ι := Bool) (fun (y17 : Bool) => Ao [(1,rr 1008),(10,pI ((k4 : Nat) : Int)),(11,rr 1088),(12,rr 1096),(98,pB y17)] [(c54e2 p0),(1088,bx (pm (An (Up p0 k4)))),(1096,bx (pm (An r133.1)))]) (fun y17 => (Lg p0 (Up p0 k4) n4 r133) y17 = some RES) ?_ ?_
    ·intro y17 hm
     unfold Lg at hm
     refine Ag hm ?_ ?_
     ·intro h138 hm
      refine Sq (RK hnt (.no :: []) [(2,pB false)] [] tv ?_)
      obtain rfl := sj hm
      exact DW.ret (Ak [] [] (pB false))
     ·intro h138 hm
      refine Sk ?_
      refine Sq ?_
      refine Jn (ι := Bool) (fun (y18 : Bool) => Ao [(1,rr 1008),(10,pI ((k4 : Nat) : Int)),(120,pB y18)] [(c54e2 p0)]) (fun y18 => (Jq n4) y18 = some RES) ?_ ?_
      ·intro y18 hm
       unfold Jq at hm
       refine Ag hm ?_ ?_
       ·intro h144 hm
        refine Sq (RK hnt (.no :: []) [(2,pB false)] [] tv ?_)
        obtain rfl := sj hm
        exact DW.ret (Ak [] [] (pB false))
       ·intro h144 hm
        refine Sk ?_
        refine DW.done ?_
        show DW _ _ _ _ _
        refine RD hnt (nn 3 []) [120] [(10,pI (w64 (((k4 : Nat) : Int) + 1)))] [] [] tv ?_
        exact jD () ⟨hlt4,hm⟩ (Conv.tp [(10,pI (w64 (((k4 : Nat) : Int) + 1)))] [] (by kernel_rfl) (.cons rfl (.of_eq (congrArg pI (Br hlt4 hc4))) .nil) .nil)
      ·rcases bt ((Up p0 k4).kind == 1) with h139 | h139
       ·replace hm := Bg h139 hm
        rcases bt (r133.1.id != 1) with h140 | h140
        ·replace hm := Bg h140 hm
         rcases bt ((kand .i64 r133.1.control 6) != 0) with h141 | h141
         ·replace hm := Bg h141 hm
          refine RD hnt (nn 12 (pT :: .no :: sk 6 (pT :: pT :: []))) [11,12,98] [(120,pB true)] [1088,1096] [] (an4 h139 (an4 h140 (an h139 (an h140 (an h139 (an6 h141 (an h139 (an h141 (an h139 tv))))))))) ?_
          exact jD true hm Conv.eqK
         ·replace hm := Bh h141 hm
          obtain ⟨r142,hr142,hm⟩ := bo hm
          refine RD hnt (nn 12 (pT :: nn 5 (o63 [] true r142 :: .no :: pF :: pT :: []))) [11,12,98] [(120,pB (r142 == 3))] [1088,1096] [] (an4 h139 (an4 h140 (an h139 (an h140 (an h139 (an5 h141 (an (Hp p0.tree r133.1.id r142 hr142) (an h141 (an h139 (an h141 (an h139 tv))))))))))) ?_
          exact jD (r142 == 3) hm Conv.eqK
        ·replace hm := Bh h140 hm
         obtain ⟨r143,hr143,hm⟩ := bo hm
         refine RD hnt (nn 8 (sk 4 (pF :: nn 5 (o63 [] true r143 :: .no :: pF :: pT :: [])))) [11,12,98] [(120,pB (r143 == 3))] [1088,1096] [] (an4 h139 (an4 h140 (an h139 (an h140 (an h139 (an5 ff (an (Hp p0.tree r133.1.id r143 hr143) (an ff (an h139 (an ff (an h139 tv))))))))))) ?_
         exact jD (r143 == 3) hm Conv.eqK
       ·replace hm := Bh h139 hm
        refine RD hnt (nn 4 (sk 17 (pF :: []))) [11,12,98] [(120,pB false)] [1088,1096] [] (an2 h139 (an6 h139 tv)) ?_
        exact jD false hm Conv.eqK
    ·rcases bt (r134 == 3) with h135 | h135
     ·replace hm := Bg h135 hm
      rcases bt ((Up p0 k4).control != 0) with h136 | h136
      ·replace hm := Bg h136 hm
       refine RD hnt (nn 4 (o63 [] true r134 :: nn 6 (sk 6 (pT :: pT :: [])))) [] [(98,pB true)] [] [] (an (Hp p0.tree (Up p0 k4).id r134 hr134) (an4 h135 (an6 h136 (an h135 (an h136 (an h135 tv)))))) ?_
       exact jD true hm Conv.eqK
      ·replace hm := Bh h136 hm
       obtain ⟨r137,hr137,hm⟩ := bo hm
       refine RD hnt (nn 4 (o63 [] true r134 :: nn 9 (o60 [] true r137 :: nn 2 (pF :: pT :: [])))) [] [(98,pB (decide (((r137.length : Nat) : Int) > 0)))] [] [] (an (Hp p0.tree (Up p0 k4).id r134 hr134) (an4 h135 (an4 h136 (an (Fg p0 (Up p0 k4).id r137 hr137) (an2 h136 (an h135 (an h136 (an h135 tv)))))))) ?_
       exact jD (decide (((r137.length : Nat) : Int) > 0)) hm Conv.eqK
     ·replace hm := Bh h135 hm
      refine RD hnt (nn 4 (o63 [] true r134 :: nn 2 (sk 11 (pF :: [])))) [] [(98,pB false)] [] [] (an (Hp p0.tree (Up p0 k4).id r134 hr134) (an6 h135 tv)) ?_
      exact jD false hm Conv.eqK
   ·intro h132
    have hge4 : ¬ k4 < p0.tree.nodes.length := by have := of_decide_eq_false h132; omega
    have hm := he4 hge4
    unfold Adm at hm
    refine DW.exit ?_
    refine Ar ?_
    refine Au ?_
    refine Ap ?_
    show DW _ _ _ _ _
    refine Sq (RK hnt (.no :: []) [(2,pB true)] [] tv ?_)
    obtain rfl := sj hm
    exact DW.ret (Ak [] [] (pB true))
abbrev o54 (ks : List Nat) (b : Bool) (RES : Bool) : Orc := .call 162 ks b (pB RES) [] []

theorem Pr (p0 : Int) (RES : Bool) (hm : Ye p0 = some RES) : Spec Tryz.prog 234 [pI p0] [] (pB RES) [] [] := by
 unfold Ye at hm
 refine SO Tryz.func234 rfl rfl [(0,pI p0)] [] ?_
 intro cx hnt
 refine Sq (RK hnt (.no :: []) [(0,pI p0)] [] tv ?_)
 refine Sq (DW.regJ (sl2 := [(2,pB ((decide (p0 ≥ 0)) && (decide (p0 ≤ 31))))]) (ob2 := []) ?_ ?_)
 ·rcases bt (decide (p0 ≥ 0)) with h1 | h1
  ·exact RT hnt (nn 5 (pT :: .no :: [])) [(2,pB (decide (p0 ≤ 31)))] (an3 h1 tv) (by kernel_rfl) (.cons rfl (.of_eq (by rw [h1]; try rfl)) .nil)
  ·exact RT hnt (nn 3 (sk 2 (pF :: .no :: []))) [(2,pB false)] (an3 h1 tv) (by kernel_rfl) (.cons rfl (.of_eq (by rw [h1]; try rfl)) .nil)
 ·refine DW.ret ?_
  obtain rfl := sj hm
  exact Ak [] [] (pB ((decide (p0 ≥ 0)) && (decide (p0 ≤ 31))))
abbrev o65 (ks : List Nat) (b : Bool) (RES : Bool) : Orc := .call 234 ks b (pB RES) [] []

theorem Ly (p0 : Aa) (RES : Aa) (hm : Mi p0 = some RES) : Spec Tryz.prog 88 [.p (.agg (Ab p0))] [] (.agg [ow 0 RES.tree.nodes.length,pI RES.tree.next,ow 1 RES.tasks.length,pI RES.next]) [] [Ac RES.tree.nodes,Ai RES.tasks] := by
 unfold Mi at hm
 refine SO Tryz.func88 rfl rfl [(0,.p (.agg (Ab p0)))] [] ?_
 intro cx hnt
 refine Sq (RK hnt (nn 2 []) [(1,rr 1008),(2,rr 1016)] [(1008,bx (pm (Ab p0))),(1016,bx [.p (.sl .nil 0 0 (fun _ => [])),pI 0,.p (.sl .nil 0 0 (fun _ => [])),pI 0])] tv ?_)
 obtain ⟨r1,hr1,hm⟩ := bo hm
 obtain ⟨g2,hm⟩ := go1 hm
 refine Sq (RN hnt (nn 2 (o46 [] true r1 :: nn 7 [])) [(2,rr 1016)] [(1016,bx [ow 1040 r1.nodes.length,pI r1.next,ow 1064 p0.tasks.length,pI p0.next]),(1040,ob0 (Ac r1.nodes)),(1064,ob0 (Ai p0.tasks))] [] [(1064,.row 4 p0.tasks.length (Dy p0.tasks))] (an (Rn p0.tree r1 hr1) (an (by omega : p0.tasks.length * 32 ≤ 140737488355328) tv)) (by kernel_rfl) .nil (.cons rfl (BLe.typed RowIs.elems) .nil) ?_)
 obtain rfl := sj hm
 exact DW.ret (Ak [Ac r1.nodes,Ai p0.tasks] [1040,1064] (.agg [ow 0 r1.nodes.length,pI r1.next,ow 1 p0.tasks.length,pI p0.next]))
abbrev o66 (ks : List Nat) (b : Bool) (RES : Aa) : Orc := .call 88 ks b (.agg [ow 0 RES.tree.nodes.length,pI RES.tree.next,ow 1 RES.tasks.length,pI RES.next]) [] [Ac RES.tree.nodes,Ai RES.tasks]

abbrev c67e1 : Nat × Obj := (1032,bx [.p (.sl .nil 0 0 (fun _ => [])),pI 0])
abbrev c67e2 (s1 : (List Af) × Int) (p1 : Af) := (Bj (Fz s1.1) (Int.toNat s1.2) [vi p1.id,vi p1.parent,vs p1.name,vi p1.control,vi p1.kind,vi p1.owner])
theorem Xs (p0 : Ae) (p1 : Af) (RES : Ae) (hm : Ry p0 p1 = some RES) : Spec Tryz.prog 161 [.p (.agg (Aq p0)),.p (.agg (An p1))] [] (.agg [ow 0 RES.nodes.length,pI RES.next]) [] [Ac RES.nodes] := by
 unfold Ry at hm
 refine SO Tryz.func161 rfl rfl [(0,.p (.agg (Aq p0))),(1,.p (.agg (An p1)))] [] ?_
 intro cx hnt
 refine Sq (RK hnt (nn 3 []) [(2,rr 1016),(3,rr 1024),(4,rr 1032)] [(1016,bx (pm (Aq p0))),(1024,bx (pm (An p1))),(c67e1)] tv ?_)
 obtain ⟨r1,hr1,hm⟩ := bo hm
 refine Sq (RD hnt (.no :: o46 [] true r1 :: nn 2 []) [2] [(5,rr 1040)] [1016] [(1040,bx [ow 1064 r1.nodes.length,pI r1.next]),(1064,ob0 (Ac r1.nodes))] (an (Rn p0 r1 hr1) tv) ?_)
 refine Sq (Sq (RD hnt (.no :: []) [] [(6,pI 0)] [] [] tv ?_))
 refine Bk ?_
 refine DW.whileO (fun (s1 : (List Af) × Int) => Ao [(3,rr 1024),(4,rr 1032),(5,rr 1040),(6,pI s1.2)] [(1024,bx (pm (An p1))),(c67e1),(1040,bx [ow 1064 s1.1.length,pI r1.next]),(1064,ob0 (Ac s1.1))]) hm Conv.eqK ?_
 intro s1 n1 hm
 unfold Abg at hm
 refine Sq (Sq (RD hnt (nn 5 []) [] [(13,pB (decide (s1.2 < ((s1.1.length : Nat) : Int))))] [] [] tv ?_))
 refine Ag hm ?_ ?_
 ·intro h8 hm
  refine Sk ?_
  refine Sq ?_
  refine Jn (ι := List Af) (fun (y2 : List Af) => Ao [(3,rr 1024),(4,rr 1032),(5,rr 1040),(6,pI s1.2)] [(1024,bx (pm (An p1))),(c67e1),(1040,bx [ow 1064 y2.length,pI r1.next]),(1064,ob0 (Ac y2))]) (fun y2 => (Sh s1 n1) y2 = some RES) ?_ ?_
  ·intro y2 hm
   unfold Sh at hm
   refine RD hnt (nn 3 []) [] [(6,pI (w64 (s1.2 + 1)))] [] [] tv ?_
   exact jD (y2,(w64 (s1.2 + 1))) hm Conv.eqK
  ·refine Bk ?_
   obtain ⟨g9,g10,hm⟩ := go2 hm
   refine Sq (RD hnt (nn 9 []) [13] [(24,pB ((s1.1.getD (Int.toNat s1.2) Aw).id == p1.id))] [] [] (an g9.1 (an g9.2 (an g10 tv))) ?_)
   refine Ag hm ?_ ?_
   ·intro h11 hm
    obtain ⟨g12,g13,hm⟩ := go2 hm
    refine RN hnt (nn 6 []) [(3,rr 1024),(4,rr 1032),(5,rr 1040),(6,pI s1.2)] [(1024,bx (pm (An p1))),(c67e1),(1040,bx [ow 1064 (s1.1.set (Int.toNat s1.2) p1).length,pI r1.next]),(1064,ob0 (Ac (s1.1.set (Int.toNat s1.2) p1)))] [] [(1040,.box [ow 1064 s1.1.length,pI r1.next]),(1064,.row 6 s1.1.length (c67e2 s1 p1))] (an g12.1 (an g12.2 (an g13 tv))) (by kernel_rfl) .nil (.cons rfl (.box (.cons (MLe.ownLen (enc := An) (d := Aw) (f := (c67e2 s1 p1)) (RowIs.upd RowIs.elems p1 rfl)) (.cons .rfl .nil))) (.cons rfl (BLe.typed (RowIs.upd RowIs.elems p1 rfl)) .nil)) ?_
    exact bD (s1.1.set (Int.toNat s1.2) p1) hm .refl
   ·intro h11 hm
    refine Sk ?_
    exact bD s1.1 hm Conv.t0
 ·intro h8 hm
  refine DW.exit ?_
  refine Ar ?_
  refine Au ?_
  refine Ap ?_
  show DW _ _ _ _ _
  refine Sq (RD hnt (nn 2 []) [3,5,6,13] [] [1024,1040] [(1032,bx [ow 1064 s1.1.length,pI r1.next])] tv ?_)
  obtain rfl := sj hm
  exact DW.ret (Ak [Ac s1.1] [1064] (.agg [ow 0 s1.1.length,pI r1.next]))
abbrev o67 (ks : List Nat) (b : Bool) (RES : Ae) : Orc := .call 161 ks b (.agg [ow 0 RES.nodes.length,pI RES.next]) [] [Ac RES.nodes]

abbrev c64e1 : Nat × Obj := (1064,bx [.p (.sl .nil 0 0 (fun _ => [])),pI 0,.p (.sl .nil 0 0 (fun _ => [])),pI 0])
abbrev c64e2 : Nat × Obj := (1064,bx [ow 100000 0,pI 0,ow 100001 0,pI 0])
abbrev c64e3 (r8 : Af × Bool) (p3 : Int) (p2 : Int) : Nat × Obj := (1080,bx [pI r8.1.id,pI r8.1.parent,pS r8.1.name,pI (kor .i64 (Ej .i64 r8.1.control p3) p2),pI r8.1.kind,pI r8.1.owner])
theorem Afp (p0 : Aa) (p1 : Int) (p2 : Int) (p3 : Int) (RES : Aa × Int) (hm : Sm p0 p1 p2 p3 = some RES) : Spec Tryz.prog 208 [.p (.agg (Ab p0)),pI p1,pI p2,pI p3] [] (.tup [.agg [ow 0 RES.1.tree.nodes.length,pI RES.1.tree.next,ow 1 RES.1.tasks.length,pI RES.1.next],pI RES.2]) [] [Ac RES.1.tree.nodes,Ai RES.1.tasks] := by
 unfold Sm at hm
 refine SO Tryz.func208 rfl rfl [(0,.p (.agg (Ab p0))),(1,pI p1),(2,pI p2),(3,pI p3)] [] ?_
 intro cx hnt
 refine Sq (RD hnt (nn 3 []) [0] [(4,rr 1032),(8,rr 1064)] [] [(1032,bx (pm (Ab p0))),(c64e1)] tv ?_)
 obtain ⟨r1,hr1,hm⟩ := bo hm
 refine Sq (Sq ?_)
 refine Jn (ι := Bool) (fun (y1 : Bool) => Ao [(1,pI p1),(2,pI p2),(3,pI p3),(4,rr 1032),(8,rr 1064),(37,pB y1)] [(1032,bx (pm (Ab p0))),(c64e1)]) (fun y1 => (Ig p0 p1 p2 p3) y1 = some RES) ?_ ?_
 ·intro y1 hm
  unfold Ig at hm
  refine Ag hm ?_ ?_
  ·intro h7 hm
   refine Sq (RD hnt (nn 3 []) [1,2,3,4,37] [(9,pI 1)] [1032] [] tv ?_)
   refine DW.cv [] [] [] [(c64e2),(100000,ob0 (Ac [])),(100001,ob0 (Ai []))] (Conv.ads [(.o 1064 0,100000,6,elems An Aw []),(.o 1064 2,100001,4,elems Am Ba [])]) ?_
   obtain rfl := sj hm
   exact DW.ret (Ak [Ac [],Ai []] [100000,100001] (.tup [.agg [ow 0 0,pI 0,ow 1 0,pI 0],pI 1]))
  ·intro h7 hm
   refine Sk ?_
   obtain ⟨r8,hr8,hm⟩ := bo hm
   refine Sq (RD hnt (nn 3 (o43 [] true r8 :: nn 6 [])) [37] [(10,rr 1080),(11,pB r8.2)] [] [(1080,bx (pm (An r8.1)))] (an (Dj p0.tree p1 r8 hr8) tv) ?_)
   refine Sq (Sq (RD hnt (nn 2 []) [11] [(47,pB (!r8.2))] [] [] tv ?_))
   refine Ag hm ?_ ?_
   ·intro h9 hm
    refine Sq (RD hnt (nn 3 []) [1,2,3,4,10,47] [(9,pI 4)] [1032,1080] [] tv ?_)
    refine DW.cv [] [] [] [(c64e2),(100000,ob0 (Ac [])),(100001,ob0 (Ai []))] (Conv.ads [(.o 1064 0,100000,6,elems An Aw []),(.o 1064 2,100001,4,elems Am Ba [])]) ?_
    obtain rfl := sj hm
    exact DW.ret (Ak [Ac [],Ai []] [100000,100001] (.tup [.agg [ow 0 0,pI 0,ow 1 0,pI 0],pI 4]))
   ·intro h9 hm
    refine Sk ?_
    obtain ⟨r10,hr10,hm⟩ := bo hm
    refine Sq (Sq (RD hnt (nn 4 (o58 [] true r10 :: nn 2 [])) [47] [(55,pB ((Ej .i64 p2 r10) != 0))] [] [] (an (Jt p0.tree p1 r10 hr10) tv) ?_))
    refine Ag hm ?_ ?_
    ·intro h11 hm
     refine Sq (RD hnt (nn 3 []) [1,2,3,4,10,55] [(9,pI 9)] [1032,1080] [] tv ?_)
     refine DW.cv [] [] [] [(c64e2),(100000,ob0 (Ac [])),(100001,ob0 (Ai []))] (Conv.ads [(.o 1064 0,100000,6,elems An Aw []),(.o 1064 2,100001,4,elems Am Ba [])]) ?_
     obtain rfl := sj hm
     exact DW.ret (Ak [Ac [],Ai []] [100000,100001] (.tup [.agg [ow 0 0,pI 0,ow 1 0,pI 0],pI 9]))
    ·intro h11 hm
     refine Sk ?_
     obtain ⟨r12,hr12,hm⟩ := bo hm
     refine Sq (RD hnt (nn 3 (o49 [] true r12 :: .no :: [])) [55] [(12,ow 1480 r12.length)] [] [(1480,ob0 (roI r12))] (an (Mu p0.tree p1 r12 hr12) tv) ?_)
     refine Sq (Sq (RD hnt (.no :: []) [] [(13,pI 0)] [] [] tv ?_))
     refine Bk ?_
     obtain ⟨hc1,hm⟩ := go1 hm
     refine DW.rangeO (fun (k1 : Nat) (s1 : Unit) => Ao [(1,pI p1),(2,pI p2),(3,pI p3),(4,rr 1032),(8,rr 1064),(10,rr 1080),(12,ow 1480 r12.length),(13,pI ((k1 : Nat) : Int))] [(1032,bx (pm (Ab p0))),(c64e1),(1080,bx (pm (An r8.1))),(1480,ob0 (roI r12))]) 0 hm Conv.eqK ?_
     intro k1 s1 n1 hk1 hs1 he1
     refine Sq (Sq (RD hnt (nn 4 []) [] [(64,pB (decide (((k1 : Nat) : Int) < ((r12.length : Nat) : Int))))] [] [] tv ?_))
     refine Cm (decide (((k1 : Nat) : Int) < ((r12.length : Nat) : Int))) ?_ ?_
     ·intro h35
      have hlt1 : k1 < r12.length := by have := of_decide_eq_true h35; omega
      have hm := hs1 hlt1
      unfold Xd at hm
      refine Sk ?_
      refine Sq (Bk ?_)
      obtain ⟨r36,hr36,hm⟩ := bo hm
      refine Sq (RD hnt (nn 6 (o43 [] true r36 :: nn 6 [])) [64] [(14,rr 1112)] [] [(1112,bx (pm (An r36.1)))] (an (nn0 k1) (an (ltc hlt1) (an (by omega : k1 < r12.length) (an (Dj p0.tree (r12.getD k1 0) r36 hr36) tv)))) ?_)
      refine Sq (RD hnt (nn 5 []) [14] [(81,pB ((kand .i64 r36.1.control p3) != 0))] [1112] [] tv ?_)
      refine Ag hm ?_ ?_
      ·intro h37 hm
       refine Sq (RD hnt (nn 3 []) [1,2,3,4,10,12,13,81] [(9,pI 9)] [1032,1080,1480] [] tv ?_)
       refine DW.cv [] [] [] [(c64e2),(100000,ob0 (Ac [])),(100001,ob0 (Ai []))] (Conv.ads [(.o 1064 0,100000,6,elems An Aw []),(.o 1064 2,100001,4,elems Am Ba [])]) ?_
       obtain rfl := sj hm
       exact DW.ret (Ak [Ac [],Ai []] [100000,100001] (.tup [.agg [ow 0 0,pI 0,ow 1 0,pI 0],pI 9]))
      ·intro h37 hm
       refine Sk ?_
       refine DW.done ?_
       show DW _ _ _ _ _
       refine RD hnt (nn 3 []) [81] [(13,pI (w64 (((k1 : Nat) : Int) + 1)))] [] [] tv ?_
       exact jD () ⟨hlt1,hm⟩ (Conv.tp [(13,pI (w64 (((k1 : Nat) : Int) + 1)))] [] (by kernel_rfl) (.cons rfl (.of_eq (congrArg pI (Br hlt1 hc1))) .nil) .nil)
     ·intro h35
      have hge1 : ¬ k1 < r12.length := by have := of_decide_eq_false h35; omega
      have hm := he1 hge1
      unfold Yy at hm
      refine DW.exit ?_
      refine Ar ?_
      refine Au ?_
      refine Ap ?_
      show DW _ _ _ _ _
      refine Sq (RD hnt (nn 3 []) [12,13,64] [(16,pI r8.1.control)] [1480] [] tv ?_)
      refine Sq (RD hnt (nn 7 []) [2,3] [] [] [(c64e3 r8 p3 p2)] tv ?_)
      refine Sq (Sq (RD hnt (nn 4 []) [] [(17,pI (kand .i64 (kor .i64 (Ej .i64 r8.1.control p3) p2) 6))] [] [] tv ?_))
      refine Sq ?_
      refine Jn (ι := Bool) (fun (y4 : Bool) => Ao [(4,rr 1032),(8,rr 1064),(10,rr 1080),(108,pB y4)] [(1032,bx (pm (Ab p0))),(c64e1),(c64e3 r8 p3 p2)]) (fun y4 => (Lr p0 p2 p3 r8) y4 = some RES) ?_ ?_
      ·intro y4 hm
       unfold Lr at hm
       refine Ag hm ?_ ?_
       ·intro h41 hm
        refine Sq (RD hnt (nn 3 []) [4,10,108] [(9,pI 6)] [1032,1080] [] tv ?_)
        refine DW.cv [] [] [] [(c64e2),(100000,ob0 (Ac [])),(100001,ob0 (Ai []))] (Conv.ads [(.o 1064 0,100000,6,elems An Aw []),(.o 1064 2,100001,4,elems Am Ba [])]) ?_
        obtain rfl := sj hm
        exact DW.ret (Ak [Ac [],Ai []] [100000,100001] (.tup [.agg [ow 0 0,pI 0,ow 1 0,pI 0],pI 6]))
       ·intro h41 hm
        refine Sk ?_
        obtain ⟨r42,hr42,hm⟩ := bo hm
        refine Sq (RD hnt (.no :: o66 [] true r42 :: nn 2 []) [108] [(18,rr 1144)] [] [(1144,bx [ow 1888 r42.tree.nodes.length,pI r42.tree.next,ow 1889 r42.tasks.length,pI r42.next]),(1888,ob0 (Ac r42.tree.nodes)),(1889,ob0 (Ai r42.tasks))] (an (Ly p0 r42 hr42) tv) ?_)
        obtain ⟨r43,hr43,hm⟩ := bo hm
        refine Sq (RD hnt (nn 3 (o67 [] true r43 :: nn 2 [])) [4,10] [] [1032,1080,1888] [(1144,bx [ow 1920 r43.nodes.length,pI r43.next,ow 1889 r42.tasks.length,pI r42.next]),(1920,ob0 (Ac r43.nodes))] (an (Xs p0.tree ({ id := r8.1.id,parent := r8.1.parent,name := r8.1.name,control := (kor .i64 (Ej .i64 r8.1.control p3) p2),kind := r8.1.kind,owner := r8.1.owner } : Af) r43 hr43) tv) ?_)
        refine Sq (RD hnt (nn 3 []) [18] [(9,pI 0)] [1144] [(1064,bx [ow 1920 r43.nodes.length,pI r43.next,ow 1889 r42.tasks.length,pI r42.next])] tv ?_)
        obtain rfl := sj hm
        exact DW.ret (Ak [Ac r43.nodes,Ai r42.tasks] [1920,1889] (.tup [.agg [ow 0 r43.nodes.length,pI r43.next,ow 1 r42.tasks.length,pI r42.next],pI 0]))
      ·rcases bt ((Ej .i64 (kand .i64 (kor .i64 (Ej .i64 r8.1.control p3) p2) 6) r8.1.control) != 0) with h38 | h38
       ·replace hm := Bg h38 hm
        rcases bt (p1 != 1) with h39 | h39
        ·replace hm := Bg h39 hm
         obtain ⟨r40,hr40,hm⟩ := bo hm
         refine RD hnt (nn 7 (pT :: nn 3 (o60 [] true r40 :: nn 2 (pT :: [])))) [1,16,17] [(108,pB (decide (((r40.length : Nat) : Int) > 0)))] [] [] (an3 h38 (an3 h39 (an (Fg p0 p1 r40 hr40) (an3 h39 tv)))) ?_
         exact jD (decide (((r40.length : Nat) : Int) > 0)) hm Conv.eqK
        ·replace hm := Bh h39 hm
         refine RD hnt (nn 7 (pT :: .no :: sk 5 (pF :: []))) [1,16,17] [(108,pB false)] [] [] (an3 h38 (an6 h39 tv)) ?_
         exact jD false hm Conv.eqK
       ·replace hm := Bh h38 hm
        refine RD hnt (nn 5 (sk 2 (pF :: .no :: sk 5 (pF :: [])))) [1,16,17] [(108,pB false)] [] [] (an3 h38 (an6 ff tv)) ?_
        exact jD false hm Conv.eqK
 ·rcases bt (!r1) with h2 | h2
  ·replace hm := Bg h2 hm
   refine RD hnt (.no :: o55 [] true r1 :: nn 2 (sk 3 (pT :: .no :: sk 3 (pT :: .no :: sk 4 (pT :: []))))) [] [(37,pB true)] [] [] (an (Nj p0 r1 hr1) (an4 h2 (an3 tt (an6 tt tv)))) ?_
   exact jD true hm Conv.eqK
  ·replace hm := Bh h2 hm
   obtain ⟨r3,hr3,hm⟩ := bo hm
   rcases bt (!r3) with h4 | h4
   ·replace hm := Bg h4 hm
    refine RD hnt (.no :: o55 [] true r1 :: nn 3 (o65 [] true r3 :: .no :: pF :: .no :: sk 3 (pT :: .no :: sk 4 (pT :: [])))) [] [(37,pB true)] [] [] (an (Nj p0 r1 hr1) (an2 h2 (an (Pr p2 r3 hr3) (an2 h2 (an4 h4 (an5 tt tv)))))) ?_
    exact jD true hm Conv.eqK
   ·replace hm := Bh h4 hm
    obtain ⟨r5,hr5,hm⟩ := bo hm
    rcases bt (!r5) with h6 | h6
    ·replace hm := Bg h6 hm
     refine RD hnt (.no :: o55 [] true r1 :: nn 3 (o65 [] true r3 :: .no :: pF :: nn 2 (o65 [] true r5 :: .no :: pF :: .no :: sk 4 (pT :: [])))) [] [(37,pB true)] [] [] (an (Nj p0 r1 hr1) (an2 h2 (an (Pr p2 r3 hr3) (an2 h2 (an2 h4 (an (Pr p3 r5 hr5) (an2 h4 (an5 h6 tv)))))))) ?_
     exact jD true hm Conv.eqK
    ·replace hm := Bh h6 hm
     refine RD hnt (.no :: o55 [] true r1 :: nn 3 (o65 [] true r3 :: .no :: pF :: nn 2 (o65 [] true r5 :: .no :: pF :: nn 5 (pF :: [])))) [] [(37,pB ((kand .i64 p2 p3) != 0))] [] [] (an (Nj p0 r1 hr1) (an2 h2 (an (Pr p2 r3 hr3) (an2 h2 (an2 h4 (an (Pr p3 r5 hr5) (an2 h4 (an5 h6 tv)))))))) ?_
     exact jD ((kand .i64 p2 p3) != 0) hm Conv.eqK
abbrev o64 (ks : List Nat) (b : Bool) (RES : Aa × Int) : Orc := .call 208 ks b (.tup [.agg [ow 0 RES.1.tree.nodes.length,pI RES.1.tree.next,ow 1 RES.1.tasks.length,pI RES.1.next],pI RES.2]) [] [Ac RES.1.tree.nodes,Ai RES.1.tasks]

abbrev c53e1 : Nat × Obj := (1064,bx [ow 100000 0,pI 0,ow 100001 0,pI 0])
theorem AeH (p0 : Aa) (p1 : Int) (p2 : Int) (p3 : Int) (RES : Aa × Int) (hm : Qy p0 p1 p2 p3 = some RES) : Spec Tryz.prog 159 [.p (.agg (Ab p0)),pI p1,pI p2,pI p3] [] (.tup [.agg [ow 0 RES.1.tree.nodes.length,pI RES.1.tree.next,ow 1 RES.1.tasks.length,pI RES.1.next],pI RES.2]) [] [Ac RES.1.tree.nodes,Ai RES.1.tasks] := by
 unfold Qy at hm
 refine SO Tryz.func159 rfl rfl [(0,.p (.agg (Ab p0))),(1,pI p1),(2,pI p2),(3,pI p3)] [] ?_
 intro cx hnt
 refine Sq (RD hnt (nn 3 []) [0] [(4,rr 1032),(8,rr 1064)] [] [(1032,bx (pm (Ab p0))),(1064,bx [.p (.sl .nil 0 0 (fun _ => [])),pI 0,.p (.sl .nil 0 0 (fun _ => [])),pI 0])] tv ?_)
 obtain ⟨r1,hr1,hm⟩ := bo hm
 refine Sq (Sq (RD hnt (.no :: o54 [] true r1 :: .no :: []) [] [(14,pB (!r1))] [] [] (an (Ma p0 r1 hr1) tv) ?_))
 refine Ag hm ?_ ?_
 ·intro h2 hm
  refine Sq (RD hnt (nn 3 []) [1,2,3,4,14] [(9,pI 1)] [1032] [] tv ?_)
  refine DW.cv [] [] [] [(c53e1),(100000,ob0 (Ac [])),(100001,ob0 (Ai []))] (Conv.ads [(.o 1064 0,100000,6,elems An Aw []),(.o 1064 2,100001,4,elems Am Ba [])]) ?_
  obtain rfl := sj hm
  exact DW.ret (Ak [Ac [],Ai []] [100000,100001] (.tup [.agg [ow 0 0,pI 0,ow 1 0,pI 0],pI 1]))
 ·intro h2 hm
  refine Sk ?_
  obtain ⟨r3,hr3,hm⟩ := bo hm
  refine Sq (RD hnt (nn 4 (o64 [] true r3 :: nn 6 [])) [1,2,3,4,14] [(10,rr 1080),(11,pI r3.2)] [1032] [(1080,bx [ow 1168 r3.1.tree.nodes.length,pI r3.1.tree.next,ow 1169 r3.1.tasks.length,pI r3.1.next]),(1168,ob0 (Ac r3.1.tree.nodes)),(1169,ob0 (Ai r3.1.tasks))] (an (Afp p0 p1 p2 p3 r3 hr3) tv) ?_)
  refine Sq (Sq (RD hnt (nn 2 []) [] [(25,pB (r3.2 != 0))] [] [] tv ?_))
  refine Ag hm ?_ ?_
  ·intro h4 hm
   refine Sq (RD hnt (nn 4 []) [10,11,25] [(9,pI r3.2)] [1080,1168,1169] [] tv ?_)
   refine DW.cv [] [] [] [(c53e1),(100000,ob0 (Ac [])),(100001,ob0 (Ai []))] (Conv.ads [(.o 1064 0,100000,6,elems An Aw []),(.o 1064 2,100001,4,elems Am Ba [])]) ?_
   obtain rfl := sj hm
   exact DW.ret (Ak [Ac [],Ai []] [100000,100001] (.tup [.agg [ow 0 0,pI 0,ow 1 0,pI 0],pI r3.2]))
  ·intro h4 hm
   refine Sk ?_
   obtain ⟨r5,hr5,hm⟩ := bo hm
   refine Sq (Sq (RD hnt (.no :: o54 [] true r5 :: .no :: []) [11,25] [(30,pB (!r5))] [] [] (an (Ma r3.1 r5 hr5) tv) ?_))
   refine Ag hm ?_ ?_
   ·intro h6 hm
    refine Sq (RD hnt (nn 3 []) [10,30] [(9,pI 10)] [1080,1168,1169] [] tv ?_)
    refine DW.cv [] [] [] [(c53e1),(100000,ob0 (Ac [])),(100001,ob0 (Ai []))] (Conv.ads [(.o 1064 0,100000,6,elems An Aw []),(.o 1064 2,100001,4,elems Am Ba [])]) ?_
    obtain rfl := sj hm
    exact DW.ret (Ak [Ac [],Ai []] [100000,100001] (.tup [.agg [ow 0 0,pI 0,ow 1 0,pI 0],pI 10]))
   ·intro h6 hm
    refine Sk ?_
    refine Sq (RD hnt (nn 3 []) [10,30] [(9,pI 0)] [1080] [(1064,bx [ow 1168 r3.1.tree.nodes.length,pI r3.1.tree.next,ow 1169 r3.1.tasks.length,pI r3.1.next])] tv ?_)
    obtain rfl := sj hm
    exact DW.ret (Ak [Ac r3.1.tree.nodes,Ai r3.1.tasks] [1168,1169] (.tup [.agg [ow 0 r3.1.tree.nodes.length,pI r3.1.tree.next,ow 1 r3.1.tasks.length,pI r3.1.next],pI 0]))
abbrev o53 (ks : List Nat) (b : Bool) (RES : Aa × Int) : Orc := .call 159 ks b (.tup [.agg [ow 0 RES.1.tree.nodes.length,pI RES.1.tree.next,ow 1 RES.1.tasks.length,pI RES.1.next],pI RES.2]) [] [Ac RES.1.tree.nodes,Ai RES.1.tasks]
end Go.Dm


/- Go functions compute their models, printed by a program. -/
namespace Go.Dm
open Go.Proofs
set_option linter.unusedVariables false
abbrev c68e1 : Nat × Obj := (1032,bx [.p (.sl .nil 0 0 (fun _ => [])),pI 0,.p (.sl .nil 0 0 (fun _ => [])),pI 0])
abbrev Adb : Nat × Obj := (1032,bx [ow 100000 0,pI 0,ow 100001 0,pI 0])
theorem AdN (p0 : Aa) (p1 : Int) (RES : Aa × Int) (hm : Qc p0 p1 = some RES) : Spec Tryz.prog 160 [.p (.agg (Ab p0)),pI p1] [] (.tup [.agg [ow 0 RES.1.tree.nodes.length,pI RES.1.tree.next,ow 1 RES.1.tasks.length,pI RES.1.next],pI RES.2]) [] [Ac RES.1.tree.nodes,Ai RES.1.tasks] := by
 unfold Qc at hm
 refine SO Tryz.func160 rfl rfl [(0,.p (.agg (Ab p0))),(1,pI p1)] [] ?_
 intro cx hnt
 refine Sq (RK hnt (nn 3 []) [(1,pI p1),(2,rr 1016),(4,rr 1032)] [(1016,bx (pm (Ab p0))),(c68e1)] tv ?_)
 obtain ⟨r1,hr1,hm⟩ := bo hm
 refine Sq (Sq (RD hnt (.no :: o54 [] true r1 :: .no :: []) [] [(13,pB (!r1))] [] [] (an (Ma p0 r1 hr1) tv) ?_))
 refine Ag hm ?_ ?_
 ·intro h2 hm
  refine Sq (RD hnt (nn 3 []) [1,2,13] [(5,pI 1)] [1016] [] tv ?_)
  refine DW.cv [] [] [] [(Adb),(100000,ob0 (Ac [])),(100001,ob0 (Ai []))] (Conv.ads [(.o 1032 0,100000,6,elems An Aw []),(.o 1032 2,100001,4,elems Am Ba [])]) ?_
  obtain rfl := sj hm
  exact DW.ret (Ak [Ac [],Ai []] [100000,100001] (.tup [.agg [ow 0 0,pI 0,ow 1 0,pI 0],pI 1]))
 ·intro h2 hm
  refine Sk ?_
  obtain ⟨r3,hr3,hm⟩ := bo hm
  refine Sq (RD hnt (nn 3 (o43 [] true r3 :: nn 6 [])) [13] [(6,rr 1048),(7,pB r3.2)] [] [(1048,bx (pm (An r3.1)))] (an (Dj p0.tree p1 r3 hr3) tv) ?_)
  refine Sq (Sq (RD hnt (nn 2 []) [7] [(23,pB (!r3.2))] [] [] tv ?_))
  refine Ag hm ?_ ?_
  ·intro h4 hm
   refine Sq (RD hnt (nn 3 []) [1,2,6,23] [(5,pI 4)] [1016,1048] [] tv ?_)
   refine DW.cv [] [] [] [(Adb),(100000,ob0 (Ac [])),(100001,ob0 (Ai []))] (Conv.ads [(.o 1032 0,100000,6,elems An Aw []),(.o 1032 2,100001,4,elems Am Ba [])]) ?_
   obtain rfl := sj hm
   exact DW.ret (Ak [Ac [],Ai []] [100000,100001] (.tup [.agg [ow 0 0,pI 0,ow 1 0,pI 0],pI 4]))
  ·intro h4 hm
   refine Sk ?_
   refine Sq (Sq (DW.regJ (sl2 := [(1,pI p1),(2,rr 1016),(4,rr 1032),(6,rr 1048),(31,pB ((p1 == 1) || (r3.1.kind == 1)))]) (ob2 := [(1016,bx (pm (Ab p0))),(c68e1),(1048,bx (pm (An r3.1)))]) ?_ ?_))
   ·rcases bt (p1 == 1) with h5 | h5
    ·exact RT hnt (nn 3 (sk 3 (pT :: []))) [(31,pB true)] (an4 h5 tv) (by kernel_rfl) (.cons rfl (.of_eq (by rw [h5]; try rfl)) .nil)
    ·exact RT hnt (nn 6 (pF :: [])) [(31,pB (r3.1.kind == 1))] (an4 h5 tv) (by kernel_rfl) (.cons rfl (.of_eq (by rw [h5]; try rfl)) .nil)
   ·refine Ag hm ?_ ?_
    ·intro h6 hm
     refine Sq (RD hnt (nn 3 []) [1,2,6,31] [(5,pI 9)] [1016,1048] [] tv ?_)
     refine DW.cv [] [] [] [(Adb),(100000,ob0 (Ac [])),(100001,ob0 (Ai []))] (Conv.ads [(.o 1032 0,100000,6,elems An Aw []),(.o 1032 2,100001,4,elems Am Ba [])]) ?_
     obtain rfl := sj hm
     exact DW.ret (Ak [Ac [],Ai []] [100000,100001] (.tup [.agg [ow 0 0,pI 0,ow 1 0,pI 0],pI 9]))
    ·intro h6 hm
     refine Sk ?_
     obtain ⟨r7,hr7,hm⟩ := bo hm
     refine Sq (RD hnt (nn 4 (o43 [] true r7 :: nn 6 [])) [31] [(8,rr 1064)] [] [(1064,bx (pm (An r7.1)))] (an (Dj p0.tree r3.1.parent r7 hr7) tv) ?_)
     obtain ⟨r8,hr8,hm⟩ := bo hm
     refine Sq (Sq ?_)
     refine Jn (ι := Bool) (fun (y1 : Bool) => Ao [(1,pI p1),(2,rr 1016),(4,rr 1032),(6,rr 1048),(57,pB y1)] [(1016,bx (pm (Ab p0))),(c68e1),(1048,bx (pm (An r3.1)))]) (fun y1 => (Jd p0 p1 r3) y1 = some RES) ?_ ?_
     ·intro y1 hm
      unfold Jd at hm
      refine Ag hm ?_ ?_
      ·intro h11 hm
       refine Sq (RD hnt (nn 3 []) [1,2,6,57] [(5,pI 10)] [1016,1048] [] tv ?_)
       refine DW.cv [] [] [] [(Adb),(100000,ob0 (Ac [])),(100001,ob0 (Ai []))] (Conv.ads [(.o 1032 0,100000,6,elems An Aw []),(.o 1032 2,100001,4,elems Am Ba [])]) ?_
       obtain rfl := sj hm
       exact DW.ret (Ak [Ac [],Ai []] [100000,100001] (.tup [.agg [ow 0 0,pI 0,ow 1 0,pI 0],pI 10]))
      ·intro h11 hm
       refine Sk ?_
       refine Sq (Sq (RD hnt (nn 4 []) [57] [(62,pB ((kand .i64 r3.1.control 6) != 0))] [] [] tv ?_))
       refine Ag hm ?_ ?_
       ·intro h12 hm
        refine Sq (RD hnt (nn 3 []) [1,2,6,62] [(5,pI 9)] [1016,1048] [] tv ?_)
        refine DW.cv [] [] [] [(Adb),(100000,ob0 (Ac [])),(100001,ob0 (Ai []))] (Conv.ads [(.o 1032 0,100000,6,elems An Aw []),(.o 1032 2,100001,4,elems Am Ba [])]) ?_
        obtain rfl := sj hm
        exact DW.ret (Ak [Ac [],Ai []] [100000,100001] (.tup [.agg [ow 0 0,pI 0,ow 1 0,pI 0],pI 9]))
       ·intro h12 hm
        refine Sk ?_
        refine Sq (RD hnt (nn 2 []) [62] [] [] [(1048,bx [pI r3.1.id,pI r3.1.parent,pS r3.1.name,pI r3.1.control,pI 1,pI r3.1.owner])] tv ?_)
        obtain ⟨r13,hr13,hm⟩ := bo hm
        refine Sq (RD hnt (.no :: o66 [] true r13 :: nn 2 []) [] [(10,rr 1080)] [] [(1080,bx [ow 1528 r13.tree.nodes.length,pI r13.tree.next,ow 1529 r13.tasks.length,pI r13.next]),(1528,ob0 (Ac r13.tree.nodes)),(1529,ob0 (Ai r13.tasks))] (an (Ly p0 r13 hr13) tv) ?_)
        obtain ⟨r14,hr14,hm⟩ := bo hm
        refine Sq (RD hnt (nn 3 (o67 [] true r14 :: nn 2 [])) [6] [] [1048,1528] [(1080,bx [ow 1560 r14.nodes.length,pI r14.next,ow 1529 r13.tasks.length,pI r13.next]),(1560,ob0 (Ac r14.nodes))] (an (Xs p0.tree ({ id := r3.1.id,parent := r3.1.parent,name := r3.1.name,control := r3.1.control,kind := 1,owner := r3.1.owner } : Af) r14 hr14) tv) ?_)
        obtain ⟨r15,hr15,hm⟩ := bo hm
        refine Sq (Sq ?_)
        refine Jn (ι := Bool) (fun (y2 : Bool) => Ao [(4,rr 1032),(10,rr 1080),(81,pB y2)] [(c68e1),(1080,bx [ow 1560 r14.nodes.length,pI r14.next,ow 1529 r13.tasks.length,pI r13.next]),(1529,ob0 (Ai r13.tasks)),(1560,ob0 (Ac r14.nodes))]) (fun y2 => (Nh r13 r14) y2 = some RES) ?_ ?_
        ·intro y2 hm
         unfold Nh at hm
         refine Ag hm ?_ ?_
         ·intro h18 hm
          refine Sq (RD hnt (nn 3 []) [10,81] [(5,pI 6)] [1080,1529,1560] [] tv ?_)
          refine DW.cv [] [] [] [(Adb),(100000,ob0 (Ac [])),(100001,ob0 (Ai []))] (Conv.ads [(.o 1032 0,100000,6,elems An Aw []),(.o 1032 2,100001,4,elems Am Ba [])]) ?_
          obtain rfl := sj hm
          exact DW.ret (Ak [Ac [],Ai []] [100000,100001] (.tup [.agg [ow 0 0,pI 0,ow 1 0,pI 0],pI 6]))
         ·intro h18 hm
          refine Sk ?_
          refine Sq (RD hnt (nn 3 []) [10,81] [(5,pI 0)] [1080] [(1032,bx [ow 1560 r14.nodes.length,pI r14.next,ow 1529 r13.tasks.length,pI r13.next])] tv ?_)
          obtain rfl := sj hm
          exact DW.ret (Ak [Ac r14.nodes,Ai r13.tasks] [1560,1529] (.tup [.agg [ow 0 r14.nodes.length,pI r14.next,ow 1 r13.tasks.length,pI r13.next],pI 0]))
        ·rcases bt (decide (((r15.length : Nat) : Int) > 0)) with h16 | h16
         ·replace hm := Bg h16 hm
          refine RD hnt (nn 2 (o60 [] true r15 :: nn 3 (sk 3 (pT :: [])))) [1,2] [(81,pB true)] [1016] [] (an (Fg p0 p1 r15 hr15) (an4 h16 tv)) ?_
          exact jD true hm Conv.eqK
         ·replace hm := Bh h16 hm
          obtain ⟨r17,hr17,hm⟩ := bo hm
          refine RD hnt (nn 2 (o60 [] true r15 :: nn 4 (o54 [] true r17 :: .no :: pF :: []))) [1,2] [(81,pB (!r17))] [1016] [] (an (Fg p0 p1 r15 hr15) (an2 h16 (an (Ma ({ tree := r14,tasks := r13.tasks,next := r13.next } : Aa) r17 hr17) (an2 h16 tv)))) ?_
          exact jD (!r17) hm Conv.eqK
     ·rcases bt (r8 == 3) with h9 | h9
      ·replace hm := Bg h9 hm
       refine RD hnt (nn 4 (o63 [] true r8 :: nn 2 (sk 9 (pT :: [])))) [8] [(57,pB true)] [1064] [] (an (Hp p0.tree r7.1.id r8 hr8) (an6 h9 tv)) ?_
       exact jD true hm Conv.eqK
      ·replace hm := Bh h9 hm
       rcases bt (r7.1.id != 1) with h10 | h10
       ·replace hm := Bg h10 hm
        refine RD hnt (nn 4 (o63 [] true r8 :: nn 10 (pT :: pF :: []))) [8] [(57,pB ((kand .i64 r7.1.control 6) != 0))] [1064] [] (an (Hp p0.tree r7.1.id r8 hr8) (an4 h9 (an4 h10 (an h9 (an h10 (an h9 tv)))))) ?_
        exact jD ((kand .i64 r7.1.control 6) != 0) hm Conv.eqK
       ·replace hm := Bh h10 hm
        refine RD hnt (nn 4 (o63 [] true r8 :: nn 6 (sk 4 (pF :: pF :: [])))) [8] [(57,pB false)] [1064] [] (an (Hp p0.tree r7.1.id r8 hr8) (an4 h9 (an4 h10 (an h9 (an h10 (an h9 tv)))))) ?_
        exact jD false hm Conv.eqK
abbrev o68 (ks : List Nat) (b : Bool) (RES : Aa × Int) : Orc := .call 160 ks b (.tup [.agg [ow 0 RES.1.tree.nodes.length,pI RES.1.tree.next,ow 1 RES.1.tasks.length,pI RES.1.next],pI RES.2]) [] [Ac RES.1.tree.nodes,Ai RES.1.tasks]

abbrev c50e1 : Nat × Obj := (1032,bx [.p (.sl .nil 0 0 (fun _ => [])),pI 0,.p (.sl .nil 0 0 (fun _ => [])),pI 0])
theorem AcK (p0 : Al) (p1 : Aa) (RES : Aa × Al) (hm : Nr p0 p1 = some RES) : Spec Tryz.prog 82 [rr 0,.p (.agg (Ab p1))] [.box (pm (Ah p0))] (.p (.agg (Ab RES.1))) [.box (pm (Ah RES.2))] [] := by
 unfold Nr at hm
 refine SO Tryz.func82 rfl rfl [(0,rr 0),(1,.p (.agg (Ab p1)))] [(0,bx (pm (Ah p0)))] ?_
 intro cx hnt
 refine Sq (RD hnt (nn 2 []) [1] [(3,rr 1024),(4,rr 1032)] [] [(1024,bx (pm (Ab p1))),(c50e1)] tv ?_)
 obtain ⟨r1,hr1,hm⟩ := bo hm
 refine Sq (RD hnt (nn 3 (o51 [0] true r1 :: .no :: [])) [] [(5,pI r1.1)] [] [(0,bx (pm (Ah r1.2)))] (an (Lv p0 p1.tree r1 hr1) (an tv tv)) ?_)
 obtain ⟨r2,hr2,hm⟩ := bo hm
 refine Sq (Sq (RD hnt (.no :: o35 [0] true r2 :: []) [] [(17,pI r2.1)] [] [(0,bx (pm (Ah r2.2)))] (an (As r1.2 5 r2 hr2) (an tv tv)) ?_))
 refine Jn (ι := Al × Aa) (fun (y1 : Al × Aa) => Ao [(3,rr 1024),(4,rr 1032)] [(0,bx (pm (Ah y1.1))),(1024,bx (pm (Ab y1.2))),(c50e1)]) (fun y1 => Gs y1 = some RES) ?_ ?_
 ·intro y1 hm
  unfold Gs at hm
  refine Sq (RD hnt (nn 2 []) [3] [] [1024] [(1032,bx (pm (Ab y1.2)))] tv ?_)
  obtain rfl := sj hm
  exact DW.ret (Ak [.box (pm (Ah y1.1))] [] (.p (.agg (Ab y1.2))))
 ·refine Bk ?_
  refine Sq (Sq (RD hnt (nn 2 []) [] [(18,pB (r2.1 == 0))] [] [] tv ?_))
  refine Jn (ι := Bool) (fun (y2 : Bool) => Ao [(0,rr 0),(3,rr 1024),(4,rr 1032),(5,pI r1.1),(17,pI r2.1),(18,pB y2)] [(0,bx (pm (Ah r2.2))),(1024,bx (pm (Ab p1))),(c50e1)]) (fun y2 => (Iy p1 r1 r2) y2 = some RES) ?_ ?_
  ·intro y2 hm
   unfold Iy at hm
   refine Ag hm ?_ ?_
   ·intro h4 hm
    obtain ⟨r5,hr5,hm⟩ := bo hm
    obtain ⟨r6,hr6,hm⟩ := bo hm
    refine Sq (RD hnt (nn 3 (o52 [0] true r5 :: o53 [] true r6 :: nn 6 [])) [0,5,17,18] [(6,rr 1048),(7,pI r6.2)] [] [(0,bx (pm (Ah r5.2))),(1048,bx [ow 1208 r6.1.tree.nodes.length,pI r6.1.tree.next,ow 1209 r6.1.tasks.length,pI r6.1.next]),(1208,ob0 (Ac r6.1.tree.nodes)),(1209,ob0 (Ai r6.1.tasks))] (an (Kh r2.2 r5 hr5) (an tv (an (AeH p1 r1.1 r5.1 0 r6 hr6) tv))) ?_)
    refine Sq (RD hnt (nn 2 []) [7] [(30,pB (r6.2 == 0))] [] [] tv ?_)
    refine Ag hm ?_ ?_
    ·intro h7 hm
     refine Sq (RD hnt (nn 2 []) [3,6,30] [] [1024,1048] [(1032,bx [ow 1208 r6.1.tree.nodes.length,pI r6.1.tree.next,ow 1209 r6.1.tasks.length,pI r6.1.next])] tv ?_)
     obtain rfl := sj hm
     exact DW.ret (Ak [.box (pm (Ah r5.2))] [] (.p (.agg (Ab r6.1))))
    ·intro h7 hm
     refine Sk ?_
     exact bD (r5.2,p1) hm Conv.t0
   ·intro h4 hm
    refine Sq (RD hnt (nn 2 []) [18] [(32,pB (r2.1 == 2))] [] [] tv ?_)
    refine Ag hm ?_ ?_
    ·intro h8 hm
     obtain ⟨r9,hr9,hm⟩ := bo hm
     refine Sq (RD hnt (nn 2 (o68 [] true r9 :: nn 6 [])) [0,5,17,32] [(8,rr 1064),(9,pI r9.2)] [] [(1064,bx [ow 1296 r9.1.tree.nodes.length,pI r9.1.tree.next,ow 1297 r9.1.tasks.length,pI r9.1.next]),(1296,ob0 (Ac r9.1.tree.nodes)),(1297,ob0 (Ai r9.1.tasks))] (an (AdN p1 r1.1 r9 hr9) tv) ?_)
     refine Sq (RD hnt (nn 2 []) [9] [(41,pB (r9.2 == 0))] [] [] tv ?_)
     refine Ag hm ?_ ?_
     ·intro h10 hm
      refine Sq (RD hnt (nn 2 []) [3,8,41] [] [1024,1064] [(1032,bx [ow 1296 r9.1.tree.nodes.length,pI r9.1.tree.next,ow 1297 r9.1.tasks.length,pI r9.1.next])] tv ?_)
      obtain rfl := sj hm
      exact DW.ret (Ak [.box (pm (Ah r2.2))] [] (.p (.agg (Ab r9.1))))
     ·intro h10 hm
      refine Sk ?_
      exact bD (r2.2,p1) hm Conv.t0
    ·intro h8 hm
     refine Sq (RD hnt (nn 2 []) [17,32] [(43,pB (r2.1 == 3))] [] [] tv ?_)
     refine Ag hm ?_ ?_
     ·intro h11 hm
      obtain ⟨r12,hr12,hm⟩ := bo hm
      refine Sq (RD hnt (nn 3 (o43 [] true r12 :: nn 6 [])) [43] [(10,rr 1080),(11,pB r12.2)] [] [(1080,bx (pm (An r12.1)))] (an (Dj p1.tree r1.1 r12 hr12) tv) ?_)
      refine Sq (DW.regJ (sl2 := [(0,rr 0),(3,rr 1024),(4,rr 1032),(10,rr 1080),(56,pB (r12.2 && (r1.1 != 1)))]) (ob2 := [(0,bx (pm (Ah r2.2))),(1024,bx (pm (Ab p1))),(c50e1),(1080,bx (pm (An r12.1)))]) ?_ ?_)
      ·rcases bt r12.2 with h13 | h13
       ·exact RT hnt (nn 4 (pT :: [])) [(56,pB (r1.1 != 1))] (an3 h13 tv) (by kernel_rfl) (.cons rfl (.of_eq (by rw [h13]; try rfl)) .nil)
       ·exact RT hnt (nn 2 (sk 2 (pF :: []))) [(56,pB false)] (an3 h13 tv) (by kernel_rfl) (.cons rfl (.of_eq (by rw [h13]; try rfl)) .nil)
      ·refine Ag hm ?_ ?_
       ·intro h14 hm
        obtain ⟨r15,hr15,hm⟩ := bo hm
        refine Sq (RD hnt (.no :: o35 [0] true r15 :: nn 2 []) [0,56] [] [] [(0,bx (pm (Ah r15.2))),(1080,bx [pI r12.1.id,pI r12.1.parent,pS r12.1.name,pI r12.1.control,pI r12.1.kind,pI r15.1])] (an (As r2.2 3 r15 hr15) (an tv tv)) ?_)
        obtain ⟨r16,hr16,hm⟩ := bo hm
        refine RD hnt (nn 3 (o67 [] true r16 :: nn 2 [])) [10] [] [1080] [(1024,bx [ow 1504 r16.nodes.length,pI r16.next,.p (Bt p1.tasks),pI p1.next]),(1504,ob0 (Ac r16.nodes))] (an (Xs p1.tree ({ id := r12.1.id,parent := r12.1.parent,name := r12.1.name,control := r12.1.control,kind := r12.1.kind,owner := r15.1 } : Af) r16 hr16) tv) ?_
        exact bD (r15.2,({ tree := r16,tasks := p1.tasks,next := p1.next } : Aa)) hm (Conv.frz [1504])
       ·intro h14 hm
        refine Sk ?_
        exact bD (r2.2,p1) hm Conv.t0
     ·intro h11 hm
      refine Sk ?_
      exact bD (r2.2,p1) hm Conv.t0
  ·refine Ag hm ?_ ?_
   ·intro h3 hm
    refine Sk ?_
    exact jD (r2.1 == 0) hm Conv.eqK
   ·intro h3 hm
    refine RD hnt (nn 2 []) [] [(18,pB (r2.1 == 1))] [] [] tv ?_
    exact jD (r2.1 == 1) hm Conv.eqK
abbrev o50 (ks : List Nat) (b : Bool) (RES : Aa × Al) : Orc := .call 82 ks b (.p (.agg (Ab RES.1))) [.box (pm (Ah RES.2))] []

theorem Zp (p0 : Aa) (p1 : Int) (RES : Int) (hm : Ox p0 p1 = some RES) : Spec Tryz.prog 83 [.p (.agg (Ab p0)),pI p1] [] (pI RES) [] [] := by
 unfold Ox at hm
 refine SO Tryz.func83 rfl rfl [(0,.p (.agg (Ab p0))),(1,pI p1)] [] ?_
 intro cx hnt
 refine Sq (RK hnt (nn 2 []) [(1,pI p1),(2,rr 1016)] [(1016,bx (pm (Ab p0)))] tv ?_)
 obtain ⟨r1,hr1,hm⟩ := bo hm
 refine Sq (Sq (RD hnt (.no :: o54 [] true r1 :: .no :: []) [] [(9,pB (!r1))] [] [] (an (Ma p0 r1 hr1) tv) ?_))
 refine Ag hm ?_ ?_
 ·intro h2 hm
  refine Sq (RK hnt (.no :: []) [(4,pI 1)] [] tv ?_)
  obtain rfl := sj hm
  exact DW.ret (Ak [] [] (pI 1))
 ·intro h2 hm
  refine Sk ?_
  obtain ⟨r3,hr3,hm⟩ := bo hm
  refine Sq (RD hnt (nn 3 (o43 [] true r3 :: nn 6 [])) [9] [(5,rr 1040),(6,pB r3.2)] [] [(1040,bx (pm (An r3.1)))] (an (Dj p0.tree p1 r3 hr3) tv) ?_)
  refine Sq (Bk ?_)
  refine Sq (RD hnt (nn 3 []) [6] [(17,pB (!r3.2))] [] [] tv ?_)
  refine Ag hm ?_ ?_
  ·intro h4 hm
   refine Sq (RK hnt (.no :: []) [(4,pI 4)] [] tv ?_)
   obtain rfl := sj hm
   exact DW.ret (Ak [] [] (pI 4))
  ·intro h4 hm
   obtain ⟨r5,hr5,hm⟩ := bo hm
   refine Sq (RD hnt (nn 3 (o63 [] true r5 :: nn 2 [])) [2,17] [(20,pB (r5 == 3))] [1016] [] (an (Hp p0.tree p1 r5 hr5) tv) ?_)
   refine Ag hm ?_ ?_
   ·intro h6 hm
    refine Sq (RK hnt (.no :: []) [(4,pI 10)] [] tv ?_)
    obtain rfl := sj hm
    exact DW.ret (Ak [] [] (pI 10))
   ·intro h6 hm
    refine Sq (DW.regJ (sl2 := [(26,pB ((p1 != 1) && ((kand .i64 r3.1.control 6) != 0)))]) (ob2 := []) ?_ ?_)
    ·rcases bt (p1 != 1) with h7 | h7
     ·exact RT hnt (nn 7 (pT :: .no :: [])) [(26,pB ((kand .i64 r3.1.control 6) != 0))] (an5 h7 tv) (by kernel_rfl) (.cons rfl (.of_eq (by rw [h7]; try rfl)) .nil)
     ·exact RT hnt (nn 3 (sk 4 (pF :: .no :: []))) [(26,pB false)] (an5 h7 tv) (by kernel_rfl) (.cons rfl (.of_eq (by rw [h7]; try rfl)) .nil)
    ·refine Ag hm ?_ ?_
     ·intro h8 hm
      refine Sq (RK hnt (.no :: []) [(4,pI 6)] [] tv ?_)
      obtain rfl := sj hm
      exact DW.ret (Ak [] [] (pI 6))
     ·intro h8 hm
      refine Sk ?_
      refine DW.done ?_
      show DW _ _ _ _ _
      refine Sq (RK hnt (.no :: []) [(4,pI 0)] [] tv ?_)
      obtain rfl := sj hm
      exact DW.ret (Ak [] [] (pI 0))
abbrev o69 (ks : List Nat) (b : Bool) (RES : Int) : Orc := .call 83 ks b (pI RES) [] []

abbrev c71e1 : Nat × Obj := (1032,bx [.p (.sl .nil 0 0 (fun _ => [])),pI 0,.p (.sl .nil 0 0 (fun _ => [])),pI 0])
abbrev c71e2 (r3 : Aa) : Nat × Obj := (1056,bx [ow 1152 r3.tree.nodes.length,pI r3.tree.next,ow 1153 r3.tasks.length,pI r3.next])
theorem Acc (p0 : Aa) (p1 : Aj) (RES : Aa × Int × Int) (hm : Tv p0 p1 = some RES) : Spec Tryz.prog 164 [.p (.agg (Ab p0)),.p (.agg (Am p1))] [] (.tup [.agg [ow 0 RES.1.tree.nodes.length,pI RES.1.tree.next,ow 1 RES.1.tasks.length,pI RES.1.next],pI RES.2.1,pI RES.2.2]) [] [Ac RES.1.tree.nodes,Ai RES.1.tasks] := by
 unfold Tv at hm
 refine SO Tryz.func164 rfl rfl [(0,.p (.agg (Ab p0))),(1,.p (.agg (Am p1)))] [] ?_
 intro cx hnt
 refine Sq (RK hnt (nn 5 []) [(2,rr 1016),(3,rr 1024),(4,rr 1032)] [(1016,bx (pm (Ab p0))),(1024,bx (pm (Am p1))),(c71e1)] tv ?_)
 refine Sq (Sq (DW.regJ (sl2 := [(2,rr 1016),(3,rr 1024),(4,rr 1032),(16,pB ((decide (((p0.tasks.length : Nat) : Int) ≥ 128)) || (decide (p0.next > 2147483647))))]) (ob2 := [(1016,bx (pm (Ab p0))),(1024,bx (pm (Am p1))),(c71e1)]) ?_ ?_))
 ·rcases bt (decide (((p0.tasks.length : Nat) : Int) ≥ 128)) with h1 | h1
  ·exact RT hnt (nn 5 (sk 3 (pT :: []))) [(16,pB true)] (an4 h1 tv) (by kernel_rfl) (.cons rfl (.of_eq (by rw [h1]; try rfl)) .nil)
  ·exact RT hnt (nn 8 (pF :: [])) [(16,pB (decide (p0.next > 2147483647)))] (an4 h1 tv) (by kernel_rfl) (.cons rfl (.of_eq (by rw [h1]; try rfl)) .nil)
 ·refine Ag hm ?_ ?_
  ·intro h2 hm
   refine Sq (RD hnt (nn 4 []) [2,3,16] [(5,pI 0),(6,pI 7)] [1016,1024] [] tv ?_)
   refine DW.cv [] [] [] [(1032,bx [ow 100000 0,pI 0,ow 100001 0,pI 0]),(100000,ob0 (Ac [])),(100001,ob0 (Ai []))] (Conv.ads [(.o 1032 0,100000,6,elems An Aw []),(.o 1032 2,100001,4,elems Am Ba [])]) ?_
   obtain rfl := sj hm
   exact DW.ret (Ak [Ac [],Ai []] [100000,100001] (.tup [.agg [ow 0 0,pI 0,ow 1 0,pI 0],pI 0,pI 7]))
  ·intro h2 hm
   refine Sk ?_
   obtain ⟨r3,hr3,hm⟩ := bo hm
   refine Sq (RD hnt (.no :: o66 [] true r3 :: nn 2 []) [16] [(7,rr 1056)] [] [(c71e2 r3),(1152,ob0 (Ac r3.tree.nodes)),(1153,ob0 (Ai r3.tasks))] (an (Ly p0 r3 hr3) tv) ?_)
   refine Sq (RD hnt (nn 4 []) [2] [] [1016] [(1024,bx [pI p0.next,pI p1.process,pI p1.group,pI p1.user])] tv ?_)
   refine Sq (Sq (RD hnt (nn 3 []) [] [(25,pB (p1.process == 0))] [] [] tv ?_))
   refine Jn (ι := Aj) (fun (y1 : Aj) => Ao [(3,rr 1024),(4,rr 1032),(7,rr 1056)] [(1024,bx (pm (Am y1))),(c71e1),(c71e2 r3),(1152,ob0 (Ac r3.tree.nodes)),(1153,ob0 (Ai r3.tasks))]) (fun y1 => (Sp r3) y1 = some RES) ?_ ?_
   ·intro y1 hm
    unfold Sp at hm
    obtain ⟨g5,hm⟩ := go1 hm
    refine Sq (RN hnt (nn 7 []) [(3,rr 1024),(4,rr 1032),(7,rr 1056)] [(1024,bx (pm (Am y1))),(c71e1),(1056,bx [ow 1152 r3.tree.nodes.length,pI r3.tree.next,ow 1153 (r3.tasks ++ [y1]).length,pI r3.next]),(1152,ob0 (Ac r3.tree.nodes)),(1153,ob0 (Ai (r3.tasks ++ [y1])))] [] [(1056,.box [ow 1152 r3.tree.nodes.length,pI r3.tree.next,ow 1153 (r3.tasks.length + 1),pI r3.next]),(1153,.row 4 (r3.tasks.length + 1) (Cp r3.tasks.length (Dy r3.tasks) (cut 4 [vi y1.id,vi y1.process,vi y1.group,vi y1.user])))] (an (by omega : (r3.tasks.length + 1) * 32 ≤ 140737488355328) tv) (by kernel_rfl) .nil (.cons rfl (.box (.cons .rfl (.cons .rfl (.cons (MLe.ownLen (enc := Am) (d := Ba) (f := (Cp r3.tasks.length (Dy r3.tasks) (cut 4 [vi y1.id,vi y1.process,vi y1.group,vi y1.user]))) (RowIs.cat RowIs.elems (RowIs.lit (enc := Am) (d := Ba) (n := 1) (f := (cut 4 [vi y1.id,vi y1.process,vi y1.group,vi y1.user])) [y1] rfl (fun | 0,_ => rfl | n + 1,h => absurd h (by omega))))) (.cons .rfl .nil))))) (.cons rfl (BLe.typed (RowIs.cat RowIs.elems (RowIs.lit (enc := Am) (d := Ba) (n := 1) (f := (cut 4 [vi y1.id,vi y1.process,vi y1.group,vi y1.user])) [y1] rfl (fun | 0,_ => rfl | n + 1,h => absurd h (by omega))))) .nil)) ?_)
    refine Sq (RD hnt (nn 5 []) [] [] [] [(1056,bx [ow 1152 r3.tree.nodes.length,pI r3.tree.next,ow 1153 (r3.tasks ++ [y1]).length,pI (w64 (r3.next + 1))])] tv ?_)
    refine Sq (RD hnt (nn 6 []) [3,7] [(5,pI y1.id),(6,pI 0)] [1024,1056] [(1032,bx [ow 1152 r3.tree.nodes.length,pI r3.tree.next,ow 1153 (r3.tasks ++ [y1]).length,pI (w64 (r3.next + 1))])] tv ?_)
    obtain rfl := sj hm
    exact DW.ret (Ak [Ac r3.tree.nodes,Ai (r3.tasks ++ [y1])] [1152,1153] (.tup [.agg [ow 0 r3.tree.nodes.length,pI r3.tree.next,ow 1 (r3.tasks ++ [y1]).length,pI (w64 (r3.next + 1))],pI y1.id,pI 0]))
   ·refine Ag hm ?_ ?_
    ·intro h4 hm
     refine RD hnt (nn 4 []) [25] [] [] [(1024,bx [pI p0.next,pI p0.next,pI p1.group,pI p1.user])] tv ?_
     exact jD ({ id := p0.next,process := p0.next,group := p1.group,user := p1.user } : Aj) hm Conv.eqK
    ·intro h4 hm
     refine Sk ?_
     exact jD ({ id := p0.next,process := p1.process,group := p1.group,user := p1.user } : Aj) hm Conv.t0
abbrev o71 (ks : List Nat) (b : Bool) (RES : Aa × Int × Int) : Orc := .call 164 ks b (.tup [.agg [ow 0 RES.1.tree.nodes.length,pI RES.1.tree.next,ow 1 RES.1.tasks.length,pI RES.1.next],pI RES.2.1,pI RES.2.2]) [] [Ac RES.1.tree.nodes,Ai RES.1.tasks]

abbrev c70e1 : Nat × Obj := (1048,bx [.p (.sl .nil 0 0 (fun _ => [])),pI 0,.p (.sl .nil 0 0 (fun _ => [])),pI 0])
theorem Afr (p0 : Aa) (p1 : Int) (p2 : Int) (RES : Aa × Int × Int) (hm : Sv p0 p1 p2 = some RES) : Spec Tryz.prog 84 [.p (.agg (Ab p0)),pI p1,pI p2] [] (.tup [.agg [ow 0 RES.1.tree.nodes.length,pI RES.1.tree.next,ow 1 RES.1.tasks.length,pI RES.1.next],pI RES.2.1,pI RES.2.2]) [] [Ac RES.1.tree.nodes,Ai RES.1.tasks] := by
 unfold Sv at hm
 refine SO Tryz.func84 rfl rfl [(0,.p (.agg (Ab p0))),(1,pI p1),(2,pI p2)] [] ?_
 intro cx hnt
 refine Sq (RD hnt (nn 4 []) [0] [(3,rr 1024),(6,rr 1048)] [] [(1024,bx (pm (Ab p0))),(c70e1)] tv ?_)
 obtain ⟨r1,hr1,hm⟩ := bo hm
 refine Sq (Sq ?_)
 refine Jn (ι := Bool) (fun (y1 : Bool) => Ao [(1,pI p1),(2,pI p2),(3,rr 1024),(6,rr 1048),(19,pB y1)] [(1024,bx (pm (Ab p0))),(c70e1)]) (fun y1 => (Na p0 p1 p2) y1 = some RES) ?_ ?_
 ·intro y1 hm
  unfold Na at hm
  refine Ag hm ?_ ?_
  ·intro h4 hm
   refine Sq (RD hnt (nn 4 []) [1,2,3,19] [(7,pI 0),(8,pI 1)] [1024] [] tv ?_)
   refine DW.cv [] [] [] [(1048,bx [ow 100000 0,pI 0,ow 100001 0,pI 0]),(100000,ob0 (Ac [])),(100001,ob0 (Ai []))] (Conv.ads [(.o 1048 0,100000,6,elems An Aw []),(.o 1048 2,100001,4,elems Am Ba [])]) ?_
   obtain rfl := sj hm
   exact DW.ret (Ak [Ac [],Ai []] [100000,100001] (.tup [.agg [ow 0 0,pI 0,ow 1 0,pI 0],pI 0,pI 1]))
  ·intro h4 hm
   refine Sk ?_
   obtain ⟨r5,hr5,hm⟩ := bo hm
   refine Sq (Sq (RD hnt (nn 3 (o42 [] true r5 :: .no :: [])) [19] [(25,pB (!r5))] [] [] (an (Cy p0.tree p1 r5 hr5) tv) ?_))
   refine Ag hm ?_ ?_
   ·intro h6 hm
    refine Sq (RD hnt (nn 4 []) [1,2,3,25] [(7,pI 0),(8,pI 4)] [1024] [] tv ?_)
    refine DW.cv [] [] [] [(1048,bx [ow 100000 0,pI 0,ow 100001 0,pI 0]),(100000,ob0 (Ac [])),(100001,ob0 (Ai []))] (Conv.ads [(.o 1048 0,100000,6,elems An Aw []),(.o 1048 2,100001,4,elems Am Ba [])]) ?_
    obtain rfl := sj hm
    exact DW.ret (Ak [Ac [],Ai []] [100000,100001] (.tup [.agg [ow 0 0,pI 0,ow 1 0,pI 0],pI 0,pI 4]))
   ·intro h6 hm
    refine Sk ?_
    obtain ⟨r7,hr7,hm⟩ := bo hm
    refine Sq (RK hnt (nn 4 (o71 [] true r7 :: nn 6 [])) [(6,rr 1048),(7,pI r7.2.1),(8,pI r7.2.2)] [(1048,bx [ow 1248 r7.1.tree.nodes.length,pI r7.1.tree.next,ow 1249 r7.1.tasks.length,pI r7.1.next]),(1248,ob0 (Ac r7.1.tree.nodes)),(1249,ob0 (Ai r7.1.tasks))] (an (Acc p0 ({ id := 0,process := 0,group := p1,user := p2 } : Aj) r7 hr7) tv) ?_)
    obtain rfl := sj hm
    exact DW.ret (Ak [Ac r7.1.tree.nodes,Ai r7.1.tasks] [1248,1249] (.tup [.agg [ow 0 r7.1.tree.nodes.length,pI r7.1.tree.next,ow 1 r7.1.tasks.length,pI r7.1.next],pI r7.2.1,pI r7.2.2]))
 ·rcases bt (!r1) with h2 | h2
  ·replace hm := Bg h2 hm
   refine RD hnt (.no :: o56 [] true r1 :: nn 2 (sk 2 (pT :: .no :: sk 2 (pT :: [])))) [] [(19,pB true)] [] [] (an (Ei p0 r1 hr1) (an3 h2 (an3 tt tv))) ?_
   exact jD true hm Conv.eqK
  ·replace hm := Bh h2 hm
   rcases bt (decide (p2 < 0)) with h3 | h3
   ·replace hm := Bg h3 hm
    refine RD hnt (.no :: o56 [] true r1 :: nn 4 (pF :: .no :: sk 2 (pT :: []))) [] [(19,pB true)] [] [] (an (Ei p0 r1 hr1) (an3 h2 (an3 h3 tv))) ?_
    exact jD true hm Conv.eqK
   ·replace hm := Bh h3 hm
    refine RD hnt (.no :: o56 [] true r1 :: nn 4 (pF :: nn 3 (pF :: []))) [] [(19,pB (decide (p2 > 1048576)))] [] [] (an (Ei p0 r1 hr1) (an3 h2 (an3 h3 tv))) ?_
    exact jD (decide (p2 > 1048576)) hm Conv.eqK
abbrev o70 (ks : List Nat) (b : Bool) (RES : Aa × Int × Int) : Orc := .call 84 ks b (.tup [.agg [ow 0 RES.1.tree.nodes.length,pI RES.1.tree.next,ow 1 RES.1.tasks.length,pI RES.1.next],pI RES.2.1,pI RES.2.2]) [] [Ac RES.1.tree.nodes,Ai RES.1.tasks]

theorem Mj (p0 : Al) (p1 : Aa) (RES : Int × Al) (hm : Hz p0 p1 = some RES) : Spec Tryz.prog 21 [rr 0,.p (.agg (Ab p1))] [.box (pm (Ah p0))] (pI RES.1) [.box (pm (Ah RES.2))] [] := by
 unfold Hz at hm
 refine SO Tryz.func21 rfl rfl [(0,rr 0),(1,.p (.agg (Ab p1)))] [(0,bx (pm (Ah p0)))] ?_
 intro cx hnt
 refine Sq (RD hnt (nn 2 []) [1] [(3,rr 1024)] [] [(1024,bx (pm (Ab p1)))] tv ?_)
 obtain ⟨r1,hr1,hm⟩ := bo hm
 refine Sq (Sq ?_)
 refine Jn (ι := Bool) (fun (y1 : Bool) => Ao [(0,rr 0),(3,rr 1024),(12,pB y1)] [(0,bx (pm (Ah r1.2))),(1024,bx (pm (Ab p1)))]) (fun y1 => (Jc p1 r1) y1 = some RES) ?_ ?_
 ·intro y1 hm
  unfold Jc at hm
  refine Ag hm ?_ ?_
  ·intro h3 hm
   obtain ⟨r4,hr4,hm⟩ := bo hm
   refine Sq (RK hnt (.no :: o35 [0] true r4 :: nn 2 []) [(4,pI (w64 (r4.1 - 1)))] [(0,bx (pm (Ah r4.2)))] (an (As r1.2 9 r4 hr4) (an tv tv)) ?_)
   obtain rfl := sj hm
   exact DW.ret (Ak [.box (pm (Ah r4.2))] [] (pI (w64 (r4.1 - 1))))
  ·intro h3 hm
   refine Sk ?_
   obtain ⟨r5,hr5,hm⟩ := bo hm
   obtain ⟨g6,hm⟩ := go1 hm
   refine Sq (RK hnt (nn 6 (o35 [0] true r5 :: nn 4 [])) [(4,pI (p1.tasks.getD (Int.toNat r5.1) Ba).id)] [(0,bx (pm (Ah r5.2)))] (an (As r1.2 ((p1.tasks.length : Nat) : Int) r5 hr5) (an tv (an g6.1 (an g6.2 tv)))) ?_)
   obtain rfl := sj hm
   exact DW.ret (Ak [.box (pm (Ah r5.2))] [] (pI (p1.tasks.getD (Int.toNat r5.1) Ba).id))
 ·rcases bt r1.1 with h2 | h2
  ·replace hm := Bg h2 hm
   refine RD hnt (.no :: o47 [0] true r1 :: .no :: sk 4 (pT :: [])) [] [(12,pB true)] [] [(0,bx (pm (Ah r1.2)))] (an (Fv p0 15 r1 hr1) (an tv (an5 h2 tv))) ?_
   exact jD true hm Conv.eqK
  ·replace hm := Bh h2 hm
   refine RD hnt (.no :: o47 [0] true r1 :: nn 5 (pF :: [])) [] [(12,pB (((p1.tasks.length : Nat) : Int) == 0))] [] [(0,bx (pm (Ah r1.2)))] (an (Fv p0 15 r1 hr1) (an tv (an5 h2 tv))) ?_
   exact jD (((p1.tasks.length : Nat) : Int) == 0) hm Conv.eqK
abbrev o72 (ks : List Nat) (b : Bool) (RES : Int × Al) : Orc := .call 21 ks b (pI RES.1) [.box (pm (Ah RES.2))] []

theorem Afs (p0 : Aa) (p1 : Int) (RES : Aa × Int × Int) (hm : Sr p0 p1 = some RES) : Spec Tryz.prog 85 [.p (.agg (Ab p0)),pI p1] [] (.tup [.agg [ow 0 RES.1.tree.nodes.length,pI RES.1.tree.next,ow 1 RES.1.tasks.length,pI RES.1.next],pI RES.2.1,pI RES.2.2]) [] [Ac RES.1.tree.nodes,Ai RES.1.tasks] := by
 unfold Sr at hm
 refine SO Tryz.func85 rfl rfl [(0,.p (.agg (Ab p0))),(1,pI p1)] [] ?_
 intro cx hnt
 refine Sq (RK hnt (nn 4 []) [(1,pI p1),(2,rr 1016),(4,rr 1032)] [(1016,bx (pm (Ab p0))),(1032,bx [.p (.sl .nil 0 0 (fun _ => [])),pI 0,.p (.sl .nil 0 0 (fun _ => [])),pI 0])] tv ?_)
 obtain ⟨r1,hr1,hm⟩ := bo hm
 refine Sq (Sq (RD hnt (.no :: o56 [] true r1 :: .no :: []) [] [(11,pB (!r1))] [] [] (an (Ei p0 r1 hr1) tv) ?_))
 refine Ag hm ?_ ?_
 ·intro h2 hm
  refine Sq (RD hnt (nn 4 []) [1,2,11] [(5,pI 0),(6,pI 1)] [1016] [] tv ?_)
  refine DW.cv [] [] [] [(1032,bx [ow 100000 0,pI 0,ow 100001 0,pI 0]),(100000,ob0 (Ac [])),(100001,ob0 (Ai []))] (Conv.ads [(.o 1032 0,100000,6,elems An Aw []),(.o 1032 2,100001,4,elems Am Ba [])]) ?_
  obtain rfl := sj hm
  exact DW.ret (Ak [Ac [],Ai []] [100000,100001] (.tup [.agg [ow 0 0,pI 0,ow 1 0,pI 0],pI 0,pI 1]))
 ·intro h2 hm
  refine Sk ?_
  obtain ⟨r3,hr3,hm⟩ := bo hm
  refine Sq (RD hnt (nn 2 (o61 [] true r3 :: nn 6 [])) [1,11] [(7,rr 1056),(8,pB r3.2)] [] [(1056,bx (pm (Am r3.1)))] (an (Jz p0 p1 r3 hr3) tv) ?_)
  refine Sq (Sq (RD hnt (nn 2 []) [8] [(20,pB (!r3.2))] [] [] tv ?_))
  refine Ag hm ?_ ?_
  ·intro h4 hm
   refine Sq (RD hnt (nn 4 []) [2,7,20] [(5,pI 0),(6,pI 4)] [1016,1056] [] tv ?_)
   refine DW.cv [] [] [] [(1032,bx [ow 100000 0,pI 0,ow 100001 0,pI 0]),(100000,ob0 (Ac [])),(100001,ob0 (Ai []))] (Conv.ads [(.o 1032 0,100000,6,elems An Aw []),(.o 1032 2,100001,4,elems Am Ba [])]) ?_
   obtain rfl := sj hm
   exact DW.ret (Ak [Ac [],Ai []] [100000,100001] (.tup [.agg [ow 0 0,pI 0,ow 1 0,pI 0],pI 0,pI 4]))
  ·intro h4 hm
   refine Sk ?_
   obtain ⟨r5,hr5,hm⟩ := bo hm
   refine Sq (RK hnt (nn 2 (o71 [] true r5 :: nn 6 [])) [(4,rr 1032),(5,pI r5.2.1),(6,pI r5.2.2)] [(1032,bx [ow 1192 r5.1.tree.nodes.length,pI r5.1.tree.next,ow 1193 r5.1.tasks.length,pI r5.1.next]),(1192,ob0 (Ac r5.1.tree.nodes)),(1193,ob0 (Ai r5.1.tasks))] (an (Acc p0 r3.1 r5 hr5) tv) ?_)
   obtain rfl := sj hm
   exact DW.ret (Ak [Ac r5.1.tree.nodes,Ai r5.1.tasks] [1192,1193] (.tup [.agg [ow 0 r5.1.tree.nodes.length,pI r5.1.tree.next,ow 1 r5.1.tasks.length,pI r5.1.next],pI r5.2.1,pI r5.2.2]))
abbrev o73 (ks : List Nat) (b : Bool) (RES : Aa × Int × Int) : Orc := .call 85 ks b (.tup [.agg [ow 0 RES.1.tree.nodes.length,pI RES.1.tree.next,ow 1 RES.1.tasks.length,pI RES.1.next],pI RES.2.1,pI RES.2.2]) [] [Ac RES.1.tree.nodes,Ai RES.1.tasks]

abbrev c75e1 (s1 : (List Aj) × Int) (p2 : Int) := ({ id := (s1.1.getD (Int.toNat s1.2) Ba).id,process := (s1.1.getD (Int.toNat s1.2) Ba).process,group := p2,user := (s1.1.getD (Int.toNat s1.2) Ba).user } : Aj)
abbrev c75e2 : Nat × Obj := (1048,bx [.p (.sl .nil 0 0 (fun _ => [])),pI 0,.p (.sl .nil 0 0 (fun _ => [])),pI 0])
abbrev c75e3 (s1 : (List Aj) × Int) (p2 : Int) := (Bj (Dy s1.1) (Int.toNat s1.2) [vi (s1.1.getD (Int.toNat s1.2) Ba).id,vi (s1.1.getD (Int.toNat s1.2) Ba).process,vi p2,vi (s1.1.getD (Int.toNat s1.2) Ba).user])
theorem AfM (p0 : Aa) (p1 : Int) (p2 : Int) (RES : Aa × Int) (hm : Ss p0 p1 p2 = some RES) : Spec Tryz.prog 64 [.p (.agg (Ab p0)),pI p1,pI p2] [] (.tup [.agg [ow 0 RES.1.tree.nodes.length,pI RES.1.tree.next,ow 1 RES.1.tasks.length,pI RES.1.next],pI RES.2]) [] [Ac RES.1.tree.nodes,Ai RES.1.tasks] := by
 unfold Ss at hm
 refine SO Tryz.func64 rfl rfl [(0,.p (.agg (Ab p0))),(1,pI p1),(2,pI p2)] [] ?_
 intro cx hnt
 refine Sq (RD hnt (nn 3 []) [0] [(3,rr 1024),(6,rr 1048)] [] [(1024,bx (pm (Ab p0))),(c75e2)] tv ?_)
 obtain ⟨r1,hr1,hm⟩ := bo hm
 refine Sq (Sq (RD hnt (.no :: o56 [] true r1 :: .no :: []) [] [(14,pB (!r1))] [] [] (an (Ei p0 r1 hr1) tv) ?_))
 refine Ag hm ?_ ?_
 ·intro h2 hm
  refine Sq (RD hnt (nn 3 []) [1,2,3,14] [(7,pI 1)] [1024] [] tv ?_)
  refine DW.cv [] [] [] [(1048,bx [ow 100000 0,pI 0,ow 100001 0,pI 0]),(100000,ob0 (Ac [])),(100001,ob0 (Ai []))] (Conv.ads [(.o 1048 0,100000,6,elems An Aw []),(.o 1048 2,100001,4,elems Am Ba [])]) ?_
  obtain rfl := sj hm
  exact DW.ret (Ak [Ac [],Ai []] [100000,100001] (.tup [.agg [ow 0 0,pI 0,ow 1 0,pI 0],pI 1]))
 ·intro h2 hm
  refine Sk ?_
  obtain ⟨r3,hr3,hm⟩ := bo hm
  refine Sq (Sq (RD hnt (nn 2 (o61 [] true r3 :: nn 6 [])) [14] [(9,pB r3.2)] [] [] (an (Jz p0 p1 r3 hr3) tv) ?_))
  refine Sq ?_
  refine Jn (ι := Bool) (fun (y1 : Bool) => Ao [(1,pI p1),(2,pI p2),(3,rr 1024),(6,rr 1048),(30,pB y1)] [(1024,bx (pm (Ab p0))),(c75e2)]) (fun y1 => (Qe p0 p1 p2) y1 = some RES) ?_ ?_
  ·intro y1 hm
   unfold Qe at hm
   refine Ag hm ?_ ?_
   ·intro h6 hm
    refine Sq (RD hnt (nn 3 []) [1,2,3,30] [(7,pI 4)] [1024] [] tv ?_)
    refine DW.cv [] [] [] [(1048,bx [ow 100000 0,pI 0,ow 100001 0,pI 0]),(100000,ob0 (Ac [])),(100001,ob0 (Ai []))] (Conv.ads [(.o 1048 0,100000,6,elems An Aw []),(.o 1048 2,100001,4,elems Am Ba [])]) ?_
    obtain rfl := sj hm
    exact DW.ret (Ak [Ac [],Ai []] [100000,100001] (.tup [.agg [ow 0 0,pI 0,ow 1 0,pI 0],pI 4]))
   ·intro h6 hm
    refine Sk ?_
    obtain ⟨r7,hr7,hm⟩ := bo hm
    refine Sq (RD hnt (.no :: o66 [] true r7 :: nn 2 []) [3,30] [(10,rr 1080)] [1024] [(1080,bx [ow 1264 r7.tree.nodes.length,pI r7.tree.next,ow 1265 r7.tasks.length,pI r7.next]),(1264,ob0 (Ac r7.tree.nodes)),(1265,ob0 (Ai r7.tasks))] (an (Ly p0 r7 hr7) tv) ?_)
    refine Sq (Sq (RD hnt (.no :: []) [] [(11,pI 0)] [] [] tv ?_))
    refine Bk ?_
    refine DW.whileO (fun (s1 : (List Aj) × Int) => Ao [(1,pI p1),(2,pI p2),(6,rr 1048),(10,rr 1080),(11,pI s1.2)] [(c75e2),(1080,bx [ow 1264 r7.tree.nodes.length,pI r7.tree.next,ow 1265 s1.1.length,pI r7.next]),(1264,ob0 (Ac r7.tree.nodes)),(1265,ob0 (Ai s1.1))]) hm Conv.eqK ?_
    intro s1 n1 hm
    unfold Ps at hm
    refine Sq (Sq (RD hnt (nn 5 []) [] [(38,pB (decide (s1.2 < ((s1.1.length : Nat) : Int))))] [] [] tv ?_))
    refine Ag hm ?_ ?_
    ·intro h14 hm
     refine Sk ?_
     refine Sq ?_
     refine Jn (ι := List Aj) (fun (y3 : List Aj) => Ao [(1,pI p1),(2,pI p2),(6,rr 1048),(10,rr 1080),(11,pI s1.2)] [(c75e2),(1080,bx [ow 1264 r7.tree.nodes.length,pI r7.tree.next,ow 1265 y3.length,pI r7.next]),(1264,ob0 (Ac r7.tree.nodes)),(1265,ob0 (Ai y3))]) (fun y3 => (Qf s1 n1) y3 = some RES) ?_ ?_
     ·intro y3 hm
      unfold Qf at hm
      refine RD hnt (nn 3 []) [] [(11,pI (w64 (s1.2 + 1)))] [] [] tv ?_
      exact jD (y3,(w64 (s1.2 + 1))) hm Conv.eqK
     ·refine Bk ?_
      obtain ⟨g15,g16,hm⟩ := go2 hm
      refine Sq (RD hnt (nn 8 []) [38] [(48,pB ((s1.1.getD (Int.toNat s1.2) Ba).id == p1))] [] [] (an g15.1 (an g15.2 (an g16 tv))) ?_)
      refine Ag hm ?_ ?_
      ·intro h17 hm
       obtain ⟨g18,g19,hm⟩ := go2 hm
       refine RN hnt (nn 7 []) [(1,pI p1),(2,pI p2),(6,rr 1048),(10,rr 1080),(11,pI s1.2)] [(c75e2),(1080,bx [ow 1264 r7.tree.nodes.length,pI r7.tree.next,ow 1265 (s1.1.set (Int.toNat s1.2) (c75e1 s1 p2)).length,pI r7.next]),(1264,ob0 (Ac r7.tree.nodes)),(1265,ob0 (Ai (s1.1.set (Int.toNat s1.2) (c75e1 s1 p2))))] [] [(1080,.box [ow 1264 r7.tree.nodes.length,pI r7.tree.next,ow 1265 s1.1.length,pI r7.next]),(1265,.row 4 s1.1.length (c75e3 s1 p2))] (an g18.1 (an g18.2 (an g19 tv))) (by kernel_rfl) .nil (.cons rfl (.box (.cons .rfl (.cons .rfl (.cons (MLe.ownLen (enc := Am) (d := Ba) (f := (c75e3 s1 p2)) (RowIs.upd RowIs.elems (c75e1 s1 p2) rfl)) (.cons .rfl .nil))))) (.cons rfl (BLe.typed (RowIs.upd RowIs.elems (c75e1 s1 p2) rfl)) .nil)) ?_
       exact bD (s1.1.set (Int.toNat s1.2) (c75e1 s1 p2)) hm .refl
      ·intro h17 hm
       refine Sk ?_
       exact bD s1.1 hm Conv.t0
    ·intro h14 hm
     refine DW.exit ?_
     refine Ar ?_
     refine Au ?_
     refine Ap ?_
     show DW _ _ _ _ _
     refine Sq (RD hnt (nn 3 []) [1,2,10,11,38] [(7,pI 0)] [1080] [(1048,bx [ow 1264 r7.tree.nodes.length,pI r7.tree.next,ow 1265 s1.1.length,pI r7.next])] tv ?_)
     obtain rfl := sj hm
     exact DW.ret (Ak [Ac r7.tree.nodes,Ai s1.1] [1264,1265] (.tup [.agg [ow 0 r7.tree.nodes.length,pI r7.tree.next,ow 1 s1.1.length,pI r7.next],pI 0]))
  ·rcases bt (!r3.2) with h4 | h4
   ·replace hm := Bg h4 hm
    refine RD hnt (nn 3 (sk 5 (pT :: []))) [9] [(30,pB true)] [] [] (an6 h4 tv) ?_
    exact jD true hm Conv.eqK
   ·replace hm := Bh h4 hm
    obtain ⟨r5,hr5,hm⟩ := bo hm
    refine RD hnt (nn 6 (o42 [] true r5 :: .no :: pF :: [])) [9] [(30,pB (!r5))] [] [] (an4 h4 (an (Cy p0.tree p2 r5 hr5) (an2 h4 tv))) ?_
    exact jD (!r5) hm Conv.eqK
abbrev o75 (ks : List Nat) (b : Bool) (RES : Aa × Int) : Orc := .call 64 ks b (.tup [.agg [ow 0 RES.1.tree.nodes.length,pI RES.1.tree.next,ow 1 RES.1.tasks.length,pI RES.1.next],pI RES.2]) [] [Ac RES.1.tree.nodes,Ai RES.1.tasks]

abbrev c74e1 : Nat × Obj := (1048,bx [ow 100000 0,pI 0,ow 100001 0,pI 0])
abbrev c74e2 : Nat × Obj := (1048,bx [.p (.sl .nil 0 0 (fun _ => [])),pI 0,.p (.sl .nil 0 0 (fun _ => [])),pI 0])
theorem AaU (p0 : Aa) (p1 : Int) (p2 : Int) (RES : Aa × Int) (hm : Kg p0 p1 p2 = some RES) : Spec Tryz.prog 86 [.p (.agg (Ab p0)),pI p1,pI p2] [] (.tup [.agg [ow 0 RES.1.tree.nodes.length,pI RES.1.tree.next,ow 1 RES.1.tasks.length,pI RES.1.next],pI RES.2]) [] [Ac RES.1.tree.nodes,Ai RES.1.tasks] := by
 unfold Kg at hm
 refine SO Tryz.func86 rfl rfl [(0,.p (.agg (Ab p0))),(1,pI p1),(2,pI p2)] [] ?_
 intro cx hnt
 refine Sq (RD hnt (nn 3 []) [0] [(3,rr 1024),(6,rr 1048)] [] [(1024,bx (pm (Ab p0))),(c74e2)] tv ?_)
 obtain ⟨r1,hr1,hm⟩ := bo hm
 refine Sq (Sq (RD hnt (.no :: o54 [] true r1 :: .no :: []) [] [(17,pB (!r1))] [] [] (an (Ma p0 r1 hr1) tv) ?_))
 refine Ag hm ?_ ?_
 ·intro h2 hm
  refine Sq (RD hnt (nn 3 []) [1,2,3,17] [(7,pI 1)] [1024] [] tv ?_)
  refine DW.cv [] [] [] [(c74e1),(100000,ob0 (Ac [])),(100001,ob0 (Ai []))] (Conv.ads [(.o 1048 0,100000,6,elems An Aw []),(.o 1048 2,100001,4,elems Am Ba [])]) ?_
  obtain rfl := sj hm
  exact DW.ret (Ak [Ac [],Ai []] [100000,100001] (.tup [.agg [ow 0 0,pI 0,ow 1 0,pI 0],pI 1]))
 ·intro h2 hm
  refine Sk ?_
  obtain ⟨r3,hr3,hm⟩ := bo hm
  refine Sq (RD hnt (nn 2 (o61 [] true r3 :: nn 6 [])) [17] [(8,rr 1064),(9,pB r3.2)] [] [(1064,bx (pm (Am r3.1)))] (an (Jz p0 p1 r3 hr3) tv) ?_)
  refine Sq (Sq ?_)
  refine Jn (ι := Bool) (fun (y1 : Bool) => Ao [(1,pI p1),(2,pI p2),(3,rr 1024),(6,rr 1048),(8,rr 1064),(33,pB y1)] [(1024,bx (pm (Ab p0))),(c74e2),(1064,bx (pm (Am r3.1)))]) (fun y1 => (Hi p0 p1 p2 r3) y1 = some RES) ?_ ?_
  ·intro y1 hm
   unfold Hi at hm
   refine Ag hm ?_ ?_
   ·intro h6 hm
    refine Sq (RD hnt (nn 3 []) [1,2,3,8,33] [(7,pI 4)] [1024,1064] [] tv ?_)
    refine DW.cv [] [] [] [(c74e1),(100000,ob0 (Ac [])),(100001,ob0 (Ai []))] (Conv.ads [(.o 1048 0,100000,6,elems An Aw []),(.o 1048 2,100001,4,elems Am Ba [])]) ?_
    obtain rfl := sj hm
    exact DW.ret (Ak [Ac [],Ai []] [100000,100001] (.tup [.agg [ow 0 0,pI 0,ow 1 0,pI 0],pI 4]))
   ·intro h6 hm
    refine Sk ?_
    obtain ⟨r7,hr7,hm⟩ := bo hm
    refine Sq (Sq (RD hnt (nn 2 (o69 [] true r7 :: .no :: [])) [33] [(10,pI r7)] [] [] (an (Zp p0 p2 r7 hr7) tv) ?_))
    refine Sq (RD hnt (nn 2 []) [] [(39,pB (r7 != 0))] [] [] tv ?_)
    refine Ag hm ?_ ?_
    ·intro h8 hm
     refine Sq (RD hnt (nn 4 []) [1,2,3,8,10,39] [(7,pI r7)] [1024,1064] [] tv ?_)
     refine DW.cv [] [] [] [(c74e1),(100000,ob0 (Ac [])),(100001,ob0 (Ai []))] (Conv.ads [(.o 1048 0,100000,6,elems An Aw []),(.o 1048 2,100001,4,elems Am Ba [])]) ?_
     obtain rfl := sj hm
     exact DW.ret (Ak [Ac [],Ai []] [100000,100001] (.tup [.agg [ow 0 0,pI 0,ow 1 0,pI 0],pI r7]))
    ·intro h8 hm
     refine Sk ?_
     obtain ⟨r9,hr9,hm⟩ := bo hm
     refine Sq (RD hnt (nn 3 (o62 [] true r9 :: nn 5 [])) [10,39] [(11,pI r9.1)] [] [] (an (Pe p0.tree p2 r9 hr9) tv) ?_)
     obtain ⟨r10,hr10,hm⟩ := bo hm
     refine Sq (Sq (RD hnt (nn 4 (o62 [] true r10 :: nn 5 [])) [8] [(13,pI r10.1)] [1064] [] (an (Pe p0.tree r3.1.group r10 hr10) tv) ?_))
     refine Sq (RD hnt (nn 3 []) [11,13] [(59,pB (r9.1 != r10.1))] [] [] tv ?_)
     refine Ag hm ?_ ?_
     ·intro h11 hm
      refine Sq (RD hnt (nn 3 []) [1,2,3,59] [(7,pI 9)] [1024] [] tv ?_)
      refine DW.cv [] [] [] [(c74e1),(100000,ob0 (Ac [])),(100001,ob0 (Ai []))] (Conv.ads [(.o 1048 0,100000,6,elems An Aw []),(.o 1048 2,100001,4,elems Am Ba [])]) ?_
      obtain rfl := sj hm
      exact DW.ret (Ak [Ac [],Ai []] [100000,100001] (.tup [.agg [ow 0 0,pI 0,ow 1 0,pI 0],pI 9]))
     ·intro h11 hm
      refine Sk ?_
      obtain ⟨r12,hr12,hm⟩ := bo hm
      refine Sq (RK hnt (nn 3 (o75 [] true r12 :: nn 4 [])) [(6,rr 1048),(7,pI r12.2)] [(1048,bx [ow 1512 r12.1.tree.nodes.length,pI r12.1.tree.next,ow 1513 r12.1.tasks.length,pI r12.1.next]),(1512,ob0 (Ac r12.1.tree.nodes)),(1513,ob0 (Ai r12.1.tasks))] (an (AfM p0 p1 p2 r12 hr12) tv) ?_)
      obtain rfl := sj hm
      exact DW.ret (Ak [Ac r12.1.tree.nodes,Ai r12.1.tasks] [1512,1513] (.tup [.agg [ow 0 r12.1.tree.nodes.length,pI r12.1.tree.next,ow 1 r12.1.tasks.length,pI r12.1.next],pI r12.2]))
  ·rcases bt (!r3.2) with h4 | h4
   ·replace hm := Bg h4 hm
    refine RD hnt (nn 3 (sk 5 (pT :: []))) [9] [(33,pB true)] [] [] (an6 h4 tv) ?_
    exact jD true hm Conv.eqK
   ·replace hm := Bh h4 hm
    obtain ⟨r5,hr5,hm⟩ := bo hm
    refine RD hnt (nn 6 (o42 [] true r5 :: .no :: pF :: [])) [9] [(33,pB (!r5))] [] [] (an4 h4 (an (Cy p0.tree p2 r5 hr5) (an2 h4 tv))) ?_
    exact jD (!r5) hm Conv.eqK
abbrev o74 (ks : List Nat) (b : Bool) (RES : Aa × Int) : Orc := .call 86 ks b (.tup [.agg [ow 0 RES.1.tree.nodes.length,pI RES.1.tree.next,ow 1 RES.1.tasks.length,pI RES.1.next],pI RES.2]) [] [Ac RES.1.tree.nodes,Ai RES.1.tasks]

abbrev Hb (p0 : Aa) (k1 : Nat) := (p0.tasks.getD k1 (default : Aj))
abbrev c76e2 : Nat × Obj := (1032,bx [.p (.sl .nil 0 0 (fun _ => [])),pI 0,.p (.sl .nil 0 0 (fun _ => [])),pI 0])
abbrev c76e3 (p0 : Aa) : Nat × Obj := (1016,bx (pm (Ab p0)))
abbrev c76e4 (r5 : Ae) : Nat × Obj := (1208,ob0 (Ac r5.nodes))
theorem Agr (p0 : Aa) (p1 : Int) (RES : Aa × Int) (hm : Vg p0 p1 = some RES) : Spec Tryz.prog 87 [.p (.agg (Ab p0)),pI p1] [] (.tup [.agg [ow 0 RES.1.tree.nodes.length,pI RES.1.tree.next,ow 1 RES.1.tasks.length,pI RES.1.next],pI RES.2]) [] [Ac RES.1.tree.nodes,Ai RES.1.tasks] := by
 unfold Vg at hm
 refine SO Tryz.func87 rfl rfl [(0,.p (.agg (Ab p0))),(1,pI p1)] [] ?_
 intro cx hnt
 refine Sq (RK hnt (nn 3 []) [(1,pI p1),(2,rr 1016),(4,rr 1032)] [(c76e3 p0),(c76e2)] tv ?_)
 obtain ⟨r1,hr1,hm⟩ := bo hm
 refine Sq (Sq (RD hnt (.no :: o56 [] true r1 :: .no :: []) [] [(13,pB (!r1))] [] [] (an (Ei p0 r1 hr1) tv) ?_))
 refine Ag hm ?_ ?_
 ·intro h2 hm
  refine Sq (RD hnt (nn 3 []) [1,2,13] [(5,pI 1)] [1016] [] tv ?_)
  refine DW.cv [] [] [] [(1032,bx [ow 100000 0,pI 0,ow 100001 0,pI 0]),(100000,ob0 (Ac [])),(100001,ob0 (Ai []))] (Conv.ads [(.o 1032 0,100000,6,elems An Aw []),(.o 1032 2,100001,4,elems Am Ba [])]) ?_
  obtain rfl := sj hm
  exact DW.ret (Ak [Ac [],Ai []] [100000,100001] (.tup [.agg [ow 0 0,pI 0,ow 1 0,pI 0],pI 1]))
 ·intro h2 hm
  refine Sk ?_
  obtain ⟨r3,hr3,hm⟩ := bo hm
  refine Sq (Sq (RD hnt (nn 2 (o61 [] true r3 :: nn 6 [])) [13] [(7,pB r3.2)] [] [] (an (Jz p0 p1 r3 hr3) tv) ?_))
  refine Sq (RD hnt (nn 2 []) [7] [(22,pB (!r3.2))] [] [] tv ?_)
  refine Ag hm ?_ ?_
  ·intro h4 hm
   refine Sq (RD hnt (nn 3 []) [1,2,22] [(5,pI 4)] [1016] [] tv ?_)
   refine DW.cv [] [] [] [(1032,bx [ow 100000 0,pI 0,ow 100001 0,pI 0]),(100000,ob0 (Ac [])),(100001,ob0 (Ai []))] (Conv.ads [(.o 1032 0,100000,6,elems An Aw []),(.o 1032 2,100001,4,elems Am Ba [])]) ?_
   obtain rfl := sj hm
   exact DW.ret (Ak [Ac [],Ai []] [100000,100001] (.tup [.agg [ow 0 0,pI 0,ow 1 0,pI 0],pI 4]))
  ·intro h4 hm
   refine Sk ?_
   obtain ⟨r5,hr5,hm⟩ := bo hm
   refine Sq (RD hnt (nn 2 (o46 [] true r5 :: nn 5 [])) [22] [(8,rr 1064)] [] [(1064,bx [ow 1208 r5.nodes.length,pI r5.next,.p (.sl .nil 0 0 (fun _ => [])),pI p0.next]),(c76e4 r5)] (an (Rn p0.tree r5 hr5) tv) ?_)
   refine Sq (Sq (RD hnt (.no :: []) [] [(9,pI 0)] [] [] tv ?_))
   refine Bk ?_
   obtain ⟨hc1,hm⟩ := go1 hm
   refine DW.rangeO (fun (k1 : Nat) (s1 : List Aj) => Ao [(1,pI p1),(2,rr 1016),(4,rr 1032),(8,rr 1064),(9,pI ((k1 : Nat) : Int))] [(c76e3 p0),(c76e2),(1064,bx [ow 1208 r5.nodes.length,pI r5.next,ow 1448 s1.length,pI p0.next]),(c76e4 r5),(1448,ob0 (Ai s1))]) Ba hm (Conv.ads [(.o 1064 2,1448,4,elems Am Ba [])]) ?_
   intro k1 s1 n1 hk1 hs1 he1
   refine Sq (Sq (RD hnt (nn 5 []) [] [(34,pB (decide (((k1 : Nat) : Int) < ((p0.tasks.length : Nat) : Int))))] [] [] tv ?_))
   refine Cm (decide (((k1 : Nat) : Int) < ((p0.tasks.length : Nat) : Int))) ?_ ?_
   ·intro h15
    have hlt1 : k1 < p0.tasks.length := by have := of_decide_eq_true h15; omega
    have hm := hs1 hlt1
    unfold Uk at hm
    refine Sk ?_
    refine Sq ?_
    refine Jn (ι := List Aj) (fun (y3 : List Aj) => Ao [(1,pI p1),(2,rr 1016),(4,rr 1032),(8,rr 1064),(9,pI ((k1 : Nat) : Int))] [(c76e3 p0),(c76e2),(1064,bx [ow 1208 r5.nodes.length,pI r5.next,ow 1448 y3.length,pI p0.next]),(c76e4 r5),(1448,ob0 (Ai y3))]) (fun y3 => (Rh n1) y3 = some RES) ?_ ?_
    ·intro y3 hm
     unfold Rh at hm
     refine RD hnt (nn 3 []) [] [(9,pI (w64 (((k1 : Nat) : Int) + 1)))] [] [] tv ?_
     exact jD y3 ⟨hlt1,hm⟩ (Conv.tp [(9,pI (w64 (((k1 : Nat) : Int) + 1)))] [] (by kernel_rfl) (.cons rfl (.of_eq (congrArg pI (Br hlt1 hc1))) .nil) .nil)
    ·refine Bk ?_
     refine Sq (RD hnt (nn 7 []) [34] [(10,rr 1080)] [] [(1080,bx (pm (Am (Hb p0 k1))))] (an (nn0 k1) (an (ltc hlt1) tv)) ?_)
     refine Sq (DW.regJ (sl2 := [(1,pI p1),(2,rr 1016),(4,rr 1032),(8,rr 1064),(9,pI ((k1 : Nat) : Int)),(10,rr 1080),(51,pB (((Hb p0 k1).id != p1) && ((Hb p0 k1).process != p1)))]) (ob2 := [(c76e3 p0),(c76e2),(1064,bx [ow 1208 r5.nodes.length,pI r5.next,ow 1448 s1.length,pI p0.next]),(1080,bx (pm (Am (Hb p0 k1)))),(c76e4 r5),(1448,ob0 (Ai s1))]) ?_ ?_)
     ·rcases bt ((Hb p0 k1).id != p1) with h16 | h16
      ·exact RT hnt (nn 9 (pT :: [])) [(51,pB ((Hb p0 k1).process != p1))] (an5 h16 tv) (by kernel_rfl) (.cons rfl (.of_eq (by rw [h16]; try rfl)) .nil)
      ·exact RT hnt (nn 5 (sk 4 (pF :: []))) [(51,pB false)] (an5 h16 tv) (by kernel_rfl) (.cons rfl (.of_eq (by rw [h16]; try rfl)) .nil)
     ·refine Ag hm ?_ ?_
      ·intro h17 hm
       obtain ⟨g18,hm⟩ := go1 hm
       refine RN hnt (nn 7 []) [(1,pI p1),(2,rr 1016),(4,rr 1032),(8,rr 1064),(9,pI ((k1 : Nat) : Int))] [(c76e3 p0),(c76e2),(1064,bx [ow 1208 r5.nodes.length,pI r5.next,ow 1448 (s1 ++ [(Hb p0 k1)]).length,pI p0.next]),(c76e4 r5),(1448,ob0 (Ai (s1 ++ [(Hb p0 k1)])))] [] [(1064,.box [ow 1208 r5.nodes.length,pI r5.next,ow 1448 (s1.length + 1),pI p0.next]),(1448,.row 4 (s1.length + 1) (Cp s1.length (Dy s1) (cut 4 [vi (Hb p0 k1).id,vi (Hb p0 k1).process,vi (Hb p0 k1).group,vi (Hb p0 k1).user])))] (an (by omega : (s1.length + 1) * 32 ≤ 140737488355328) tv) (by kernel_rfl) .nil (.cons rfl (.box (.cons .rfl (.cons .rfl (.cons (MLe.ownLen (enc := Am) (d := Ba) (f := (Cp s1.length (Dy s1) (cut 4 [vi (Hb p0 k1).id,vi (Hb p0 k1).process,vi (Hb p0 k1).group,vi (Hb p0 k1).user]))) (RowIs.cat RowIs.elems (RowIs.lit (enc := Am) (d := Ba) (n := 1) (f := (cut 4 [vi (Hb p0 k1).id,vi (Hb p0 k1).process,vi (Hb p0 k1).group,vi (Hb p0 k1).user])) [(Hb p0 k1)] rfl (fun | 0,_ => rfl | n + 1,h => absurd h (by omega))))) (.cons .rfl .nil))))) (.cons rfl (BLe.typed (RowIs.cat RowIs.elems (RowIs.lit (enc := Am) (d := Ba) (n := 1) (f := (cut 4 [vi (Hb p0 k1).id,vi (Hb p0 k1).process,vi (Hb p0 k1).group,vi (Hb p0 k1).user])) [(Hb p0 k1)] rfl (fun | 0,_ => rfl | n + 1,h => absurd h (by omega))))) .nil)) ?_
       exact bD (s1 ++ [(Hb p0 k1)]) hm .refl
      ·intro h17 hm
       refine Sk ?_
       exact bD s1 hm Conv.t0
   ·intro h15
    have hge1 : ¬ k1 < p0.tasks.length := by have := of_decide_eq_false h15; omega
    have hm := he1 hge1
    unfold Um at hm
    refine DW.exit ?_
    refine Ar ?_
    refine Au ?_
    refine Ap ?_
    show DW _ _ _ _ _
    refine Sq (RD hnt (nn 3 []) [1,2,8,9,34] [(5,pI 0)] [1016,1064] [(1032,bx [ow 1208 r5.nodes.length,pI r5.next,ow 1448 s1.length,pI p0.next])] tv ?_)
    obtain rfl := sj hm
    exact DW.ret (Ak [Ac r5.nodes,Ai s1] [1208,1448] (.tup [.agg [ow 0 r5.nodes.length,pI r5.next,ow 1 s1.length,pI p0.next],pI 0]))
abbrev o76 (ks : List Nat) (b : Bool) (RES : Aa × Int) : Orc := .call 87 ks b (.tup [.agg [ow 0 RES.1.tree.nodes.length,pI RES.1.tree.next,ow 1 RES.1.tasks.length,pI RES.1.next],pI RES.2]) [] [Ac RES.1.tree.nodes,Ai RES.1.tasks]

abbrev Abn : Nat × Obj := (1048,bx [.p (.sl .nil 0 0 (fun _ => [])),pI 0,.p (.sl .nil 0 0 (fun _ => [])),pI 0])
theorem Zc (p0 : Al) (p1 : Int) (p2 : Int) (RES : Aa × Al) (hm : It p0 p1 p2 = some RES) : Spec Tryz.prog 16 [rr 0,pI p1,pI p2] [.box (pm (Ah p0))] (.p (.agg (Ab RES.1))) [.box (pm (Ah RES.2))] [] := by
 unfold It at hm
 refine SO Tryz.func16 rfl rfl [(0,rr 0),(1,pI p1),(2,pI p2)] [(0,bx (pm (Ah p0)))] ?_
 intro cx hnt
 refine Sq (RD hnt (.no :: []) [] [(6,rr 1048)] [] [(Abn)] tv ?_)
 obtain ⟨r1,hr1,hm⟩ := bo hm
 refine Sq (RD hnt (o32 [] true r1 :: nn 2 []) [] [(7,rr 1056)] [] [(1056,bx [ow 1168 r1.tree.nodes.length,pI r1.tree.next,ow 1169 r1.tasks.length,pI r1.next]),(1168,ob0 (Ac r1.tree.nodes)),(1169,ob0 (Ai r1.tasks))] (an (Xv r1 hr1) tv) ?_)
 obtain ⟨r2,hr2,hm⟩ := bo hm
 refine Sq (RD hnt (nn 2 (o34 [0] true r2 :: nn 2 [])) [] [] [1168] [(0,bx (pm (Ah r2.2))),(1056,bx [.p (Cz r2.1.nodes),pI r2.1.next,ow 1169 r1.tasks.length,pI r1.next])] (an (Acs p0 p1 r2 hr2) (an tv tv)) ?_)
 obtain ⟨r3,hr3,hm⟩ := bo hm
 refine Sq (Sq (RD hnt (nn 3 (o35 [0] true r3 :: .no :: [])) [1] [(8,pI r3.1)] [] [(0,bx (pm (Ah r3.2)))] (an (As r2.2 (w64 (p1 + 3)) r3 hr3) (an tv tv)) ?_))
 refine Bk ?_
 refine DW.whileO (fun (s1 : Al × Aa × Int) => Ao [(0,rr 0),(2,pI p2),(6,rr 1048),(7,rr 1056),(8,pI s1.2.2)] [(0,bx (pm (Ah s1.1))),(Abn),(1056,bx (pm (Ab s1.2.1)))]) hm (Conv.frz [1169]) ?_
 intro s1 n1 hm
 unfold Nb at hm
 refine Sq (Sq (RD hnt (nn 2 []) [] [(31,pB (decide (s1.2.2 > 0)))] [] [] tv ?_))
 refine Ag hm ?_ ?_
 ·intro h56 hm
  refine Sk ?_
  refine Sq (Bk ?_)
  obtain ⟨r57,hr57,hm⟩ := bo hm
  refine RD hnt (nn 2 (o50 [0] true r57 :: .no :: [])) [31] [] [] [(0,bx (pm (Ah r57.2))),(1056,bx (pm (Ab r57.1)))] (an (AcK s1.1 s1.2.1 r57 hr57) (an tv tv)) ?_
  refine DW.done ?_
  show DW _ _ _ _ _
  refine RD hnt (nn 3 []) [] [(8,pI (w64 (s1.2.2 - 1)))] [] [] tv ?_
  exact jD (r57.2,r57.1,(w64 (s1.2.2 - 1))) hm Conv.eqK
 ·intro h56 hm
  refine DW.exit ?_
  refine Ar ?_
  refine Au ?_
  refine Ap ?_
  show DW _ _ _ _ _
  obtain ⟨r58,hr58,hm⟩ := bo hm
  refine Sq (Sq (RD hnt (nn 3 (o35 [0] true r58 :: .no :: [])) [2,8,31] [(9,pI r58.1)] [] [(0,bx (pm (Ah r58.2)))] (an (As s1.1 (w64 (p2 + 1)) r58 hr58) (an tv tv)) ?_))
  refine Bk ?_
  refine DW.whileO (fun (s3 : Al × Aa × Int) => Ao [(0,rr 0),(6,rr 1048),(7,rr 1056),(9,pI s3.2.2)] [(0,bx (pm (Ah s3.1))),(Abn),(1056,bx (pm (Ab s3.2.1)))]) hm Conv.eqK ?_
  intro s3 n3 hm
  unfold Nd at hm
  refine Sq (Sq (RD hnt (nn 2 []) [] [(42,pB (decide (s3.2.2 > 0)))] [] [] tv ?_))
  refine Ag hm ?_ ?_
  ·intro h82 hm
   refine Sk ?_
   refine Sq ?_
   refine Jn (ι := Al × Aa) (fun (y13 : Al × Aa) => Ao [(0,rr 0),(6,rr 1048),(7,rr 1056),(9,pI s3.2.2)] [(0,bx (pm (Ah y13.1))),(Abn),(1056,bx (pm (Ab y13.2)))]) (fun y13 => (Dr s3 n3) y13 = some RES) ?_ ?_
   ·intro y13 hm
    unfold Dr at hm
    refine RD hnt (nn 3 []) [] [(9,pI (w64 (s3.2.2 - 1)))] [] [] tv ?_
    exact jD (y13.1,y13.2,(w64 (s3.2.2 - 1))) hm Conv.eqK
   ·refine Bk ?_
    obtain ⟨r83,hr83,hm⟩ := bo hm
    refine Sq (RD hnt (nn 3 (o51 [0] true r83 :: .no :: [])) [42] [(10,pI r83.1)] [] [(0,bx (pm (Ah r83.2)))] (an (Lv s3.1 s3.2.1.tree r83 hr83) (an tv tv)) ?_)
    obtain ⟨r84,hr84,hm⟩ := bo hm
    refine Sq (Sq (RD hnt (nn 2 (o69 [] true r84 :: .no :: [])) [] [(52,pB (r84 != 0))] [] [] (an (Zp s3.2.1 r83.1 r84 hr84) tv) ?_))
    refine Ag hm ?_ ?_
    ·intro h85 hm
     refine DW.exit ?_
     exact Ap (joinKQ (r83.2,s3.2.1) hm Conv.t0)
    ·intro h85 hm
     refine Sk ?_
     obtain ⟨r86,hr86,hm⟩ := bo hm
     obtain ⟨r87,hr87,hm⟩ := bo hm
     refine Sq (Sq (RD hnt (nn 3 (o35 [0] true r86 :: o70 [] true r87 :: nn 8 [])) [10,52] [(11,rr 1088),(13,pI r87.2.2)] [] [(0,bx (pm (Ah r86.2))),(1088,bx [ow 1464 r87.1.tree.nodes.length,pI r87.1.tree.next,ow 1465 r87.1.tasks.length,pI r87.1.next]),(1464,ob0 (Ac r87.1.tree.nodes)),(1465,ob0 (Ai r87.1.tasks))] (an (As r83.2 3 r86 hr86) (an tv (an (Afr s3.2.1 r83.1 r86.1 r87 hr87) tv))) ?_))
     refine Sq (RD hnt (nn 2 []) [13] [(63,pB (r87.2.2 == 0))] [] [] tv ?_)
     refine Jn (ι := Aa) (fun (y14 : Aa) => Ao [(0,rr 0),(6,rr 1048),(7,rr 1056),(9,pI s3.2.2)] [(0,bx (pm (Ah r86.2))),(Abn),(1056,bx (pm (Ab y14)))]) (fun y14 => (Gf s3 n3 r86) y14 = some RES) ?_ ?_
     ·intro y14 hm
      unfold Gf at hm
      obtain ⟨r89,hr89,hm⟩ := bo hm
      refine Sq (Sq (RD hnt (.no :: o47 [0] true r89 :: []) [] [(66,pB r89.1)] [] [(0,bx (pm (Ah r89.2)))] (an (Fv r86.2 3 r89 hr89) (an tv tv)) ?_))
      refine Jn (ι := Al × Aa) (fun (y15 : Al × Aa) => Ao [(0,rr 0),(6,rr 1048),(7,rr 1056),(9,pI s3.2.2)] [(0,bx (pm (Ah y15.1))),(Abn),(1056,bx (pm (Ab y15.2)))]) (fun y15 => (Et s3 n3) y15 = some RES) ?_ ?_
      ·intro y15 hm
       unfold Et at hm
       obtain ⟨r94,hr94,hm⟩ := bo hm
       refine Sq (Sq (RD hnt (.no :: o47 [0] true r94 :: []) [] [(80,pB r94.1)] [] [(0,bx (pm (Ah r94.2)))] (an (Fv y15.1 4 r94 hr94) (an tv tv)) ?_))
       refine Jn (ι := Al × Aa) (fun (y16 : Al × Aa) => Ao [(0,rr 0),(6,rr 1048),(7,rr 1056),(9,pI s3.2.2)] [(0,bx (pm (Ah y16.1))),(Abn),(1056,bx (pm (Ab y16.2)))]) (fun y16 => (Ev s3 n3) y16 = some RES) ?_ ?_
       ·intro y16 hm
        unfold Ev at hm
        obtain ⟨r100,hr100,hm⟩ := bo hm
        refine Sq (RD hnt (.no :: o47 [0] true r100 :: []) [] [(97,pB r100.1)] [] [(0,bx (pm (Ah r100.2)))] (an (Fv y16.1 8 r100 hr100) (an tv tv)) ?_)
        refine Ag hm ?_ ?_
        ·intro h101 hm
         obtain ⟨r102,hr102,hm⟩ := bo hm
         obtain ⟨r103,hr103,hm⟩ := bo hm
         refine Sq (RD hnt (nn 3 (o72 [0] true r102 :: o76 [] true r103 :: nn 6 [])) [97] [(19,rr 1152),(20,pI r103.2)] [] [(0,bx (pm (Ah r102.2))),(1152,bx [ow 1824 r103.1.tree.nodes.length,pI r103.1.tree.next,ow 1825 r103.1.tasks.length,pI r103.1.next]),(1824,ob0 (Ac r103.1.tree.nodes)),(1825,ob0 (Ai r103.1.tasks))] (an (Mj r100.2 y16.2 r102 hr102) (an tv (an (Agr y16.2 r102.1 r103 hr103) tv))) ?_)
         refine Sq (RD hnt (nn 2 []) [20] [(107,pB (r103.2 == 0))] [] [] tv ?_)
         refine Ag hm ?_ ?_
         ·intro h104 hm
          refine RD hnt (nn 2 []) [19,107] [] [1152] [(1056,bx [ow 1824 r103.1.tree.nodes.length,pI r103.1.tree.next,ow 1825 r103.1.tasks.length,pI r103.1.next])] tv ?_
          exact bD (r102.2,r103.1) hm (Conv.frz [1824,1825])
         ·intro h104 hm
          refine Sk ?_
          exact bD (r102.2,y16.2) hm Conv.t0
        ·intro h101 hm
         refine Sk ?_
         exact bD (r100.2,y16.2) hm Conv.t0
       ·refine Ag hm ?_ ?_
        ·intro h95 hm
         obtain ⟨r96,hr96,hm⟩ := bo hm
         obtain ⟨r97,hr97,hm⟩ := bo hm
         obtain ⟨r98,hr98,hm⟩ := bo hm
         refine Sq (RD hnt (nn 3 (o72 [0] true r96 :: nn 3 (o51 [0] true r97 :: o74 [] true r98 :: nn 6 []))) [80] [(17,rr 1136),(18,pI r98.2)] [] [(0,bx (pm (Ah r97.2))),(1136,bx [ow 1720 r98.1.tree.nodes.length,pI r98.1.tree.next,ow 1721 r98.1.tasks.length,pI r98.1.next]),(1720,ob0 (Ac r98.1.tree.nodes)),(1721,ob0 (Ai r98.1.tasks))] (an (Mj r94.2 y15.2 r96 hr96) (an tv (an (Lv r96.2 y15.2.tree r97 hr97) (an tv (an (AaU y15.2 r96.1 r97.1 r98 hr98) tv))))) ?_)
         refine Sq (RD hnt (nn 2 []) [18] [(94,pB (r98.2 == 0))] [] [] tv ?_)
         refine Ag hm ?_ ?_
         ·intro h99 hm
          refine RD hnt (nn 2 []) [17,94] [] [1136] [(1056,bx [ow 1720 r98.1.tree.nodes.length,pI r98.1.tree.next,ow 1721 r98.1.tasks.length,pI r98.1.next])] tv ?_
          exact jD (r97.2,r98.1) hm (Conv.frz [1720,1721])
         ·intro h99 hm
          refine Sk ?_
          exact jD (r97.2,y15.2) hm Conv.t0
        ·intro h95 hm
         refine Sk ?_
         exact jD (r94.2,y15.2) hm Conv.t0
      ·refine Ag hm ?_ ?_
       ·intro h90 hm
        obtain ⟨r91,hr91,hm⟩ := bo hm
        obtain ⟨r92,hr92,hm⟩ := bo hm
        refine Sq (RD hnt (nn 3 (o72 [0] true r91 :: o73 [] true r92 :: nn 8 [])) [66] [(14,rr 1112),(16,pI r92.2.2)] [] [(0,bx (pm (Ah r91.2))),(1112,bx [ow 1576 r92.1.tree.nodes.length,pI r92.1.tree.next,ow 1577 r92.1.tasks.length,pI r92.1.next]),(1576,ob0 (Ac r92.1.tree.nodes)),(1577,ob0 (Ai r92.1.tasks))] (an (Mj r89.2 y14 r91 hr91) (an tv (an (Afs y14 r91.1 r92 hr92) tv))) ?_)
        refine Sq (RD hnt (nn 2 []) [16] [(77,pB (r92.2.2 == 0))] [] [] tv ?_)
        refine Ag hm ?_ ?_
        ·intro h93 hm
         refine RD hnt (nn 2 []) [14,77] [] [1112] [(1056,bx [ow 1576 r92.1.tree.nodes.length,pI r92.1.tree.next,ow 1577 r92.1.tasks.length,pI r92.1.next])] tv ?_
         exact jD (r91.2,r92.1) hm (Conv.frz [1576,1577])
        ·intro h93 hm
         refine Sk ?_
         exact jD (r91.2,y14) hm Conv.t0
       ·intro h90 hm
        refine Sk ?_
        exact jD (r89.2,y14) hm Conv.t0
     ·refine Ag hm ?_ ?_
      ·intro h88 hm
       refine RD hnt (nn 2 []) [11,63] [] [1088] [(1056,bx [ow 1464 r87.1.tree.nodes.length,pI r87.1.tree.next,ow 1465 r87.1.tasks.length,pI r87.1.next])] tv ?_
       exact jD r87.1 hm (Conv.frz [1464,1465])
      ·intro h88 hm
       refine Sk ?_
       exact jD s3.2.1 hm Conv.t0
  ·intro h82 hm
   refine DW.exit ?_
   refine Ar ?_
   refine Au ?_
   refine Ap ?_
   show DW _ _ _ _ _
   refine Sq (RD hnt (nn 2 []) [0,7,9,42] [] [1056] [(1048,bx (pm (Ab s3.2.1)))] tv ?_)
   obtain rfl := sj hm
   exact DW.ret (Ak [.box (pm (Ah s3.1))] [] (.p (.agg (Ab s3.2.1))))
abbrev o31 (ks : List Nat) (b : Bool) (RES : Aa × Al) : Orc := .call 16 ks b (.p (.agg (Ab RES.1))) [.box (pm (Ah RES.2))] []

theorem Vl (p0 : Al) (RES : ByteArray × Al) (hm : Mv p0 = some RES) : Spec Tryz.prog 89 [rr 0] [.box (pm (Ah p0))] (pS RES.1) [.box (pm (Ah RES.2))] [] := by
 unfold Mv at hm
 refine SO Tryz.func89 rfl rfl [(0,rr 0)] [(0,bx (pm (Ah p0)))] ?_
 intro cx hnt
 refine Sq (RD hnt (.no :: []) [] [] [] [] tv ?_)
 obtain ⟨r3,hr3,hm⟩ := bo hm
 obtain ⟨g4,g5,hm⟩ := go2 hm
 refine Sq (RK hnt (.asR (ow 1024 [(bs [97]),(bs [98]),(bs [99]),(bs [119,101,98]),(bs [100,98,45,49]),(bs [88,95,57]),ByteArray.empty,(bs [45,97]),(bs [97,47,98]),(bs [195,169]),(bs [97,97,97,97,97,97,97,97,97,97,97,97,97,97,97,97,97,97,97,97,97,97,97,97,97,97,97,97,97,97,97,97]),(bs [97,97,97,97,97,97,97,97,97,97,97,97,97,97,97,97,97,97,97,97,97,97,97,97,97,97,97,97,97,97,97,97,97])].length) [(bs [97]),(bs [98]),(bs [99]),(bs [119,101,98]),(bs [100,98,45,49]),(bs [88,95,57]),ByteArray.empty,(bs [45,97]),(bs [97,47,98]),(bs [195,169]),(bs [97,97,97,97,97,97,97,97,97,97,97,97,97,97,97,97,97,97,97,97,97,97,97,97,97,97,97,97,97,97,97,97]),(bs [97,97,97,97,97,97,97,97,97,97,97,97,97,97,97,97,97,97,97,97,97,97,97,97,97,97,97,97,97,97,97,97,97])].length (elems Vn ByteArray.empty [(bs [97]),(bs [98]),(bs [99]),(bs [119,101,98]),(bs [100,98,45,49]),(bs [88,95,57]),ByteArray.empty,(bs [45,97]),(bs [97,47,98]),(bs [195,169]),(bs [97,97,97,97,97,97,97,97,97,97,97,97,97,97,97,97,97,97,97,97,97,97,97,97,97,97,97,97,97,97,97,97]),(bs [97,97,97,97,97,97,97,97,97,97,97,97,97,97,97,97,97,97,97,97,97,97,97,97,97,97,97,97,97,97,97,97,97])]) :: .no :: o35 [0] true r3 :: nn 3 []) [(2,pS ([(bs [97]),(bs [98]),(bs [99]),(bs [119,101,98]),(bs [100,98,45,49]),(bs [88,95,57]),ByteArray.empty,(bs [45,97]),(bs [97,47,98]),(bs [195,169]),(bs [97,97,97,97,97,97,97,97,97,97,97,97,97,97,97,97,97,97,97,97,97,97,97,97,97,97,97,97,97,97,97,97]),(bs [97,97,97,97,97,97,97,97,97,97,97,97,97,97,97,97,97,97,97,97,97,97,97,97,97,97,97,97,97,97,97,97,97])].getD (Int.toNat r3.1) ByteArray.empty))] [(0,bx (pm (Ah r3.2)))] (an (congrArg (MV.own 1024 0 0) (RowIs.asP (enc := Vn) (d := ByteArray.empty) (L := [(bs [97]),(bs [98]),(bs [99]),(bs [119,101,98]),(bs [100,98,45,49]),(bs [88,95,57]),ByteArray.empty,(bs [45,97]),(bs [97,47,98]),(bs [195,169]),(bs [97,97,97,97,97,97,97,97,97,97,97,97,97,97,97,97,97,97,97,97,97,97,97,97,97,97,97,97,97,97,97,97]),(bs [97,97,97,97,97,97,97,97,97,97,97,97,97,97,97,97,97,97,97,97,97,97,97,97,97,97,97,97,97,97,97,97,97])]) (RowIs.lit (enc := Vn) (d := ByteArray.empty) (n := 12) (f := (cut 1 [vs (bs [97]),vs (bs [98]),vs (bs [99]),vs (bs [119,101,98]),vs (bs [100,98,45,49]),vs (bs [88,95,57]),vs ByteArray.empty,vs (bs [45,97]),vs (bs [97,47,98]),vs (bs [195,169]),vs (bs [97,97,97,97,97,97,97,97,97,97,97,97,97,97,97,97,97,97,97,97,97,97,97,97,97,97,97,97,97,97,97,97]),vs (bs [97,97,97,97,97,97,97,97,97,97,97,97,97,97,97,97,97,97,97,97,97,97,97,97,97,97,97,97,97,97,97,97,97])])) [(bs [97]),(bs [98]),(bs [99]),(bs [119,101,98]),(bs [100,98,45,49]),(bs [88,95,57]),ByteArray.empty,(bs [45,97]),(bs [97,47,98]),(bs [195,169]),(bs [97,97,97,97,97,97,97,97,97,97,97,97,97,97,97,97,97,97,97,97,97,97,97,97,97,97,97,97,97,97,97,97]),(bs [97,97,97,97,97,97,97,97,97,97,97,97,97,97,97,97,97,97,97,97,97,97,97,97,97,97,97,97,97,97,97,97,97])] rfl (fun | 0,_ => rfl | 1,_ => rfl | 2,_ => rfl | 3,_ => rfl | 4,_ => rfl | 5,_ => rfl | 6,_ => rfl | 7,_ => rfl | 8,_ => rfl | 9,_ => rfl | 10,_ => rfl | 11,_ => rfl | n + 12,h => absurd h (by omega)))).1) (an (RowIs.asP (enc := Vn) (d := ByteArray.empty) (L := [(bs [97]),(bs [98]),(bs [99]),(bs [119,101,98]),(bs [100,98,45,49]),(bs [88,95,57]),ByteArray.empty,(bs [45,97]),(bs [97,47,98]),(bs [195,169]),(bs [97,97,97,97,97,97,97,97,97,97,97,97,97,97,97,97,97,97,97,97,97,97,97,97,97,97,97,97,97,97,97,97]),(bs [97,97,97,97,97,97,97,97,97,97,97,97,97,97,97,97,97,97,97,97,97,97,97,97,97,97,97,97,97,97,97,97,97])]) (RowIs.lit (enc := Vn) (d := ByteArray.empty) (n := 12) (f := (cut 1 [vs (bs [97]),vs (bs [98]),vs (bs [99]),vs (bs [119,101,98]),vs (bs [100,98,45,49]),vs (bs [88,95,57]),vs ByteArray.empty,vs (bs [45,97]),vs (bs [97,47,98]),vs (bs [195,169]),vs (bs [97,97,97,97,97,97,97,97,97,97,97,97,97,97,97,97,97,97,97,97,97,97,97,97,97,97,97,97,97,97,97,97]),vs (bs [97,97,97,97,97,97,97,97,97,97,97,97,97,97,97,97,97,97,97,97,97,97,97,97,97,97,97,97,97,97,97,97,97])])) [(bs [97]),(bs [98]),(bs [99]),(bs [119,101,98]),(bs [100,98,45,49]),(bs [88,95,57]),ByteArray.empty,(bs [45,97]),(bs [97,47,98]),(bs [195,169]),(bs [97,97,97,97,97,97,97,97,97,97,97,97,97,97,97,97,97,97,97,97,97,97,97,97,97,97,97,97,97,97,97,97]),(bs [97,97,97,97,97,97,97,97,97,97,97,97,97,97,97,97,97,97,97,97,97,97,97,97,97,97,97,97,97,97,97,97,97])] rfl (fun | 0,_ => rfl | 1,_ => rfl | 2,_ => rfl | 3,_ => rfl | 4,_ => rfl | 5,_ => rfl | 6,_ => rfl | 7,_ => rfl | 8,_ => rfl | 9,_ => rfl | 10,_ => rfl | 11,_ => rfl | n + 12,h => absurd h (by omega)))) (an (As p0 12 r3 hr3) (an tv (an g4.1 (an g4.2 (an g5 tv))))))) ?_)
 obtain rfl := sj hm
 exact DW.ret (Ak [.box (pm (Ah r3.2))] [] (pS ([(bs [97]),(bs [98]),(bs [99]),(bs [119,101,98]),(bs [100,98,45,49]),(bs [88,95,57]),ByteArray.empty,(bs [45,97]),(bs [97,47,98]),(bs [195,169]),(bs [97,97,97,97,97,97,97,97,97,97,97,97,97,97,97,97,97,97,97,97,97,97,97,97,97,97,97,97,97,97,97,97]),(bs [97,97,97,97,97,97,97,97,97,97,97,97,97,97,97,97,97,97,97,97,97,97,97,97,97,97,97,97,97,97,97,97,97])].getD (Int.toNat r3.1) ByteArray.empty)))
abbrev o78 (ks : List Nat) (b : Bool) (RES : ByteArray × Al) : Orc := .call 89 ks b (pS RES.1) [.box (pm (Ah RES.2))] []

theorem Mn (p0 : Al) (RES : Int × Al) (hm : Lc p0 = some RES) : Spec Tryz.prog 91 [rr 0] [.box (pm (Ah p0))] (pI RES.1) [.box (pm (Ah RES.2))] [] := by
 unfold Lc at hm
 refine SO Tryz.func91 rfl rfl [(0,rr 0)] [(0,bx (pm (Ah p0)))] ?_
 intro cx hnt
 refine Sq (RD hnt (.no :: []) [] [] [] [] tv ?_)
 obtain ⟨r3,hr3,hm⟩ := bo hm
 obtain ⟨g4,g5,hm⟩ := go2 hm
 refine Sq (RK hnt (.asR (ow 1024 [0,1,2,1,7,(-1),1048576,1048577].length) [0,1,2,1,7,(-1),1048576,1048577].length (elems Bd 0 [0,1,2,1,7,(-1),1048576,1048577]) :: .no :: o35 [0] true r3 :: nn 3 []) [(2,pI ([0,1,2,1,7,(-1),1048576,1048577].getD (Int.toNat r3.1) 0))] [(0,bx (pm (Ah r3.2)))] (an (congrArg (MV.own 1024 0 0) (RowIs.asP (enc := Bd) (d := 0) (L := [0,1,2,1,7,(-1),1048576,1048577]) (RowIs.lit (enc := Bd) (d := 0) (n := 8) (f := (cut 1 [vi 0,vi 1,vi 2,vi 1,vi 7,vi (-1),vi 1048576,vi 1048577])) [0,1,2,1,7,(-1),1048576,1048577] rfl (fun | 0,_ => rfl | 1,_ => rfl | 2,_ => rfl | 3,_ => rfl | 4,_ => rfl | 5,_ => rfl | 6,_ => rfl | 7,_ => rfl | n + 8,h => absurd h (by omega)))).1) (an (RowIs.asP (enc := Bd) (d := 0) (L := [0,1,2,1,7,(-1),1048576,1048577]) (RowIs.lit (enc := Bd) (d := 0) (n := 8) (f := (cut 1 [vi 0,vi 1,vi 2,vi 1,vi 7,vi (-1),vi 1048576,vi 1048577])) [0,1,2,1,7,(-1),1048576,1048577] rfl (fun | 0,_ => rfl | 1,_ => rfl | 2,_ => rfl | 3,_ => rfl | 4,_ => rfl | 5,_ => rfl | 6,_ => rfl | 7,_ => rfl | n + 8,h => absurd h (by omega)))) (an (As p0 8 r3 hr3) (an tv (an g4.1 (an g4.2 (an g5 tv))))))) ?_)
 obtain rfl := sj hm
 exact DW.ret (Ak [.box (pm (Ah r3.2))] [] (pI ([0,1,2,1,7,(-1),1048576,1048577].getD (Int.toNat r3.1) 0)))
abbrev o79 (ks : List Nat) (b : Bool) (RES : Int × Al) : Orc := .call 91 ks b (pI RES.1) [.box (pm (Ah RES.2))] []

abbrev Bc (r1 : Aa) (r2 : Int × Al) := (r1.tree.nodes.getD (Int.toNat r2.1) Aw)
abbrev Ef (r1 : Aa) (r31 : Int × Al) := (r1.tasks.getD (Int.toNat r31.1) Ba)
abbrev Ob : Nat × Obj := (1032,bx [.p (.sl .nil 0 0 (fun _ => [])),pI 0,.p (.sl .nil 0 0 (fun _ => [])),pI 0])
abbrev c77e4 (r1 : Aa) (r2 : Int × Al) (r18 : Int × Al) := ({ id := (Bc r1 r2).id,parent := (Bc r1 r2).parent,name := (Bc r1 r2).name,control := (Bc r1 r2).control,kind := (w64 (r18.1 - 1)),owner := (Bc r1 r2).owner } : Af)
abbrev c77e5 (r6 : Int × Al) (r1 : Aa) (r2 : Int × Al) := ({ id := r6.1,parent := (Bc r1 r2).parent,name := (Bc r1 r2).name,control := (Bc r1 r2).control,kind := (Bc r1 r2).kind,owner := (Bc r1 r2).owner } : Af)
abbrev c77e6 (r1 : Aa) (r2 : Int × Al) (r21 : Int × Al) := ({ id := (Bc r1 r2).id,parent := (Bc r1 r2).parent,name := (Bc r1 r2).name,control := (Bc r1 r2).control,kind := (Bc r1 r2).kind,owner := r21.1 } : Af)
abbrev c77e7 (r1 : Aa) (r2 : Int × Al) (r9 : Int × Al) := ({ id := (Bc r1 r2).id,parent := r9.1,name := (Bc r1 r2).name,control := (Bc r1 r2).control,kind := (Bc r1 r2).kind,owner := (Bc r1 r2).owner } : Af)
abbrev c77e8 (r1 : Aa) (r2 : Int × Al) (r12 : ByteArray × Al) := ({ id := (Bc r1 r2).id,parent := (Bc r1 r2).parent,name := r12.1,control := (Bc r1 r2).control,kind := (Bc r1 r2).kind,owner := (Bc r1 r2).owner } : Af)
abbrev c77e9 (r1 : Aa) (r2 : Int × Al) (r15 : Int × Al) := ({ id := (Bc r1 r2).id,parent := (Bc r1 r2).parent,name := (Bc r1 r2).name,control := r15.1,kind := (Bc r1 r2).kind,owner := (Bc r1 r2).owner } : Af)
abbrev AaA (r1 : Aa) : Nat × Body := (1040,.box [ow 1072 r1.tree.nodes.length,pI r1.tree.next,ow 1073 r1.tasks.length,pI r1.next])
abbrev Acn (r35 : Int × Al) (r1 : Aa) (r31 : Int × Al) := ({ id := r35.1,process := (Ef r1 r31).process,group := (Ef r1 r31).group,user := (Ef r1 r31).user } : Aj)
abbrev Acz (r1 : Aa) (r31 : Int × Al) (r44 : Int × Al) := ({ id := (Ef r1 r31).id,process := (Ef r1 r31).process,group := (Ef r1 r31).group,user := r44.1 } : Aj)
abbrev AbY (r1 : Aa) (r31 : Int × Al) (r41 : Int × Al) := ({ id := (Ef r1 r31).id,process := (Ef r1 r31).process,group := r41.1,user := (Ef r1 r31).user } : Aj)
abbrev AcI (r1 : Aa) (r31 : Int × Al) (r38 : Int × Al) := ({ id := (Ef r1 r31).id,process := r38.1,group := (Ef r1 r31).group,user := (Ef r1 r31).user } : Aj)
abbrev AeB (y1 : Al × Int × Int × (List Af)) (r1 : Aa) : Nat × Body := (1040,.box [ow 1072 y1.2.2.2.length,pI y1.2.1,ow 1073 r1.tasks.length,pI y1.2.2.1])
abbrev Rk (r1 : Aa) : Nat × Obj := (1073,ob0 (Ai r1.tasks))
abbrev c77e17 (r1 : Aa) (r2 : Int × Al) (r18 : Int × Al) := (Bj (Fz r1.tree.nodes) (Int.toNat r2.1) [vi (Bc r1 r2).id,vi (Bc r1 r2).parent,vs (Bc r1 r2).name,vi (Bc r1 r2).control,vi (w64 (r18.1 - 1)),vi (Bc r1 r2).owner])
abbrev c77e18 (r1 : Aa) (r2 : Int × Al) (r6 : Int × Al) := (Bj (Fz r1.tree.nodes) (Int.toNat r2.1) [vi r6.1,vi (Bc r1 r2).parent,vs (Bc r1 r2).name,vi (Bc r1 r2).control,vi (Bc r1 r2).kind,vi (Bc r1 r2).owner])
abbrev c77e19 (r1 : Aa) (r2 : Int × Al) (r9 : Int × Al) := (Bj (Fz r1.tree.nodes) (Int.toNat r2.1) [vi (Bc r1 r2).id,vi r9.1,vs (Bc r1 r2).name,vi (Bc r1 r2).control,vi (Bc r1 r2).kind,vi (Bc r1 r2).owner])
abbrev c77e20 (r1 : Aa) (r2 : Int × Al) (r21 : Int × Al) := (Bj (Fz r1.tree.nodes) (Int.toNat r2.1) [vi (Bc r1 r2).id,vi (Bc r1 r2).parent,vs (Bc r1 r2).name,vi (Bc r1 r2).control,vi (Bc r1 r2).kind,vi r21.1])
abbrev c77e21 (r1 : Aa) (r2 : Int × Al) (r15 : Int × Al) := (Bj (Fz r1.tree.nodes) (Int.toNat r2.1) [vi (Bc r1 r2).id,vi (Bc r1 r2).parent,vs (Bc r1 r2).name,vi r15.1,vi (Bc r1 r2).kind,vi (Bc r1 r2).owner])
abbrev c77e22 (r1 : Aa) (r2 : Int × Al) (r12 : ByteArray × Al) := (Bj (Fz r1.tree.nodes) (Int.toNat r2.1) [vi (Bc r1 r2).id,vi (Bc r1 r2).parent,vs r12.1,vi (Bc r1 r2).control,vi (Bc r1 r2).kind,vi (Bc r1 r2).owner])
abbrev c77e23 (r1 : Aa) : Nat × Obj := (1040,bx [ow 1072 r1.tree.nodes.length,pI r1.tree.next,ow 1073 r1.tasks.length,pI r1.next])
theorem Agm (p0 : Al) (p1 : Aa) (RES : Aa × Al) (hm : Eu p0 p1 = some RES) : Spec Tryz.prog 17 [rr 0,.p (.agg (Ab p1))] [.box (pm (Ah p0))] (.agg [ow 1 RES.1.tree.nodes.length,pI RES.1.tree.next,ow 2 RES.1.tasks.length,pI RES.1.next]) [.box (pm (Ah RES.2))] [Ac RES.1.tree.nodes,Ai RES.1.tasks] := by
 unfold Eu at hm
 refine SO Tryz.func17 rfl rfl [(0,rr 0),(1,.p (.agg (Ab p1)))] [(0,bx (pm (Ah p0)))] ?_
 intro cx hnt
 refine Sq (RD hnt (nn 2 []) [1] [(3,rr 1024),(4,rr 1032)] [] [(1024,bx (pm (Ab p1))),(Ob)] tv ?_)
 obtain ⟨r1,hr1,hm⟩ := bo hm
 refine Sq (RD hnt (.no :: o66 [] true r1 :: nn 2 []) [3] [(5,rr 1040)] [1024] [(c77e23 r1),(1072,ob0 (Ac r1.tree.nodes)),(Rk r1)] (an (Ly p1 r1 hr1) tv) ?_)
 obtain ⟨r2,hr2,hm⟩ := bo hm
 obtain ⟨g3,hm⟩ := go1 hm
 refine Sq (RD hnt (nn 8 (o35 [0] true r2 :: nn 2 [])) [] [(6,.eref 1072 0 (Int.toNat r2.1) 0)] [] [(0,bx (pm (Ah r2.2)))] (an (As p0 ((r1.tree.nodes.length : Nat) : Int) r2 hr2) (an tv (an g3.1 (an g3.2 tv)))) ?_)
 obtain ⟨r4,hr4,hm⟩ := bo hm
 refine Sq (Sq (RD hnt (.no :: o35 [0] true r4 :: []) [] [(21,pI r4.1)] [] [(0,bx (pm (Ah r4.2)))] (an (As r2.2 12 r4 hr4) (an tv tv)) ?_))
 refine Jn (ι := Al × Int × Int × (List Af)) (fun (y1 : Al × Int × Int × (List Af)) => Ao [(0,rr 0),(4,rr 1032),(5,rr 1040)] [(0,bx (pm (Ah y1.1))),(Ob),(1040,bx [ow 1072 y1.2.2.2.length,pI y1.2.1,ow 1073 r1.tasks.length,pI y1.2.2.1]),(1072,ob0 (Ac y1.2.2.2)),(Rk r1)]) (fun y1 => (Bf r1) y1 = some RES) ?_ ?_
 ·intro y1 hm
  unfold Bf at hm
  refine Sq (Sq (RD hnt (nn 4 []) [] [(91,pB (decide (((r1.tasks.length : Nat) : Int) > 0)))] [] [] tv ?_))
  refine Jn (ι := Al × (List Aj)) (fun (y2 : Al × (List Aj)) => Ao [(4,rr 1032),(5,rr 1040)] [(0,bx (pm (Ah y2.1))),(Ob),(1040,bx [ow 1072 y1.2.2.2.length,pI y1.2.1,ow 1073 y2.2.length,pI y1.2.2.1]),(1072,ob0 (Ac y1.2.2.2)),(1073,ob0 (Ai y2.2))]) (fun y2 => (Bx y1) y2 = some RES) ?_ ?_
  ·intro y2 hm
   unfold Bx at hm
   refine Sq (RD hnt (nn 2 []) [5] [] [1040] [(1032,bx [ow 1072 y1.2.2.2.length,pI y1.2.1,ow 1073 y2.2.length,pI y1.2.2.1])] tv ?_)
   obtain rfl := sj hm
   exact DW.ret (Ak [.box (pm (Ah y2.1)),Ac y1.2.2.2,Ai y2.2] [1072,1073] (.agg [ow 1 y1.2.2.2.length,pI y1.2.1,ow 2 y2.2.length,pI y1.2.2.1]))
  ·refine Ag hm ?_ ?_
   ·intro h30 hm
    obtain ⟨r31,hr31,hm⟩ := bo hm
    obtain ⟨g32,hm⟩ := go1 hm
    refine Sq (RD hnt (nn 6 (o35 [0] true r31 :: nn 2 [])) [91] [(7,.eref 1073 0 (Int.toNat r31.1) 0)] [] [(0,bx (pm (Ah r31.2)))] (an (As y1.1 ((r1.tasks.length : Nat) : Int) r31 hr31) (an tv (an g32.1 (an g32.2 tv)))) ?_)
    obtain ⟨r33,hr33,hm⟩ := bo hm
    refine Sq (RD hnt (.no :: o35 [0] true r33 :: []) [] [(101,pI r33.1)] [] [(0,bx (pm (Ah r33.2)))] (an (As r31.2 8 r33 hr33) (an tv tv)) ?_)
    refine Bk ?_
    refine Sq (RD hnt (nn 2 []) [] [(102,pB (r33.1 == 0))] [] [] tv ?_)
    refine Ag hm ?_ ?_
    ·intro h34 hm
     obtain ⟨r35,hr35,hm⟩ := bo hm
     obtain ⟨g36,hm⟩ := go1 hm
     refine RN hnt (nn 2 (o35 [0] true r35 :: nn 3 [])) [(4,rr 1032),(5,rr 1040)] [(0,bx (pm (Ah r35.2))),(Ob),(1040,bx [ow 1072 y1.2.2.2.length,pI y1.2.1,ow 1073 (r1.tasks.set (Int.toNat r31.1) (Acn r35 r1 r31)).length,pI y1.2.2.1]),(1072,ob0 (Ac y1.2.2.2)),(1073,ob0 (Ai (r1.tasks.set (Int.toNat r31.1) (Acn r35 r1 r31))))] [] [(AeB y1 r1),(1073,.row 4 r1.tasks.length (Bj (Dy r1.tasks) (Int.toNat r31.1) [vi r35.1,vi (Ef r1 r31).process,vi (Ef r1 r31).group,vi (Ef r1 r31).user]))] (an (As r33.2 9 r35 hr35) (an tv (an g36 tv))) (by kernel_rfl) .nil (.cons rfl (.box (.cons .rfl (.cons .rfl (.cons (MLe.ownLen (enc := Am) (d := Ba) (f := (Bj (Dy r1.tasks) (Int.toNat r31.1) [vi r35.1,vi (Ef r1 r31).process,vi (Ef r1 r31).group,vi (Ef r1 r31).user])) (RowIs.upd RowIs.elems (Acn r35 r1 r31) rfl)) (.cons .rfl .nil))))) (.cons rfl (BLe.typed (RowIs.upd RowIs.elems (Acn r35 r1 r31) rfl)) .nil)) ?_
     refine DW.done ?_
     show DW _ _ _ _ _
     exact jD (r35.2,(r1.tasks.set (Int.toNat r31.1) (Acn r35 r1 r31))) hm .refl
    ·intro h34 hm
     refine Sq (RD hnt (nn 2 []) [102] [(109,pB (r33.1 == 1))] [] [] tv ?_)
     refine Ag hm ?_ ?_
     ·intro h37 hm
      obtain ⟨r38,hr38,hm⟩ := bo hm
      obtain ⟨g39,hm⟩ := go1 hm
      refine RN hnt (nn 2 (o35 [0] true r38 :: nn 3 [])) [(4,rr 1032),(5,rr 1040)] [(0,bx (pm (Ah r38.2))),(Ob),(1040,bx [ow 1072 y1.2.2.2.length,pI y1.2.1,ow 1073 (r1.tasks.set (Int.toNat r31.1) (AcI r1 r31 r38)).length,pI y1.2.2.1]),(1072,ob0 (Ac y1.2.2.2)),(1073,ob0 (Ai (r1.tasks.set (Int.toNat r31.1) (AcI r1 r31 r38))))] [] [(AeB y1 r1),(1073,.row 4 r1.tasks.length (Bj (Dy r1.tasks) (Int.toNat r31.1) [vi (Ef r1 r31).id,vi r38.1,vi (Ef r1 r31).group,vi (Ef r1 r31).user]))] (an (As r33.2 9 r38 hr38) (an tv (an g39 tv))) (by kernel_rfl) .nil (.cons rfl (.box (.cons .rfl (.cons .rfl (.cons (MLe.ownLen (enc := Am) (d := Ba) (f := (Bj (Dy r1.tasks) (Int.toNat r31.1) [vi (Ef r1 r31).id,vi r38.1,vi (Ef r1 r31).group,vi (Ef r1 r31).user])) (RowIs.upd RowIs.elems (AcI r1 r31 r38) rfl)) (.cons .rfl .nil))))) (.cons rfl (BLe.typed (RowIs.upd RowIs.elems (AcI r1 r31 r38) rfl)) .nil)) ?_
      refine DW.done ?_
      show DW _ _ _ _ _
      exact jD (r38.2,(r1.tasks.set (Int.toNat r31.1) (AcI r1 r31 r38))) hm .refl
     ·intro h37 hm
      refine Sq (RD hnt (nn 2 []) [109] [(116,pB (r33.1 == 2))] [] [] tv ?_)
      refine Ag hm ?_ ?_
      ·intro h40 hm
       obtain ⟨r41,hr41,hm⟩ := bo hm
       obtain ⟨g42,hm⟩ := go1 hm
       refine RN hnt (nn 2 (o35 [0] true r41 :: nn 3 [])) [(4,rr 1032),(5,rr 1040)] [(0,bx (pm (Ah r41.2))),(Ob),(1040,bx [ow 1072 y1.2.2.2.length,pI y1.2.1,ow 1073 (r1.tasks.set (Int.toNat r31.1) (AbY r1 r31 r41)).length,pI y1.2.2.1]),(1072,ob0 (Ac y1.2.2.2)),(1073,ob0 (Ai (r1.tasks.set (Int.toNat r31.1) (AbY r1 r31 r41))))] [] [(AeB y1 r1),(1073,.row 4 r1.tasks.length (Bj (Dy r1.tasks) (Int.toNat r31.1) [vi (Ef r1 r31).id,vi (Ef r1 r31).process,vi r41.1,vi (Ef r1 r31).user]))] (an (As r33.2 9 r41 hr41) (an tv (an g42 tv))) (by kernel_rfl) .nil (.cons rfl (.box (.cons .rfl (.cons .rfl (.cons (MLe.ownLen (enc := Am) (d := Ba) (f := (Bj (Dy r1.tasks) (Int.toNat r31.1) [vi (Ef r1 r31).id,vi (Ef r1 r31).process,vi r41.1,vi (Ef r1 r31).user])) (RowIs.upd RowIs.elems (AbY r1 r31 r41) rfl)) (.cons .rfl .nil))))) (.cons rfl (BLe.typed (RowIs.upd RowIs.elems (AbY r1 r31 r41) rfl)) .nil)) ?_
       refine DW.done ?_
       show DW _ _ _ _ _
       exact jD (r41.2,(r1.tasks.set (Int.toNat r31.1) (AbY r1 r31 r41))) hm .refl
      ·intro h40 hm
       refine Sq (RD hnt (nn 2 []) [101,116] [(123,pB (r33.1 == 3))] [] [] tv ?_)
       refine Ag hm ?_ ?_
       ·intro h43 hm
        obtain ⟨r44,hr44,hm⟩ := bo hm
        obtain ⟨g45,hm⟩ := go1 hm
        refine RN hnt (nn 2 (o79 [0] true r44 :: nn 3 [])) [(4,rr 1032),(5,rr 1040)] [(0,bx (pm (Ah r44.2))),(Ob),(1040,bx [ow 1072 y1.2.2.2.length,pI y1.2.1,ow 1073 (r1.tasks.set (Int.toNat r31.1) (Acz r1 r31 r44)).length,pI y1.2.2.1]),(1072,ob0 (Ac y1.2.2.2)),(1073,ob0 (Ai (r1.tasks.set (Int.toNat r31.1) (Acz r1 r31 r44))))] [] [(AeB y1 r1),(1073,.row 4 r1.tasks.length (Bj (Dy r1.tasks) (Int.toNat r31.1) [vi (Ef r1 r31).id,vi (Ef r1 r31).process,vi (Ef r1 r31).group,vi r44.1]))] (an (Mn r33.2 r44 hr44) (an tv (an g45 tv))) (by kernel_rfl) .nil (.cons rfl (.box (.cons .rfl (.cons .rfl (.cons (MLe.ownLen (enc := Am) (d := Ba) (f := (Bj (Dy r1.tasks) (Int.toNat r31.1) [vi (Ef r1 r31).id,vi (Ef r1 r31).process,vi (Ef r1 r31).group,vi r44.1])) (RowIs.upd RowIs.elems (Acz r1 r31 r44) rfl)) (.cons .rfl .nil))))) (.cons rfl (BLe.typed (RowIs.upd RowIs.elems (Acz r1 r31 r44) rfl)) .nil)) ?_
        refine DW.done ?_
        show DW _ _ _ _ _
        exact jD (r44.2,(r1.tasks.set (Int.toNat r31.1) (Acz r1 r31 r44))) hm .refl
       ·intro h43 hm
        refine Sk ?_
        refine DW.done ?_
        show DW _ _ _ _ _
        exact jD (r33.2,r1.tasks) hm Conv.t0
   ·intro h30 hm
    refine Sk ?_
    exact jD (y1.1,r1.tasks) hm Conv.t0
 ·refine Bk ?_
  refine Sq (RD hnt (nn 2 []) [] [(22,pB (r4.1 == 0))] [] [] tv ?_)
  refine Ag hm ?_ ?_
  ·intro h5 hm
   obtain ⟨r6,hr6,hm⟩ := bo hm
   obtain ⟨g7,hm⟩ := go1 hm
   refine RN hnt (nn 2 (o35 [0] true r6 :: nn 3 [])) [(0,rr 0),(4,rr 1032),(5,rr 1040)] [(0,bx (pm (Ah r6.2))),(Ob),(1040,bx [ow 1072 (r1.tree.nodes.set (Int.toNat r2.1) (c77e5 r6 r1 r2)).length,pI r1.tree.next,ow 1073 r1.tasks.length,pI r1.next]),(1072,ob0 (Ac (r1.tree.nodes.set (Int.toNat r2.1) (c77e5 r6 r1 r2)))),(Rk r1)] [] [(AaA r1),(1072,.row 6 r1.tree.nodes.length (c77e18 r1 r2 r6))] (an (As r4.2 9 r6 hr6) (an tv (an g7 tv))) (by kernel_rfl) .nil (.cons rfl (.box (.cons (MLe.ownLen (enc := An) (d := Aw) (f := (c77e18 r1 r2 r6)) (RowIs.upd RowIs.elems (c77e5 r6 r1 r2) rfl)) (.cons .rfl (.cons .rfl (.cons .rfl .nil))))) (.cons rfl (BLe.typed (RowIs.upd RowIs.elems (c77e5 r6 r1 r2) rfl)) .nil)) ?_
   exact bD (r6.2,r1.tree.next,r1.next,(r1.tree.nodes.set (Int.toNat r2.1) (c77e5 r6 r1 r2))) hm .refl
  ·intro h5 hm
   refine Sq (RD hnt (nn 2 []) [22] [(29,pB (r4.1 == 1))] [] [] tv ?_)
   refine Ag hm ?_ ?_
   ·intro h8 hm
    obtain ⟨r9,hr9,hm⟩ := bo hm
    obtain ⟨g10,hm⟩ := go1 hm
    refine RN hnt (nn 2 (o35 [0] true r9 :: nn 3 [])) [(0,rr 0),(4,rr 1032),(5,rr 1040)] [(0,bx (pm (Ah r9.2))),(Ob),(1040,bx [ow 1072 (r1.tree.nodes.set (Int.toNat r2.1) (c77e7 r1 r2 r9)).length,pI r1.tree.next,ow 1073 r1.tasks.length,pI r1.next]),(1072,ob0 (Ac (r1.tree.nodes.set (Int.toNat r2.1) (c77e7 r1 r2 r9)))),(Rk r1)] [] [(AaA r1),(1072,.row 6 r1.tree.nodes.length (c77e19 r1 r2 r9))] (an (As r4.2 9 r9 hr9) (an tv (an g10 tv))) (by kernel_rfl) .nil (.cons rfl (.box (.cons (MLe.ownLen (enc := An) (d := Aw) (f := (c77e19 r1 r2 r9)) (RowIs.upd RowIs.elems (c77e7 r1 r2 r9) rfl)) (.cons .rfl (.cons .rfl (.cons .rfl .nil))))) (.cons rfl (BLe.typed (RowIs.upd RowIs.elems (c77e7 r1 r2 r9) rfl)) .nil)) ?_
    exact bD (r9.2,r1.tree.next,r1.next,(r1.tree.nodes.set (Int.toNat r2.1) (c77e7 r1 r2 r9))) hm .refl
   ·intro h8 hm
    refine Sq (RD hnt (nn 2 []) [29] [(36,pB (r4.1 == 2))] [] [] tv ?_)
    refine Ag hm ?_ ?_
    ·intro h11 hm
     obtain ⟨r12,hr12,hm⟩ := bo hm
     obtain ⟨g13,hm⟩ := go1 hm
     refine RN hnt (nn 2 (o78 [0] true r12 :: nn 3 [])) [(0,rr 0),(4,rr 1032),(5,rr 1040)] [(0,bx (pm (Ah r12.2))),(Ob),(1040,bx [ow 1072 (r1.tree.nodes.set (Int.toNat r2.1) (c77e8 r1 r2 r12)).length,pI r1.tree.next,ow 1073 r1.tasks.length,pI r1.next]),(1072,ob0 (Ac (r1.tree.nodes.set (Int.toNat r2.1) (c77e8 r1 r2 r12)))),(Rk r1)] [] [(AaA r1),(1072,.row 6 r1.tree.nodes.length (c77e22 r1 r2 r12))] (an (Vl r4.2 r12 hr12) (an tv (an g13 tv))) (by kernel_rfl) .nil (.cons rfl (.box (.cons (MLe.ownLen (enc := An) (d := Aw) (f := (c77e22 r1 r2 r12)) (RowIs.upd RowIs.elems (c77e8 r1 r2 r12) rfl)) (.cons .rfl (.cons .rfl (.cons .rfl .nil))))) (.cons rfl (BLe.typed (RowIs.upd RowIs.elems (c77e8 r1 r2 r12) rfl)) .nil)) ?_
     exact bD (r12.2,r1.tree.next,r1.next,(r1.tree.nodes.set (Int.toNat r2.1) (c77e8 r1 r2 r12))) hm .refl
    ·intro h11 hm
     refine Sq (RD hnt (nn 2 []) [36] [(43,pB (r4.1 == 3))] [] [] tv ?_)
     refine Ag hm ?_ ?_
     ·intro h14 hm
      obtain ⟨r15,hr15,hm⟩ := bo hm
      obtain ⟨g16,hm⟩ := go1 hm
      refine RN hnt (nn 2 (o52 [0] true r15 :: nn 3 [])) [(0,rr 0),(4,rr 1032),(5,rr 1040)] [(0,bx (pm (Ah r15.2))),(Ob),(1040,bx [ow 1072 (r1.tree.nodes.set (Int.toNat r2.1) (c77e9 r1 r2 r15)).length,pI r1.tree.next,ow 1073 r1.tasks.length,pI r1.next]),(1072,ob0 (Ac (r1.tree.nodes.set (Int.toNat r2.1) (c77e9 r1 r2 r15)))),(Rk r1)] [] [(AaA r1),(1072,.row 6 r1.tree.nodes.length (c77e21 r1 r2 r15))] (an (Kh r4.2 r15 hr15) (an tv (an g16 tv))) (by kernel_rfl) .nil (.cons rfl (.box (.cons (MLe.ownLen (enc := An) (d := Aw) (f := (c77e21 r1 r2 r15)) (RowIs.upd RowIs.elems (c77e9 r1 r2 r15) rfl)) (.cons .rfl (.cons .rfl (.cons .rfl .nil))))) (.cons rfl (BLe.typed (RowIs.upd RowIs.elems (c77e9 r1 r2 r15) rfl)) .nil)) ?_
      exact bD (r15.2,r1.tree.next,r1.next,(r1.tree.nodes.set (Int.toNat r2.1) (c77e9 r1 r2 r15))) hm .refl
     ·intro h14 hm
      refine Sq (RK hnt (nn 2 []) [(0,rr 0),(4,rr 1032),(5,rr 1040),(6,.eref 1072 0 (Int.toNat r2.1) 0),(21,pI r4.1),(50,pB (r4.1 == 4))] [(0,bx (pm (Ah r4.2))),(Ob),(c77e23 r1),(1072,ob0 (Ac r1.tree.nodes)),(Rk r1)] tv ?_)
      refine Ag hm ?_ ?_
      ·intro h17 hm
       obtain ⟨r18,hr18,hm⟩ := bo hm
       obtain ⟨g19,hm⟩ := go1 hm
       refine RN hnt (nn 2 (o35 [0] true r18 :: nn 4 [])) [(0,rr 0),(4,rr 1032),(5,rr 1040)] [(0,bx (pm (Ah r18.2))),(Ob),(1040,bx [ow 1072 (r1.tree.nodes.set (Int.toNat r2.1) (c77e4 r1 r2 r18)).length,pI r1.tree.next,ow 1073 r1.tasks.length,pI r1.next]),(1072,ob0 (Ac (r1.tree.nodes.set (Int.toNat r2.1) (c77e4 r1 r2 r18)))),(Rk r1)] [] [(AaA r1),(1072,.row 6 r1.tree.nodes.length (c77e17 r1 r2 r18))] (an (As r4.2 4 r18 hr18) (an tv (an g19 tv))) (by kernel_rfl) .nil (.cons rfl (.box (.cons (MLe.ownLen (enc := An) (d := Aw) (f := (c77e17 r1 r2 r18)) (RowIs.upd RowIs.elems (c77e4 r1 r2 r18) rfl)) (.cons .rfl (.cons .rfl (.cons .rfl .nil))))) (.cons rfl (BLe.typed (RowIs.upd RowIs.elems (c77e4 r1 r2 r18) rfl)) .nil)) ?_
       exact bD (r18.2,r1.tree.next,r1.next,(r1.tree.nodes.set (Int.toNat r2.1) (c77e4 r1 r2 r18))) hm .refl
      ·intro h17 hm
       refine Sq (RD hnt (nn 2 []) [50] [(58,pB (r4.1 == 5))] [] [] tv ?_)
       refine Ag hm ?_ ?_
       ·intro h20 hm
        obtain ⟨r21,hr21,hm⟩ := bo hm
        obtain ⟨g22,hm⟩ := go1 hm
        refine RN hnt (nn 2 (o79 [0] true r21 :: nn 3 [])) [(0,rr 0),(4,rr 1032),(5,rr 1040)] [(0,bx (pm (Ah r21.2))),(Ob),(1040,bx [ow 1072 (r1.tree.nodes.set (Int.toNat r2.1) (c77e6 r1 r2 r21)).length,pI r1.tree.next,ow 1073 r1.tasks.length,pI r1.next]),(1072,ob0 (Ac (r1.tree.nodes.set (Int.toNat r2.1) (c77e6 r1 r2 r21)))),(Rk r1)] [] [(AaA r1),(1072,.row 6 r1.tree.nodes.length (c77e20 r1 r2 r21))] (an (Mn r4.2 r21 hr21) (an tv (an g22 tv))) (by kernel_rfl) .nil (.cons rfl (.box (.cons (MLe.ownLen (enc := An) (d := Aw) (f := (c77e20 r1 r2 r21)) (RowIs.upd RowIs.elems (c77e6 r1 r2 r21) rfl)) (.cons .rfl (.cons .rfl (.cons .rfl .nil))))) (.cons rfl (BLe.typed (RowIs.upd RowIs.elems (c77e6 r1 r2 r21) rfl)) .nil)) ?_
        exact bD (r21.2,r1.tree.next,r1.next,(r1.tree.nodes.set (Int.toNat r2.1) (c77e6 r1 r2 r21))) hm .refl
       ·intro h20 hm
        refine Sq (RD hnt (nn 2 []) [58] [(65,pB (r4.1 == 6))] [] [] tv ?_)
        refine Ag hm ?_ ?_
        ·intro h23 hm
         obtain ⟨r24,hr24,hm⟩ := bo hm
         refine RD hnt (.no :: o35 [0] true r24 :: nn 3 []) [6,21,65] [] [] [(0,bx (pm (Ah r24.2))),(1040,bx [ow 1072 r1.tree.nodes.length,pI r24.1,ow 1073 r1.tasks.length,pI r1.next])] (an (As r4.2 9 r24 hr24) (an tv tv)) ?_
         exact bD (r24.2,r24.1,r1.next,r1.tree.nodes) hm Conv.eqK
        ·intro h23 hm
         refine Sq (RD hnt (nn 2 []) [65] [(71,pB (r4.1 == 7))] [] [] tv ?_)
         refine Ag hm ?_ ?_
         ·intro h25 hm
          obtain ⟨r26,hr26,hm⟩ := bo hm
          refine RD hnt (.no :: o35 [0] true r26 :: nn 2 []) [6,21,71] [] [] [(0,bx (pm (Ah r26.2))),(1040,bx [ow 1072 r1.tree.nodes.length,pI r1.tree.next,ow 1073 r1.tasks.length,pI r26.1])] (an (As r4.2 9 r26 hr26) (an tv tv)) ?_
          exact bD (r26.2,r1.tree.next,r26.1,r1.tree.nodes) hm Conv.eqK
         ·intro h25 hm
          refine Sq (RD hnt (nn 2 []) [21,71] [(76,pB (r4.1 == 8))] [] [] tv ?_)
          refine Ag hm ?_ ?_
          ·intro h27 hm
           obtain ⟨g28,g29,hm⟩ := go2 hm
           refine RN hnt (nn 11 []) [(0,rr 0),(4,rr 1032),(5,rr 1040)] [(0,bx (pm (Ah r4.2))),(Ob),(1040,bx [ow 1072 (r1.tree.nodes ++ [(Bc r1 r2)]).length,pI r1.tree.next,ow 1073 r1.tasks.length,pI r1.next]),(1072,ob0 (Ac (r1.tree.nodes ++ [(Bc r1 r2)]))),(Rk r1)] [] [(1040,.box [ow 1072 (r1.tree.nodes.length + 1),pI r1.tree.next,ow 1073 r1.tasks.length,pI r1.next]),(1072,.row 6 (r1.tree.nodes.length + 1) (Cp r1.tree.nodes.length (Fz r1.tree.nodes) (cut 6 [vi (Bc r1 r2).id,vi (Bc r1 r2).parent,vs (Bc r1 r2).name,vi (Bc r1 r2).control,vi (Bc r1 r2).kind,vi (Bc r1 r2).owner])))] (an g28 (an (by omega : (r1.tree.nodes.length + 1) * 56 ≤ 140737488355328) tv)) (by kernel_rfl) .nil (.cons rfl (.box (.cons (MLe.ownLen (enc := An) (d := Aw) (f := (Cp r1.tree.nodes.length (Fz r1.tree.nodes) (cut 6 [vi (Bc r1 r2).id,vi (Bc r1 r2).parent,vs (Bc r1 r2).name,vi (Bc r1 r2).control,vi (Bc r1 r2).kind,vi (Bc r1 r2).owner]))) (RowIs.cat RowIs.elems (RowIs.lit (enc := An) (d := Aw) (n := 1) (f := (cut 6 [vi (Bc r1 r2).id,vi (Bc r1 r2).parent,vs (Bc r1 r2).name,vi (Bc r1 r2).control,vi (Bc r1 r2).kind,vi (Bc r1 r2).owner])) [(Bc r1 r2)] rfl (fun | 0,_ => rfl | n + 1,h => absurd h (by omega))))) (.cons .rfl (.cons .rfl (.cons .rfl .nil))))) (.cons rfl (BLe.typed (RowIs.cat RowIs.elems (RowIs.lit (enc := An) (d := Aw) (n := 1) (f := (cut 6 [vi (Bc r1 r2).id,vi (Bc r1 r2).parent,vs (Bc r1 r2).name,vi (Bc r1 r2).control,vi (Bc r1 r2).kind,vi (Bc r1 r2).owner])) [(Bc r1 r2)] rfl (fun | 0,_ => rfl | n + 1,h => absurd h (by omega))))) .nil)) ?_
           exact bD (r4.2,r1.tree.next,r1.next,(r1.tree.nodes ++ [(Bc r1 r2)])) hm .refl
          ·intro h27 hm
           refine Sk ?_
           exact bD (r4.2,r1.tree.next,r1.next,r1.tree.nodes) hm Conv.t0
abbrev Bb (r1 : Aa) (r2 : Int × Al) := (r1.tree.nodes.getD (Int.toNat r2.1) Aw)
abbrev Ed (r1 : Aa) (r31 : Int × Al) := (r1.tasks.getD (Int.toNat r31.1) Ba)
abbrev Oc : Nat × Obj := (1032,bx [.p (.sl .nil 0 0 (fun _ => [])),pI 0,.p (.sl .nil 0 0 (fun _ => [])),pI 0])
abbrev c80e4 (r1 : Aa) (r2 : Int × Al) (r18 : Int × Al) := ({ id := (Bb r1 r2).id,parent := (Bb r1 r2).parent,name := (Bb r1 r2).name,control := (Bb r1 r2).control,kind := (w64 (r18.1 - 1)),owner := (Bb r1 r2).owner } : Af)
abbrev c80e5 (r6 : Int × Al) (r1 : Aa) (r2 : Int × Al) := ({ id := r6.1,parent := (Bb r1 r2).parent,name := (Bb r1 r2).name,control := (Bb r1 r2).control,kind := (Bb r1 r2).kind,owner := (Bb r1 r2).owner } : Af)
abbrev c80e6 (r1 : Aa) (r2 : Int × Al) (r21 : Int × Al) := ({ id := (Bb r1 r2).id,parent := (Bb r1 r2).parent,name := (Bb r1 r2).name,control := (Bb r1 r2).control,kind := (Bb r1 r2).kind,owner := r21.1 } : Af)
abbrev c80e7 (r1 : Aa) (r2 : Int × Al) (r9 : Int × Al) := ({ id := (Bb r1 r2).id,parent := r9.1,name := (Bb r1 r2).name,control := (Bb r1 r2).control,kind := (Bb r1 r2).kind,owner := (Bb r1 r2).owner } : Af)
abbrev c80e8 (r1 : Aa) (r2 : Int × Al) (r12 : ByteArray × Al) := ({ id := (Bb r1 r2).id,parent := (Bb r1 r2).parent,name := r12.1,control := (Bb r1 r2).control,kind := (Bb r1 r2).kind,owner := (Bb r1 r2).owner } : Af)
abbrev c80e9 (r1 : Aa) (r2 : Int × Al) (r15 : Int × Al) := ({ id := (Bb r1 r2).id,parent := (Bb r1 r2).parent,name := (Bb r1 r2).name,control := r15.1,kind := (Bb r1 r2).kind,owner := (Bb r1 r2).owner } : Af)
abbrev AaG (r1 : Aa) : Nat × Body := (1040,.box [ow 1072 r1.tree.nodes.length,pI r1.tree.next,ow 1073 r1.tasks.length,pI r1.next])
abbrev AbR (r35 : Int × Al) (r1 : Aa) (r31 : Int × Al) := ({ id := r35.1,process := (Ed r1 r31).process,group := (Ed r1 r31).group,user := (Ed r1 r31).user } : Aj)
abbrev AbO (r1 : Aa) (r31 : Int × Al) (r44 : Int × Al) := ({ id := (Ed r1 r31).id,process := (Ed r1 r31).process,group := (Ed r1 r31).group,user := r44.1 } : Aj)
abbrev AcP (r1 : Aa) (r31 : Int × Al) (r41 : Int × Al) := ({ id := (Ed r1 r31).id,process := (Ed r1 r31).process,group := r41.1,user := (Ed r1 r31).user } : Aj)
abbrev AcF (r1 : Aa) (r31 : Int × Al) (r38 : Int × Al) := ({ id := (Ed r1 r31).id,process := r38.1,group := (Ed r1 r31).group,user := (Ed r1 r31).user } : Aj)
abbrev Aff (y1 : Al × Int × Int × (List Af)) (r1 : Aa) : Nat × Body := (1040,.box [ow 1072 y1.2.2.2.length,pI y1.2.1,ow 1073 r1.tasks.length,pI y1.2.2.1])
abbrev Rl (r1 : Aa) : Nat × Obj := (1073,ob0 (Ai r1.tasks))
abbrev c80e17 (r1 : Aa) (r2 : Int × Al) (r18 : Int × Al) := (Bj (Fz r1.tree.nodes) (Int.toNat r2.1) [vi (Bb r1 r2).id,vi (Bb r1 r2).parent,vs (Bb r1 r2).name,vi (Bb r1 r2).control,vi (w64 (r18.1 - 1)),vi (Bb r1 r2).owner])
abbrev c80e18 (r1 : Aa) (r2 : Int × Al) (r6 : Int × Al) := (Bj (Fz r1.tree.nodes) (Int.toNat r2.1) [vi r6.1,vi (Bb r1 r2).parent,vs (Bb r1 r2).name,vi (Bb r1 r2).control,vi (Bb r1 r2).kind,vi (Bb r1 r2).owner])
abbrev c80e19 (r1 : Aa) (r2 : Int × Al) (r9 : Int × Al) := (Bj (Fz r1.tree.nodes) (Int.toNat r2.1) [vi (Bb r1 r2).id,vi r9.1,vs (Bb r1 r2).name,vi (Bb r1 r2).control,vi (Bb r1 r2).kind,vi (Bb r1 r2).owner])
abbrev c80e20 (r1 : Aa) (r2 : Int × Al) (r21 : Int × Al) := (Bj (Fz r1.tree.nodes) (Int.toNat r2.1) [vi (Bb r1 r2).id,vi (Bb r1 r2).parent,vs (Bb r1 r2).name,vi (Bb r1 r2).control,vi (Bb r1 r2).kind,vi r21.1])
abbrev c80e21 (r1 : Aa) (r2 : Int × Al) (r15 : Int × Al) := (Bj (Fz r1.tree.nodes) (Int.toNat r2.1) [vi (Bb r1 r2).id,vi (Bb r1 r2).parent,vs (Bb r1 r2).name,vi r15.1,vi (Bb r1 r2).kind,vi (Bb r1 r2).owner])
abbrev c80e22 (r1 : Aa) (r2 : Int × Al) (r12 : ByteArray × Al) := (Bj (Fz r1.tree.nodes) (Int.toNat r2.1) [vi (Bb r1 r2).id,vi (Bb r1 r2).parent,vs r12.1,vi (Bb r1 r2).control,vi (Bb r1 r2).kind,vi (Bb r1 r2).owner])
abbrev c80e23 (r1 : Aa) : Nat × Obj := (1040,bx [ow 1072 r1.tree.nodes.length,pI r1.tree.next,ow 1073 r1.tasks.length,pI r1.next])
theorem Vf (p0 : Al) (p1 : Aa) (RES : Aa × Al) (hm : Eu p0 p1 = some RES) : Spec Tryz.prog 17 [rr 0,.p (.agg (Ab p1))] [.box (pm (Ah p0))] (.p (.agg (Ab RES.1))) [.box (pm (Ah RES.2))] [] := by
 unfold Eu at hm
 refine SO Tryz.func17 rfl rfl [(0,rr 0),(1,.p (.agg (Ab p1)))] [(0,bx (pm (Ah p0)))] ?_
 intro cx hnt
 refine Sq (RD hnt (nn 2 []) [1] [(3,rr 1024),(4,rr 1032)] [] [(1024,bx (pm (Ab p1))),(Oc)] tv ?_)
 obtain ⟨r1,hr1,hm⟩ := bo hm
 refine Sq (RD hnt (.no :: o66 [] true r1 :: nn 2 []) [3] [(5,rr 1040)] [1024] [(c80e23 r1),(1072,ob0 (Ac r1.tree.nodes)),(Rl r1)] (an (Ly p1 r1 hr1) tv) ?_)
 obtain ⟨r2,hr2,hm⟩ := bo hm
 obtain ⟨g3,hm⟩ := go1 hm
 refine Sq (RD hnt (nn 8 (o35 [0] true r2 :: nn 2 [])) [] [(6,.eref 1072 0 (Int.toNat r2.1) 0)] [] [(0,bx (pm (Ah r2.2)))] (an (As p0 ((r1.tree.nodes.length : Nat) : Int) r2 hr2) (an tv (an g3.1 (an g3.2 tv)))) ?_)
 obtain ⟨r4,hr4,hm⟩ := bo hm
 refine Sq (Sq (RD hnt (.no :: o35 [0] true r4 :: []) [] [(21,pI r4.1)] [] [(0,bx (pm (Ah r4.2)))] (an (As r2.2 12 r4 hr4) (an tv tv)) ?_))
 refine Jn (ι := Al × Int × Int × (List Af)) (fun (y1 : Al × Int × Int × (List Af)) => Ao [(0,rr 0),(4,rr 1032),(5,rr 1040)] [(0,bx (pm (Ah y1.1))),(Oc),(1040,bx [ow 1072 y1.2.2.2.length,pI y1.2.1,ow 1073 r1.tasks.length,pI y1.2.2.1]),(1072,ob0 (Ac y1.2.2.2)),(Rl r1)]) (fun y1 => (Bf r1) y1 = some RES) ?_ ?_
 ·intro y1 hm
  unfold Bf at hm
  refine Sq (Sq (RD hnt (nn 4 []) [] [(91,pB (decide (((r1.tasks.length : Nat) : Int) > 0)))] [] [] tv ?_))
  refine Jn (ι := Al × (List Aj)) (fun (y2 : Al × (List Aj)) => Ao [(4,rr 1032),(5,rr 1040)] [(0,bx (pm (Ah y2.1))),(Oc),(1040,bx [ow 1072 y1.2.2.2.length,pI y1.2.1,ow 1073 y2.2.length,pI y1.2.2.1]),(1072,ob0 (Ac y1.2.2.2)),(1073,ob0 (Ai y2.2))]) (fun y2 => (Bx y1) y2 = some RES) ?_ ?_
  ·intro y2 hm
   unfold Bx at hm
   refine Sq (RD hnt (nn 2 []) [5] [] [1040] [(1032,bx [ow 1072 y1.2.2.2.length,pI y1.2.1,ow 1073 y2.2.length,pI y1.2.2.1])] tv ?_)
   obtain rfl := sj hm
   exact DW.ret (Ak [.box (pm (Ah y2.1))] [] (.p (.agg [Cz y1.2.2.2,vi y1.2.1,Bt y2.2,vi y1.2.2.1])))
  ·refine Ag hm ?_ ?_
   ·intro h30 hm
    obtain ⟨r31,hr31,hm⟩ := bo hm
    obtain ⟨g32,hm⟩ := go1 hm
    refine Sq (RD hnt (nn 6 (o35 [0] true r31 :: nn 2 [])) [91] [(7,.eref 1073 0 (Int.toNat r31.1) 0)] [] [(0,bx (pm (Ah r31.2)))] (an (As y1.1 ((r1.tasks.length : Nat) : Int) r31 hr31) (an tv (an g32.1 (an g32.2 tv)))) ?_)
    obtain ⟨r33,hr33,hm⟩ := bo hm
    refine Sq (RD hnt (.no :: o35 [0] true r33 :: []) [] [(101,pI r33.1)] [] [(0,bx (pm (Ah r33.2)))] (an (As r31.2 8 r33 hr33) (an tv tv)) ?_)
    refine Bk ?_
    refine Sq (RD hnt (nn 2 []) [] [(102,pB (r33.1 == 0))] [] [] tv ?_)
    refine Ag hm ?_ ?_
    ·intro h34 hm
     obtain ⟨r35,hr35,hm⟩ := bo hm
     obtain ⟨g36,hm⟩ := go1 hm
     refine RN hnt (nn 2 (o35 [0] true r35 :: nn 3 [])) [(4,rr 1032),(5,rr 1040)] [(0,bx (pm (Ah r35.2))),(Oc),(1040,bx [ow 1072 y1.2.2.2.length,pI y1.2.1,ow 1073 (r1.tasks.set (Int.toNat r31.1) (AbR r35 r1 r31)).length,pI y1.2.2.1]),(1072,ob0 (Ac y1.2.2.2)),(1073,ob0 (Ai (r1.tasks.set (Int.toNat r31.1) (AbR r35 r1 r31))))] [] [(Aff y1 r1),(1073,.row 4 r1.tasks.length (Bj (Dy r1.tasks) (Int.toNat r31.1) [vi r35.1,vi (Ed r1 r31).process,vi (Ed r1 r31).group,vi (Ed r1 r31).user]))] (an (As r33.2 9 r35 hr35) (an tv (an g36 tv))) (by kernel_rfl) .nil (.cons rfl (.box (.cons .rfl (.cons .rfl (.cons (MLe.ownLen (enc := Am) (d := Ba) (f := (Bj (Dy r1.tasks) (Int.toNat r31.1) [vi r35.1,vi (Ed r1 r31).process,vi (Ed r1 r31).group,vi (Ed r1 r31).user])) (RowIs.upd RowIs.elems (AbR r35 r1 r31) rfl)) (.cons .rfl .nil))))) (.cons rfl (BLe.typed (RowIs.upd RowIs.elems (AbR r35 r1 r31) rfl)) .nil)) ?_
     refine DW.done ?_
     show DW _ _ _ _ _
     exact jD (r35.2,(r1.tasks.set (Int.toNat r31.1) (AbR r35 r1 r31))) hm .refl
    ·intro h34 hm
     refine Sq (RD hnt (nn 2 []) [102] [(109,pB (r33.1 == 1))] [] [] tv ?_)
     refine Ag hm ?_ ?_
     ·intro h37 hm
      obtain ⟨r38,hr38,hm⟩ := bo hm
      obtain ⟨g39,hm⟩ := go1 hm
      refine RN hnt (nn 2 (o35 [0] true r38 :: nn 3 [])) [(4,rr 1032),(5,rr 1040)] [(0,bx (pm (Ah r38.2))),(Oc),(1040,bx [ow 1072 y1.2.2.2.length,pI y1.2.1,ow 1073 (r1.tasks.set (Int.toNat r31.1) (AcF r1 r31 r38)).length,pI y1.2.2.1]),(1072,ob0 (Ac y1.2.2.2)),(1073,ob0 (Ai (r1.tasks.set (Int.toNat r31.1) (AcF r1 r31 r38))))] [] [(Aff y1 r1),(1073,.row 4 r1.tasks.length (Bj (Dy r1.tasks) (Int.toNat r31.1) [vi (Ed r1 r31).id,vi r38.1,vi (Ed r1 r31).group,vi (Ed r1 r31).user]))] (an (As r33.2 9 r38 hr38) (an tv (an g39 tv))) (by kernel_rfl) .nil (.cons rfl (.box (.cons .rfl (.cons .rfl (.cons (MLe.ownLen (enc := Am) (d := Ba) (f := (Bj (Dy r1.tasks) (Int.toNat r31.1) [vi (Ed r1 r31).id,vi r38.1,vi (Ed r1 r31).group,vi (Ed r1 r31).user])) (RowIs.upd RowIs.elems (AcF r1 r31 r38) rfl)) (.cons .rfl .nil))))) (.cons rfl (BLe.typed (RowIs.upd RowIs.elems (AcF r1 r31 r38) rfl)) .nil)) ?_
      refine DW.done ?_
      show DW _ _ _ _ _
      exact jD (r38.2,(r1.tasks.set (Int.toNat r31.1) (AcF r1 r31 r38))) hm .refl
     ·intro h37 hm
      refine Sq (RD hnt (nn 2 []) [109] [(116,pB (r33.1 == 2))] [] [] tv ?_)
      refine Ag hm ?_ ?_
      ·intro h40 hm
       obtain ⟨r41,hr41,hm⟩ := bo hm
       obtain ⟨g42,hm⟩ := go1 hm
       refine RN hnt (nn 2 (o35 [0] true r41 :: nn 3 [])) [(4,rr 1032),(5,rr 1040)] [(0,bx (pm (Ah r41.2))),(Oc),(1040,bx [ow 1072 y1.2.2.2.length,pI y1.2.1,ow 1073 (r1.tasks.set (Int.toNat r31.1) (AcP r1 r31 r41)).length,pI y1.2.2.1]),(1072,ob0 (Ac y1.2.2.2)),(1073,ob0 (Ai (r1.tasks.set (Int.toNat r31.1) (AcP r1 r31 r41))))] [] [(Aff y1 r1),(1073,.row 4 r1.tasks.length (Bj (Dy r1.tasks) (Int.toNat r31.1) [vi (Ed r1 r31).id,vi (Ed r1 r31).process,vi r41.1,vi (Ed r1 r31).user]))] (an (As r33.2 9 r41 hr41) (an tv (an g42 tv))) (by kernel_rfl) .nil (.cons rfl (.box (.cons .rfl (.cons .rfl (.cons (MLe.ownLen (enc := Am) (d := Ba) (f := (Bj (Dy r1.tasks) (Int.toNat r31.1) [vi (Ed r1 r31).id,vi (Ed r1 r31).process,vi r41.1,vi (Ed r1 r31).user])) (RowIs.upd RowIs.elems (AcP r1 r31 r41) rfl)) (.cons .rfl .nil))))) (.cons rfl (BLe.typed (RowIs.upd RowIs.elems (AcP r1 r31 r41) rfl)) .nil)) ?_
       refine DW.done ?_
       show DW _ _ _ _ _
       exact jD (r41.2,(r1.tasks.set (Int.toNat r31.1) (AcP r1 r31 r41))) hm .refl
      ·intro h40 hm
       refine Sq (RD hnt (nn 2 []) [101,116] [(123,pB (r33.1 == 3))] [] [] tv ?_)
       refine Ag hm ?_ ?_
       ·intro h43 hm
        obtain ⟨r44,hr44,hm⟩ := bo hm
        obtain ⟨g45,hm⟩ := go1 hm
        refine RN hnt (nn 2 (o79 [0] true r44 :: nn 3 [])) [(4,rr 1032),(5,rr 1040)] [(0,bx (pm (Ah r44.2))),(Oc),(1040,bx [ow 1072 y1.2.2.2.length,pI y1.2.1,ow 1073 (r1.tasks.set (Int.toNat r31.1) (AbO r1 r31 r44)).length,pI y1.2.2.1]),(1072,ob0 (Ac y1.2.2.2)),(1073,ob0 (Ai (r1.tasks.set (Int.toNat r31.1) (AbO r1 r31 r44))))] [] [(Aff y1 r1),(1073,.row 4 r1.tasks.length (Bj (Dy r1.tasks) (Int.toNat r31.1) [vi (Ed r1 r31).id,vi (Ed r1 r31).process,vi (Ed r1 r31).group,vi r44.1]))] (an (Mn r33.2 r44 hr44) (an tv (an g45 tv))) (by kernel_rfl) .nil (.cons rfl (.box (.cons .rfl (.cons .rfl (.cons (MLe.ownLen (enc := Am) (d := Ba) (f := (Bj (Dy r1.tasks) (Int.toNat r31.1) [vi (Ed r1 r31).id,vi (Ed r1 r31).process,vi (Ed r1 r31).group,vi r44.1])) (RowIs.upd RowIs.elems (AbO r1 r31 r44) rfl)) (.cons .rfl .nil))))) (.cons rfl (BLe.typed (RowIs.upd RowIs.elems (AbO r1 r31 r44) rfl)) .nil)) ?_
        refine DW.done ?_
        show DW _ _ _ _ _
        exact jD (r44.2,(r1.tasks.set (Int.toNat r31.1) (AbO r1 r31 r44))) hm .refl
       ·intro h43 hm
        refine Sk ?_
        refine DW.done ?_
        show DW _ _ _ _ _
        exact jD (r33.2,r1.tasks) hm Conv.t0
   ·intro h30 hm
    refine Sk ?_
    exact jD (y1.1,r1.tasks) hm Conv.t0
 ·refine Bk ?_
  refine Sq (RD hnt (nn 2 []) [] [(22,pB (r4.1 == 0))] [] [] tv ?_)
  refine Ag hm ?_ ?_
  ·intro h5 hm
   obtain ⟨r6,hr6,hm⟩ := bo hm
   obtain ⟨g7,hm⟩ := go1 hm
   refine RN hnt (nn 2 (o35 [0] true r6 :: nn 3 [])) [(0,rr 0),(4,rr 1032),(5,rr 1040)] [(0,bx (pm (Ah r6.2))),(Oc),(1040,bx [ow 1072 (r1.tree.nodes.set (Int.toNat r2.1) (c80e5 r6 r1 r2)).length,pI r1.tree.next,ow 1073 r1.tasks.length,pI r1.next]),(1072,ob0 (Ac (r1.tree.nodes.set (Int.toNat r2.1) (c80e5 r6 r1 r2)))),(Rl r1)] [] [(AaG r1),(1072,.row 6 r1.tree.nodes.length (c80e18 r1 r2 r6))] (an (As r4.2 9 r6 hr6) (an tv (an g7 tv))) (by kernel_rfl) .nil (.cons rfl (.box (.cons (MLe.ownLen (enc := An) (d := Aw) (f := (c80e18 r1 r2 r6)) (RowIs.upd RowIs.elems (c80e5 r6 r1 r2) rfl)) (.cons .rfl (.cons .rfl (.cons .rfl .nil))))) (.cons rfl (BLe.typed (RowIs.upd RowIs.elems (c80e5 r6 r1 r2) rfl)) .nil)) ?_
   exact bD (r6.2,r1.tree.next,r1.next,(r1.tree.nodes.set (Int.toNat r2.1) (c80e5 r6 r1 r2))) hm .refl
  ·intro h5 hm
   refine Sq (RD hnt (nn 2 []) [22] [(29,pB (r4.1 == 1))] [] [] tv ?_)
   refine Ag hm ?_ ?_
   ·intro h8 hm
    obtain ⟨r9,hr9,hm⟩ := bo hm
    obtain ⟨g10,hm⟩ := go1 hm
    refine RN hnt (nn 2 (o35 [0] true r9 :: nn 3 [])) [(0,rr 0),(4,rr 1032),(5,rr 1040)] [(0,bx (pm (Ah r9.2))),(Oc),(1040,bx [ow 1072 (r1.tree.nodes.set (Int.toNat r2.1) (c80e7 r1 r2 r9)).length,pI r1.tree.next,ow 1073 r1.tasks.length,pI r1.next]),(1072,ob0 (Ac (r1.tree.nodes.set (Int.toNat r2.1) (c80e7 r1 r2 r9)))),(Rl r1)] [] [(AaG r1),(1072,.row 6 r1.tree.nodes.length (c80e19 r1 r2 r9))] (an (As r4.2 9 r9 hr9) (an tv (an g10 tv))) (by kernel_rfl) .nil (.cons rfl (.box (.cons (MLe.ownLen (enc := An) (d := Aw) (f := (c80e19 r1 r2 r9)) (RowIs.upd RowIs.elems (c80e7 r1 r2 r9) rfl)) (.cons .rfl (.cons .rfl (.cons .rfl .nil))))) (.cons rfl (BLe.typed (RowIs.upd RowIs.elems (c80e7 r1 r2 r9) rfl)) .nil)) ?_
    exact bD (r9.2,r1.tree.next,r1.next,(r1.tree.nodes.set (Int.toNat r2.1) (c80e7 r1 r2 r9))) hm .refl
   ·intro h8 hm
    refine Sq (RD hnt (nn 2 []) [29] [(36,pB (r4.1 == 2))] [] [] tv ?_)
    refine Ag hm ?_ ?_
    ·intro h11 hm
     obtain ⟨r12,hr12,hm⟩ := bo hm
     obtain ⟨g13,hm⟩ := go1 hm
     refine RN hnt (nn 2 (o78 [0] true r12 :: nn 3 [])) [(0,rr 0),(4,rr 1032),(5,rr 1040)] [(0,bx (pm (Ah r12.2))),(Oc),(1040,bx [ow 1072 (r1.tree.nodes.set (Int.toNat r2.1) (c80e8 r1 r2 r12)).length,pI r1.tree.next,ow 1073 r1.tasks.length,pI r1.next]),(1072,ob0 (Ac (r1.tree.nodes.set (Int.toNat r2.1) (c80e8 r1 r2 r12)))),(Rl r1)] [] [(AaG r1),(1072,.row 6 r1.tree.nodes.length (c80e22 r1 r2 r12))] (an (Vl r4.2 r12 hr12) (an tv (an g13 tv))) (by kernel_rfl) .nil (.cons rfl (.box (.cons (MLe.ownLen (enc := An) (d := Aw) (f := (c80e22 r1 r2 r12)) (RowIs.upd RowIs.elems (c80e8 r1 r2 r12) rfl)) (.cons .rfl (.cons .rfl (.cons .rfl .nil))))) (.cons rfl (BLe.typed (RowIs.upd RowIs.elems (c80e8 r1 r2 r12) rfl)) .nil)) ?_
     exact bD (r12.2,r1.tree.next,r1.next,(r1.tree.nodes.set (Int.toNat r2.1) (c80e8 r1 r2 r12))) hm .refl
    ·intro h11 hm
     refine Sq (RD hnt (nn 2 []) [36] [(43,pB (r4.1 == 3))] [] [] tv ?_)
     refine Ag hm ?_ ?_
     ·intro h14 hm
      obtain ⟨r15,hr15,hm⟩ := bo hm
      obtain ⟨g16,hm⟩ := go1 hm
      refine RN hnt (nn 2 (o52 [0] true r15 :: nn 3 [])) [(0,rr 0),(4,rr 1032),(5,rr 1040)] [(0,bx (pm (Ah r15.2))),(Oc),(1040,bx [ow 1072 (r1.tree.nodes.set (Int.toNat r2.1) (c80e9 r1 r2 r15)).length,pI r1.tree.next,ow 1073 r1.tasks.length,pI r1.next]),(1072,ob0 (Ac (r1.tree.nodes.set (Int.toNat r2.1) (c80e9 r1 r2 r15)))),(Rl r1)] [] [(AaG r1),(1072,.row 6 r1.tree.nodes.length (c80e21 r1 r2 r15))] (an (Kh r4.2 r15 hr15) (an tv (an g16 tv))) (by kernel_rfl) .nil (.cons rfl (.box (.cons (MLe.ownLen (enc := An) (d := Aw) (f := (c80e21 r1 r2 r15)) (RowIs.upd RowIs.elems (c80e9 r1 r2 r15) rfl)) (.cons .rfl (.cons .rfl (.cons .rfl .nil))))) (.cons rfl (BLe.typed (RowIs.upd RowIs.elems (c80e9 r1 r2 r15) rfl)) .nil)) ?_
      exact bD (r15.2,r1.tree.next,r1.next,(r1.tree.nodes.set (Int.toNat r2.1) (c80e9 r1 r2 r15))) hm .refl
     ·intro h14 hm
      refine Sq (RK hnt (nn 2 []) [(0,rr 0),(4,rr 1032),(5,rr 1040),(6,.eref 1072 0 (Int.toNat r2.1) 0),(21,pI r4.1),(50,pB (r4.1 == 4))] [(0,bx (pm (Ah r4.2))),(Oc),(c80e23 r1),(1072,ob0 (Ac r1.tree.nodes)),(Rl r1)] tv ?_)
      refine Ag hm ?_ ?_
      ·intro h17 hm
       obtain ⟨r18,hr18,hm⟩ := bo hm
       obtain ⟨g19,hm⟩ := go1 hm
       refine RN hnt (nn 2 (o35 [0] true r18 :: nn 4 [])) [(0,rr 0),(4,rr 1032),(5,rr 1040)] [(0,bx (pm (Ah r18.2))),(Oc),(1040,bx [ow 1072 (r1.tree.nodes.set (Int.toNat r2.1) (c80e4 r1 r2 r18)).length,pI r1.tree.next,ow 1073 r1.tasks.length,pI r1.next]),(1072,ob0 (Ac (r1.tree.nodes.set (Int.toNat r2.1) (c80e4 r1 r2 r18)))),(Rl r1)] [] [(AaG r1),(1072,.row 6 r1.tree.nodes.length (c80e17 r1 r2 r18))] (an (As r4.2 4 r18 hr18) (an tv (an g19 tv))) (by kernel_rfl) .nil (.cons rfl (.box (.cons (MLe.ownLen (enc := An) (d := Aw) (f := (c80e17 r1 r2 r18)) (RowIs.upd RowIs.elems (c80e4 r1 r2 r18) rfl)) (.cons .rfl (.cons .rfl (.cons .rfl .nil))))) (.cons rfl (BLe.typed (RowIs.upd RowIs.elems (c80e4 r1 r2 r18) rfl)) .nil)) ?_
       exact bD (r18.2,r1.tree.next,r1.next,(r1.tree.nodes.set (Int.toNat r2.1) (c80e4 r1 r2 r18))) hm .refl
      ·intro h17 hm
       refine Sq (RD hnt (nn 2 []) [50] [(58,pB (r4.1 == 5))] [] [] tv ?_)
       refine Ag hm ?_ ?_
       ·intro h20 hm
        obtain ⟨r21,hr21,hm⟩ := bo hm
        obtain ⟨g22,hm⟩ := go1 hm
        refine RN hnt (nn 2 (o79 [0] true r21 :: nn 3 [])) [(0,rr 0),(4,rr 1032),(5,rr 1040)] [(0,bx (pm (Ah r21.2))),(Oc),(1040,bx [ow 1072 (r1.tree.nodes.set (Int.toNat r2.1) (c80e6 r1 r2 r21)).length,pI r1.tree.next,ow 1073 r1.tasks.length,pI r1.next]),(1072,ob0 (Ac (r1.tree.nodes.set (Int.toNat r2.1) (c80e6 r1 r2 r21)))),(Rl r1)] [] [(AaG r1),(1072,.row 6 r1.tree.nodes.length (c80e20 r1 r2 r21))] (an (Mn r4.2 r21 hr21) (an tv (an g22 tv))) (by kernel_rfl) .nil (.cons rfl (.box (.cons (MLe.ownLen (enc := An) (d := Aw) (f := (c80e20 r1 r2 r21)) (RowIs.upd RowIs.elems (c80e6 r1 r2 r21) rfl)) (.cons .rfl (.cons .rfl (.cons .rfl .nil))))) (.cons rfl (BLe.typed (RowIs.upd RowIs.elems (c80e6 r1 r2 r21) rfl)) .nil)) ?_
        exact bD (r21.2,r1.tree.next,r1.next,(r1.tree.nodes.set (Int.toNat r2.1) (c80e6 r1 r2 r21))) hm .refl
       ·intro h20 hm
        refine Sq (RD hnt (nn 2 []) [58] [(65,pB (r4.1 == 6))] [] [] tv ?_)
        refine Ag hm ?_ ?_
        ·intro h23 hm
         obtain ⟨r24,hr24,hm⟩ := bo hm
         refine RD hnt (.no :: o35 [0] true r24 :: nn 3 []) [6,21,65] [] [] [(0,bx (pm (Ah r24.2))),(1040,bx [ow 1072 r1.tree.nodes.length,pI r24.1,ow 1073 r1.tasks.length,pI r1.next])] (an (As r4.2 9 r24 hr24) (an tv tv)) ?_
         exact bD (r24.2,r24.1,r1.next,r1.tree.nodes) hm Conv.eqK
        ·intro h23 hm
         refine Sq (RD hnt (nn 2 []) [65] [(71,pB (r4.1 == 7))] [] [] tv ?_)
         refine Ag hm ?_ ?_
         ·intro h25 hm
          obtain ⟨r26,hr26,hm⟩ := bo hm
          refine RD hnt (.no :: o35 [0] true r26 :: nn 2 []) [6,21,71] [] [] [(0,bx (pm (Ah r26.2))),(1040,bx [ow 1072 r1.tree.nodes.length,pI r1.tree.next,ow 1073 r1.tasks.length,pI r26.1])] (an (As r4.2 9 r26 hr26) (an tv tv)) ?_
          exact bD (r26.2,r1.tree.next,r26.1,r1.tree.nodes) hm Conv.eqK
         ·intro h25 hm
          refine Sq (RD hnt (nn 2 []) [21,71] [(76,pB (r4.1 == 8))] [] [] tv ?_)
          refine Ag hm ?_ ?_
          ·intro h27 hm
           obtain ⟨g28,g29,hm⟩ := go2 hm
           refine RN hnt (nn 11 []) [(0,rr 0),(4,rr 1032),(5,rr 1040)] [(0,bx (pm (Ah r4.2))),(Oc),(1040,bx [ow 1072 (r1.tree.nodes ++ [(Bb r1 r2)]).length,pI r1.tree.next,ow 1073 r1.tasks.length,pI r1.next]),(1072,ob0 (Ac (r1.tree.nodes ++ [(Bb r1 r2)]))),(Rl r1)] [] [(1040,.box [ow 1072 (r1.tree.nodes.length + 1),pI r1.tree.next,ow 1073 r1.tasks.length,pI r1.next]),(1072,.row 6 (r1.tree.nodes.length + 1) (Cp r1.tree.nodes.length (Fz r1.tree.nodes) (cut 6 [vi (Bb r1 r2).id,vi (Bb r1 r2).parent,vs (Bb r1 r2).name,vi (Bb r1 r2).control,vi (Bb r1 r2).kind,vi (Bb r1 r2).owner])))] (an g28 (an (by omega : (r1.tree.nodes.length + 1) * 56 ≤ 140737488355328) tv)) (by kernel_rfl) .nil (.cons rfl (.box (.cons (MLe.ownLen (enc := An) (d := Aw) (f := (Cp r1.tree.nodes.length (Fz r1.tree.nodes) (cut 6 [vi (Bb r1 r2).id,vi (Bb r1 r2).parent,vs (Bb r1 r2).name,vi (Bb r1 r2).control,vi (Bb r1 r2).kind,vi (Bb r1 r2).owner]))) (RowIs.cat RowIs.elems (RowIs.lit (enc := An) (d := Aw) (n := 1) (f := (cut 6 [vi (Bb r1 r2).id,vi (Bb r1 r2).parent,vs (Bb r1 r2).name,vi (Bb r1 r2).control,vi (Bb r1 r2).kind,vi (Bb r1 r2).owner])) [(Bb r1 r2)] rfl (fun | 0,_ => rfl | n + 1,h => absurd h (by omega))))) (.cons .rfl (.cons .rfl (.cons .rfl .nil))))) (.cons rfl (BLe.typed (RowIs.cat RowIs.elems (RowIs.lit (enc := An) (d := Aw) (n := 1) (f := (cut 6 [vi (Bb r1 r2).id,vi (Bb r1 r2).parent,vs (Bb r1 r2).name,vi (Bb r1 r2).control,vi (Bb r1 r2).kind,vi (Bb r1 r2).owner])) [(Bb r1 r2)] rfl (fun | 0,_ => rfl | n + 1,h => absurd h (by omega))))) .nil)) ?_
           exact bD (r4.2,r1.tree.next,r1.next,(r1.tree.nodes ++ [(Bb r1 r2)])) hm .refl
          ·intro h27 hm
           refine Sk ?_
           exact bD (r4.2,r1.tree.next,r1.next,r1.tree.nodes) hm Conv.t0
abbrev o80 (ks : List Nat) (b : Bool) (RES : Aa × Al) : Orc := .call 17 ks b (.p (.agg (Ab RES.1))) [.box (pm (Ah RES.2))] []
end Go.Dm

