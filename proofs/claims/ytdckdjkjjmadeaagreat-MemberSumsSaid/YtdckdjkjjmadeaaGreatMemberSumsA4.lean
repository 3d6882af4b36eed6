/- Texts of the proof of MemberSums: the data machine, the models of the Go functions, their contracts. -/
import Derived.Test.YtdckdjkjjmadeaaGreatMemberSumsA3
set_option linter.unusedVariables false
set_option linter.unusedSimpArgs false
/- Go functions compute their models, printed by a program. -/
namespace Go.Dm
open Go.Proofs
set_option linter.unusedVariables false
theorem up_ref5Spec (p0 : Tree) (p1 : Int) (RES : List Int) (hm : up_ref5 p0 p1 = some RES) : Spec Tryz.prog 89 [.p (.agg (encTree p0)), pI p1] [] (ow 0 RES.length) [] [roI RES] := by
 unfold up_ref5 at hm
 refine SO Tryz.func89 rfl rfl [(0, .p (.agg (encTree p0))), (1, pI p1)] [] ?_
 intro cx hnt
 refine Sq (RK hnt (nn 2 []) [(1, pI p1), (2, rr 1016)] [(1016, bx (pm (encTree p0)))] tv ?_)
 refine Sq (RD hnt (.no :: []) [] [(5, .p (.sl .nil 0 0 (fun _ => [])))] [] [] tv ?_)
 refine Sq (Sq (RD hnt (nn 5 []) [] [(6, pI (w64 (((p0.nodes.length : Nat) : Int) - 1)))] [] [] tv ?_))
 refine Bk ?_
 refine DW.whileO (fun (s1 : (List Int) × Int × Int) => mkSt [(1, pI s1.2.1), (2, rr 1016), (5, ow 1208 s1.1.length), (6, pI s1.2.2)] [(1016, bx (pm (encTree p0))), (1208, ob0 (roI s1.1))]) hm (Conv.ads [(.s 5, 1208, 1, elems encI 0 [])]) ?_
 intro s1 n1 hm
 unfold up_ref5L1 at hm
 refine Sq (Sq (RD hnt (nn 2 []) [] [(12, pB (decide (s1.2.2 ≥ 0)))] [] [] tv ?_))
 refine condM hm ?_ ?_
 ·intro h5 hm
  refine Sk ?_
  refine Sq ?_
  refine Jn (ι := (List Int) × Int) (fun (y2 : (List Int) × Int) => mkSt [(1, pI y2.2), (2, rr 1016), (5, ow 1208 y2.1.length), (6, pI s1.2.2)] [(1016, bx (pm (encTree p0))), (1208, ob0 (roI y2.1))]) (fun y2 => (up_ref5J2 s1 n1) y2 = some RES) ?_ ?_
  ·intro y2 hm
   unfold up_ref5J2 at hm
   refine RD hnt (nn 3 []) [] [(6, pI (w64 (s1.2.2 - 1)))] [] [] tv ?_
   exact jD (y2.1, y2.2, (w64 (s1.2.2 - 1))) hm Conv.eqK
  ·refine Bk ?_
   obtain ⟨g6, hm⟩ := go1 hm
   refine Sq (RD hnt (nn 8 []) [12] [(22, pB ((p0.nodes.getD (Int.toNat s1.2.2) dNode).id == s1.2.1))] [] [] (an g6.1 (an g6.2 tv)) ?_)
   refine condM hm ?_ ?_
   ·intro h7 hm
    obtain ⟨g8, hm⟩ := go1 hm
    refine Sq (RN hnt (nn 5 []) [(2, rr 1016), (5, ow 1208 (s1.1 ++ [s1.2.1]).length), (6, pI s1.2.2)] [(1016, bx (pm (encTree p0))), (1208, ob0 (roI (s1.1 ++ [s1.2.1])))] [(5, ow 1208 (s1.1.length + 1))] [(1208, .row 1 (s1.1.length + 1) (catF s1.1.length (elI s1.1) (cut 1 [vi s1.2.1])))] (an (by omega : (s1.1.length + 1) * 8 ≤ 140737488355328) tv) (by kernel_rfl) (.cons rfl (MLe.ownLen (enc := encI) (d := 0) (f := (catF s1.1.length (elI s1.1) (cut 1 [vi s1.2.1]))) (RowIs.cat RowIs.elems (RowIs.lit (enc := encI) (d := 0) (n := 1) (f := (cut 1 [vi s1.2.1])) [s1.2.1] rfl (fun | 0, _ => rfl | n + 1, h => absurd h (by omega))))) .nil) (.cons rfl (BLe.typed (RowIs.cat RowIs.elems (RowIs.lit (enc := encI) (d := 0) (n := 1) (f := (cut 1 [vi s1.2.1])) [s1.2.1] rfl (fun | 0, _ => rfl | n + 1, h => absurd h (by omega))))) .nil) ?_)
    obtain ⟨g9, hm⟩ := go1 hm
    refine RD hnt (nn 7 []) [] [(1, pI (p0.nodes.getD (Int.toNat s1.2.2) dNode).parent)] [] [] (an g9.1 (an g9.2 tv)) ?_
    exact bD ((s1.1 ++ [s1.2.1]), (p0.nodes.getD (Int.toNat s1.2.2) dNode).parent) hm Conv.eqK
   ·intro h7 hm
    refine Sk ?_
    exact bD (s1.1, s1.2.1) hm Conv.t0
 ·intro h5 hm
  refine DW.exit ?_
  refine joinQ_exit ?_
  refine KQ_exit ?_
  refine blockQ_exit ?_
  show DW _ _ _ _ _
  refine Sq (RK hnt (nn 2 []) [(4, ow 1208 s1.1.length)] [(1208, ob0 (roI s1.1))] tv ?_)
  obtain rfl := sj hm
  exact DW.ret (retK [roI s1.1] [1208] (ow 0 s1.1.length))
abbrev o41 (ks : List Nat) (b : Bool) (RES : List Int) : Orc := .call 89 ks b (ow 0 RES.length) [] [roI RES]

abbrev c38e1 (p0 : Tree) : Nat × MV := (3, pI ((p0.nodes.length : Nat) : Int))
theorem Check_ref5Spec (p0 : Tree) (RES : Bool) (hm : Check_ref5 p0 = some RES) : Spec Tryz.prog 110 [.p (.agg (encTree p0))] [] (pB RES) [] [] := by
 unfold Check_ref5 at hm
 refine SO Tryz.func110 rfl rfl [(0, .p (.agg (encTree p0)))] [] ?_
 intro cx hnt
 refine Sq (RK hnt (nn 2 []) [(1, rr 1008)] [(1008, bx (pm (encTree p0)))] tv ?_)
 refine Sq (RD hnt (nn 4 []) [] [(c38e1 p0)] [] [] tv ?_)
 refine Sq (Sq (DW.regJ (sl2 := [(1, rr 1008), (c38e1 p0), (14, pB ((decide (((p0.nodes.length : Nat) : Int) < 1)) || (decide (((p0.nodes.length : Nat) : Int) > 64))))]) (ob2 := [(1008, bx (pm (encTree p0)))]) ?_ ?_))
 ·rcases bt (decide (((p0.nodes.length : Nat) : Int) < 1)) with h1 | h1
  ·exact RT hnt (nn 3 (sk 2 (pT :: []))) [(14, pB true)] (an3 h1 tv) (by kernel_rfl) (.cons rfl (.of_eq (by rw [h1]; try rfl)) .nil)
  ·exact RT hnt (nn 5 (pF :: [])) [(14, pB (decide (((p0.nodes.length : Nat) : Int) > 64)))] (an3 h1 tv) (by kernel_rfl) (.cons rfl (.of_eq (by rw [h1]; try rfl)) .nil)
 ·refine condM hm ?_ ?_
  ·intro h2 hm
   refine Sq (RK hnt (.no :: []) [(2, pB false)] [] tv ?_)
   obtain rfl := sj hm
   exact DW.ret (retK [] [] (pB false))
  ·intro h2 hm
   refine Sk ?_
   refine Sq (Sq (RD hnt (.no :: []) [14] [(4, pI 0)] [] [] tv ?_))
   refine Bk ?_
   obtain ⟨hc1, hm⟩ := go1 hm
   refine DW.rangeO (fun (k1 : Nat) (s1 : Unit) => mkSt [(1, rr 1008), (c38e1 p0), (4, pI ((k1 : Nat) : Int))] [(1008, bx (pm (encTree p0)))]) dNode hm Conv.eqK ?_
   intro k1 s1 n1 hk1 hs1 he1
   refine Sq (Sq (RD hnt (nn 3 []) [] [(17, pB (decide (((k1 : Nat) : Int) < ((p0.nodes.length : Nat) : Int))))] [] [] tv ?_))
   refine condK (decide (((k1 : Nat) : Int) < ((p0.nodes.length : Nat) : Int))) ?_ ?_
   ·intro h32
    have hlt1 : k1 < p0.nodes.length := by have := of_decide_eq_true h32; omega
    have hm := hs1 hlt1
    unfold Check_ref5L1 at hm
    refine Sk ?_
    refine Sq (Bk ?_)
    obtain ⟨r33, hr33, hm⟩ := bo hm
    refine Sq (RD hnt (nn 2 (o39 [] true r33 :: .no :: [])) [17] [(23, pB (!r33))] [] [] (an (node_ref5Spec p0 ((k1 : Nat) : Int) r33 hr33) tv) ?_)
    refine condM hm ?_ ?_
    ·intro h34 hm
     refine Sq (RK hnt (.no :: []) [(2, pB false)] [] tv ?_)
     obtain rfl := sj hm
     exact DW.ret (retK [] [] (pB false))
    ·intro h34 hm
     refine Sk ?_
     refine DW.done ?_
     show DW _ _ _ _ _
     refine RD hnt (nn 3 []) [23] [(4, pI (w64 (((k1 : Nat) : Int) + 1)))] [] [] tv ?_
     exact jD () ⟨hlt1, hm⟩ (Conv.tp [(4, pI (w64 (((k1 : Nat) : Int) + 1)))] [] (by kernel_rfl) (.cons rfl (.of_eq (congrArg pI (w64_succ hlt1 hc1))) .nil) .nil)
   ·intro h32
    have hge1 : ¬ k1 < p0.nodes.length := by have := of_decide_eq_false h32; omega
    have hm := he1 hge1
    unfold Check_ref5D1 at hm
    refine DW.exit ?_
    refine joinQ_exit ?_
    refine KQ_exit ?_
    refine blockQ_exit ?_
    show DW _ _ _ _ _
    refine Sq (Sq (RD hnt (.no :: []) [4, 17] [(5, pI 0)] [] [] tv ?_))
    refine Bk ?_
    obtain ⟨hc4, hm⟩ := go1 hm
    refine DW.rangeO (fun (k4 : Nat) (s4 : Unit) => mkSt [(1, rr 1008), (c38e1 p0), (5, pI ((k4 : Nat) : Int))] [(1008, bx (pm (encTree p0)))]) dNode hm Conv.eqK ?_
    intro k4 s4 n4 hk4 hs4 he4
    refine Sq (Sq (RD hnt (nn 3 []) [] [(26, pB (decide (((k4 : Nat) : Int) < ((p0.nodes.length : Nat) : Int))))] [] [] tv ?_))
    refine condK (decide (((k4 : Nat) : Int) < ((p0.nodes.length : Nat) : Int))) ?_ ?_
    ·intro h49
     have hlt4 : k4 < p0.nodes.length := by have := of_decide_eq_true h49; omega
     have hm := hs4 hlt4
     unfold Check_ref5L4 at hm
     refine Sk ?_
     refine Sq (Bk ?_)
     obtain ⟨r50, hr50, hm⟩ := bo hm
     refine Sq (RD hnt (nn 7 (o41 [] true r50 :: nn 2 [])) [26] [(38, pB (decide (((r50.length : Nat) : Int) > 9)))] [] [] (an (nn0 k4) (an (ltc hlt4) (an (up_ref5Spec p0 (p0.nodes.getD k4 (default : Node)).id r50 hr50) tv))) ?_)
     refine condM hm ?_ ?_
     ·intro h51 hm
      refine Sq (RK hnt (.no :: []) [(2, pB false)] [] tv ?_)
      obtain rfl := sj hm
      exact DW.ret (retK [] [] (pB false))
     ·intro h51 hm
      refine Sk ?_
      refine DW.done ?_
      show DW _ _ _ _ _
      refine RD hnt (nn 3 []) [38] [(5, pI (w64 (((k4 : Nat) : Int) + 1)))] [] [] tv ?_
      exact jD () ⟨hlt4, hm⟩ (Conv.tp [(5, pI (w64 (((k4 : Nat) : Int) + 1)))] [] (by kernel_rfl) (.cons rfl (.of_eq (congrArg pI (w64_succ hlt4 hc4))) .nil) .nil)
    ·intro h49
     have hge4 : ¬ k4 < p0.nodes.length := by have := of_decide_eq_false h49; omega
     have hm := he4 hge4
     unfold Check_ref5D4 at hm
     refine DW.exit ?_
     refine joinQ_exit ?_
     refine KQ_exit ?_
     refine blockQ_exit ?_
     show DW _ _ _ _ _
     obtain ⟨g52, hm⟩ := go1 hm
     refine Sq ?_
     refine Jn (ι := Bool) (fun (y7 : Bool) => mkSt [(2, pB y7)] []) (fun y7 => Check_ref5J7 y7 = some RES) ?_ ?_
     ·intro y7 hm
      unfold Check_ref5J7 at hm
      obtain rfl := sj hm
      exact DW.ret (retK [] [] (pB y7))
     ·rcases bt (decide (p0.next > (p0.nodes.getD (Int.toNat (w64 (((p0.nodes.length : Nat) : Int) - 1))) dNode).id)) with h53 | h53
      ·replace hm := if_t h53 hm
       refine RK hnt (nn 14 (pT :: .no :: [])) [(2, pB (decide (p0.next ≤ 2147483648)))] [] (an g52.1 (an g52.2 (an4 h53 tv))) ?_
       exact jD (decide (p0.next ≤ 2147483648)) hm .refl
      ·replace hm := if_f h53 hm
       refine RK hnt (nn 11 (sk 3 (pF :: .no :: []))) [(2, pB false)] [] (an g52.1 (an g52.2 (an4 h53 tv))) ?_
       exact jD false hm .refl
abbrev o38 (ks : List Nat) (b : Bool) (RES : Bool) : Orc := .call 110 ks b (pB RES) [] []

theorem Find_ref5Spec (p0 : Tree) (p1 : Int) (RES : Node × Bool) (hm : Find_ref5 p0 p1 = some RES) : Spec Tryz.prog 135 [.p (.agg (encTree p0)), pI p1] [] (.p (.tup [.agg (encNode RES.1), vb RES.2])) [] [] := by
 unfold Find_ref5 at hm
 refine SO Tryz.func135 rfl rfl [(0, .p (.agg (encTree p0))), (1, pI p1)] [] ?_
 intro cx hnt
 refine Sq (RK hnt (nn 3 []) [(1, pI p1), (2, rr 1016), (4, rr 1032)] [(1016, bx (pm (encTree p0))), (1032, bx [pI 0, pI 0, pS ByteArray.empty, pI 0, pI 0, pI 0])] tv ?_)
 obtain ⟨r1, hr1, hm⟩ := bo hm
 refine Sq (Sq (RD hnt (.no :: o38 [] true r1 :: .no :: []) [] [(9, pB (!r1))] [] [] (an (Check_ref5Spec p0 r1 hr1) tv) ?_))
 refine condM hm ?_ ?_
 ·intro h2 hm
  refine Sq (RD hnt (nn 3 []) [1, 2, 9] [(5, pB false)] [1016] [] tv ?_)
  obtain rfl := sj hm
  exact DW.ret (retK [] [] (.p (.tup [.agg [vi 0, vi 0, vs ByteArray.empty, vi 0, vi 0, vi 0], vb false])))
 ·intro h2 hm
  refine Sk ?_
  refine Sq (Sq (RD hnt (.no :: []) [9] [(6, pI 0)] [] [] tv ?_))
  refine Bk ?_
  obtain ⟨hc1, hm⟩ := go1 hm
  refine DW.rangeO (fun (k1 : Nat) (s1 : Unit) => mkSt [(1, pI p1), (2, rr 1016), (4, rr 1032), (6, pI ((k1 : Nat) : Int))] [(1016, bx (pm (encTree p0))), (1032, bx [pI 0, pI 0, pS ByteArray.empty, pI 0, pI 0, pI 0])]) dNode hm Conv.eqK ?_
  intro k1 s1 n1 hk1 hs1 he1
  refine Sq (Sq (RD hnt (nn 5 []) [] [(15, pB (decide (((k1 : Nat) : Int) < ((p0.nodes.length : Nat) : Int))))] [] [] tv ?_))
  refine condK (decide (((k1 : Nat) : Int) < ((p0.nodes.length : Nat) : Int))) ?_ ?_
  ·intro h11
   have hlt1 : k1 < p0.nodes.length := by have := of_decide_eq_true h11; omega
   have hm := hs1 hlt1
   unfold Find_ref5L1 at hm
   refine Sk ?_
   refine Sq (Bk ?_)
   refine Sq (RD hnt (nn 8 []) [15] [(25, pB ((p0.nodes.getD k1 (default : Node)).id == p1))] [] [] (an (nn0 k1) (an (ltc hlt1) tv)) ?_)
   refine condM hm ?_ ?_
   ·intro h12 hm
    refine Sq (RK hnt (nn 7 []) [(4, rr 1032), (5, pB true)] [(1032, bx (pm (encNode (p0.nodes.getD k1 (default : Node)))))] (an (nn0 k1) (an (ltc hlt1) tv)) ?_)
    obtain rfl := sj hm
    exact DW.ret (retK [] [] (.p (.tup [.agg (encNode (p0.nodes.getD k1 (default : Node))), vb true])))
   ·intro h12 hm
    refine Sk ?_
    refine DW.done ?_
    show DW _ _ _ _ _
    refine RD hnt (nn 3 []) [25] [(6, pI (w64 (((k1 : Nat) : Int) + 1)))] [] [] tv ?_
    exact jD () ⟨hlt1, hm⟩ (Conv.tp [(6, pI (w64 (((k1 : Nat) : Int) + 1)))] [] (by kernel_rfl) (.cons rfl (.of_eq (congrArg pI (w64_succ hlt1 hc1))) .nil) .nil)
  ·intro h11
   have hge1 : ¬ k1 < p0.nodes.length := by have := of_decide_eq_false h11; omega
   have hm := he1 hge1
   unfold Find_ref5D1 at hm
   refine DW.exit ?_
   refine joinQ_exit ?_
   refine KQ_exit ?_
   refine blockQ_exit ?_
   show DW _ _ _ _ _
   refine Sq (RD hnt (nn 3 []) [1, 2, 6, 15] [(5, pB false)] [1016] [] tv ?_)
   obtain rfl := sj hm
   exact DW.ret (retK [] [] (.p (.tup [.agg [vi 0, vi 0, vs ByteArray.empty, vi 0, vi 0, vi 0], vb false])))
abbrev o43 (ks : List Nat) (b : Bool) (RES : Node × Bool) : Orc := .call 135 ks b (.p (.tup [.agg (encNode RES.1), vb RES.2])) [] []

theorem Has_ref5Spec (p0 : Tree) (p1 : Int) (RES : Bool) (hm : Has_ref5 p0 p1 = some RES) : Spec Tryz.prog 88 [.p (.agg (encTree p0)), pI p1] [] (pB RES) [] [] := by
 unfold Has_ref5 at hm
 refine SO Tryz.func88 rfl rfl [(0, .p (.agg (encTree p0))), (1, pI p1)] [] ?_
 intro cx hnt
 refine Sq (RK hnt (nn 2 []) [(1, pI p1), (2, rr 1016)] [(1016, bx (pm (encTree p0)))] tv ?_)
 obtain ⟨r1, hr1, hm⟩ := bo hm
 refine Sq (RK hnt (nn 2 (o43 [] true r1 :: nn 6 [])) [(6, pB r1.2)] [] (an (Find_ref5Spec p0 p1 r1 hr1) tv) ?_)
 refine Sq (RK hnt (nn 2 []) [(4, pB r1.2)] [] tv ?_)
 obtain rfl := sj hm
 exact DW.ret (retK [] [] (pB r1.2))
abbrev o42 (ks : List Nat) (b : Bool) (RES : Bool) : Orc := .call 88 ks b (pB RES) [] []

theorem Ancestors_ref5Spec (p0 : Tree) (p1 : Int) (RES : List Int) (hm : Ancestors_ref5 p0 p1 = some RES) : Spec Tryz.prog 21 [.p (.agg (encTree p0)), pI p1] [] (ow 0 RES.length) [] [roI RES] := by
 unfold Ancestors_ref5 at hm
 refine SO Tryz.func21 rfl rfl [(0, .p (.agg (encTree p0))), (1, pI p1)] [] ?_
 intro cx hnt
 refine Sq (RK hnt (nn 2 []) [(1, pI p1), (2, rr 1016)] [(1016, bx (pm (encTree p0)))] tv ?_)
 obtain ⟨r1, hr1, hm⟩ := bo hm
 refine Sq (Sq (RD hnt (nn 2 (o42 [] true r1 :: .no :: [])) [] [(8, pB (!r1))] [] [] (an (Has_ref5Spec p0 p1 r1 hr1) tv) ?_))
 refine condM hm ?_ ?_
 ·intro h2 hm
  refine Sq (RK hnt (.no :: []) [(4, .p (.sl .nil 0 0 (fun _ => [])))] [] tv ?_)
  refine DW.cv [] [(4, ow 100000 0)] [] [(100000, ob0 (roI []))] (Conv.ads [(.s 4, 100000, 1, elems encI 0 [])]) ?_
  obtain rfl := sj hm
  exact DW.ret (retK [roI []] [100000] (ow 0 0))
 ·intro h2 hm
  refine Sk ?_
  obtain ⟨r3, hr3, hm⟩ := bo hm
  refine Sq (RK hnt (nn 2 (o41 [] true r3 :: .no :: [])) [(4, ow 1088 r3.length)] [(1088, ob0 (roI r3))] (an (up_ref5Spec p0 p1 r3 hr3) tv) ?_)
  obtain rfl := sj hm
  exact DW.ret (retK [roI r3] [1088] (ow 0 r3.length))
abbrev o45 (ks : List Nat) (b : Bool) (RES : List Int) : Orc := .call 21 ks b (ow 0 RES.length) [] [roI RES]

theorem Depth_ref5Spec (p0 : Tree) (p1 : Int) (RES : Int) (hm : Depth_ref5 p0 p1 = some RES) : Spec Tryz.prog 164 [.p (.agg (encTree p0)), pI p1] [] (pI RES) [] [] := by
 unfold Depth_ref5 at hm
 refine SO Tryz.func164 rfl rfl [(0, .p (.agg (encTree p0))), (1, pI p1)] [] ?_
 intro cx hnt
 refine Sq (RK hnt (nn 2 []) [(1, pI p1), (2, rr 1016)] [(1016, bx (pm (encTree p0)))] tv ?_)
 obtain ⟨r1, hr1, hm⟩ := bo hm
 refine Sq (RK hnt (nn 2 (o45 [] true r1 :: nn 3 [])) [(4, pI (w64 (((r1.length : Nat) : Int) - 1)))] [] (an (Ancestors_ref5Spec p0 p1 r1 hr1) tv) ?_)
 obtain rfl := sj hm
 exact DW.ret (retK [] [] (pI (w64 (((r1.length : Nat) : Int) - 1))))
abbrev o44 (ks : List Nat) (b : Bool) (RES : Int) : Orc := .call 164 ks b (pI RES) [] []

theorem Copy_ref5Spec (p0 : Tree) (RES : Tree) (hm : Copy_ref5 p0 = some RES) : Spec Tryz.prog 122 [.p (.agg (encTree p0))] [] (.agg [ow 0 RES.nodes.length, pI RES.next]) [] [roNode RES.nodes] := by
 unfold Copy_ref5 at hm
 refine SO Tryz.func122 rfl rfl [(0, .p (.agg (encTree p0)))] [] ?_
 intro cx hnt
 refine Sq (RK hnt (nn 2 []) [(1, rr 1008), (2, rr 1016)] [(1008, bx (pm (encTree p0))), (1016, bx [.p (.sl .nil 0 0 (fun _ => [])), pI 0])] tv ?_)
 obtain ⟨g1, hm⟩ := go1 hm
 refine Sq (RN hnt (nn 7 []) [(2, rr 1016)] [(1016, bx [ow 1040 p0.nodes.length, pI p0.next]), (1040, ob0 (roNode p0.nodes))] [] [(1040, .row 6 p0.nodes.length (elNode p0.nodes))] (an (by omega : p0.nodes.length * 56 ≤ 140737488355328) tv) (by kernel_rfl) .nil (.cons rfl (BLe.typed RowIs.elems) .nil) ?_)
 obtain rfl := sj hm
 exact DW.ret (retK [roNode p0.nodes] [1040] (.agg [ow 0 p0.nodes.length, pI p0.next]))
abbrev o46 (ks : List Nat) (b : Bool) (RES : Tree) : Orc := .call 122 ks b (.agg [ow 0 RES.nodes.length, pI RES.next]) [] [roNode RES.nodes]

abbrev c37e1 (p0 : Tree) (p1 : Int) (p2 : ByteArray) := ({ id := p0.next, parent := p1, name := p2, control := 0, kind := 0, owner := 0 } : Node)
abbrev c37e2 : Nat × Obj := (1048, bx [.p (.sl .nil 0 0 (fun _ => [])), pI 0])
abbrev c37e3 (p0 : Tree) : Nat × Obj := (1024, bx (pm (encTree p0)))
abbrev c37e4 : Nat × Obj := (1048, bx [ow 100000 0, pI 0])
theorem Add_ref5Spec (p0 : Tree) (p1 : Int) (p2 : ByteArray) (RES : Tree × Int × Int) (hm : Add_ref5 p0 p1 p2 = some RES) : Spec Tryz.prog 131 [.p (.agg (encTree p0)), pI p1, pS p2] [] (.tup [.agg [ow 0 RES.1.nodes.length, pI RES.1.next], pI RES.2.1, pI RES.2.2]) [] [roNode RES.1.nodes] := by
 unfold Add_ref5 at hm
 refine SO Tryz.func131 rfl rfl [(0, .p (.agg (encTree p0))), (1, pI p1), (2, pS p2)] [] ?_
 intro cx hnt
 refine Sq (RD hnt (nn 4 []) [0] [(3, rr 1024), (6, rr 1048)] [] [(c37e3 p0), (c37e2)] tv ?_)
 obtain ⟨r1, hr1, hm⟩ := bo hm
 refine Sq (Sq ?_)
 refine Jn (ι := Bool) (fun (y1 : Bool) => mkSt [(1, pI p1), (2, pS p2), (3, rr 1024), (6, rr 1048), (18, pB y1)] [(c37e3 p0), (c37e2)]) (fun y1 => (Add_ref5J1 p0 p1 p2) y1 = some RES) ?_ ?_
 ·intro y1 hm
  unfold Add_ref5J1 at hm
  refine condM hm ?_ ?_
  ·intro h4 hm
   refine Sq (RD hnt (nn 4 []) [1, 2, 3, 18] [(7, pI 0), (8, pI 1)] [1024] [] tv ?_)
   refine DW.cv [] [] [] [(c37e4), (100000, ob0 (roNode []))] (Conv.ads [(.o 1048 0, 100000, 6, elems encNode dNode [])]) ?_
   obtain rfl := sj hm
   exact DW.ret (retK [roNode []] [100000] (.tup [.agg [ow 0 0, pI 0], pI 0, pI 1]))
  ·intro h4 hm
   refine Sk ?_
   obtain ⟨r5, hr5, hm⟩ := bo hm
   refine Sq (Sq (RD hnt (nn 2 (o42 [] true r5 :: .no :: [])) [18] [(23, pB (!r5))] [] [] (an (Has_ref5Spec p0 p1 r5 hr5) tv) ?_))
   refine condM hm ?_ ?_
   ·intro h6 hm
    refine Sq (RD hnt (nn 4 []) [1, 2, 3, 23] [(7, pI 0), (8, pI 4)] [1024] [] tv ?_)
    refine DW.cv [] [] [] [(c37e4), (100000, ob0 (roNode []))] (Conv.ads [(.o 1048 0, 100000, 6, elems encNode dNode [])]) ?_
    obtain rfl := sj hm
    exact DW.ret (retK [roNode []] [100000] (.tup [.agg [ow 0 0, pI 0], pI 0, pI 4]))
   ·intro h6 hm
    refine Sk ?_
    refine Sq (Sq (RD hnt (.no :: []) [23] [(9, pI 0)] [] [] tv ?_))
    refine Bk ?_
    obtain ⟨hc1, hm⟩ := go1 hm
    refine DW.rangeO (fun (k1 : Nat) (s1 : Unit) => mkSt [(1, pI p1), (2, pS p2), (3, rr 1024), (6, rr 1048), (9, pI ((k1 : Nat) : Int))] [(c37e3 p0), (c37e2)]) dNode hm Conv.eqK ?_
    intro k1 s1 n1 hk1 hs1 he1
    refine Sq (Sq (RD hnt (nn 5 []) [] [(29, pB (decide (((k1 : Nat) : Int) < ((p0.nodes.length : Nat) : Int))))] [] [] tv ?_))
    refine condK (decide (((k1 : Nat) : Int) < ((p0.nodes.length : Nat) : Int))) ?_ ?_
    ·intro h29
     have hlt1 : k1 < p0.nodes.length := by have := of_decide_eq_true h29; omega
     have hm := hs1 hlt1
     unfold Add_ref5L1 at hm
     refine Sk ?_
     refine Sq (Bk ?_)
     refine Sq (DW.regJ (sl2 := [(1, pI p1), (2, pS p2), (3, rr 1024), (6, rr 1048), (9, pI ((k1 : Nat) : Int)), (49, pB (((p0.nodes.getD k1 (default : Node)).parent == p1) && (beqS (p0.nodes.getD k1 (default : Node)).name p2)))]) (ob2 := [(c37e3 p0), (c37e2)]) ?_ ?_)
     ·rcases bt ((p0.nodes.getD k1 (default : Node)).parent == p1) with h30 | h30
      ·exact RT hnt (nn 17 (pT :: [])) [(49, pB (beqS (p0.nodes.getD k1 (default : Node)).name p2))] (an (nn0 k1) (an (ltc hlt1) (an4 h30 (an (nn0 k1) (an (ltc hlt1) (an5 h30 tv)))))) (by kernel_rfl) (.cons rfl (.of_eq (by rw [h30]; try rfl)) .nil)
      ·exact RT hnt (nn 9 (sk 8 (pF :: []))) [(49, pB false)] (an (nn0 k1) (an (ltc hlt1) (an3 h30 (an6 h30 tv)))) (by kernel_rfl) (.cons rfl (.of_eq (by rw [h30]; try rfl)) .nil)
     ·refine condM hm ?_ ?_
      ·intro h31 hm
       refine Sq (RD hnt (nn 4 []) [1, 2, 3, 9, 49] [(7, pI 0), (8, pI 5)] [1024] [] tv ?_)
       refine DW.cv [] [] [] [(c37e4), (100000, ob0 (roNode []))] (Conv.ads [(.o 1048 0, 100000, 6, elems encNode dNode [])]) ?_
       obtain rfl := sj hm
       exact DW.ret (retK [roNode []] [100000] (.tup [.agg [ow 0 0, pI 0], pI 0, pI 5]))
      ·intro h31 hm
       refine Sk ?_
       refine DW.done ?_
       show DW _ _ _ _ _
       refine RD hnt (nn 3 []) [49] [(9, pI (w64 (((k1 : Nat) : Int) + 1)))] [] [] tv ?_
       exact jD () ⟨hlt1, hm⟩ (Conv.tp [(9, pI (w64 (((k1 : Nat) : Int) + 1)))] [] (by kernel_rfl) (.cons rfl (.of_eq (congrArg pI (w64_succ hlt1 hc1))) .nil) .nil)
    ·intro h29
     have hge1 : ¬ k1 < p0.nodes.length := by have := of_decide_eq_false h29; omega
     have hm := he1 hge1
     unfold Add_ref5D1 at hm
     refine DW.exit ?_
     refine joinQ_exit ?_
     refine KQ_exit ?_
     refine blockQ_exit ?_
     show DW _ _ _ _ _
     obtain ⟨r32, hr32, hm⟩ := bo hm
     refine Sq (Sq ?_)
     refine Jn (ι := Bool) (fun (y6 : Bool) => mkSt [(1, pI p1), (2, pS p2), (3, rr 1024), (6, rr 1048), (65, pB y6)] [(c37e3 p0), (c37e2)]) (fun y6 => (Add_ref5J6 p0 p1 p2) y6 = some RES) ?_ ?_
     ·intro y6 hm
      unfold Add_ref5J6 at hm
      refine condM hm ?_ ?_
      ·intro h35 hm
       refine Sq (RD hnt (nn 4 []) [1, 2, 3, 65] [(7, pI 0), (8, pI 7)] [1024] [] tv ?_)
       refine DW.cv [] [] [] [(c37e4), (100000, ob0 (roNode []))] (Conv.ads [(.o 1048 0, 100000, 6, elems encNode dNode [])]) ?_
       obtain rfl := sj hm
       exact DW.ret (retK [roNode []] [100000] (.tup [.agg [ow 0 0, pI 0], pI 0, pI 7]))
      ·intro h35 hm
       refine Sk ?_
       obtain ⟨r36, hr36, hm⟩ := bo hm
       refine Sq (RD hnt (.no :: o46 [] true r36 :: nn 2 []) [65] [(10, rr 1080)] [] [(1080, bx [ow 1544 r36.nodes.length, pI r36.next]), (1544, ob0 (roNode r36.nodes))] (an (Copy_ref5Spec p0 r36 hr36) tv) ?_)
       obtain ⟨g37, hm⟩ := go1 hm
       refine Sq (RN hnt (nn 11 []) [(3, rr 1024), (6, rr 1048), (10, rr 1080)] [(c37e3 p0), (c37e2), (1080, bx [ow 1544 (r36.nodes ++ [(c37e1 p0 p1 p2)]).length, pI r36.next]), (1544, ob0 (roNode (r36.nodes ++ [(c37e1 p0 p1 p2)])))] [] [(1080, .box [ow 1544 (r36.nodes.length + 1), pI r36.next]), (1544, .row 6 (r36.nodes.length + 1) (catF r36.nodes.length (elNode r36.nodes) (cut 6 [vi p0.next, vi p1, vs p2, vi 0, vi 0, vi 0])))] (an (by omega : (r36.nodes.length + 1) * 56 ≤ 140737488355328) tv) (by kernel_rfl) .nil (.cons rfl (.box (.cons (MLe.ownLen (enc := encNode) (d := dNode) (f := (catF r36.nodes.length (elNode r36.nodes) (cut 6 [vi p0.next, vi p1, vs p2, vi 0, vi 0, vi 0]))) (RowIs.cat RowIs.elems (RowIs.lit (enc := encNode) (d := dNode) (n := 1) (f := (cut 6 [vi p0.next, vi p1, vs p2, vi 0, vi 0, vi 0])) [(c37e1 p0 p1 p2)] rfl (fun | 0, _ => rfl | n + 1, h => absurd h (by omega))))) (.cons .rfl .nil))) (.cons rfl (BLe.typed (RowIs.cat RowIs.elems (RowIs.lit (enc := encNode) (d := dNode) (n := 1) (f := (cut 6 [vi p0.next, vi p1, vs p2, vi 0, vi 0, vi 0])) [(c37e1 p0 p1 p2)] rfl (fun | 0, _ => rfl | n + 1, h => absurd h (by omega))))) .nil)) ?_)
       refine Sq (RD hnt (nn 5 []) [] [] [] [(1080, bx [ow 1544 (r36.nodes ++ [(c37e1 p0 p1 p2)]).length, pI (w64 (r36.next + 1))])] tv ?_)
       refine Sq (RD hnt (nn 6 []) [3, 10] [(7, pI p0.next), (8, pI 0)] [1024, 1080] [(1048, bx [ow 1544 (r36.nodes ++ [(c37e1 p0 p1 p2)]).length, pI (w64 (r36.next + 1))])] tv ?_)
       obtain rfl := sj hm
       exact DW.ret (retK [roNode (r36.nodes ++ [(c37e1 p0 p1 p2)])] [1544] (.tup [.agg [ow 0 (r36.nodes ++ [(c37e1 p0 p1 p2)]).length, pI (w64 (r36.next + 1))], pI p0.next, pI 0]))
     ·rcases bt (decide (r32 ≥ 8)) with h33 | h33
      ·replace hm := if_t h33 hm
       refine RD hnt (nn 2 (o44 [] true r32 :: nn 2 (sk 4 (pT :: .no :: sk 3 (pT :: []))))) [9, 29] [(65, pB true)] [] [] (an (Depth_ref5Spec p0 p1 r32 hr32) (an5 h33 (an4 tt tv))) ?_
       exact jD true hm Conv.eqK
      ·replace hm := if_f h33 hm
       rcases bt (decide (((p0.nodes.length : Nat) : Int) ≥ 64)) with h34 | h34
       ·replace hm := if_t h34 hm
        refine RD hnt (nn 2 (o44 [] true r32 :: nn 6 (pF :: .no :: sk 3 (pT :: [])))) [9, 29] [(65, pB true)] [] [] (an (Depth_ref5Spec p0 p1 r32 hr32) (an5 h33 (an4 h34 tv))) ?_
        exact jD true hm Conv.eqK
       ·replace hm := if_f h34 hm
        refine RD hnt (nn 2 (o44 [] true r32 :: nn 6 (pF :: nn 4 (pF :: [])))) [9, 29] [(65, pB (decide (p0.next > 2147483647)))] [] [] (an (Depth_ref5Spec p0 p1 r32 hr32) (an5 h33 (an4 h34 tv))) ?_
        exact jD (decide (p0.next > 2147483647)) hm Conv.eqK
 ·rcases bt (!r1) with h2 | h2
  ·replace hm := if_t h2 hm
   refine RD hnt (.no :: o38 [] true r1 :: nn 2 (sk 3 (pT :: []))) [] [(18, pB true)] [] [] (an (Check_ref5Spec p0 r1 hr1) (an4 h2 tv)) ?_
   exact jD true hm Conv.eqK
  ·replace hm := if_f h2 hm
   obtain ⟨r3, hr3, hm⟩ := bo hm
   refine RD hnt (.no :: o38 [] true r1 :: nn 3 (o40 [] true r3 :: .no :: pF :: [])) [] [(18, pB (!r3))] [] [] (an (Check_ref5Spec p0 r1 hr1) (an2 h2 (an (Valid_ref1Spec p2 r3 hr3) (an2 h2 tv)))) ?_
   exact jD (!r3) hm Conv.eqK
abbrev o37 (ks : List Nat) (b : Bool) (RES : Tree × Int × Int) : Orc := .call 131 ks b (.tup [.agg [ow 0 RES.1.nodes.length, pI RES.1.next], pI RES.2.1, pI RES.2.2]) [] [roNode RES.1.nodes]

theorem Bool_Dice_madeSpec (p0 : Dice) (p1 : Int) (RES : Bool × Dice) (hm : Bool_Dice_made p0 p1 = some RES) : Spec Tryz.prog 77 [rr 0, pI p1] [.box (pm (encDice p0))] (pB RES.1) [.box (pm (encDice RES.2))] [] := by
 unfold Bool_Dice_made at hm
 refine SO Tryz.func77 rfl rfl [(0, rr 0), (1, pI p1)] [(0, bx (pm (encDice p0)))] ?_
 intro cx hnt
 refine Sq (RD hnt (.no :: []) [] [] [] [] tv ?_)
 obtain ⟨r1, hr1, hm⟩ := bo hm
 refine Sq (RK hnt (nn 2 (o35 [0] true r1 :: nn 4 [])) [(4, pB (r1.1 == (w64 (p1 - 1))))] [(0, bx (pm (encDice r1.2)))] (an (Next_Dice_madeSpec p0 p1 r1 hr1) (an tv tv)) ?_)
 obtain rfl := sj hm
 exact DW.ret (retK [.box (pm (encDice r1.2))] [] (pB (r1.1 == (w64 (p1 - 1)))))
abbrev o47 (ks : List Nat) (b : Bool) (RES : Bool × Dice) : Orc := .call 77 ks b (pB RES.1) [.box (pm (encDice RES.2))] []

abbrev c49e1 (p0 : Tree) (k1 : Nat) := (p0.nodes.getD k1 (default : Node))
theorem Children_ref5Spec (p0 : Tree) (p1 : Int) (RES : List Int) (hm : Children_ref5 p0 p1 = some RES) : Spec Tryz.prog 27 [.p (.agg (encTree p0)), pI p1] [] (ow 0 RES.length) [] [roI RES] := by
 unfold Children_ref5 at hm
 refine SO Tryz.func27 rfl rfl [(0, .p (.agg (encTree p0))), (1, pI p1)] [] ?_
 intro cx hnt
 refine Sq (RK hnt (nn 2 []) [(1, pI p1), (2, rr 1016)] [(1016, bx (pm (encTree p0)))] tv ?_)
 obtain ⟨r1, hr1, hm⟩ := bo hm
 refine Sq (Sq (RD hnt (nn 2 (o42 [] true r1 :: .no :: [])) [] [(10, pB (!r1))] [] [] (an (Has_ref5Spec p0 p1 r1 hr1) tv) ?_))
 refine condM hm ?_ ?_
 ·intro h2 hm
  refine Sq (RK hnt (.no :: []) [(4, .p (.sl .nil 0 0 (fun _ => [])))] [] tv ?_)
  refine DW.cv [] [(4, ow 100000 0)] [] [(100000, ob0 (roI []))] (Conv.ads [(.s 4, 100000, 1, elems encI 0 [])]) ?_
  obtain rfl := sj hm
  exact DW.ret (retK [roI []] [100000] (ow 0 0))
 ·intro h2 hm
  refine Sk ?_
  refine Sq (RD hnt (.no :: []) [10] [(5, .p (.sl .nil 0 0 (fun _ => [])))] [] [] tv ?_)
  refine Sq (Sq (RD hnt (.no :: []) [] [(6, pI 0)] [] [] tv ?_))
  refine Bk ?_
  obtain ⟨hc1, hm⟩ := go1 hm
  refine DW.rangeO (fun (k1 : Nat) (s1 : List Int) => mkSt [(1, pI p1), (2, rr 1016), (5, ow 1272 s1.length), (6, pI ((k1 : Nat) : Int))] [(1016, bx (pm (encTree p0))), (1272, ob0 (roI s1))]) dNode hm (Conv.ads [(.s 5, 1272, 1, elems encI 0 [])]) ?_
  intro k1 s1 n1 hk1 hs1 he1
  refine Sq (Sq (RD hnt (nn 5 []) [] [(15, pB (decide (((k1 : Nat) : Int) < ((p0.nodes.length : Nat) : Int))))] [] [] tv ?_))
  refine condK (decide (((k1 : Nat) : Int) < ((p0.nodes.length : Nat) : Int))) ?_ ?_
  ·intro h12
   have hlt1 : k1 < p0.nodes.length := by have := of_decide_eq_true h12; omega
   have hm := hs1 hlt1
   unfold Children_ref5L1 at hm
   refine Sk ?_
   refine Sq ?_
   refine Jn (ι := List Int) (fun (y3 : List Int) => mkSt [(1, pI p1), (2, rr 1016), (5, ow 1272 y3.length), (6, pI ((k1 : Nat) : Int))] [(1016, bx (pm (encTree p0))), (1272, ob0 (roI y3))]) (fun y3 => (Children_ref5J3 n1) y3 = some RES) ?_ ?_
   ·intro y3 hm
    unfold Children_ref5J3 at hm
    refine RD hnt (nn 3 []) [] [(6, pI (w64 (((k1 : Nat) : Int) + 1)))] [] [] tv ?_
    exact jD y3 ⟨hlt1, hm⟩ (Conv.tp [(6, pI (w64 (((k1 : Nat) : Int) + 1)))] [] (by kernel_rfl) (.cons rfl (.of_eq (congrArg pI (w64_succ hlt1 hc1))) .nil) .nil)
   ·refine Bk ?_
    refine Sq (RD hnt (nn 8 []) [15] [(25, pB ((c49e1 p0 k1).parent == p1))] [] [] (an (nn0 k1) (an (ltc hlt1) tv)) ?_)
    refine condM hm ?_ ?_
    ·intro h13 hm
     obtain ⟨g14, hm⟩ := go1 hm
     refine RN hnt (nn 10 []) [(1, pI p1), (2, rr 1016), (5, ow 1272 (s1 ++ [(c49e1 p0 k1).id]).length), (6, pI ((k1 : Nat) : Int))] [(1016, bx (pm (encTree p0))), (1272, ob0 (roI (s1 ++ [(c49e1 p0 k1).id])))] [(5, ow 1272 (s1.length + 1))] [(1272, .row 1 (s1.length + 1) (catF s1.length (elI s1) (cut 1 [vi (c49e1 p0 k1).id])))] (an (nn0 k1) (an (ltc hlt1) (an (by omega : (s1.length + 1) * 8 ≤ 140737488355328) tv))) (by kernel_rfl) (.cons rfl (MLe.ownLen (enc := encI) (d := 0) (f := (catF s1.length (elI s1) (cut 1 [vi (c49e1 p0 k1).id]))) (RowIs.cat RowIs.elems (RowIs.lit (enc := encI) (d := 0) (n := 1) (f := (cut 1 [vi (c49e1 p0 k1).id])) [(c49e1 p0 k1).id] rfl (fun | 0, _ => rfl | n + 1, h => absurd h (by omega))))) .nil) (.cons rfl (BLe.typed (RowIs.cat RowIs.elems (RowIs.lit (enc := encI) (d := 0) (n := 1) (f := (cut 1 [vi (c49e1 p0 k1).id])) [(c49e1 p0 k1).id] rfl (fun | 0, _ => rfl | n + 1, h => absurd h (by omega))))) .nil) ?_
     exact bD (s1 ++ [(c49e1 p0 k1).id]) hm .refl
    ·intro h13 hm
     refine Sk ?_
     exact bD s1 hm Conv.t0
  ·intro h12
   have hge1 : ¬ k1 < p0.nodes.length := by have := of_decide_eq_false h12; omega
   have hm := he1 hge1
   unfold Children_ref5D1 at hm
   refine DW.exit ?_
   refine joinQ_exit ?_
   refine KQ_exit ?_
   refine blockQ_exit ?_
   show DW _ _ _ _ _
   refine Sq (RK hnt (nn 2 []) [(4, ow 1272 s1.length)] [(1272, ob0 (roI s1))] tv ?_)
   obtain rfl := sj hm
   exact DW.ret (retK [roI s1] [1272] (ow 0 s1.length))
abbrev o49 (ks : List Nat) (b : Bool) (RES : List Int) : Orc := .call 27 ks b (ow 0 RES.length) [] [roI RES]

abbrev c48e1 (p0 : Tree) (k1 : Nat) := (p0.nodes.getD k1 (default : Node))
abbrev c48e2 : Nat × Obj := (1032, bx [.p (.sl .nil 0 0 (fun _ => [])), pI 0])
abbrev c48e3 : Nat × Obj := (1032, bx [ow 100000 0, pI 0])
theorem Remove_ref5Spec (p0 : Tree) (p1 : Int) (RES : Tree × Int) (hm : Remove_ref5 p0 p1 = some RES) : Spec Tryz.prog 124 [.p (.agg (encTree p0)), pI p1] [] (.tup [.agg [ow 0 RES.1.nodes.length, pI RES.1.next], pI RES.2]) [] [roNode RES.1.nodes] := by
 unfold Remove_ref5 at hm
 refine SO Tryz.func124 rfl rfl [(0, .p (.agg (encTree p0))), (1, pI p1)] [] ?_
 intro cx hnt
 refine Sq (RK hnt (nn 3 []) [(1, pI p1), (2, rr 1016), (4, rr 1032)] [(1016, bx (pm (encTree p0))), (c48e2)] tv ?_)
 refine Sq (Bk ?_)
 obtain ⟨r1, hr1, hm⟩ := bo hm
 refine Sq (RD hnt (.no :: o38 [] true r1 :: nn 2 []) [] [(8, pB (!r1))] [] [] (an (Check_ref5Spec p0 r1 hr1) tv) ?_)
 refine condM hm ?_ ?_
 ·intro h2 hm
  refine Sq (RD hnt (nn 3 []) [1, 2, 8] [(5, pI 1)] [1016] [] tv ?_)
  refine DW.cv [] [] [] [(c48e3), (100000, ob0 (roNode []))] (Conv.ads [(.o 1032 0, 100000, 6, elems encNode dNode [])]) ?_
  obtain rfl := sj hm
  exact DW.ret (retK [roNode []] [100000] (.tup [.agg [ow 0 0, pI 0], pI 1]))
 ·intro h2 hm
  obtain ⟨r3, hr3, hm⟩ := bo hm
  refine Sq (RD hnt (nn 2 (o42 [] true r3 :: nn 2 [])) [8] [(13, pB (!r3))] [] [] (an (Has_ref5Spec p0 p1 r3 hr3) tv) ?_)
  refine condM hm ?_ ?_
  ·intro h4 hm
   refine Sq (RD hnt (nn 3 []) [1, 2, 13] [(5, pI 4)] [1016] [] tv ?_)
   refine DW.cv [] [] [] [(c48e3), (100000, ob0 (roNode []))] (Conv.ads [(.o 1032 0, 100000, 6, elems encNode dNode [])]) ?_
   obtain rfl := sj hm
   exact DW.ret (retK [roNode []] [100000] (.tup [.agg [ow 0 0, pI 0], pI 4]))
  ·intro h4 hm
   refine Sq (RD hnt (nn 3 []) [13] [(19, pB (p1 == 1))] [] [] tv ?_)
   refine condM hm ?_ ?_
   ·intro h5 hm
    refine Sq (RD hnt (nn 3 []) [1, 2, 19] [(5, pI 9)] [1016] [] tv ?_)
    refine DW.cv [] [] [] [(c48e3), (100000, ob0 (roNode []))] (Conv.ads [(.o 1032 0, 100000, 6, elems encNode dNode [])]) ?_
    obtain rfl := sj hm
    exact DW.ret (retK [roNode []] [100000] (.tup [.agg [ow 0 0, pI 0], pI 9]))
   ·intro h5 hm
    obtain ⟨r6, hr6, hm⟩ := bo hm
    refine Sq (RD hnt (nn 2 (o49 [] true r6 :: nn 3 [])) [19] [(23, pB (decide (((r6.length : Nat) : Int) > 0)))] [] [] (an (Children_ref5Spec p0 p1 r6 hr6) tv) ?_)
    refine condM hm ?_ ?_
    ·intro h7 hm
     refine Sq (RD hnt (nn 3 []) [1, 2, 23] [(5, pI 6)] [1016] [] tv ?_)
     refine DW.cv [] [] [] [(c48e3), (100000, ob0 (roNode []))] (Conv.ads [(.o 1032 0, 100000, 6, elems encNode dNode [])]) ?_
     obtain rfl := sj hm
     exact DW.ret (retK [roNode []] [100000] (.tup [.agg [ow 0 0, pI 0], pI 6]))
    ·intro h7 hm
     refine Sk ?_
     refine DW.done ?_
     show DW _ _ _ _ _
     refine Sq (RD hnt (nn 5 []) [23] [(6, rr 1048)] [] [(1048, bx [.p (.sl .nil 0 0 (fun _ => [])), pI p0.next])] tv ?_)
     refine Sq (Sq (RD hnt (.no :: []) [] [(7, pI 0)] [] [] tv ?_))
     refine Bk ?_
     obtain ⟨hc1, hm⟩ := go1 hm
     refine DW.rangeO (fun (k1 : Nat) (s1 : List Node) => mkSt [(1, pI p1), (2, rr 1016), (4, rr 1032), (6, rr 1048), (7, pI ((k1 : Nat) : Int))] [(1016, bx (pm (encTree p0))), (c48e2), (1048, bx [ow 1448 s1.length, pI p0.next]), (1448, ob0 (roNode s1))]) dNode hm (Conv.ads [(.o 1048 0, 1448, 6, elems encNode dNode [])]) ?_
     intro k1 s1 n1 hk1 hs1 he1
     refine Sq (Sq (RD hnt (nn 5 []) [] [(37, pB (decide (((k1 : Nat) : Int) < ((p0.nodes.length : Nat) : Int))))] [] [] tv ?_))
     refine condK (decide (((k1 : Nat) : Int) < ((p0.nodes.length : Nat) : Int))) ?_ ?_
     ·intro h17
      have hlt1 : k1 < p0.nodes.length := by have := of_decide_eq_true h17; omega
      have hm := hs1 hlt1
      unfold Remove_ref5L1 at hm
      refine Sk ?_
      refine Sq ?_
      refine Jn (ι := List Node) (fun (y3 : List Node) => mkSt [(1, pI p1), (2, rr 1016), (4, rr 1032), (6, rr 1048), (7, pI ((k1 : Nat) : Int))] [(1016, bx (pm (encTree p0))), (c48e2), (1048, bx [ow 1448 y3.length, pI p0.next]), (1448, ob0 (roNode y3))]) (fun y3 => (Remove_ref5J3 n1) y3 = some RES) ?_ ?_
      ·intro y3 hm
       unfold Remove_ref5J3 at hm
       refine RD hnt (nn 3 []) [] [(7, pI (w64 (((k1 : Nat) : Int) + 1)))] [] [] tv ?_
       exact jD y3 ⟨hlt1, hm⟩ (Conv.tp [(7, pI (w64 (((k1 : Nat) : Int) + 1)))] [] (by kernel_rfl) (.cons rfl (.of_eq (congrArg pI (w64_succ hlt1 hc1))) .nil) .nil)
      ·refine Bk ?_
       refine Sq (RD hnt (nn 8 []) [37] [(47, pB ((c48e1 p0 k1).id != p1))] [] [] (an (nn0 k1) (an (ltc hlt1) tv)) ?_)
       refine condM hm ?_ ?_
       ·intro h18 hm
        obtain ⟨g19, hm⟩ := go1 hm
        refine RN hnt (nn 11 []) [(1, pI p1), (2, rr 1016), (4, rr 1032), (6, rr 1048), (7, pI ((k1 : Nat) : Int))] [(1016, bx (pm (encTree p0))), (c48e2), (1048, bx [ow 1448 (s1 ++ [(c48e1 p0 k1)]).length, pI p0.next]), (1448, ob0 (roNode (s1 ++ [(c48e1 p0 k1)])))] [] [(1048, .box [ow 1448 (s1.length + 1), pI p0.next]), (1448, .row 6 (s1.length + 1) (catF s1.length (elNode s1) (cut 6 [vi (c48e1 p0 k1).id, vi (c48e1 p0 k1).parent, vs (c48e1 p0 k1).name, vi (c48e1 p0 k1).control, vi (c48e1 p0 k1).kind, vi (c48e1 p0 k1).owner])))] (an (nn0 k1) (an (ltc hlt1) (an (by omega : (s1.length + 1) * 56 ≤ 140737488355328) tv))) (by kernel_rfl) .nil (.cons rfl (.box (.cons (MLe.ownLen (enc := encNode) (d := dNode) (f := (catF s1.length (elNode s1) (cut 6 [vi (c48e1 p0 k1).id, vi (c48e1 p0 k1).parent, vs (c48e1 p0 k1).name, vi (c48e1 p0 k1).control, vi (c48e1 p0 k1).kind, vi (c48e1 p0 k1).owner]))) (RowIs.cat RowIs.elems (RowIs.lit (enc := encNode) (d := dNode) (n := 1) (f := (cut 6 [vi (c48e1 p0 k1).id, vi (c48e1 p0 k1).parent, vs (c48e1 p0 k1).name, vi (c48e1 p0 k1).control, vi (c48e1 p0 k1).kind, vi (c48e1 p0 k1).owner])) [(c48e1 p0 k1)] rfl (fun | 0, _ => rfl | n + 1, h => absurd h (by omega))))) (.cons .rfl .nil))) (.cons rfl (BLe.typed (RowIs.cat RowIs.elems (RowIs.lit (enc := encNode) (d := dNode) (n := 1) (f := (cut 6 [vi (c48e1 p0 k1).id, vi (c48e1 p0 k1).parent, vs (c48e1 p0 k1).name, vi (c48e1 p0 k1).control, vi (c48e1 p0 k1).kind, vi (c48e1 p0 k1).owner])) [(c48e1 p0 k1)] rfl (fun | 0, _ => rfl | n + 1, h => absurd h (by omega))))) .nil)) ?_
        exact bD (s1 ++ [(c48e1 p0 k1)]) hm .refl
       ·intro h18 hm
        refine Sk ?_
        exact bD s1 hm Conv.t0
     ·intro h17
      have hge1 : ¬ k1 < p0.nodes.length := by have := of_decide_eq_false h17; omega
      have hm := he1 hge1
      unfold Remove_ref5D1 at hm
      refine DW.exit ?_
      refine joinQ_exit ?_
      refine KQ_exit ?_
      refine blockQ_exit ?_
      show DW _ _ _ _ _
      refine Sq (RK hnt (nn 3 []) [(4, rr 1032), (5, pI 0)] [(1032, bx [ow 1448 s1.length, pI p0.next]), (1448, ob0 (roNode s1))] tv ?_)
      obtain rfl := sj hm
      exact DW.ret (retK [roNode s1] [1448] (.tup [.agg [ow 0 s1.length, pI p0.next], pI 0]))
abbrev o48 (ks : List Nat) (b : Bool) (RES : Tree × Int) : Orc := .call 124 ks b (.tup [.agg [ow 0 RES.1.nodes.length, pI RES.1.next], pI RES.2]) [] [roNode RES.1.nodes]

abbrev c34e1 : Nat × Obj := (1032, bx [.p (.sl .nil 0 0 (fun _ => [])), pI 0])
theorem Tree_Dice_madeSpec (p0 : Dice) (p1 : Int) (RES : Tree × Dice) (hm : Tree_Dice_made p0 p1 = some RES) : Spec Tryz.prog 80 [rr 0, pI p1] [.box (pm (encDice p0))] (.p (.agg (encTree RES.1))) [.box (pm (encDice RES.2))] [] := by
 unfold Tree_Dice_made at hm
 refine SO Tryz.func80 rfl rfl [(0, rr 0), (1, pI p1)] [(0, bx (pm (encDice p0)))] ?_
 intro cx hnt
 refine Sq (RD hnt (.no :: []) [] [(4, rr 1032)] [] [(c34e1)] tv ?_)
 obtain ⟨r1, hr1, hm⟩ := bo hm
 refine Sq (RD hnt (o33 [] true r1 :: nn 2 []) [] [(5, rr 1040)] [] [(1040, bx [ow 1104 r1.nodes.length, pI r1.next]), (1104, ob0 (roNode r1.nodes))] (an (New_ref5Spec r1 hr1) tv) ?_)
 obtain ⟨r2, hr2, hm⟩ := bo hm
 refine Sq (Sq (RD hnt (nn 3 (o35 [0] true r2 :: .no :: [])) [1] [(6, pI r2.1)] [] [(0, bx (pm (encDice r2.2)))] (an (Next_Dice_madeSpec p0 (w64 (p1 + 1)) r2 hr2) (an tv tv)) ?_))
 refine Bk ?_
 refine DW.whileO (fun (s1 : Dice × Tree × Int) => mkSt [(0, rr 0), (4, rr 1032), (5, rr 1040), (6, pI s1.2.2)] [(0, bx (pm (encDice s1.1))), (c34e1), (1040, bx (pm (encTree s1.2.1)))]) hm (Conv.frz [1104]) ?_
 intro s1 n1 hm
 unfold Tree_Dice_madeL1 at hm
 refine Sq (Sq (RD hnt (nn 2 []) [] [(19, pB (decide (s1.2.2 > 0)))] [] [] tv ?_))
 refine condM hm ?_ ?_
 ·intro h18 hm
  refine Sk ?_
  refine Sq ?_
  refine Jn (ι := Dice × Tree) (fun (y3 : Dice × Tree) => mkSt [(0, rr 0), (4, rr 1032), (5, rr 1040), (6, pI s1.2.2)] [(0, bx (pm (encDice y3.1))), (c34e1), (1040, bx (pm (encTree y3.2)))]) (fun y3 => (Tree_Dice_madeJ3 s1 n1) y3 = some RES) ?_ ?_
  ·intro y3 hm
   unfold Tree_Dice_madeJ3 at hm
   refine RD hnt (nn 3 []) [] [(6, pI (w64 (s1.2.2 - 1)))] [] [] tv ?_
   exact jD (y3.1, y3.2, (w64 (s1.2.2 - 1))) hm Conv.eqK
  ·refine Bk ?_
   obtain ⟨r19, hr19, hm⟩ := bo hm
   obtain ⟨g20, hm⟩ := go1 hm
   refine Sq (RD hnt (nn 6 (o35 [0] true r19 :: nn 4 [])) [19] [(7, pI (s1.2.1.nodes.getD (Int.toNat r19.1) dNode).id)] [] [(0, bx (pm (encDice r19.2)))] (an (Next_Dice_madeSpec s1.1 ((s1.2.1.nodes.length : Nat) : Int) r19 hr19) (an tv (an g20.1 (an g20.2 tv)))) ?_)
   obtain ⟨r21, hr21, hm⟩ := bo hm
   obtain ⟨r22, hr22, hm⟩ := bo hm
   refine Sq (Sq (RD hnt (nn 3 (o36 [0] true r21 :: o37 [] true r22 :: nn 8 [])) [7] [(8, rr 1064), (10, pI r22.2.2)] [] [(0, bx (pm (encDice r21.2))), (1064, bx [ow 1296 r22.1.nodes.length, pI r22.1.next]), (1296, ob0 (roNode r22.1.nodes))] (an (Name_Dice_madeSpec r19.2 r21 hr21) (an tv (an (Add_ref5Spec s1.2.1 (s1.2.1.nodes.getD (Int.toNat r19.1) dNode).id r21.1 r22 hr22) tv))) ?_))
   refine Sq (RD hnt (nn 2 []) [10] [(42, pB (r22.2.2 == 0))] [] [] tv ?_)
   refine Jn (ι := Tree) (fun (y4 : Tree) => mkSt [(0, rr 0), (4, rr 1032), (5, rr 1040), (6, pI s1.2.2)] [(0, bx (pm (encDice r21.2))), (c34e1), (1040, bx (pm (encTree y4)))]) (fun y4 => (Tree_Dice_madeJ4 s1 n1 r21) y4 = some RES) ?_ ?_
   ·intro y4 hm
    unfold Tree_Dice_madeJ4 at hm
    obtain ⟨r24, hr24, hm⟩ := bo hm
    refine Sq (RD hnt (.no :: o47 [0] true r24 :: []) [] [(45, pB r24.1)] [] [(0, bx (pm (encDice r24.2)))] (an (Bool_Dice_madeSpec r21.2 6 r24 hr24) (an tv tv)) ?_)
    refine condM hm ?_ ?_
    ·intro h25 hm
     obtain ⟨r26, hr26, hm⟩ := bo hm
     obtain ⟨g27, hm⟩ := go1 hm
     obtain ⟨r28, hr28, hm⟩ := bo hm
     refine Sq (RD hnt (nn 7 (o35 [0] true r26 :: nn 3 (o48 [] true r28 :: nn 6 []))) [45] [(11, rr 1088), (12, pI r28.2)] [] [(0, bx (pm (encDice r26.2))), (1088, bx [ow 1464 r28.1.nodes.length, pI r28.1.next]), (1464, ob0 (roNode r28.1.nodes))] (an (Next_Dice_madeSpec r24.2 ((y4.nodes.length : Nat) : Int) r26 hr26) (an tv (an g27.1 (an g27.2 (an (Remove_ref5Spec y4 (y4.nodes.getD (Int.toNat r26.1) dNode).id r28 hr28) tv))))) ?_)
     refine Sq (RD hnt (nn 2 []) [12] [(62, pB (r28.2 == 0))] [] [] tv ?_)
     refine condM hm ?_ ?_
     ·intro h29 hm
      refine RD hnt (nn 2 []) [11, 62] [] [1088] [(1040, bx [ow 1464 r28.1.nodes.length, pI r28.1.next])] tv ?_
      exact bD (r26.2, r28.1) hm (Conv.frz [1464])
     ·intro h29 hm
      refine Sk ?_
      exact bD (r26.2, y4) hm Conv.t0
    ·intro h25 hm
     refine Sk ?_
     exact bD (r24.2, y4) hm Conv.t0
   ·refine condM hm ?_ ?_
    ·intro h23 hm
     refine RD hnt (nn 2 []) [8, 42] [] [1064] [(1040, bx [ow 1296 r22.1.nodes.length, pI r22.1.next])] tv ?_
     exact jD r22.1 hm (Conv.frz [1296])
    ·intro h23 hm
     refine Sk ?_
     exact jD s1.2.1 hm Conv.t0
 ·intro h18 hm
  refine DW.exit ?_
  refine joinQ_exit ?_
  refine KQ_exit ?_
  refine blockQ_exit ?_
  show DW _ _ _ _ _
  refine Sq (RD hnt (nn 2 []) [0, 5, 6, 19] [] [1040] [(1032, bx (pm (encTree s1.2.1)))] tv ?_)
  obtain rfl := sj hm
  exact DW.ret (retK [.box (pm (encDice s1.1))] [] (.p (.agg (encTree s1.2.1))))
abbrev o34 (ks : List Nat) (b : Bool) (RES : Tree × Dice) : Orc := .call 80 ks b (.p (.agg (encTree RES.1))) [.box (pm (encDice RES.2))] []

theorem Group_Dice_madeSpec (p0 : Dice) (p1 : Tree) (RES : Int × Dice) (hm : Group_Dice_made p0 p1 = some RES) : Spec Tryz.prog 33 [rr 0, .p (.agg (encTree p1))] [.box (pm (encDice p0))] (pI RES.1) [.box (pm (encDice RES.2))] [] := by
 unfold Group_Dice_made at hm
 refine SO Tryz.func33 rfl rfl [(0, rr 0), (1, .p (.agg (encTree p1)))] [(0, bx (pm (encDice p0)))] ?_
 intro cx hnt
 refine Sq (RD hnt (nn 2 []) [1] [(3, rr 1024)] [] [(1024, bx (pm (encTree p1)))] tv ?_)
 obtain ⟨r1, hr1, hm⟩ := bo hm
 refine Sq (Sq ?_)
 refine Jn (ι := Bool) (fun (y1 : Bool) => mkSt [(0, rr 0), (3, rr 1024), (12, pB y1)] [(0, bx (pm (encDice r1.2))), (1024, bx (pm (encTree p1)))]) (fun y1 => (Group_Dice_madeJ1 p1 r1) y1 = some RES) ?_ ?_
 ·intro y1 hm
  unfold Group_Dice_madeJ1 at hm
  refine condM hm ?_ ?_
  ·intro h3 hm
   obtain ⟨r4, hr4, hm⟩ := bo hm
   refine Sq (RK hnt (.no :: o35 [0] true r4 :: nn 2 []) [(4, pI (w64 (r4.1 - 1)))] [(0, bx (pm (encDice r4.2)))] (an (Next_Dice_madeSpec r1.2 9 r4 hr4) (an tv tv)) ?_)
   obtain rfl := sj hm
   exact DW.ret (retK [.box (pm (encDice r4.2))] [] (pI (w64 (r4.1 - 1))))
  ·intro h3 hm
   refine Sk ?_
   obtain ⟨r5, hr5, hm⟩ := bo hm
   obtain ⟨g6, hm⟩ := go1 hm
   refine Sq (RK hnt (nn 6 (o35 [0] true r5 :: nn 4 [])) [(4, pI (p1.nodes.getD (Int.toNat r5.1) dNode).id)] [(0, bx (pm (encDice r5.2)))] (an (Next_Dice_madeSpec r1.2 ((p1.nodes.length : Nat) : Int) r5 hr5) (an tv (an g6.1 (an g6.2 tv)))) ?_)
   obtain rfl := sj hm
   exact DW.ret (retK [.box (pm (encDice r5.2))] [] (pI (p1.nodes.getD (Int.toNat r5.1) dNode).id))
 ·rcases bt r1.1 with h2 | h2
  ·replace hm := if_t h2 hm
   refine RD hnt (.no :: o47 [0] true r1 :: .no :: sk 4 (pT :: [])) [] [(12, pB true)] [] [(0, bx (pm (encDice r1.2)))] (an (Bool_Dice_madeSpec p0 15 r1 hr1) (an tv (an5 h2 tv))) ?_
   exact jD true hm Conv.eqK
  ·replace hm := if_f h2 hm
   refine RD hnt (.no :: o47 [0] true r1 :: nn 5 (pF :: [])) [] [(12, pB (((p1.nodes.length : Nat) : Int) == 0))] [] [(0, bx (pm (encDice r1.2)))] (an (Bool_Dice_madeSpec p0 15 r1 hr1) (an tv (an5 h2 tv))) ?_
   exact jD (((p1.nodes.length : Nat) : Int) == 0) hm Conv.eqK
abbrev o51 (ks : List Nat) (b : Bool) (RES : Int × Dice) : Orc := .call 33 ks b (pI RES.1) [.box (pm (encDice RES.2))] []

theorem Controllers_Dice_madeSpec (p0 : Dice) (RES : Int × Dice) (hm : Controllers_Dice_made p0 = some RES) : Spec Tryz.prog 107 [rr 0] [.box (pm (encDice p0))] (pI RES.1) [.box (pm (encDice RES.2))] [] := by
 unfold Controllers_Dice_made at hm
 refine SO Tryz.func107 rfl rfl [(0, rr 0)] [(0, bx (pm (encDice p0)))] ?_
 intro cx hnt
 refine Sq (RD hnt (.no :: []) [] [] [] [] tv ?_)
 obtain ⟨r3, hr3, hm⟩ := bo hm
 obtain ⟨g4, g5, hm⟩ := go2 hm
 refine Sq (RK hnt (.asR (ow 1024 [1, 9, 31, 2, 25, 4, 0, 32, (-1)].length) [1, 9, 31, 2, 25, 4, 0, 32, (-1)].length (elems encI 0 [1, 9, 31, 2, 25, 4, 0, 32, (-1)]) :: .no :: o35 [0] true r3 :: nn 3 []) [(2, pI ([1, 9, 31, 2, 25, 4, 0, 32, (-1)].getD (Int.toNat r3.1) 0))] [(0, bx (pm (encDice r3.2)))] (an (congrArg (MV.own 1024 0 0) (RowIs.asP (enc := encI) (d := 0) (L := [1, 9, 31, 2, 25, 4, 0, 32, (-1)]) (RowIs.lit (enc := encI) (d := 0) (n := 9) (f := (cut 1 [vi 1, vi 9, vi 31, vi 2, vi 25, vi 4, vi 0, vi 32, vi (-1)])) [1, 9, 31, 2, 25, 4, 0, 32, (-1)] rfl (fun | 0, _ => rfl | 1, _ => rfl | 2, _ => rfl | 3, _ => rfl | 4, _ => rfl | 5, _ => rfl | 6, _ => rfl | 7, _ => rfl | 8, _ => rfl | n + 9, h => absurd h (by omega)))).1) (an (RowIs.asP (enc := encI) (d := 0) (L := [1, 9, 31, 2, 25, 4, 0, 32, (-1)]) (RowIs.lit (enc := encI) (d := 0) (n := 9) (f := (cut 1 [vi 1, vi 9, vi 31, vi 2, vi 25, vi 4, vi 0, vi 32, vi (-1)])) [1, 9, 31, 2, 25, 4, 0, 32, (-1)] rfl (fun | 0, _ => rfl | 1, _ => rfl | 2, _ => rfl | 3, _ => rfl | 4, _ => rfl | 5, _ => rfl | 6, _ => rfl | 7, _ => rfl | 8, _ => rfl | n + 9, h => absurd h (by omega)))) (an (Next_Dice_madeSpec p0 9 r3 hr3) (an tv (an g4.1 (an g4.2 (an g5 tv))))))) ?_)
 obtain rfl := sj hm
 exact DW.ret (retK [.box (pm (encDice r3.2))] [] (pI ([1, 9, 31, 2, 25, 4, 0, 32, (-1)].getD (Int.toNat r3.1) 0)))
abbrev o52 (ks : List Nat) (b : Bool) (RES : Int × Dice) : Orc := .call 107 ks b (pI RES.1) [.box (pm (encDice RES.2))] []

theorem leader_ref6Spec (p0 : List Task) (p1 : Int) (RES : Task × Bool) (hm : leader_ref6 p0 p1 = some RES) : Spec Tryz.prog 111 [.p (slTask p0), pI p1] [] (.p (.tup [.agg (encTask RES.1), vb RES.2])) [] [] := by
 unfold leader_ref6 at hm
 refine SO Tryz.func111 rfl rfl [(0, .p (slTask p0)), (1, pI p1)] [] ?_
 intro cx hnt
 refine Sq (RD hnt (nn 2 []) [] [(4, rr 1032)] [] [(1032, bx [pI 0, pI 0, pI 0, pI 0])] tv ?_)
 refine Sq (Sq (RD hnt (.no :: []) [] [(6, pI 0)] [] [] tv ?_))
 refine Bk ?_
 obtain ⟨hc1, hm⟩ := go1 hm
 refine DW.rangeO (fun (k1 : Nat) (s1 : Unit) => mkSt [(0, .p (slTask p0)), (1, pI p1), (4, rr 1032), (6, pI ((k1 : Nat) : Int))] [(1032, bx [pI 0, pI 0, pI 0, pI 0])]) dTask hm Conv.eqK ?_
 intro k1 s1 n1 hk1 hs1 he1
 refine Sq (Sq (RD hnt (nn 4 []) [] [(10, pB (decide (((k1 : Nat) : Int) < ((p0.length : Nat) : Int))))] [] [] tv ?_))
 refine condK (decide (((k1 : Nat) : Int) < ((p0.length : Nat) : Int))) ?_ ?_
 ·intro h11
  have hlt1 : k1 < p0.length := by have := of_decide_eq_true h11; omega
  have hm := hs1 hlt1
  unfold leader_ref6L1 at hm
  refine Sk ?_
  refine Sq (Bk ?_)
  refine Sq (RD hnt (nn 7 []) [10] [(19, pB ((p0.getD k1 (default : Task)).id == p1))] [] [] (an (nn0 k1) (an (ltc hlt1) tv)) ?_)
  refine condM hm ?_ ?_
  ·intro h12 hm
   refine Sq (RK hnt (nn 13 []) [(4, rr 1032), (5, pB ((p0.getD k1 (default : Task)).process == p1))] [(1032, bx (pm (encTask (p0.getD k1 (default : Task)))))] (an (nn0 k1) (an (ltc hlt1) (an (nn0 k1) (an (ltc hlt1) tv)))) ?_)
   obtain rfl := sj hm
   exact DW.ret (retK [] [] (.p (.tup [.agg (encTask (p0.getD k1 (default : Task))), vb ((p0.getD k1 (default : Task)).process == p1)])))
  ·intro h12 hm
   refine Sk ?_
   refine DW.done ?_
   show DW _ _ _ _ _
   refine RD hnt (nn 3 []) [19] [(6, pI (w64 (((k1 : Nat) : Int) + 1)))] [] [] tv ?_
   exact jD () ⟨hlt1, hm⟩ (Conv.tp [(6, pI (w64 (((k1 : Nat) : Int) + 1)))] [] (by kernel_rfl) (.cons rfl (.of_eq (congrArg pI (w64_succ hlt1 hc1))) .nil) .nil)
 ·intro h11
  have hge1 : ¬ k1 < p0.length := by have := of_decide_eq_false h11; omega
  have hm := he1 hge1
  unfold leader_ref6D1 at hm
  refine DW.exit ?_
  refine joinQ_exit ?_
  refine KQ_exit ?_
  refine blockQ_exit ?_
  show DW _ _ _ _ _
  refine Sq (RD hnt (nn 3 []) [0, 1, 6, 10] [(5, pB false)] [] [] tv ?_)
  obtain rfl := sj hm
  exact DW.ret (retK [] [] (.p (.tup [.agg [vi 0, vi 0, vi 0, vi 0], vb false])))
abbrev o57 (ks : List Nat) (b : Bool) (RES : Task × Bool) : Orc := .call 111 ks b (.p (.tup [.agg (encTask RES.1), vb RES.2])) [] []

abbrev c56e1 (p0 : Hierarchy) (k1 : Nat) := (p0.tasks.getD k1 (default : Task))
abbrev c56e2 (p0 : Hierarchy) : Nat × MV := (3, pI ((p0.tasks.length : Nat) : Int))
theorem Check_ref6Spec (p0 : Hierarchy) (RES : Bool) (hm : Check_ref6 p0 = some RES) : Spec Tryz.prog 52 [.p (.agg (encHierarchy p0))] [] (pB RES) [] [] := by
 unfold Check_ref6 at hm
 refine SO Tryz.func52 rfl rfl [(0, .p (.agg (encHierarchy p0)))] [] ?_
 intro cx hnt
 refine Sq (RK hnt (nn 2 []) [(1, rr 1008)] [(1008, bx (pm (encHierarchy p0)))] tv ?_)
 refine Sq (RD hnt (nn 4 []) [] [(c56e2 p0)] [] [] tv ?_)
 obtain ⟨r1, hr1, hm⟩ := bo hm
 refine Sq (Sq ?_)
 refine Jn (ι := Bool) (fun (y1 : Bool) => mkSt [(1, rr 1008), (c56e2 p0), (44, pB y1)] [(1008, bx (pm (encHierarchy p0)))]) (fun y1 => (Check_ref6J1 p0) y1 = some RES) ?_ ?_
 ·intro y1 hm
  unfold Check_ref6J1 at hm
  refine condM hm ?_ ?_
  ·intro h8 hm
   refine Sq (RK hnt (.no :: []) [(2, pB false)] [] tv ?_)
   obtain rfl := sj hm
   exact DW.ret (retK [] [] (pB false))
  ·intro h8 hm
   refine Sk ?_
   refine Sq (Sq (RD hnt (.no :: []) [44] [(4, pI 0)] [] [] tv ?_))
   refine Bk ?_
   obtain ⟨hc1, hm⟩ := go1 hm
   refine DW.rangeO (fun (k1 : Nat) (s1 : Unit) => mkSt [(1, rr 1008), (c56e2 p0), (4, pI ((k1 : Nat) : Int))] [(1008, bx (pm (encHierarchy p0)))]) dTask hm Conv.eqK ?_
   intro k1 s1 n1 hk1 hs1 he1
   refine Sq (Sq (RD hnt (nn 3 []) [] [(47, pB (decide (((k1 : Nat) : Int) < ((p0.tasks.length : Nat) : Int))))] [] [] tv ?_))
   refine condK (decide (((k1 : Nat) : Int) < ((p0.tasks.length : Nat) : Int))) ?_ ?_
   ·intro h45
    have hlt1 : k1 < p0.tasks.length := by have := of_decide_eq_true h45; omega
    have hm := hs1 hlt1
    unfold Check_ref6L1 at hm
    refine Sk ?_
    refine Sq (Bk ?_)
    refine Sq (RD hnt (nn 7 []) [47] [(5, rr 1040)] [] [(1040, bx (pm (encTask (c56e1 p0 k1))))] (an (nn0 k1) (an (ltc hlt1) tv)) ?_)
    obtain ⟨r46, hr46, hm⟩ := bo hm
    refine Sq (RD hnt (nn 4 (o57 [] true r46 :: nn 6 [])) [] [(6, rr 1048), (7, pB r46.2)] [] [(1048, bx (pm (encTask r46.1)))] (an (leader_ref6Spec p0.tasks (c56e1 p0 k1).process r46 hr46) tv) ?_)
    refine Sq ?_
    refine Jn (ι := Bool) (fun (y4 : Bool) => mkSt [(1, rr 1008), (c56e2 p0), (4, pI ((k1 : Nat) : Int)), (110, pB y4)] [(1008, bx (pm (encHierarchy p0)))]) (fun y4 => (Check_ref6J4 n1) y4 = some RES) ?_ ?_
    ·intro y4 hm
     unfold Check_ref6J4 at hm
     refine condM hm ?_ ?_
     ·intro h61 hm
      refine Sq (RK hnt (.no :: []) [(2, pB false)] [] tv ?_)
      obtain rfl := sj hm
      exact DW.ret (retK [] [] (pB false))
     ·intro h61 hm
      refine Sk ?_
      refine DW.done ?_
      show DW _ _ _ _ _
      refine RD hnt (nn 3 []) [110] [(4, pI (w64 (((k1 : Nat) : Int) + 1)))] [] [] tv ?_
      exact jD () ⟨hlt1, hm⟩ (Conv.tp [(4, pI (w64 (((k1 : Nat) : Int) + 1)))] [] (by kernel_rfl) (.cons rfl (.of_eq (congrArg pI (w64_succ hlt1 hc1))) .nil) .nil)
    ·rcases bt (decide ((c56e1 p0 k1).id < 1)) with h47 | h47
     ·replace hm := if_t h47 hm
      refine RD hnt (nn 4 (sk 14 (pT :: .no :: sk 6 (pT :: .no :: sk 3 (pT :: .no :: sk 3 (pT :: .no :: sk 2 (pT :: .no :: sk 5 (pT :: [])))))))) [5, 6, 7] [(110, pB true)] [1040, 1048] [] (an5 h47 (an6 tt (an6 tt (an6 tt (an6 tt tv))))) ?_
      exact jD true hm Conv.eqK
     ·replace hm := if_f h47 hm
      rcases bt (decide (((k1 : Nat) : Int) > 0)) with h48 | h48
      ·replace hm := if_t h48 hm
       obtain ⟨g49, hm⟩ := go1 hm
       rcases bt (decide ((p0.tasks.getD (Int.toNat (w64 (((k1 : Nat) : Int) - 1))) dTask).id ≥ (c56e1 p0 k1).id)) with h50 | h50
       ·replace hm := if_t h50 hm
        refine RD hnt (nn 17 (pT :: pF :: .no :: sk 6 (pT :: .no :: sk 3 (pT :: .no :: sk 3 (pT :: .no :: sk 2 (pT :: .no :: sk 5 (pT :: []))))))) [5, 6, 7] [(110, pB true)] [1040, 1048] [] (an3 h47 (an5 h48 (an g49.1 (an g49.2 (an5 h48 (an h47 (an h48 (an h47 (an h50 (an6 h50 (an5 tt (an6 tt (an6 tt tv))))))))))))) ?_
        exact jD true hm Conv.eqK
       ·replace hm := if_f h50 hm
        obtain ⟨r51, hr51, hm⟩ := bo hm
        rcases bt (!r51) with h52 | h52
        ·replace hm := if_t h52 hm
         refine RD hnt (nn 17 (pT :: pF :: nn 5 (o42 [] true r51 :: .no :: pF :: .no :: sk 3 (pT :: .no :: sk 3 (pT :: .no :: sk 2 (pT :: .no :: sk 5 (pT :: []))))))) [5, 6, 7] [(110, pB true)] [1040, 1048] [] (an3 h47 (an5 h48 (an g49.1 (an g49.2 (an5 h48 (an h47 (an h48 (an h47 (an5 h50 (an (Has_ref5Spec p0.tree (c56e1 p0 k1).group r51 hr51) (an2 h50 (an4 h52 (an tt (an6 tt (an6 tt tv))))))))))))))) ?_
         exact jD true hm Conv.eqK
        ·replace hm := if_f h52 hm
         rcases bt (decide ((c56e1 p0 k1).user < 0)) with h53 | h53
         ·replace hm := if_t h53 hm
          refine RD hnt (nn 17 (pT :: pF :: nn 5 (o42 [] true r51 :: .no :: pF :: nn 4 (pF :: .no :: sk 3 (pT :: .no :: sk 2 (pT :: .no :: sk 5 (pT :: []))))))) [5, 6, 7] [(110, pB true)] [1040, 1048] [] (an3 h47 (an5 h48 (an g49.1 (an g49.2 (an5 h48 (an h47 (an h48 (an h47 (an5 h50 (an (Has_ref5Spec p0.tree (c56e1 p0 k1).group r51 hr51) (an2 h50 (an4 h52 (an4 h53 (an3 tt (an6 tt tv))))))))))))))) ?_
          exact jD true hm Conv.eqK
         ·replace hm := if_f h53 hm
          rcases bt (decide ((c56e1 p0 k1).user > 1048576)) with h54 | h54
          ·replace hm := if_t h54 hm
           refine RD hnt (nn 17 (pT :: pF :: nn 5 (o42 [] true r51 :: .no :: pF :: nn 4 (pF :: nn 4 (pF :: .no :: sk 2 (pT :: .no :: sk 5 (pT :: []))))))) [5, 6, 7] [(110, pB true)] [1040, 1048] [] (an3 h47 (an5 h48 (an g49.1 (an g49.2 (an5 h48 (an h47 (an h48 (an h47 (an5 h50 (an (Has_ref5Spec p0.tree (c56e1 p0 k1).group r51 hr51) (an2 h50 (an4 h52 (an4 h53 (an3 h54 (an6 tt tv))))))))))))))) ?_
           exact jD true hm Conv.eqK
          ·replace hm := if_f h54 hm
           rcases bt (!r46.2) with h55 | h55
           ·replace hm := if_t h55 hm
            refine RD hnt (nn 17 (pT :: pF :: nn 5 (o42 [] true r51 :: .no :: pF :: nn 4 (pF :: nn 4 (pF :: nn 3 (pF :: .no :: sk 5 (pT :: []))))))) [5, 6, 7] [(110, pB true)] [1040, 1048] [] (an3 h47 (an5 h48 (an g49.1 (an g49.2 (an5 h48 (an h47 (an h48 (an h47 (an5 h50 (an (Has_ref5Spec p0.tree (c56e1 p0 k1).group r51 hr51) (an2 h50 (an4 h52 (an4 h53 (an3 h54 (an6 h55 tv))))))))))))))) ?_
            exact jD true hm Conv.eqK
           ·replace hm := if_f h55 hm
            refine RD hnt (nn 17 (pT :: pF :: nn 5 (o42 [] true r51 :: .no :: pF :: nn 4 (pF :: nn 4 (pF :: nn 3 (pF :: nn 6 (pF :: []))))))) [5, 6, 7] [(110, pB (r46.1.user != (c56e1 p0 k1).user))] [1040, 1048] [] (an3 h47 (an5 h48 (an g49.1 (an g49.2 (an5 h48 (an h47 (an h48 (an h47 (an5 h50 (an (Has_ref5Spec p0.tree (c56e1 p0 k1).group r51 hr51) (an2 h50 (an4 h52 (an4 h53 (an3 h54 (an6 h55 tv))))))))))))))) ?_
            exact jD (r46.1.user != (c56e1 p0 k1).user) hm Conv.eqK
      ·replace hm := if_f h48 hm
       obtain ⟨r56, hr56, hm⟩ := bo hm
       rcases bt (!r56) with h57 | h57
       ·replace hm := if_t h57 hm
        refine RD hnt (nn 7 (sk 10 (pF :: pF :: nn 5 (o42 [] true r56 :: .no :: pF :: .no :: sk 3 (pT :: .no :: sk 3 (pT :: .no :: sk 2 (pT :: .no :: sk 5 (pT :: [])))))))) [5, 6, 7] [(110, pB true)] [1040, 1048] [] (an3 h47 (an4 h48 (an6 h48 (an h47 (an h48 (an h47 (an5 ff (an (Has_ref5Spec p0.tree (c56e1 p0 k1).group r56 hr56) (an2 ff (an4 h57 (an tt (an6 tt (an6 tt tv))))))))))))) ?_
        exact jD true hm Conv.eqK
       ·replace hm := if_f h57 hm
        rcases bt (decide ((c56e1 p0 k1).user < 0)) with h58 | h58
        ·replace hm := if_t h58 hm
         refine RD hnt (nn 7 (sk 10 (pF :: pF :: nn 5 (o42 [] true r56 :: .no :: pF :: nn 4 (pF :: .no :: sk 3 (pT :: .no :: sk 2 (pT :: .no :: sk 5 (pT :: [])))))))) [5, 6, 7] [(110, pB true)] [1040, 1048] [] (an3 h47 (an4 h48 (an6 h48 (an h47 (an h48 (an h47 (an5 ff (an (Has_ref5Spec p0.tree (c56e1 p0 k1).group r56 hr56) (an2 ff (an4 h57 (an4 h58 (an3 tt (an6 tt tv))))))))))))) ?_
         exact jD true hm Conv.eqK
        ·replace hm := if_f h58 hm
         rcases bt (decide ((c56e1 p0 k1).user > 1048576)) with h59 | h59
         ·replace hm := if_t h59 hm
          refine RD hnt (nn 7 (sk 10 (pF :: pF :: nn 5 (o42 [] true r56 :: .no :: pF :: nn 4 (pF :: nn 4 (pF :: .no :: sk 2 (pT :: .no :: sk 5 (pT :: [])))))))) [5, 6, 7] [(110, pB true)] [1040, 1048] [] (an3 h47 (an4 h48 (an6 h48 (an h47 (an h48 (an h47 (an5 ff (an (Has_ref5Spec p0.tree (c56e1 p0 k1).group r56 hr56) (an2 ff (an4 h57 (an4 h58 (an3 h59 (an6 tt tv))))))))))))) ?_
          exact jD true hm Conv.eqK
         ·replace hm := if_f h59 hm
          rcases bt (!r46.2) with h60 | h60
          ·replace hm := if_t h60 hm
           refine RD hnt (nn 7 (sk 10 (pF :: pF :: nn 5 (o42 [] true r56 :: .no :: pF :: nn 4 (pF :: nn 4 (pF :: nn 3 (pF :: .no :: sk 5 (pT :: [])))))))) [5, 6, 7] [(110, pB true)] [1040, 1048] [] (an3 h47 (an4 h48 (an6 h48 (an h47 (an h48 (an h47 (an5 ff (an (Has_ref5Spec p0.tree (c56e1 p0 k1).group r56 hr56) (an2 ff (an4 h57 (an4 h58 (an3 h59 (an6 h60 tv))))))))))))) ?_
           exact jD true hm Conv.eqK
          ·replace hm := if_f h60 hm
           refine RD hnt (nn 7 (sk 10 (pF :: pF :: nn 5 (o42 [] true r56 :: .no :: pF :: nn 4 (pF :: nn 4 (pF :: nn 3 (pF :: nn 6 (pF :: [])))))))) [5, 6, 7] [(110, pB (r46.1.user != (c56e1 p0 k1).user))] [1040, 1048] [] (an3 h47 (an4 h48 (an6 h48 (an h47 (an h48 (an h47 (an5 ff (an (Has_ref5Spec p0.tree (c56e1 p0 k1).group r56 hr56) (an2 ff (an4 h57 (an4 h58 (an3 h59 (an6 h60 tv))))))))))))) ?_
           exact jD (r46.1.user != (c56e1 p0 k1).user) hm Conv.eqK
   ·intro h45
    have hge1 : ¬ k1 < p0.tasks.length := by have := of_decide_eq_false h45; omega
    have hm := he1 hge1
    unfold Check_ref6D1 at hm
    refine DW.exit ?_
    refine joinQ_exit ?_
    refine KQ_exit ?_
    refine blockQ_exit ?_
    show DW _ _ _ _ _
    refine Sq (RK hnt (.no :: []) [(2, pB true)] [] tv ?_)
    obtain rfl := sj hm
    exact DW.ret (retK [] [] (pB true))
 ·rcases bt (!r1) with h2 | h2
  ·replace hm := if_t h2 hm
   refine RD hnt (nn 2 (o38 [] true r1 :: nn 2 (sk 2 (pT :: .no :: sk 3 (pT :: .no :: sk 3 (pT :: .no :: sk 14 (pT :: []))))))) [] [(44, pB true)] [] [] (an (Check_ref5Spec p0.tree r1 hr1) (an3 h2 (an tt (an6 tt (an6 tt tv))))) ?_
   exact jD true hm Conv.eqK
  ·replace hm := if_f h2 hm
   rcases bt (decide (((p0.tasks.length : Nat) : Int) > 128)) with h3 | h3
   ·replace hm := if_t h3 hm
    refine RD hnt (nn 2 (o38 [] true r1 :: nn 4 (pF :: .no :: sk 3 (pT :: .no :: sk 3 (pT :: .no :: sk 14 (pT :: [])))))) [] [(44, pB true)] [] [] (an (Check_ref5Spec p0.tree r1 hr1) (an3 h2 (an4 h3 (an3 tt (an6 tt tv))))) ?_
    exact jD true hm Conv.eqK
   ·replace hm := if_f h3 hm
    rcases bt (decide (p0.next < 1)) with h4 | h4
    ·replace hm := if_t h4 hm
     refine RD hnt (nn 2 (o38 [] true r1 :: nn 4 (pF :: nn 4 (pF :: .no :: sk 3 (pT :: .no :: sk 14 (pT :: [])))))) [] [(44, pB true)] [] [] (an (Check_ref5Spec p0.tree r1 hr1) (an3 h2 (an4 h3 (an4 h4 (an5 tt tv))))) ?_
     exact jD true hm Conv.eqK
    ·replace hm := if_f h4 hm
     rcases bt (decide (p0.next > 2147483648)) with h5 | h5
     ·replace hm := if_t h5 hm
      refine RD hnt (nn 2 (o38 [] true r1 :: nn 4 (pF :: nn 4 (pF :: nn 4 (pF :: .no :: sk 14 (pT :: [])))))) [] [(44, pB true)] [] [] (an (Check_ref5Spec p0.tree r1 hr1) (an3 h2 (an4 h3 (an4 h4 (an5 h5 tv))))) ?_
      exact jD true hm Conv.eqK
     ·replace hm := if_f h5 hm
      rcases bt (decide (((p0.tasks.length : Nat) : Int) > 0)) with h6 | h6
      ·replace hm := if_t h6 hm
       obtain ⟨g7, hm⟩ := go1 hm
       refine RD hnt (nn 2 (o38 [] true r1 :: nn 4 (pF :: nn 4 (pF :: nn 4 (pF :: nn 14 (pT :: pF :: [])))))) [] [(44, pB (decide (p0.next ≤ (p0.tasks.getD (Int.toNat (w64 (((p0.tasks.length : Nat) : Int) - 1))) dTask).id)))] [] [] (an (Check_ref5Spec p0.tree r1 hr1) (an3 h2 (an4 h3 (an4 h4 (an3 h5 (an h6 (an6 h6 (an g7.1 (an g7.2 (an3 h6 (an h5 (an h6 (an h5 tv))))))))))))) ?_
       exact jD (decide (p0.next ≤ (p0.tasks.getD (Int.toNat (w64 (((p0.tasks.length : Nat) : Int) - 1))) dTask).id)) hm Conv.eqK
      ·replace hm := if_f h6 hm
       refine RD hnt (nn 2 (o38 [] true r1 :: nn 4 (pF :: nn 4 (pF :: nn 4 (pF :: nn 4 (sk 10 (pF :: pF :: []))))))) [] [(44, pB false)] [] [] (an (Check_ref5Spec p0.tree r1 hr1) (an3 h2 (an4 h3 (an4 h4 (an3 h5 (an4 h6 (an6 h6 (an h5 (an h6 (an h5 tv)))))))))) ?_
       exact jD false hm Conv.eqK
abbrev o56 (ks : List Nat) (b : Bool) (RES : Bool) : Orc := .call 52 ks b (pB RES) [] []

theorem Acting_ref7Spec (p0 : Tree) (p1 : Int) (RES : Int) (hm : Acting_ref7 p0 p1 = some RES) : Spec Tryz.prog 189 [.p (.agg (encTree p0)), pI p1] [] (pI RES) [] [] := by
 unfold Acting_ref7 at hm
 refine SO Tryz.func189 rfl rfl [(0, .p (.agg (encTree p0))), (1, pI p1)] [] ?_
 intro cx hnt
 refine Sq (RK hnt (nn 2 []) [(1, pI p1), (2, rr 1016)] [(1016, bx (pm (encTree p0)))] tv ?_)
 obtain ⟨r1, hr1, hm⟩ := bo hm
 refine Sq (RD hnt (nn 2 (o43 [] true r1 :: nn 6 [])) [] [(5, rr 1040), (6, pB r1.2)] [] [(1040, bx (pm (encNode r1.1)))] (an (Find_ref5Spec p0 p1 r1 hr1) tv) ?_)
 refine Sq (Sq (DW.regJ (sl2 := [(2, rr 1016), (5, rr 1040), (20, pB ((!r1.2) || (p1 == 1)))]) (ob2 := [(1016, bx (pm (encTree p0))), (1040, bx (pm (encNode r1.1)))]) ?_ ?_))
 ·rcases bt (!r1.2) with h2 | h2
  ·exact RT hnt (nn 3 (sk 2 (pT :: []))) [(20, pB true)] (an3 h2 tv) (by kernel_rfl) (.cons rfl (.of_eq (by rw [h2]; try rfl)) .nil)
  ·exact RT hnt (nn 5 (pF :: [])) [(20, pB (p1 == 1))] (an3 h2 tv) (by kernel_rfl) (.cons rfl (.of_eq (by rw [h2]; try rfl)) .nil)
 ·refine condM hm ?_ ?_
  ·intro h3 hm
   refine Sq (RK hnt (.no :: []) [(4, pI 0)] [] tv ?_)
   obtain rfl := sj hm
   exact DW.ret (retK [] [] (pI 0))
  ·intro h3 hm
   refine Sk ?_
   obtain ⟨r4, hr4, hm⟩ := bo hm
   refine Sq (RD hnt (nn 3 (o43 [] true r4 :: nn 6 [])) [2, 20] [(7, rr 1056)] [1016] [(1056, bx (pm (encNode r4.1)))] (an (Find_ref5Spec p0 r1.1.parent r4 hr4) tv) ?_)
   refine Sq (Sq (RD hnt (nn 3 []) [5] [(30, pB (r1.1.kind == 1))] [1040] [] tv ?_))
   refine condM hm ?_ ?_
   ·intro h5 hm
    refine Sq (RK hnt (nn 4 []) [(4, pI (kandNot .i64 r4.1.control 6))] [] tv ?_)
    obtain rfl := sj hm
    exact DW.ret (retK [] [] (pI (kandNot .i64 r4.1.control 6)))
   ·intro h5 hm
    refine Sk ?_
    refine Sq (RK hnt (nn 3 []) [(4, pI r4.1.control)] [] tv ?_)
    obtain rfl := sj hm
    exact DW.ret (retK [] [] (pI r4.1.control))
abbrev o59 (ks : List Nat) (b : Bool) (RES : Int) : Orc := .call 189 ks b (pI RES) [] []

theorem Available_ref7Spec (p0 : Tree) (p1 : Int) (RES : Int) (hm : Available_ref7 p0 p1 = some RES) : Spec Tryz.prog 174 [.p (.agg (encTree p0)), pI p1] [] (pI RES) [] [] := by
 unfold Available_ref7 at hm
 refine SO Tryz.func174 rfl rfl [(0, .p (.agg (encTree p0))), (1, pI p1)] [] ?_
 intro cx hnt
 refine Sq (RK hnt (nn 2 []) [(1, pI p1), (2, rr 1016)] [(1016, bx (pm (encTree p0)))] tv ?_)
 obtain ⟨r1, hr1, hm⟩ := bo hm
 refine Sq (RD hnt (nn 2 (o43 [] true r1 :: nn 6 [])) [] [(5, rr 1040), (6, pB r1.2)] [] [(1040, bx (pm (encNode r1.1)))] (an (Find_ref5Spec p0 p1 r1 hr1) tv) ?_)
 refine Sq (Sq (RD hnt (nn 2 []) [6] [(15, pB (!r1.2))] [] [] tv ?_))
 refine condM hm ?_ ?_
 ·intro h2 hm
  refine Sq (RK hnt (.no :: []) [(4, pI 0)] [] tv ?_)
  obtain rfl := sj hm
  exact DW.ret (retK [] [] (pI 0))
 ·intro h2 hm
  refine Sk ?_
  refine Sq (RD hnt (.no :: []) [15] [(7, pI 31)] [] [] tv ?_)
  refine Sq (Sq (RD hnt (nn 2 []) [] [(17, pB (p1 != 1))] [] [] tv ?_))
  refine Jn (ι := Int) (fun (y1 : Int) => mkSt [(5, rr 1040), (7, pI y1)] [(1040, bx (pm (encNode r1.1)))]) (fun y1 => (Available_ref7J1 r1) y1 = some RES) ?_ ?_
  ·intro y1 hm
   unfold Available_ref7J1 at hm
   refine Sq (Sq (RK hnt (nn 3 []) [(7, pI y1), (23, pB (r1.1.kind == 1))] [] tv ?_))
   refine Jn (ι := Int) (fun (y2 : Int) => mkSt [(7, pI y2)] []) (fun y2 => Available_ref7J2 y2 = some RES) ?_ ?_
   ·intro y2 hm
    unfold Available_ref7J2 at hm
    refine Sq (RK hnt (nn 2 []) [(4, pI y2)] [] tv ?_)
    obtain rfl := sj hm
    exact DW.ret (retK [] [] (pI y2))
   ·refine condM hm ?_ ?_
    ·intro h5 hm
     refine RK hnt (nn 3 []) [(7, pI (kandNot .i64 y1 6))] [] tv ?_
     exact jD (kandNot .i64 y1 6) hm .refl
    ·intro h5 hm
     refine Sk ?_
     exact jD y1 hm Conv.t0
  ·refine condM hm ?_ ?_
   ·intro h3 hm
    obtain ⟨r4, hr4, hm⟩ := bo hm
    refine RD hnt (nn 2 (o59 [] true r4 :: .no :: [])) [1, 2, 17] [(7, pI r4)] [1016] [] (an (Acting_ref7Spec p0 p1 r4 hr4) tv) ?_
    exact jD r4 hm Conv.eqK
   ·intro h3 hm
    refine Sk ?_
    exact jD 31 hm Conv.t0
abbrev o58 (ks : List Nat) (b : Bool) (RES : Int) : Orc := .call 174 ks b (pI RES) [] []

abbrev c60e1 (p0 : Hierarchy) (k1 : Nat) := (p0.tasks.getD k1 (default : Task))
theorem Tasks_ref6Spec (p0 : Hierarchy) (p1 : Int) (RES : List Int) (hm : Tasks_ref6 p0 p1 = some RES) : Spec Tryz.prog 26 [.p (.agg (encHierarchy p0)), pI p1] [] (ow 0 RES.length) [] [roI RES] := by
 unfold Tasks_ref6 at hm
 refine SO Tryz.func26 rfl rfl [(0, .p (.agg (encHierarchy p0))), (1, pI p1)] [] ?_
 intro cx hnt
 refine Sq (RK hnt (nn 2 []) [(1, pI p1), (2, rr 1016)] [(1016, bx (pm (encHierarchy p0)))] tv ?_)
 obtain ⟨r1, hr1, hm⟩ := bo hm
 refine Sq (Sq (RD hnt (.no :: o56 [] true r1 :: .no :: []) [] [(9, pB (!r1))] [] [] (an (Check_ref6Spec p0 r1 hr1) tv) ?_))
 refine condM hm ?_ ?_
 ·intro h2 hm
  refine Sq (RK hnt (.no :: []) [(4, .p (.sl .nil 0 0 (fun _ => [])))] [] tv ?_)
  refine DW.cv [] [(4, ow 100000 0)] [] [(100000, ob0 (roI []))] (Conv.ads [(.s 4, 100000, 1, elems encI 0 [])]) ?_
  obtain rfl := sj hm
  exact DW.ret (retK [roI []] [100000] (ow 0 0))
 ·intro h2 hm
  refine Sk ?_
  refine Sq (RD hnt (.no :: []) [9] [(5, .p (.sl .nil 0 0 (fun _ => [])))] [] [] tv ?_)
  refine Sq (Sq (RD hnt (.no :: []) [] [(6, pI 0)] [] [] tv ?_))
  refine Bk ?_
  obtain ⟨hc1, hm⟩ := go1 hm
  refine DW.rangeO (fun (k1 : Nat) (s1 : List Int) => mkSt [(1, pI p1), (2, rr 1016), (5, ow 1264 s1.length), (6, pI ((k1 : Nat) : Int))] [(1016, bx (pm (encHierarchy p0))), (1264, ob0 (roI s1))]) dTask hm (Conv.ads [(.s 5, 1264, 1, elems encI 0 [])]) ?_
  intro k1 s1 n1 hk1 hs1 he1
  refine Sq (Sq (RD hnt (nn 5 []) [] [(14, pB (decide (((k1 : Nat) : Int) < ((p0.tasks.length : Nat) : Int))))] [] [] tv ?_))
  refine condK (decide (((k1 : Nat) : Int) < ((p0.tasks.length : Nat) : Int))) ?_ ?_
  ·intro h12
   have hlt1 : k1 < p0.tasks.length := by have := of_decide_eq_true h12; omega
   have hm := hs1 hlt1
   unfold Tasks_ref6L1 at hm
   refine Sk ?_
   refine Sq ?_
   refine Jn (ι := List Int) (fun (y3 : List Int) => mkSt [(1, pI p1), (2, rr 1016), (5, ow 1264 y3.length), (6, pI ((k1 : Nat) : Int))] [(1016, bx (pm (encHierarchy p0))), (1264, ob0 (roI y3))]) (fun y3 => (Tasks_ref6J3 n1) y3 = some RES) ?_ ?_
   ·intro y3 hm
    unfold Tasks_ref6J3 at hm
    refine RD hnt (nn 3 []) [] [(6, pI (w64 (((k1 : Nat) : Int) + 1)))] [] [] tv ?_
    exact jD y3 ⟨hlt1, hm⟩ (Conv.tp [(6, pI (w64 (((k1 : Nat) : Int) + 1)))] [] (by kernel_rfl) (.cons rfl (.of_eq (congrArg pI (w64_succ hlt1 hc1))) .nil) .nil)
   ·refine Bk ?_
    refine Sq (RD hnt (nn 8 []) [14] [(24, pB ((c60e1 p0 k1).group == p1))] [] [] (an (nn0 k1) (an (ltc hlt1) tv)) ?_)
    refine condM hm ?_ ?_
    ·intro h13 hm
     obtain ⟨g14, hm⟩ := go1 hm
     refine RN hnt (nn 10 []) [(1, pI p1), (2, rr 1016), (5, ow 1264 (s1 ++ [(c60e1 p0 k1).id]).length), (6, pI ((k1 : Nat) : Int))] [(1016, bx (pm (encHierarchy p0))), (1264, ob0 (roI (s1 ++ [(c60e1 p0 k1).id])))] [(5, ow 1264 (s1.length + 1))] [(1264, .row 1 (s1.length + 1) (catF s1.length (elI s1) (cut 1 [vi (c60e1 p0 k1).id])))] (an (nn0 k1) (an (ltc hlt1) (an (by omega : (s1.length + 1) * 8 ≤ 140737488355328) tv))) (by kernel_rfl) (.cons rfl (MLe.ownLen (enc := encI) (d := 0) (f := (catF s1.length (elI s1) (cut 1 [vi (c60e1 p0 k1).id]))) (RowIs.cat RowIs.elems (RowIs.lit (enc := encI) (d := 0) (n := 1) (f := (cut 1 [vi (c60e1 p0 k1).id])) [(c60e1 p0 k1).id] rfl (fun | 0, _ => rfl | n + 1, h => absurd h (by omega))))) .nil) (.cons rfl (BLe.typed (RowIs.cat RowIs.elems (RowIs.lit (enc := encI) (d := 0) (n := 1) (f := (cut 1 [vi (c60e1 p0 k1).id])) [(c60e1 p0 k1).id] rfl (fun | 0, _ => rfl | n + 1, h => absurd h (by omega))))) .nil) ?_
     exact bD (s1 ++ [(c60e1 p0 k1).id]) hm .refl
    ·intro h13 hm
     refine Sk ?_
     exact bD s1 hm Conv.t0
  ·intro h12
   have hge1 : ¬ k1 < p0.tasks.length := by have := of_decide_eq_false h12; omega
   have hm := he1 hge1
   unfold Tasks_ref6D1 at hm
   refine DW.exit ?_
   refine joinQ_exit ?_
   refine KQ_exit ?_
   refine blockQ_exit ?_
   show DW _ _ _ _ _
   refine Sq (RK hnt (nn 2 []) [(4, ow 1264 s1.length)] [(1264, ob0 (roI s1))] tv ?_)
   obtain rfl := sj hm
   exact DW.ret (retK [roI s1] [1264] (ow 0 s1.length))
abbrev o60 (ks : List Nat) (b : Bool) (RES : List Int) : Orc := .call 26 ks b (ow 0 RES.length) [] [roI RES]

abbrev c55e1 (p0 : Hierarchy) (k1 : Nat) := (p0.tree.nodes.getD k1 (default : Node))
theorem Sound_ref7Spec (p0 : Hierarchy) (RES : Bool) (hm : Sound_ref7 p0 = some RES) : Spec Tryz.prog 162 [.p (.agg (encHierarchy p0))] [] (pB RES) [] [] := by
 unfold Sound_ref7 at hm
 refine SO Tryz.func162 rfl rfl [(0, .p (.agg (encHierarchy p0)))] [] ?_
 intro cx hnt
 refine Sq (RK hnt (nn 2 []) [(1, rr 1008)] [(1008, bx (pm (encHierarchy p0)))] tv ?_)
 obtain ⟨r1, hr1, hm⟩ := bo hm
 refine Sq (Sq (RD hnt (.no :: o56 [] true r1 :: .no :: []) [] [(7, pB (!r1))] [] [] (an (Check_ref6Spec p0 r1 hr1) tv) ?_))
 refine condM hm ?_ ?_
 ·intro h2 hm
  refine Sq (RK hnt (.no :: []) [(2, pB false)] [] tv ?_)
  obtain rfl := sj hm
  exact DW.ret (retK [] [] (pB false))
 ·intro h2 hm
  refine Sk ?_
  refine Sq (Sq (RD hnt (.no :: []) [7] [(3, pI 0)] [] [] tv ?_))
  refine Bk ?_
  obtain ⟨hc1, hm⟩ := go1 hm
  refine DW.rangeO (fun (k1 : Nat) (s1 : Unit) => mkSt [(1, rr 1008), (3, pI ((k1 : Nat) : Int))] [(1008, bx (pm (encHierarchy p0)))]) dNode hm Conv.eqK ?_
  intro k1 s1 n1 hk1 hs1 he1
  refine Sq (Sq (RD hnt (nn 6 []) [] [(13, pB (decide (((k1 : Nat) : Int) < ((p0.tree.nodes.length : Nat) : Int))))] [] [] tv ?_))
  refine condK (decide (((k1 : Nat) : Int) < ((p0.tree.nodes.length : Nat) : Int))) ?_ ?_
  ·intro h19
   have hlt1 : k1 < p0.tree.nodes.length := by have := of_decide_eq_true h19; omega
   have hm := hs1 hlt1
   unfold Sound_ref7L1 at hm
   refine Sk ?_
   refine Sq (Bk ?_)
   refine Sq (RD hnt (nn 8 []) [13] [(4, rr 1032)] [] [(1032, bx (pm (encNode (c55e1 p0 k1))))] (an (nn0 k1) (an (ltc hlt1) tv)) ?_)
   obtain ⟨r20, hr20, hm⟩ := bo hm
   refine Sq ?_
   refine Jn (ι := Bool) (fun (y3 : Bool) => mkSt [(1, rr 1008), (3, pI ((k1 : Nat) : Int)), (49, pB y3)] [(1008, bx (pm (encHierarchy p0)))]) (fun y3 => (Sound_ref7J3 n1) y3 = some RES) ?_ ?_
   ·intro y3 hm
    unfold Sound_ref7J3 at hm
    refine condM hm ?_ ?_
    ·intro h25 hm
     refine Sq (RK hnt (.no :: []) [(2, pB false)] [] tv ?_)
     obtain rfl := sj hm
     exact DW.ret (retK [] [] (pB false))
    ·intro h25 hm
     refine Sk ?_
     refine DW.done ?_
     show DW _ _ _ _ _
     refine RD hnt (nn 3 []) [49] [(3, pI (w64 (((k1 : Nat) : Int) + 1)))] [] [] tv ?_
     exact jD () ⟨hlt1, hm⟩ (Conv.tp [(3, pI (w64 (((k1 : Nat) : Int) + 1)))] [] (by kernel_rfl) (.cons rfl (.of_eq (congrArg pI (w64_succ hlt1 hc1))) .nil) .nil)
   ·rcases bt ((kandNot .i64 (c55e1 p0 k1).control r20) != 0) with h21 | h21
    ·replace hm := if_t h21 hm
     refine RD hnt (nn 6 (o58 [] true r20 :: nn 3 (sk 17 (pT :: [])))) [4] [(49, pB true)] [1032] [] (an (Available_ref7Spec p0.tree (c55e1 p0 k1).id r20 hr20) (an2 h21 (an6 h21 tv))) ?_
     exact jD true hm Conv.eqK
    ·replace hm := if_f h21 hm
     rcases bt ((c55e1 p0 k1).id != 1) with h22 | h22
     ·replace hm := if_t h22 hm
      rcases bt ((kand .i64 (c55e1 p0 k1).control 6) != 0) with h23 | h23
      ·replace hm := if_t h23 hm
       obtain ⟨r24, hr24, hm⟩ := bo hm
       refine RD hnt (nn 6 (o58 [] true r20 :: nn 11 (pT :: nn 4 (o60 [] true r24 :: nn 2 (pT :: pF :: []))))) [4] [(49, pB (decide (((r24.length : Nat) : Int) > 0)))] [1032] [] (an (Available_ref7Spec p0.tree (c55e1 p0 k1).id r20 hr20) (an4 h21 (an4 h22 (an h21 (an h22 (an h21 (an4 h23 (an (Tasks_ref6Spec p0 (c55e1 p0 k1).id r24 hr24) (an2 h23 (an h21 (an h23 (an h21 tv)))))))))))) ?_
       exact jD (decide (((r24.length : Nat) : Int) > 0)) hm Conv.eqK
      ·replace hm := if_f h23 hm
       refine RD hnt (nn 6 (o58 [] true r20 :: nn 11 (pT :: .no :: sk 6 (pF :: pF :: [])))) [4] [(49, pB false)] [1032] [] (an (Available_ref7Spec p0.tree (c55e1 p0 k1).id r20 hr20) (an4 h21 (an4 h22 (an h21 (an h22 (an h21 (an6 h23 (an h21 (an h23 (an h21 tv)))))))))) ?_
       exact jD false hm Conv.eqK
     ·replace hm := if_f h22 hm
      refine RD hnt (nn 6 (o58 [] true r20 :: nn 7 (sk 4 (pF :: .no :: sk 6 (pF :: pF :: []))))) [4] [(49, pB false)] [1032] [] (an (Available_ref7Spec p0.tree (c55e1 p0 k1).id r20 hr20) (an4 h21 (an4 h22 (an h21 (an h22 (an h21 (an6 ff (an h21 (an ff (an h21 tv)))))))))) ?_
      exact jD false hm Conv.eqK
  ·intro h19
   have hge1 : ¬ k1 < p0.tree.nodes.length := by have := of_decide_eq_false h19; omega
   have hm := he1 hge1
   unfold Sound_ref7D1 at hm
   refine DW.exit ?_
   refine joinQ_exit ?_
   refine KQ_exit ?_
   refine blockQ_exit ?_
   show DW _ _ _ _ _
   refine Sq (RK hnt (.no :: []) [(2, pB true)] [] tv ?_)
   obtain rfl := sj hm
   exact DW.ret (retK [] [] (pB true))
abbrev o55 (ks : List Nat) (b : Bool) (RES : Bool) : Orc := .call 162 ks b (pB RES) [] []

theorem Find_ref6Spec (p0 : Hierarchy) (p1 : Int) (RES : Task × Bool) (hm : Find_ref6 p0 p1 = some RES) : Spec Tryz.prog 53 [.p (.agg (encHierarchy p0)), pI p1] [] (.p (.tup [.agg (encTask RES.1), vb RES.2])) [] [] := by
 unfold Find_ref6 at hm
 refine SO Tryz.func53 rfl rfl [(0, .p (.agg (encHierarchy p0))), (1, pI p1)] [] ?_
 intro cx hnt
 refine Sq (RK hnt (nn 3 []) [(1, pI p1), (2, rr 1016), (4, rr 1032)] [(1016, bx (pm (encHierarchy p0))), (1032, bx [pI 0, pI 0, pI 0, pI 0])] tv ?_)
 obtain ⟨r1, hr1, hm⟩ := bo hm
 refine Sq (Sq (RD hnt (.no :: o56 [] true r1 :: .no :: []) [] [(9, pB (!r1))] [] [] (an (Check_ref6Spec p0 r1 hr1) tv) ?_))
 refine condM hm ?_ ?_
 ·intro h2 hm
  refine Sq (RD hnt (nn 3 []) [1, 2, 9] [(5, pB false)] [1016] [] tv ?_)
  obtain rfl := sj hm
  exact DW.ret (retK [] [] (.p (.tup [.agg [vi 0, vi 0, vi 0, vi 0], vb false])))
 ·intro h2 hm
  refine Sk ?_
  refine Sq (Sq (RD hnt (.no :: []) [9] [(6, pI 0)] [] [] tv ?_))
  refine Bk ?_
  obtain ⟨hc1, hm⟩ := go1 hm
  refine DW.rangeO (fun (k1 : Nat) (s1 : Unit) => mkSt [(1, pI p1), (2, rr 1016), (4, rr 1032), (6, pI ((k1 : Nat) : Int))] [(1016, bx (pm (encHierarchy p0))), (1032, bx [pI 0, pI 0, pI 0, pI 0])]) dTask hm Conv.eqK ?_
  intro k1 s1 n1 hk1 hs1 he1
  refine Sq (Sq (RD hnt (nn 5 []) [] [(15, pB (decide (((k1 : Nat) : Int) < ((p0.tasks.length : Nat) : Int))))] [] [] tv ?_))
  refine condK (decide (((k1 : Nat) : Int) < ((p0.tasks.length : Nat) : Int))) ?_ ?_
  ·intro h11
   have hlt1 : k1 < p0.tasks.length := by have := of_decide_eq_true h11; omega
   have hm := hs1 hlt1
   unfold Find_ref6L1 at hm
   refine Sk ?_
   refine Sq (Bk ?_)
   refine Sq (RD hnt (nn 8 []) [15] [(25, pB ((p0.tasks.getD k1 (default : Task)).id == p1))] [] [] (an (nn0 k1) (an (ltc hlt1) tv)) ?_)
   refine condM hm ?_ ?_
   ·intro h12 hm
    refine Sq (RK hnt (nn 7 []) [(4, rr 1032), (5, pB true)] [(1032, bx (pm (encTask (p0.tasks.getD k1 (default : Task)))))] (an (nn0 k1) (an (ltc hlt1) tv)) ?_)
    obtain rfl := sj hm
    exact DW.ret (retK [] [] (.p (.tup [.agg (encTask (p0.tasks.getD k1 (default : Task))), vb true])))
   ·intro h12 hm
    refine Sk ?_
    refine DW.done ?_
    show DW _ _ _ _ _
    refine RD hnt (nn 3 []) [25] [(6, pI (w64 (((k1 : Nat) : Int) + 1)))] [] [] tv ?_
    exact jD () ⟨hlt1, hm⟩ (Conv.tp [(6, pI (w64 (((k1 : Nat) : Int) + 1)))] [] (by kernel_rfl) (.cons rfl (.of_eq (congrArg pI (w64_succ hlt1 hc1))) .nil) .nil)
  ·intro h11
   have hge1 : ¬ k1 < p0.tasks.length := by have := of_decide_eq_false h11; omega
   have hm := he1 hge1
   unfold Find_ref6D1 at hm
   refine DW.exit ?_
   refine joinQ_exit ?_
   refine KQ_exit ?_
   refine blockQ_exit ?_
   show DW _ _ _ _ _
   refine Sq (RD hnt (nn 3 []) [1, 2, 6, 15] [(5, pB false)] [1016] [] tv ?_)
   obtain rfl := sj hm
   exact DW.ret (retK [] [] (.p (.tup [.agg [vi 0, vi 0, vi 0, vi 0], vb false])))
abbrev o61 (ks : List Nat) (b : Bool) (RES : Task × Bool) : Orc := .call 53 ks b (.p (.tup [.agg (encTask RES.1), vb RES.2])) [] []

theorem Domain_ref8Spec (p0 : Tree) (p1 : Int) (RES : Int × Bool) (hm : Domain_ref8 p0 p1 = some RES) : Spec Tryz.prog 137 [.p (.agg (encTree p0)), pI p1] [] (.p (.tup [vi RES.1, vb RES.2])) [] [] := by
 unfold Domain_ref8 at hm
 refine SO Tryz.func137 rfl rfl [(0, .p (.agg (encTree p0))), (1, pI p1)] [] ?_
 intro cx hnt
 refine Sq (RK hnt (nn 3 []) [(1, pI p1), (2, rr 1016)] [(1016, bx (pm (encTree p0)))] tv ?_)
 obtain ⟨r1, hr1, hm⟩ := bo hm
 refine Sq (RD hnt (nn 2 (o45 [] true r1 :: .no :: [])) [1] [(6, ow 1096 r1.length)] [] [(1096, ob0 (roI r1))] (an (Ancestors_ref5Spec p0 p1 r1 hr1) tv) ?_)
 refine Sq (Sq (RD hnt (.no :: []) [] [(7, pI 0)] [] [] tv ?_))
 refine Bk ?_
 obtain ⟨hc1, hm⟩ := go1 hm
 refine DW.rangeO (fun (k1 : Nat) (s1 : Unit) => mkSt [(2, rr 1016), (6, ow 1096 r1.length), (7, pI ((k1 : Nat) : Int))] [(1016, bx (pm (encTree p0))), (1096, ob0 (roI r1))]) 0 hm Conv.eqK ?_
 intro k1 s1 n1 hk1 hs1 he1
 refine Sq (Sq (RD hnt (nn 4 []) [] [(16, pB (decide (((k1 : Nat) : Int) < ((r1.length : Nat) : Int))))] [] [] tv ?_))
 refine condK (decide (((k1 : Nat) : Int) < ((r1.length : Nat) : Int))) ?_ ?_
 ·intro h16
  have hlt1 : k1 < r1.length := by have := of_decide_eq_true h16; omega
  have hm := hs1 hlt1
  unfold Domain_ref8L1 at hm
  refine Sk ?_
  refine Sq (Bk ?_)
  obtain ⟨r17, hr17, hm⟩ := bo hm
  refine Sq (RD hnt (nn 5 (o43 [] true r17 :: nn 6 [])) [16] [(8, rr 1064)] [] [(1064, bx (pm (encNode r17.1)))] (an (nn0 k1) (an (ltc hlt1) (an (by omega : k1 < r1.length) (an (Find_ref5Spec p0 (r1.getD k1 0) r17 hr17) tv)))) ?_)
  refine Sq (RD hnt (nn 3 []) [8] [(30, pB (r17.1.kind != 1))] [1064] [] tv ?_)
  refine condM hm ?_ ?_
  ·intro h18 hm
   refine Sq (RK hnt (nn 6 []) [(4, pI (r1.getD k1 0)), (5, pB true)] [] (an (nn0 k1) (an (ltc hlt1) (an (by omega : k1 < r1.length) tv))) ?_)
   obtain rfl := sj hm
   exact DW.ret (retK [] [] (.p (.tup [vi (r1.getD k1 0), vb true])))
  ·intro h18 hm
   refine Sk ?_
   refine DW.done ?_
   show DW _ _ _ _ _
   refine RD hnt (nn 3 []) [30] [(7, pI (w64 (((k1 : Nat) : Int) + 1)))] [] [] tv ?_
   exact jD () ⟨hlt1, hm⟩ (Conv.tp [(7, pI (w64 (((k1 : Nat) : Int) + 1)))] [] (by kernel_rfl) (.cons rfl (.of_eq (congrArg pI (w64_succ hlt1 hc1))) .nil) .nil)
 ·intro h16
  have hge1 : ¬ k1 < r1.length := by have := of_decide_eq_false h16; omega
  have hm := he1 hge1
  unfold Domain_ref8D1 at hm
  refine DW.exit ?_
  refine joinQ_exit ?_
  refine KQ_exit ?_
  refine blockQ_exit ?_
  show DW _ _ _ _ _
  refine Sq (RK hnt (nn 2 []) [(4, pI 0), (5, pB false)] [] tv ?_)
  obtain rfl := sj hm
  exact DW.ret (retK [] [] (.p (.tup [vi 0, vb false])))
abbrev o62 (ks : List Nat) (b : Bool) (RES : Int × Bool) : Orc := .call 137 ks b (.p (.tup [vi RES.1, vb RES.2])) [] []

theorem Type_ref8BSpec (rec : Tree → Int → Option Int) (ih : ∀ (p0 : Tree) (p1 : Int) (RES : Int), rec p0 p1 = some RES → Spec Tryz.prog 130 [.p (.agg (encTree p0)), pI p1] [] (pI RES) [] []) (p0 : Tree) (p1 : Int) (RES : Int) (hm : Type_ref8B rec p0 p1 = some RES) : Spec Tryz.prog 130 [.p (.agg (encTree p0)), pI p1] [] (pI RES) [] [] := by
 unfold Type_ref8B at hm
 refine SO Tryz.func130 rfl rfl [(0, .p (.agg (encTree p0))), (1, pI p1)] [] ?_
 intro cx hnt
 refine Sq (RK hnt (nn 2 []) [(1, pI p1), (2, rr 1016)] [(1016, bx (pm (encTree p0)))] tv ?_)
 obtain ⟨r1, hr1, hm⟩ := bo hm
 refine Sq (RD hnt (nn 2 (o43 [] true r1 :: nn 6 [])) [] [(5, rr 1040), (6, pB r1.2)] [] [(1040, bx (pm (encNode r1.1)))] (an (Find_ref5Spec p0 p1 r1 hr1) tv) ?_)
 refine Sq (Sq (RD hnt (nn 2 []) [6] [(20, pB (!r1.2))] [] [] tv ?_))
 refine condM hm ?_ ?_
 ·intro h2 hm
  refine Sq (RK hnt (.no :: []) [(4, pI 0)] [] tv ?_)
  obtain rfl := sj hm
  exact DW.ret (retK [] [] (pI 0))
 ·intro h2 hm
  refine Sk ?_
  refine Sq (Sq (RD hnt (nn 3 []) [20] [(23, pB (r1.1.kind == 1))] [] [] tv ?_))
  refine condM hm ?_ ?_
  ·intro h3 hm
   refine Sq (RK hnt (.no :: []) [(4, pI 2)] [] tv ?_)
   obtain rfl := sj hm
   exact DW.ret (retK [] [] (pI 2))
  ·intro h3 hm
   refine Sk ?_
   obtain ⟨r4, hr4, hm⟩ := bo hm
   refine Sq (Sq (RD hnt (nn 3 (o43 [] true r4 :: nn 6 [])) [5, 23] [(7, rr 1056), (8, pB r4.2)] [1040] [(1056, bx (pm (encNode r4.1)))] (an (Find_ref5Spec p0 r1.1.parent r4 hr4) tv) ?_))
   refine Sq ?_
   refine Jn (ι := Bool) (fun (y1 : Bool) => mkSt [(1, pI p1), (2, rr 1016), (43, pB y1)] [(1016, bx (pm (encTree p0)))]) (fun y1 => (Type_ref8J1 p0 p1) y1 = some RES) ?_ ?_
   ·intro y1 hm
    unfold Type_ref8J1 at hm
    refine condM hm ?_ ?_
    ·intro h8 hm
     refine Sq (RK hnt (.no :: []) [(4, pI 3)] [] tv ?_)
     obtain rfl := sj hm
     exact DW.ret (retK [] [] (pI 3))
    ·intro h8 hm
     refine Sk ?_
     obtain ⟨r9, hr9, hm⟩ := bo hm
     refine Sq (RD hnt (nn 2 (o49 [] true r9 :: .no :: [])) [1, 43] [(9, ow 1368 r9.length)] [] [(1368, ob0 (roI r9))] (an (Children_ref5Spec p0 p1 r9 hr9) tv) ?_)
     refine Sq (Sq (RD hnt (.no :: []) [] [(10, pI 0)] [] [] tv ?_))
     refine Bk ?_
     obtain ⟨hc1, hm⟩ := go1 hm
     refine DW.rangeO (fun (k1 : Nat) (s1 : Unit) => mkSt [(2, rr 1016), (9, ow 1368 r9.length), (10, pI ((k1 : Nat) : Int))] [(1016, bx (pm (encTree p0))), (1368, ob0 (roI r9))]) 0 hm Conv.eqK ?_
     intro k1 s1 n1 hk1 hs1 he1
     refine Sq (Sq (RD hnt (nn 4 []) [] [(50, pB (decide (((k1 : Nat) : Int) < ((r9.length : Nat) : Int))))] [] [] tv ?_))
     refine condK (decide (((k1 : Nat) : Int) < ((r9.length : Nat) : Int))) ?_ ?_
     ·intro h20
      have hlt1 : k1 < r9.length := by have := of_decide_eq_true h20; omega
      have hm := hs1 hlt1
      unfold Type_ref8L1 at hm
      refine Sk ?_
      refine Sq (Bk ?_)
      obtain ⟨r21, hr21, hm⟩ := bo hm
      refine Sq (RD hnt (nn 5 (o43 [] true r21 :: nn 6 [])) [50] [(11, rr 1088)] [] [(1088, bx (pm (encNode r21.1)))] (an (nn0 k1) (an (ltc hlt1) (an (by omega : k1 < r9.length) (an (Find_ref5Spec p0 (r9.getD k1 0) r21 hr21) tv)))) ?_)
      refine Sq (RD hnt (nn 3 []) [11] [(64, pB (r21.1.kind == 1))] [1088] [] tv ?_)
      refine condM hm ?_ ?_
      ·intro h22 hm
       refine Sq (RK hnt (.no :: []) [(4, pI 1)] [] tv ?_)
       obtain rfl := sj hm
       exact DW.ret (retK [] [] (pI 1))
      ·intro h22 hm
       refine Sk ?_
       refine DW.done ?_
       show DW _ _ _ _ _
       refine RD hnt (nn 3 []) [64] [(10, pI (w64 (((k1 : Nat) : Int) + 1)))] [] [] tv ?_
       exact jD () ⟨hlt1, hm⟩ (Conv.tp [(10, pI (w64 (((k1 : Nat) : Int) + 1)))] [] (by kernel_rfl) (.cons rfl (.of_eq (congrArg pI (w64_succ hlt1 hc1))) .nil) .nil)
     ·intro h20
      have hge1 : ¬ k1 < r9.length := by have := of_decide_eq_false h20; omega
      have hm := he1 hge1
      unfold Type_ref8D1 at hm
      refine DW.exit ?_
      refine joinQ_exit ?_
      refine KQ_exit ?_
      refine blockQ_exit ?_
      show DW _ _ _ _ _
      refine Sq (RK hnt (.no :: []) [(4, pI 0)] [] tv ?_)
      obtain rfl := sj hm
      exact DW.ret (retK [] [] (pI 0))
   ·rcases bt r4.2 with h5 | h5
    ·replace hm := if_t h5 hm
     rcases bt (r4.1.kind == 1) with h6 | h6
     ·replace hm := if_t h6 hm
      refine RD hnt (nn 6 (sk 5 (pT :: pT :: []))) [7, 8] [(43, pB true)] [1056] [] (an4 h5 (an5 h6 (an h5 (an h6 (an h5 tv))))) ?_
      exact jD true hm Conv.eqK
     ·replace hm := if_f h6 hm
      obtain ⟨r7, hr7, hm⟩ := bo hm
      refine RD hnt (nn 9 (.call 130 [] true (pI r7) [] [] :: .no :: pF :: pT :: [])) [7, 8] [(43, pB (r7 == 3))] [1056] [] (an4 h5 (an4 h6 (an (ih p0 r4.1.id r7 hr7) (an h6 (an h5 (an h6 (an h5 tv))))))) ?_
      exact jD (r7 == 3) hm Conv.eqK
    ·replace hm := if_f h5 hm
     refine RD hnt (nn 2 (sk 10 (pF :: []))) [7, 8] [(43, pB false)] [1056] [] (an6 h5 tv) ?_
     exact jD false hm Conv.eqK
theorem Type_ref8FSpec : ∀ (n : Nat) (p0 : Tree) (p1 : Int) (RES : Int), Type_ref8F n p0 p1 = some RES → Spec Tryz.prog 130 [.p (.agg (encTree p0)), pI p1] [] (pI RES) [] []
  | 0, p0, p1, RES, hm => by simp [Type_ref8F] at hm
  | n + 1, p0, p1, RES, hm => Type_ref8BSpec (Type_ref8F n) (Type_ref8FSpec n) p0 p1 RES hm
theorem Type_ref8Spec (p0 : Tree) (p1 : Int) (RES : Int) (hm : Type_ref8 p0 p1 = some RES) : Spec Tryz.prog 130 [.p (.agg (encTree p0)), pI p1] [] (pI RES) [] [] := Type_ref8FSpec FUEL p0 p1 RES hm
abbrev o63 (ks : List Nat) (b : Bool) (RES : Int) : Orc := .call 130 ks b (pI RES) [] []

abbrev c54e1 (p0 : Hierarchy) (k4 : Nat) := (p0.tree.nodes.getD k4 (default : Node))
abbrev c54e2 (p0 : Hierarchy) : Nat × Obj := (1008, bx (pm (encHierarchy p0)))
theorem Fits_ref8Spec (p0 : Hierarchy) (RES : Bool) (hm : Fits_ref8 p0 = some RES) : Spec Tryz.prog 129 [.p (.agg (encHierarchy p0))] [] (pB RES) [] [] := by
 unfold Fits_ref8 at hm
 refine SO Tryz.func129 rfl rfl [(0, .p (.agg (encHierarchy p0)))] [] ?_
 intro cx hnt
 refine Sq (RK hnt (nn 2 []) [(1, rr 1008)] [(c54e2 p0)] tv ?_)
 obtain ⟨r1, hr1, hm⟩ := bo hm
 refine Sq (Sq (RD hnt (.no :: o55 [] true r1 :: .no :: []) [] [(16, pB (!r1))] [] [] (an (Sound_ref7Spec p0 r1 hr1) tv) ?_))
 refine condM hm ?_ ?_
 ·intro h2 hm
  refine Sq (RK hnt (.no :: []) [(2, pB false)] [] tv ?_)
  obtain rfl := sj hm
  exact DW.ret (retK [] [] (pB false))
 ·intro h2 hm
  refine Sk ?_
  refine Sq (Sq (RD hnt (.no :: []) [16] [(3, pI 0)] [] [] tv ?_))
  refine Bk ?_
  obtain ⟨hc1, hm⟩ := go1 hm
  refine DW.rangeO (fun (k1 : Nat) (s1 : Unit) => mkSt [(1, rr 1008), (3, pI ((k1 : Nat) : Int))] [(c54e2 p0)]) dTask hm Conv.eqK ?_
  intro k1 s1 n1 hk1 hs1 he1
  refine Sq (Sq (RD hnt (nn 5 []) [] [(21, pB (decide (((k1 : Nat) : Int) < ((p0.tasks.length : Nat) : Int))))] [] [] tv ?_))
  refine condK (decide (((k1 : Nat) : Int) < ((p0.tasks.length : Nat) : Int))) ?_ ?_
  ·intro h99
   have hlt1 : k1 < p0.tasks.length := by have := of_decide_eq_true h99; omega
   have hm := hs1 hlt1
   unfold Fits_ref8L1 at hm
   refine Sk ?_
   refine Sq (Bk ?_)
   obtain ⟨r100, hr100, hm⟩ := bo hm
   refine Sq (RD hnt (nn 7 (o61 [] true r100 :: nn 6 [])) [21] [(4, rr 1032)] [] [(1032, bx (pm (encTask r100.1)))] (an (nn0 k1) (an (ltc hlt1) (an (Find_ref6Spec p0 (p0.tasks.getD k1 (default : Task)).process r100 hr100) tv))) ?_)
   obtain ⟨r101, hr101, hm⟩ := bo hm
   refine Sq (RD hnt (nn 8 (o62 [] true r101 :: nn 5 [])) [] [(6, pI r101.1)] [] [] (an (nn0 k1) (an (ltc hlt1) (an (Domain_ref8Spec p0.tree (p0.tasks.getD k1 (default : Task)).group r101 hr101) tv))) ?_)
   obtain ⟨r102, hr102, hm⟩ := bo hm
   refine Sq (RD hnt (nn 4 (o62 [] true r102 :: nn 5 [])) [4] [(8, pI r102.1)] [1032] [] (an (Domain_ref8Spec p0.tree r100.1.group r102 hr102) tv) ?_)
   refine Sq (RD hnt (nn 3 []) [6, 8] [(57, pB (r101.1 != r102.1))] [] [] tv ?_)
   refine condM hm ?_ ?_
   ·intro h103 hm
    refine Sq (RK hnt (.no :: []) [(2, pB false)] [] tv ?_)
    obtain rfl := sj hm
    exact DW.ret (retK [] [] (pB false))
   ·intro h103 hm
    refine Sk ?_
    refine DW.done ?_
    show DW _ _ _ _ _
    refine RD hnt (nn 3 []) [57] [(3, pI (w64 (((k1 : Nat) : Int) + 1)))] [] [] tv ?_
    exact jD () ⟨hlt1, hm⟩ (Conv.tp [(3, pI (w64 (((k1 : Nat) : Int) + 1)))] [] (by kernel_rfl) (.cons rfl (.of_eq (congrArg pI (w64_succ hlt1 hc1))) .nil) .nil)
  ·intro h99
   have hge1 : ¬ k1 < p0.tasks.length := by have := of_decide_eq_false h99; omega
   have hm := he1 hge1
   unfold Fits_ref8D1 at hm
   refine DW.exit ?_
   refine joinQ_exit ?_
   refine KQ_exit ?_
   refine blockQ_exit ?_
   show DW _ _ _ _ _
   refine Sq (Sq (RD hnt (.no :: []) [3, 21] [(10, pI 0)] [] [] tv ?_))
   refine Bk ?_
   obtain ⟨hc4, hm⟩ := go1 hm
   refine DW.rangeO (fun (k4 : Nat) (s4 : Unit) => mkSt [(1, rr 1008), (10, pI ((k4 : Nat) : Int))] [(c54e2 p0)]) dNode hm Conv.eqK ?_
   intro k4 s4 n4 hk4 hs4 he4
   refine Sq (Sq (RD hnt (nn 6 []) [] [(63, pB (decide (((k4 : Nat) : Int) < ((p0.tree.nodes.length : Nat) : Int))))] [] [] tv ?_))
   refine condK (decide (((k4 : Nat) : Int) < ((p0.tree.nodes.length : Nat) : Int))) ?_ ?_
   ·intro h132
    have hlt4 : k4 < p0.tree.nodes.length := by have := of_decide_eq_true h132; omega
    have hm := hs4 hlt4
    unfold Fits_ref8L4 at hm
    refine Sk ?_
    refine Sq (Bk ?_)
    refine Sq (RD hnt (nn 8 []) [63] [(11, rr 1088)] [] [(1088, bx (pm (encNode (c54e1 p0 k4))))] (an (nn0 k4) (an (ltc hlt4) tv)) ?_)
    obtain ⟨r133, hr133, hm⟩ := bo hm
    refine Sq (RD hnt (nn 4 (o43 [] true r133 :: nn 6 [])) [] [(12, rr 1096)] [] [(1096, bx (pm (encNode r133.1)))] (an (Find_ref5Spec p0.tree (c54e1 p0 k4).parent r133 hr133) tv) ?_)
    obtain ⟨r134, hr134, hm⟩ := bo hm
    refine Sq (Sq ?_)
    refine Jn (ι := Bool) (fun (y17 : Bool) => mkSt [(1, rr 1008), (10, pI ((k4 : Nat) : Int)), (11, rr 1088), (12, rr 1096), (98, pB y17)] [(c54e2 p0), (1088, bx (pm (encNode (c54e1 p0 k4)))), (1096, bx (pm (encNode r133.1)))]) (fun y17 => (Fits_ref8J17 p0 (c54e1 p0 k4) n4 r133) y17 = some RES) ?_ ?_
    ·intro y17 hm
     unfold Fits_ref8J17 at hm
     refine condM hm ?_ ?_
     ·intro h138 hm
      refine Sq (RK hnt (.no :: []) [(2, pB false)] [] tv ?_)
      obtain rfl := sj hm
      exact DW.ret (retK [] [] (pB false))
     ·intro h138 hm
      refine Sk ?_
      refine Sq ?_
      refine Jn (ι := Bool) (fun (y18 : Bool) => mkSt [(1, rr 1008), (10, pI ((k4 : Nat) : Int)), (120, pB y18)] [(c54e2 p0)]) (fun y18 => (Fits_ref8J18 n4) y18 = some RES) ?_ ?_
      ·intro y18 hm
       unfold Fits_ref8J18 at hm
       refine condM hm ?_ ?_
       ·intro h144 hm
        refine Sq (RK hnt (.no :: []) [(2, pB false)] [] tv ?_)
        obtain rfl := sj hm
        exact DW.ret (retK [] [] (pB false))
       ·intro h144 hm
        refine Sk ?_
        refine DW.done ?_
        show DW _ _ _ _ _
        refine RD hnt (nn 3 []) [120] [(10, pI (w64 (((k4 : Nat) : Int) + 1)))] [] [] tv ?_
        exact jD () ⟨hlt4, hm⟩ (Conv.tp [(10, pI (w64 (((k4 : Nat) : Int) + 1)))] [] (by kernel_rfl) (.cons rfl (.of_eq (congrArg pI (w64_succ hlt4 hc4))) .nil) .nil)
      ·rcases bt ((c54e1 p0 k4).kind == 1) with h139 | h139
       ·replace hm := if_t h139 hm
        rcases bt (r133.1.id != 1) with h140 | h140
        ·replace hm := if_t h140 hm
         rcases bt ((kand .i64 r133.1.control 6) != 0) with h141 | h141
         ·replace hm := if_t h141 hm
          refine RD hnt (nn 12 (pT :: .no :: sk 6 (pT :: pT :: []))) [11, 12, 98] [(120, pB true)] [1088, 1096] [] (an4 h139 (an4 h140 (an h139 (an h140 (an h139 (an6 h141 (an h139 (an h141 (an h139 tv))))))))) ?_
          exact jD true hm Conv.eqK
         ·replace hm := if_f h141 hm
          obtain ⟨r142, hr142, hm⟩ := bo hm
          refine RD hnt (nn 12 (pT :: nn 5 (o63 [] true r142 :: .no :: pF :: pT :: []))) [11, 12, 98] [(120, pB (r142 == 3))] [1088, 1096] [] (an4 h139 (an4 h140 (an h139 (an h140 (an h139 (an5 h141 (an (Type_ref8Spec p0.tree r133.1.id r142 hr142) (an h141 (an h139 (an h141 (an h139 tv))))))))))) ?_
          exact jD (r142 == 3) hm Conv.eqK
        ·replace hm := if_f h140 hm
         obtain ⟨r143, hr143, hm⟩ := bo hm
         refine RD hnt (nn 8 (sk 4 (pF :: nn 5 (o63 [] true r143 :: .no :: pF :: pT :: [])))) [11, 12, 98] [(120, pB (r143 == 3))] [1088, 1096] [] (an4 h139 (an4 h140 (an h139 (an h140 (an h139 (an5 ff (an (Type_ref8Spec p0.tree r133.1.id r143 hr143) (an ff (an h139 (an ff (an h139 tv))))))))))) ?_
         exact jD (r143 == 3) hm Conv.eqK
       ·replace hm := if_f h139 hm
        refine RD hnt (nn 4 (sk 17 (pF :: []))) [11, 12, 98] [(120, pB false)] [1088, 1096] [] (an2 h139 (an6 h139 tv)) ?_
        exact jD false hm Conv.eqK
    ·rcases bt (r134 == 3) with h135 | h135
     ·replace hm := if_t h135 hm
      rcases bt ((c54e1 p0 k4).control != 0) with h136 | h136
      ·replace hm := if_t h136 hm
       refine RD hnt (nn 4 (o63 [] true r134 :: nn 6 (sk 6 (pT :: pT :: [])))) [] [(98, pB true)] [] [] (an (Type_ref8Spec p0.tree (c54e1 p0 k4).id r134 hr134) (an4 h135 (an6 h136 (an h135 (an h136 (an h135 tv)))))) ?_
       exact jD true hm Conv.eqK
      ·replace hm := if_f h136 hm
       obtain ⟨r137, hr137, hm⟩ := bo hm
       refine RD hnt (nn 4 (o63 [] true r134 :: nn 9 (o60 [] true r137 :: nn 2 (pF :: pT :: [])))) [] [(98, pB (decide (((r137.length : Nat) : Int) > 0)))] [] [] (an (Type_ref8Spec p0.tree (c54e1 p0 k4).id r134 hr134) (an4 h135 (an4 h136 (an (Tasks_ref6Spec p0 (c54e1 p0 k4).id r137 hr137) (an2 h136 (an h135 (an h136 (an h135 tv)))))))) ?_
       exact jD (decide (((r137.length : Nat) : Int) > 0)) hm Conv.eqK
     ·replace hm := if_f h135 hm
      refine RD hnt (nn 4 (o63 [] true r134 :: nn 2 (sk 11 (pF :: [])))) [] [(98, pB false)] [] [] (an (Type_ref8Spec p0.tree (c54e1 p0 k4).id r134 hr134) (an6 h135 tv)) ?_
      exact jD false hm Conv.eqK
   ·intro h132
    have hge4 : ¬ k4 < p0.tree.nodes.length := by have := of_decide_eq_false h132; omega
    have hm := he4 hge4
    unfold Fits_ref8D4 at hm
    refine DW.exit ?_
    refine joinQ_exit ?_
    refine KQ_exit ?_
    refine blockQ_exit ?_
    show DW _ _ _ _ _
    refine Sq (RK hnt (.no :: []) [(2, pB true)] [] tv ?_)
    obtain rfl := sj hm
    exact DW.ret (retK [] [] (pB true))
abbrev o54 (ks : List Nat) (b : Bool) (RES : Bool) : Orc := .call 129 ks b (pB RES) [] []

theorem Set_ref7Spec (p0 : Int) (RES : Bool) (hm : Set_ref7 p0 = some RES) : Spec Tryz.prog 175 [pI p0] [] (pB RES) [] [] := by
 unfold Set_ref7 at hm
 refine SO Tryz.func175 rfl rfl [(0, pI p0)] [] ?_
 intro cx hnt
 refine Sq (RK hnt (.no :: []) [(0, pI p0)] [] tv ?_)
 refine Sq (DW.regJ (sl2 := [(2, pB ((decide (p0 ≥ 0)) && (decide (p0 ≤ 31))))]) (ob2 := []) ?_ ?_)
 ·rcases bt (decide (p0 ≥ 0)) with h1 | h1
  ·exact RT hnt (nn 5 (pT :: .no :: [])) [(2, pB (decide (p0 ≤ 31)))] (an3 h1 tv) (by kernel_rfl) (.cons rfl (.of_eq (by rw [h1]; try rfl)) .nil)
  ·exact RT hnt (nn 3 (sk 2 (pF :: .no :: []))) [(2, pB false)] (an3 h1 tv) (by kernel_rfl) (.cons rfl (.of_eq (by rw [h1]; try rfl)) .nil)
 ·refine DW.ret ?_
  obtain rfl := sj hm
  exact retK [] [] (pB ((decide (p0 ≥ 0)) && (decide (p0 ≤ 31))))
abbrev o65 (ks : List Nat) (b : Bool) (RES : Bool) : Orc := .call 175 ks b (pB RES) [] []

theorem Copy_ref6Spec (p0 : Hierarchy) (RES : Hierarchy) (hm : Copy_ref6 p0 = some RES) : Spec Tryz.prog 105 [.p (.agg (encHierarchy p0))] [] (.agg [ow 0 RES.tree.nodes.length, pI RES.tree.next, ow 1 RES.tasks.length, pI RES.next]) [] [roNode RES.tree.nodes, roTask RES.tasks] := by
 unfold Copy_ref6 at hm
 refine SO Tryz.func105 rfl rfl [(0, .p (.agg (encHierarchy p0)))] [] ?_
 intro cx hnt
 refine Sq (RK hnt (nn 2 []) [(1, rr 1008), (2, rr 1016)] [(1008, bx (pm (encHierarchy p0))), (1016, bx [.p (.sl .nil 0 0 (fun _ => [])), pI 0, .p (.sl .nil 0 0 (fun _ => [])), pI 0])] tv ?_)
 obtain ⟨r1, hr1, hm⟩ := bo hm
 obtain ⟨g2, hm⟩ := go1 hm
 refine Sq (RN hnt (nn 2 (o46 [] true r1 :: nn 7 [])) [(2, rr 1016)] [(1016, bx [ow 1040 r1.nodes.length, pI r1.next, ow 1064 p0.tasks.length, pI p0.next]), (1040, ob0 (roNode r1.nodes)), (1064, ob0 (roTask p0.tasks))] [] [(1064, .row 4 p0.tasks.length (elTask p0.tasks))] (an (Copy_ref5Spec p0.tree r1 hr1) (an (by omega : p0.tasks.length * 32 ≤ 140737488355328) tv)) (by kernel_rfl) .nil (.cons rfl (BLe.typed RowIs.elems) .nil) ?_)
 obtain rfl := sj hm
 exact DW.ret (retK [roNode r1.nodes, roTask p0.tasks] [1040, 1064] (.agg [ow 0 r1.nodes.length, pI r1.next, ow 1 p0.tasks.length, pI p0.next]))
abbrev o66 (ks : List Nat) (b : Bool) (RES : Hierarchy) : Orc := .call 105 ks b (.agg [ow 0 RES.tree.nodes.length, pI RES.tree.next, ow 1 RES.tasks.length, pI RES.next]) [] [roNode RES.tree.nodes, roTask RES.tasks]

abbrev c67e1 : Nat × Obj := (1032, bx [.p (.sl .nil 0 0 (fun _ => [])), pI 0])
abbrev c67e2 (s1 : (List Node) × Int) (p1 : Node) := (updF (elNode s1.1) (Int.toNat s1.2) [vi p1.id, vi p1.parent, vs p1.name, vi p1.control, vi p1.kind, vi p1.owner])
theorem Set_ref5Spec (p0 : Tree) (p1 : Node) (RES : Tree) (hm : Set_ref5 p0 p1 = some RES) : Spec Tryz.prog 136 [.p (.agg (encTree p0)), .p (.agg (encNode p1))] [] (.agg [ow 0 RES.nodes.length, pI RES.next]) [] [roNode RES.nodes] := by
 unfold Set_ref5 at hm
 refine SO Tryz.func136 rfl rfl [(0, .p (.agg (encTree p0))), (1, .p (.agg (encNode p1)))] [] ?_
 intro cx hnt
 refine Sq (RK hnt (nn 3 []) [(2, rr 1016), (3, rr 1024), (4, rr 1032)] [(1016, bx (pm (encTree p0))), (1024, bx (pm (encNode p1))), (c67e1)] tv ?_)
 obtain ⟨r1, hr1, hm⟩ := bo hm
 refine Sq (RD hnt (.no :: o46 [] true r1 :: nn 2 []) [2] [(5, rr 1040)] [1016] [(1040, bx [ow 1064 r1.nodes.length, pI r1.next]), (1064, ob0 (roNode r1.nodes))] (an (Copy_ref5Spec p0 r1 hr1) tv) ?_)
 refine Sq (Sq (RD hnt (.no :: []) [] [(6, pI 0)] [] [] tv ?_))
 refine Bk ?_
 refine DW.whileO (fun (s1 : (List Node) × Int) => mkSt [(3, rr 1024), (4, rr 1032), (5, rr 1040), (6, pI s1.2)] [(1024, bx (pm (encNode p1))), (c67e1), (1040, bx [ow 1064 s1.1.length, pI r1.next]), (1064, ob0 (roNode s1.1))]) hm Conv.eqK ?_
 intro s1 n1 hm
 unfold Set_ref5L1 at hm
 refine Sq (Sq (RD hnt (nn 5 []) [] [(13, pB (decide (s1.2 < ((s1.1.length : Nat) : Int))))] [] [] tv ?_))
 refine condM hm ?_ ?_
 ·intro h8 hm
  refine Sk ?_
  refine Sq ?_
  refine Jn (ι := List Node) (fun (y2 : List Node) => mkSt [(3, rr 1024), (4, rr 1032), (5, rr 1040), (6, pI s1.2)] [(1024, bx (pm (encNode p1))), (c67e1), (1040, bx [ow 1064 y2.length, pI r1.next]), (1064, ob0 (roNode y2))]) (fun y2 => (Set_ref5J2 s1 n1) y2 = some RES) ?_ ?_
  ·intro y2 hm
   unfold Set_ref5J2 at hm
   refine RD hnt (nn 3 []) [] [(6, pI (w64 (s1.2 + 1)))] [] [] tv ?_
   exact jD (y2, (w64 (s1.2 + 1))) hm Conv.eqK
  ·refine Bk ?_
   obtain ⟨g9, g10, hm⟩ := go2 hm
   refine Sq (RD hnt (nn 9 []) [13] [(24, pB ((s1.1.getD (Int.toNat s1.2) dNode).id == p1.id))] [] [] (an g9.1 (an g9.2 (an g10 tv))) ?_)
   refine condM hm ?_ ?_
   ·intro h11 hm
    obtain ⟨g12, g13, hm⟩ := go2 hm
    refine RN hnt (nn 6 []) [(3, rr 1024), (4, rr 1032), (5, rr 1040), (6, pI s1.2)] [(1024, bx (pm (encNode p1))), (c67e1), (1040, bx [ow 1064 (s1.1.set (Int.toNat s1.2) p1).length, pI r1.next]), (1064, ob0 (roNode (s1.1.set (Int.toNat s1.2) p1)))] [] [(1040, .box [ow 1064 s1.1.length, pI r1.next]), (1064, .row 6 s1.1.length (c67e2 s1 p1))] (an g12.1 (an g12.2 (an g13 tv))) (by kernel_rfl) .nil (.cons rfl (.box (.cons (MLe.ownLen (enc := encNode) (d := dNode) (f := (c67e2 s1 p1)) (RowIs.upd RowIs.elems p1 rfl)) (.cons .rfl .nil))) (.cons rfl (BLe.typed (RowIs.upd RowIs.elems p1 rfl)) .nil)) ?_
    exact bD (s1.1.set (Int.toNat s1.2) p1) hm .refl
   ·intro h11 hm
    refine Sk ?_
    exact bD s1.1 hm Conv.t0
 ·intro h8 hm
  refine DW.exit ?_
  refine joinQ_exit ?_
  refine KQ_exit ?_
  refine blockQ_exit ?_
  show DW _ _ _ _ _
  refine Sq (RD hnt (nn 2 []) [3, 5, 6, 13] [] [1024, 1040] [(1032, bx [ow 1064 s1.1.length, pI r1.next])] tv ?_)
  obtain rfl := sj hm
  exact DW.ret (retK [roNode s1.1] [1064] (.agg [ow 0 s1.1.length, pI r1.next]))
abbrev o67 (ks : List Nat) (b : Bool) (RES : Tree) : Orc := .call 136 ks b (.agg [ow 0 RES.nodes.length, pI RES.next]) [] [roNode RES.nodes]

abbrev c64e1 : Nat × Obj := (1064, bx [.p (.sl .nil 0 0 (fun _ => [])), pI 0, .p (.sl .nil 0 0 (fun _ => [])), pI 0])
abbrev c64e2 : Nat × Obj := (1064, bx [ow 100000 0, pI 0, ow 100001 0, pI 0])
abbrev c64e3 (r8 : Node × Bool) (p3 : Int) (p2 : Int) : Nat × Obj := (1080, bx [pI r8.1.id, pI r8.1.parent, pS r8.1.name, pI (kor .i64 (kandNot .i64 r8.1.control p3) p2), pI r8.1.kind, pI r8.1.owner])
theorem Write_ref7Spec (p0 : Hierarchy) (p1 : Int) (p2 : Int) (p3 : Int) (RES : Hierarchy × Int) (hm : Write_ref7 p0 p1 p2 p3 = some RES) : Spec Tryz.prog 165 [.p (.agg (encHierarchy p0)), pI p1, pI p2, pI p3] [] (.tup [.agg [ow 0 RES.1.tree.nodes.length, pI RES.1.tree.next, ow 1 RES.1.tasks.length, pI RES.1.next], pI RES.2]) [] [roNode RES.1.tree.nodes, roTask RES.1.tasks] := by
 unfold Write_ref7 at hm
 refine SO Tryz.func165 rfl rfl [(0, .p (.agg (encHierarchy p0))), (1, pI p1), (2, pI p2), (3, pI p3)] [] ?_
 intro cx hnt
 refine Sq (RD hnt (nn 3 []) [0] [(4, rr 1032), (8, rr 1064)] [] [(1032, bx (pm (encHierarchy p0))), (c64e1)] tv ?_)
 obtain ⟨r1, hr1, hm⟩ := bo hm
 refine Sq (Sq ?_)
 refine Jn (ι := Bool) (fun (y1 : Bool) => mkSt [(1, pI p1), (2, pI p2), (3, pI p3), (4, rr 1032), (8, rr 1064), (37, pB y1)] [(1032, bx (pm (encHierarchy p0))), (c64e1)]) (fun y1 => (Write_ref7J1 p0 p1 p2 p3) y1 = some RES) ?_ ?_
 ·intro y1 hm
  unfold Write_ref7J1 at hm
  refine condM hm ?_ ?_
  ·intro h7 hm
   refine Sq (RD hnt (nn 3 []) [1, 2, 3, 4, 37] [(9, pI 1)] [1032] [] tv ?_)
   refine DW.cv [] [] [] [(c64e2), (100000, ob0 (roNode [])), (100001, ob0 (roTask []))] (Conv.ads [(.o 1064 0, 100000, 6, elems encNode dNode []), (.o 1064 2, 100001, 4, elems encTask dTask [])]) ?_
   obtain rfl := sj hm
   exact DW.ret (retK [roNode [], roTask []] [100000, 100001] (.tup [.agg [ow 0 0, pI 0, ow 1 0, pI 0], pI 1]))
  ·intro h7 hm
   refine Sk ?_
   obtain ⟨r8, hr8, hm⟩ := bo hm
   refine Sq (RD hnt (nn 3 (o43 [] true r8 :: nn 6 [])) [37] [(10, rr 1080), (11, pB r8.2)] [] [(1080, bx (pm (encNode r8.1)))] (an (Find_ref5Spec p0.tree p1 r8 hr8) tv) ?_)
   refine Sq (Sq (RD hnt (nn 2 []) [11] [(47, pB (!r8.2))] [] [] tv ?_))
   refine condM hm ?_ ?_
   ·intro h9 hm
    refine Sq (RD hnt (nn 3 []) [1, 2, 3, 4, 10, 47] [(9, pI 4)] [1032, 1080] [] tv ?_)
    refine DW.cv [] [] [] [(c64e2), (100000, ob0 (roNode [])), (100001, ob0 (roTask []))] (Conv.ads [(.o 1064 0, 100000, 6, elems encNode dNode []), (.o 1064 2, 100001, 4, elems encTask dTask [])]) ?_
    obtain rfl := sj hm
    exact DW.ret (retK [roNode [], roTask []] [100000, 100001] (.tup [.agg [ow 0 0, pI 0, ow 1 0, pI 0], pI 4]))
   ·intro h9 hm
    refine Sk ?_
    obtain ⟨r10, hr10, hm⟩ := bo hm
    refine Sq (Sq (RD hnt (nn 4 (o58 [] true r10 :: nn 2 [])) [47] [(55, pB ((kandNot .i64 p2 r10) != 0))] [] [] (an (Available_ref7Spec p0.tree p1 r10 hr10) tv) ?_))
    refine condM hm ?_ ?_
    ·intro h11 hm
     refine Sq (RD hnt (nn 3 []) [1, 2, 3, 4, 10, 55] [(9, pI 9)] [1032, 1080] [] tv ?_)
     refine DW.cv [] [] [] [(c64e2), (100000, ob0 (roNode [])), (100001, ob0 (roTask []))] (Conv.ads [(.o 1064 0, 100000, 6, elems encNode dNode []), (.o 1064 2, 100001, 4, elems encTask dTask [])]) ?_
     obtain rfl := sj hm
     exact DW.ret (retK [roNode [], roTask []] [100000, 100001] (.tup [.agg [ow 0 0, pI 0, ow 1 0, pI 0], pI 9]))
    ·intro h11 hm
     refine Sk ?_
     obtain ⟨r12, hr12, hm⟩ := bo hm
     refine Sq (RD hnt (nn 3 (o49 [] true r12 :: .no :: [])) [55] [(12, ow 1480 r12.length)] [] [(1480, ob0 (roI r12))] (an (Children_ref5Spec p0.tree p1 r12 hr12) tv) ?_)
     refine Sq (Sq (RD hnt (.no :: []) [] [(13, pI 0)] [] [] tv ?_))
     refine Bk ?_
     obtain ⟨hc1, hm⟩ := go1 hm
     refine DW.rangeO (fun (k1 : Nat) (s1 : Unit) => mkSt [(1, pI p1), (2, pI p2), (3, pI p3), (4, rr 1032), (8, rr 1064), (10, rr 1080), (12, ow 1480 r12.length), (13, pI ((k1 : Nat) : Int))] [(1032, bx (pm (encHierarchy p0))), (c64e1), (1080, bx (pm (encNode r8.1))), (1480, ob0 (roI r12))]) 0 hm Conv.eqK ?_
     intro k1 s1 n1 hk1 hs1 he1
     refine Sq (Sq (RD hnt (nn 4 []) [] [(64, pB (decide (((k1 : Nat) : Int) < ((r12.length : Nat) : Int))))] [] [] tv ?_))
     refine condK (decide (((k1 : Nat) : Int) < ((r12.length : Nat) : Int))) ?_ ?_
     ·intro h35
      have hlt1 : k1 < r12.length := by have := of_decide_eq_true h35; omega
      have hm := hs1 hlt1
      unfold Write_ref7L1 at hm
      refine Sk ?_
      refine Sq (Bk ?_)
      obtain ⟨r36, hr36, hm⟩ := bo hm
      refine Sq (RD hnt (nn 6 (o43 [] true r36 :: nn 6 [])) [64] [(14, rr 1112)] [] [(1112, bx (pm (encNode r36.1)))] (an (nn0 k1) (an (ltc hlt1) (an (by omega : k1 < r12.length) (an (Find_ref5Spec p0.tree (r12.getD k1 0) r36 hr36) tv)))) ?_)
      refine Sq (RD hnt (nn 5 []) [14] [(81, pB ((kand .i64 r36.1.control p3) != 0))] [1112] [] tv ?_)
      refine condM hm ?_ ?_
      ·intro h37 hm
       refine Sq (RD hnt (nn 3 []) [1, 2, 3, 4, 10, 12, 13, 81] [(9, pI 9)] [1032, 1080, 1480] [] tv ?_)
       refine DW.cv [] [] [] [(c64e2), (100000, ob0 (roNode [])), (100001, ob0 (roTask []))] (Conv.ads [(.o 1064 0, 100000, 6, elems encNode dNode []), (.o 1064 2, 100001, 4, elems encTask dTask [])]) ?_
       obtain rfl := sj hm
       exact DW.ret (retK [roNode [], roTask []] [100000, 100001] (.tup [.agg [ow 0 0, pI 0, ow 1 0, pI 0], pI 9]))
      ·intro h37 hm
       refine Sk ?_
       refine DW.done ?_
       show DW _ _ _ _ _
       refine RD hnt (nn 3 []) [81] [(13, pI (w64 (((k1 : Nat) : Int) + 1)))] [] [] tv ?_
       exact jD () ⟨hlt1, hm⟩ (Conv.tp [(13, pI (w64 (((k1 : Nat) : Int) + 1)))] [] (by kernel_rfl) (.cons rfl (.of_eq (congrArg pI (w64_succ hlt1 hc1))) .nil) .nil)
     ·intro h35
      have hge1 : ¬ k1 < r12.length := by have := of_decide_eq_false h35; omega
      have hm := he1 hge1
      unfold Write_ref7D1 at hm
      refine DW.exit ?_
      refine joinQ_exit ?_
      refine KQ_exit ?_
      refine blockQ_exit ?_
      show DW _ _ _ _ _
      refine Sq (RD hnt (nn 3 []) [12, 13, 64] [(16, pI r8.1.control)] [1480] [] tv ?_)
      refine Sq (RD hnt (nn 7 []) [2, 3] [] [] [(c64e3 r8 p3 p2)] tv ?_)
      refine Sq (Sq (RD hnt (nn 4 []) [] [(17, pI (kand .i64 (kor .i64 (kandNot .i64 r8.1.control p3) p2) 6))] [] [] tv ?_))
      refine Sq ?_
      refine Jn (ι := Bool) (fun (y4 : Bool) => mkSt [(4, rr 1032), (8, rr 1064), (10, rr 1080), (108, pB y4)] [(1032, bx (pm (encHierarchy p0))), (c64e1), (c64e3 r8 p3 p2)]) (fun y4 => (Write_ref7J4 p0 p2 p3 r8) y4 = some RES) ?_ ?_
      ·intro y4 hm
       unfold Write_ref7J4 at hm
       refine condM hm ?_ ?_
       ·intro h41 hm
        refine Sq (RD hnt (nn 3 []) [4, 10, 108] [(9, pI 6)] [1032, 1080] [] tv ?_)
        refine DW.cv [] [] [] [(c64e2), (100000, ob0 (roNode [])), (100001, ob0 (roTask []))] (Conv.ads [(.o 1064 0, 100000, 6, elems encNode dNode []), (.o 1064 2, 100001, 4, elems encTask dTask [])]) ?_
        obtain rfl := sj hm
        exact DW.ret (retK [roNode [], roTask []] [100000, 100001] (.tup [.agg [ow 0 0, pI 0, ow 1 0, pI 0], pI 6]))
       ·intro h41 hm
        refine Sk ?_
        obtain ⟨r42, hr42, hm⟩ := bo hm
        refine Sq (RD hnt (.no :: o66 [] true r42 :: nn 2 []) [108] [(18, rr 1144)] [] [(1144, bx [ow 1888 r42.tree.nodes.length, pI r42.tree.next, ow 1889 r42.tasks.length, pI r42.next]), (1888, ob0 (roNode r42.tree.nodes)), (1889, ob0 (roTask r42.tasks))] (an (Copy_ref6Spec p0 r42 hr42) tv) ?_)
        obtain ⟨r43, hr43, hm⟩ := bo hm
        refine Sq (RD hnt (nn 3 (o67 [] true r43 :: nn 2 [])) [4, 10] [] [1032, 1080, 1888] [(1144, bx [ow 1920 r43.nodes.length, pI r43.next, ow 1889 r42.tasks.length, pI r42.next]), (1920, ob0 (roNode r43.nodes))] (an (Set_ref5Spec p0.tree ({ id := r8.1.id, parent := r8.1.parent, name := r8.1.name, control := (kor .i64 (kandNot .i64 r8.1.control p3) p2), kind := r8.1.kind, owner := r8.1.owner } : Node) r43 hr43) tv) ?_)
        refine Sq (RD hnt (nn 3 []) [18] [(9, pI 0)] [1144] [(1064, bx [ow 1920 r43.nodes.length, pI r43.next, ow 1889 r42.tasks.length, pI r42.next])] tv ?_)
        obtain rfl := sj hm
        exact DW.ret (retK [roNode r43.nodes, roTask r42.tasks] [1920, 1889] (.tup [.agg [ow 0 r43.nodes.length, pI r43.next, ow 1 r42.tasks.length, pI r42.next], pI 0]))
      ·rcases bt ((kandNot .i64 (kand .i64 (kor .i64 (kandNot .i64 r8.1.control p3) p2) 6) r8.1.control) != 0) with h38 | h38
       ·replace hm := if_t h38 hm
        rcases bt (p1 != 1) with h39 | h39
        ·replace hm := if_t h39 hm
         obtain ⟨r40, hr40, hm⟩ := bo hm
         refine RD hnt (nn 7 (pT :: nn 3 (o60 [] true r40 :: nn 2 (pT :: [])))) [1, 16, 17] [(108, pB (decide (((r40.length : Nat) : Int) > 0)))] [] [] (an3 h38 (an3 h39 (an (Tasks_ref6Spec p0 p1 r40 hr40) (an3 h39 tv)))) ?_
         exact jD (decide (((r40.length : Nat) : Int) > 0)) hm Conv.eqK
        ·replace hm := if_f h39 hm
         refine RD hnt (nn 7 (pT :: .no :: sk 5 (pF :: []))) [1, 16, 17] [(108, pB false)] [] [] (an3 h38 (an6 h39 tv)) ?_
         exact jD false hm Conv.eqK
       ·replace hm := if_f h38 hm
        refine RD hnt (nn 5 (sk 2 (pF :: .no :: sk 5 (pF :: [])))) [1, 16, 17] [(108, pB false)] [] [] (an3 h38 (an6 ff tv)) ?_
        exact jD false hm Conv.eqK
 ·rcases bt (!r1) with h2 | h2
  ·replace hm := if_t h2 hm
   refine RD hnt (.no :: o55 [] true r1 :: nn 2 (sk 3 (pT :: .no :: sk 3 (pT :: .no :: sk 4 (pT :: []))))) [] [(37, pB true)] [] [] (an (Sound_ref7Spec p0 r1 hr1) (an4 h2 (an3 tt (an6 tt tv)))) ?_
   exact jD true hm Conv.eqK
  ·replace hm := if_f h2 hm
   obtain ⟨r3, hr3, hm⟩ := bo hm
   rcases bt (!r3) with h4 | h4
   ·replace hm := if_t h4 hm
    refine RD hnt (.no :: o55 [] true r1 :: nn 3 (o65 [] true r3 :: .no :: pF :: .no :: sk 3 (pT :: .no :: sk 4 (pT :: [])))) [] [(37, pB true)] [] [] (an (Sound_ref7Spec p0 r1 hr1) (an2 h2 (an (Set_ref7Spec p2 r3 hr3) (an2 h2 (an4 h4 (an5 tt tv)))))) ?_
    exact jD true hm Conv.eqK
   ·replace hm := if_f h4 hm
    obtain ⟨r5, hr5, hm⟩ := bo hm
    rcases bt (!r5) with h6 | h6
    ·replace hm := if_t h6 hm
     refine RD hnt (.no :: o55 [] true r1 :: nn 3 (o65 [] true r3 :: .no :: pF :: nn 2 (o65 [] true r5 :: .no :: pF :: .no :: sk 4 (pT :: [])))) [] [(37, pB true)] [] [] (an (Sound_ref7Spec p0 r1 hr1) (an2 h2 (an (Set_ref7Spec p2 r3 hr3) (an2 h2 (an2 h4 (an (Set_ref7Spec p3 r5 hr5) (an2 h4 (an5 h6 tv)))))))) ?_
     exact jD true hm Conv.eqK
    ·replace hm := if_f h6 hm
     refine RD hnt (.no :: o55 [] true r1 :: nn 3 (o65 [] true r3 :: .no :: pF :: nn 2 (o65 [] true r5 :: .no :: pF :: nn 5 (pF :: [])))) [] [(37, pB ((kand .i64 p2 p3) != 0))] [] [] (an (Sound_ref7Spec p0 r1 hr1) (an2 h2 (an (Set_ref7Spec p2 r3 hr3) (an2 h2 (an2 h4 (an (Set_ref7Spec p3 r5 hr5) (an2 h4 (an5 h6 tv)))))))) ?_
     exact jD ((kand .i64 p2 p3) != 0) hm Conv.eqK
abbrev o64 (ks : List Nat) (b : Bool) (RES : Hierarchy × Int) : Orc := .call 165 ks b (.tup [.agg [ow 0 RES.1.tree.nodes.length, pI RES.1.tree.next, ow 1 RES.1.tasks.length, pI RES.1.next], pI RES.2]) [] [roNode RES.1.tree.nodes, roTask RES.1.tasks]

abbrev c53e1 : Nat × Obj := (1064, bx [ow 100000 0, pI 0, ow 100001 0, pI 0])
theorem Enable_ref8Spec (p0 : Hierarchy) (p1 : Int) (p2 : Int) (p3 : Int) (RES : Hierarchy × Int) (hm : Enable_ref8 p0 p1 p2 p3 = some RES) : Spec Tryz.prog 133 [.p (.agg (encHierarchy p0)), pI p1, pI p2, pI p3] [] (.tup [.agg [ow 0 RES.1.tree.nodes.length, pI RES.1.tree.next, ow 1 RES.1.tasks.length, pI RES.1.next], pI RES.2]) [] [roNode RES.1.tree.nodes, roTask RES.1.tasks] := by
 unfold Enable_ref8 at hm
 refine SO Tryz.func133 rfl rfl [(0, .p (.agg (encHierarchy p0))), (1, pI p1), (2, pI p2), (3, pI p3)] [] ?_
 intro cx hnt
 refine Sq (RD hnt (nn 3 []) [0] [(4, rr 1032), (8, rr 1064)] [] [(1032, bx (pm (encHierarchy p0))), (1064, bx [.p (.sl .nil 0 0 (fun _ => [])), pI 0, .p (.sl .nil 0 0 (fun _ => [])), pI 0])] tv ?_)
 obtain ⟨r1, hr1, hm⟩ := bo hm
 refine Sq (Sq (RD hnt (.no :: o54 [] true r1 :: .no :: []) [] [(14, pB (!r1))] [] [] (an (Fits_ref8Spec p0 r1 hr1) tv) ?_))
 refine condM hm ?_ ?_
 ·intro h2 hm
  refine Sq (RD hnt (nn 3 []) [1, 2, 3, 4, 14] [(9, pI 1)] [1032] [] tv ?_)
  refine DW.cv [] [] [] [(c53e1), (100000, ob0 (roNode [])), (100001, ob0 (roTask []))] (Conv.ads [(.o 1064 0, 100000, 6, elems encNode dNode []), (.o 1064 2, 100001, 4, elems encTask dTask [])]) ?_
  obtain rfl := sj hm
  exact DW.ret (retK [roNode [], roTask []] [100000, 100001] (.tup [.agg [ow 0 0, pI 0, ow 1 0, pI 0], pI 1]))
 ·intro h2 hm
  refine Sk ?_
  obtain ⟨r3, hr3, hm⟩ := bo hm
  refine Sq (RD hnt (nn 4 (o64 [] true r3 :: nn 6 [])) [1, 2, 3, 4, 14] [(10, rr 1080), (11, pI r3.2)] [1032] [(1080, bx [ow 1168 r3.1.tree.nodes.length, pI r3.1.tree.next, ow 1169 r3.1.tasks.length, pI r3.1.next]), (1168, ob0 (roNode r3.1.tree.nodes)), (1169, ob0 (roTask r3.1.tasks))] (an (Write_ref7Spec p0 p1 p2 p3 r3 hr3) tv) ?_)
  refine Sq (Sq (RD hnt (nn 2 []) [] [(25, pB (r3.2 != 0))] [] [] tv ?_))
  refine condM hm ?_ ?_
  ·intro h4 hm
   refine Sq (RD hnt (nn 4 []) [10, 11, 25] [(9, pI r3.2)] [1080, 1168, 1169] [] tv ?_)
   refine DW.cv [] [] [] [(c53e1), (100000, ob0 (roNode [])), (100001, ob0 (roTask []))] (Conv.ads [(.o 1064 0, 100000, 6, elems encNode dNode []), (.o 1064 2, 100001, 4, elems encTask dTask [])]) ?_
   obtain rfl := sj hm
   exact DW.ret (retK [roNode [], roTask []] [100000, 100001] (.tup [.agg [ow 0 0, pI 0, ow 1 0, pI 0], pI r3.2]))
  ·intro h4 hm
   refine Sk ?_
   obtain ⟨r5, hr5, hm⟩ := bo hm
   refine Sq (Sq (RD hnt (.no :: o54 [] true r5 :: .no :: []) [11, 25] [(30, pB (!r5))] [] [] (an (Fits_ref8Spec r3.1 r5 hr5) tv) ?_))
   refine condM hm ?_ ?_
   ·intro h6 hm
    refine Sq (RD hnt (nn 3 []) [10, 30] [(9, pI 10)] [1080, 1168, 1169] [] tv ?_)
    refine DW.cv [] [] [] [(c53e1), (100000, ob0 (roNode [])), (100001, ob0 (roTask []))] (Conv.ads [(.o 1064 0, 100000, 6, elems encNode dNode []), (.o 1064 2, 100001, 4, elems encTask dTask [])]) ?_
    obtain rfl := sj hm
    exact DW.ret (retK [roNode [], roTask []] [100000, 100001] (.tup [.agg [ow 0 0, pI 0, ow 1 0, pI 0], pI 10]))
   ·intro h6 hm
    refine Sk ?_
    refine Sq (RD hnt (nn 3 []) [10, 30] [(9, pI 0)] [1080] [(1064, bx [ow 1168 r3.1.tree.nodes.length, pI r3.1.tree.next, ow 1169 r3.1.tasks.length, pI r3.1.next])] tv ?_)
    obtain rfl := sj hm
    exact DW.ret (retK [roNode r3.1.tree.nodes, roTask r3.1.tasks] [1168, 1169] (.tup [.agg [ow 0 r3.1.tree.nodes.length, pI r3.1.tree.next, ow 1 r3.1.tasks.length, pI r3.1.next], pI 0]))
abbrev o53 (ks : List Nat) (b : Bool) (RES : Hierarchy × Int) : Orc := .call 133 ks b (.tup [.agg [ow 0 RES.1.tree.nodes.length, pI RES.1.tree.next, ow 1 RES.1.tasks.length, pI RES.1.next], pI RES.2]) [] [roNode RES.1.tree.nodes, roTask RES.1.tasks]
end Go.Dm


/- Go functions compute their models, printed by a program. -/
namespace Go.Dm
open Go.Proofs
set_option linter.unusedVariables false
abbrev c68e1 : Nat × Obj := (1032, bx [.p (.sl .nil 0 0 (fun _ => [])), pI 0, .p (.sl .nil 0 0 (fun _ => [])), pI 0])
abbrev c68e2 : Nat × Obj := (1032, bx [ow 100000 0, pI 0, ow 100001 0, pI 0])
theorem Convert_ref8Spec (p0 : Hierarchy) (p1 : Int) (RES : Hierarchy × Int) (hm : Convert_ref8 p0 p1 = some RES) : Spec Tryz.prog 134 [.p (.agg (encHierarchy p0)), pI p1] [] (.tup [.agg [ow 0 RES.1.tree.nodes.length, pI RES.1.tree.next, ow 1 RES.1.tasks.length, pI RES.1.next], pI RES.2]) [] [roNode RES.1.tree.nodes, roTask RES.1.tasks] := by
 unfold Convert_ref8 at hm
 refine SO Tryz.func134 rfl rfl [(0, .p (.agg (encHierarchy p0))), (1, pI p1)] [] ?_
 intro cx hnt
 refine Sq (RK hnt (nn 3 []) [(1, pI p1), (2, rr 1016), (4, rr 1032)] [(1016, bx (pm (encHierarchy p0))), (c68e1)] tv ?_)
 obtain ⟨r1, hr1, hm⟩ := bo hm
 refine Sq (Sq (RD hnt (.no :: o54 [] true r1 :: .no :: []) [] [(13, pB (!r1))] [] [] (an (Fits_ref8Spec p0 r1 hr1) tv) ?_))
 refine condM hm ?_ ?_
 ·intro h2 hm
  refine Sq (RD hnt (nn 3 []) [1, 2, 13] [(5, pI 1)] [1016] [] tv ?_)
  refine DW.cv [] [] [] [(c68e2), (100000, ob0 (roNode [])), (100001, ob0 (roTask []))] (Conv.ads [(.o 1032 0, 100000, 6, elems encNode dNode []), (.o 1032 2, 100001, 4, elems encTask dTask [])]) ?_
  obtain rfl := sj hm
  exact DW.ret (retK [roNode [], roTask []] [100000, 100001] (.tup [.agg [ow 0 0, pI 0, ow 1 0, pI 0], pI 1]))
 ·intro h2 hm
  refine Sk ?_
  obtain ⟨r3, hr3, hm⟩ := bo hm
  refine Sq (RD hnt (nn 3 (o43 [] true r3 :: nn 6 [])) [13] [(6, rr 1048), (7, pB r3.2)] [] [(1048, bx (pm (encNode r3.1)))] (an (Find_ref5Spec p0.tree p1 r3 hr3) tv) ?_)
  refine Sq (Sq (RD hnt (nn 2 []) [7] [(23, pB (!r3.2))] [] [] tv ?_))
  refine condM hm ?_ ?_
  ·intro h4 hm
   refine Sq (RD hnt (nn 3 []) [1, 2, 6, 23] [(5, pI 4)] [1016, 1048] [] tv ?_)
   refine DW.cv [] [] [] [(c68e2), (100000, ob0 (roNode [])), (100001, ob0 (roTask []))] (Conv.ads [(.o 1032 0, 100000, 6, elems encNode dNode []), (.o 1032 2, 100001, 4, elems encTask dTask [])]) ?_
   obtain rfl := sj hm
   exact DW.ret (retK [roNode [], roTask []] [100000, 100001] (.tup [.agg [ow 0 0, pI 0, ow 1 0, pI 0], pI 4]))
  ·intro h4 hm
   refine Sk ?_
   refine Sq (Sq (DW.regJ (sl2 := [(1, pI p1), (2, rr 1016), (4, rr 1032), (6, rr 1048), (31, pB ((p1 == 1) || (r3.1.kind == 1)))]) (ob2 := [(1016, bx (pm (encHierarchy p0))), (c68e1), (1048, bx (pm (encNode r3.1)))]) ?_ ?_))
   ·rcases bt (p1 == 1) with h5 | h5
    ·exact RT hnt (nn 3 (sk 3 (pT :: []))) [(31, pB true)] (an4 h5 tv) (by kernel_rfl) (.cons rfl (.of_eq (by rw [h5]; try rfl)) .nil)
    ·exact RT hnt (nn 6 (pF :: [])) [(31, pB (r3.1.kind == 1))] (an4 h5 tv) (by kernel_rfl) (.cons rfl (.of_eq (by rw [h5]; try rfl)) .nil)
   ·refine condM hm ?_ ?_
    ·intro h6 hm
     refine Sq (RD hnt (nn 3 []) [1, 2, 6, 31] [(5, pI 9)] [1016, 1048] [] tv ?_)
     refine DW.cv [] [] [] [(c68e2), (100000, ob0 (roNode [])), (100001, ob0 (roTask []))] (Conv.ads [(.o 1032 0, 100000, 6, elems encNode dNode []), (.o 1032 2, 100001, 4, elems encTask dTask [])]) ?_
     obtain rfl := sj hm
     exact DW.ret (retK [roNode [], roTask []] [100000, 100001] (.tup [.agg [ow 0 0, pI 0, ow 1 0, pI 0], pI 9]))
    ·intro h6 hm
     refine Sk ?_
     obtain ⟨r7, hr7, hm⟩ := bo hm
     refine Sq (RD hnt (nn 4 (o43 [] true r7 :: nn 6 [])) [31] [(8, rr 1064)] [] [(1064, bx (pm (encNode r7.1)))] (an (Find_ref5Spec p0.tree r3.1.parent r7 hr7) tv) ?_)
     obtain ⟨r8, hr8, hm⟩ := bo hm
     refine Sq (Sq ?_)
     refine Jn (ι := Bool) (fun (y1 : Bool) => mkSt [(1, pI p1), (2, rr 1016), (4, rr 1032), (6, rr 1048), (57, pB y1)] [(1016, bx (pm (encHierarchy p0))), (c68e1), (1048, bx (pm (encNode r3.1)))]) (fun y1 => (Convert_ref8J1 p0 p1 r3) y1 = some RES) ?_ ?_
     ·intro y1 hm
      unfold Convert_ref8J1 at hm
      refine condM hm ?_ ?_
      ·intro h11 hm
       refine Sq (RD hnt (nn 3 []) [1, 2, 6, 57] [(5, pI 10)] [1016, 1048] [] tv ?_)
       refine DW.cv [] [] [] [(c68e2), (100000, ob0 (roNode [])), (100001, ob0 (roTask []))] (Conv.ads [(.o 1032 0, 100000, 6, elems encNode dNode []), (.o 1032 2, 100001, 4, elems encTask dTask [])]) ?_
       obtain rfl := sj hm
       exact DW.ret (retK [roNode [], roTask []] [100000, 100001] (.tup [.agg [ow 0 0, pI 0, ow 1 0, pI 0], pI 10]))
      ·intro h11 hm
       refine Sk ?_
       refine Sq (Sq (RD hnt (nn 4 []) [57] [(62, pB ((kand .i64 r3.1.control 6) != 0))] [] [] tv ?_))
       refine condM hm ?_ ?_
       ·intro h12 hm
        refine Sq (RD hnt (nn 3 []) [1, 2, 6, 62] [(5, pI 9)] [1016, 1048] [] tv ?_)
        refine DW.cv [] [] [] [(c68e2), (100000, ob0 (roNode [])), (100001, ob0 (roTask []))] (Conv.ads [(.o 1032 0, 100000, 6, elems encNode dNode []), (.o 1032 2, 100001, 4, elems encTask dTask [])]) ?_
        obtain rfl := sj hm
        exact DW.ret (retK [roNode [], roTask []] [100000, 100001] (.tup [.agg [ow 0 0, pI 0, ow 1 0, pI 0], pI 9]))
       ·intro h12 hm
        refine Sk ?_
        refine Sq (RD hnt (nn 2 []) [62] [] [] [(1048, bx [pI r3.1.id, pI r3.1.parent, pS r3.1.name, pI r3.1.control, pI 1, pI r3.1.owner])] tv ?_)
        obtain ⟨r13, hr13, hm⟩ := bo hm
        refine Sq (RD hnt (.no :: o66 [] true r13 :: nn 2 []) [] [(10, rr 1080)] [] [(1080, bx [ow 1528 r13.tree.nodes.length, pI r13.tree.next, ow 1529 r13.tasks.length, pI r13.next]), (1528, ob0 (roNode r13.tree.nodes)), (1529, ob0 (roTask r13.tasks))] (an (Copy_ref6Spec p0 r13 hr13) tv) ?_)
        obtain ⟨r14, hr14, hm⟩ := bo hm
        refine Sq (RD hnt (nn 3 (o67 [] true r14 :: nn 2 [])) [6] [] [1048, 1528] [(1080, bx [ow 1560 r14.nodes.length, pI r14.next, ow 1529 r13.tasks.length, pI r13.next]), (1560, ob0 (roNode r14.nodes))] (an (Set_ref5Spec p0.tree ({ id := r3.1.id, parent := r3.1.parent, name := r3.1.name, control := r3.1.control, kind := 1, owner := r3.1.owner } : Node) r14 hr14) tv) ?_)
        obtain ⟨r15, hr15, hm⟩ := bo hm
        refine Sq (Sq ?_)
        refine Jn (ι := Bool) (fun (y2 : Bool) => mkSt [(4, rr 1032), (10, rr 1080), (81, pB y2)] [(c68e1), (1080, bx [ow 1560 r14.nodes.length, pI r14.next, ow 1529 r13.tasks.length, pI r13.next]), (1529, ob0 (roTask r13.tasks)), (1560, ob0 (roNode r14.nodes))]) (fun y2 => (Convert_ref8J2 r13 r14) y2 = some RES) ?_ ?_
        ·intro y2 hm
         unfold Convert_ref8J2 at hm
         refine condM hm ?_ ?_
         ·intro h18 hm
          refine Sq (RD hnt (nn 3 []) [10, 81] [(5, pI 6)] [1080, 1529, 1560] [] tv ?_)
          refine DW.cv [] [] [] [(c68e2), (100000, ob0 (roNode [])), (100001, ob0 (roTask []))] (Conv.ads [(.o 1032 0, 100000, 6, elems encNode dNode []), (.o 1032 2, 100001, 4, elems encTask dTask [])]) ?_
          obtain rfl := sj hm
          exact DW.ret (retK [roNode [], roTask []] [100000, 100001] (.tup [.agg [ow 0 0, pI 0, ow 1 0, pI 0], pI 6]))
         ·intro h18 hm
          refine Sk ?_
          refine Sq (RD hnt (nn 3 []) [10, 81] [(5, pI 0)] [1080] [(1032, bx [ow 1560 r14.nodes.length, pI r14.next, ow 1529 r13.tasks.length, pI r13.next])] tv ?_)
          obtain rfl := sj hm
          exact DW.ret (retK [roNode r14.nodes, roTask r13.tasks] [1560, 1529] (.tup [.agg [ow 0 r14.nodes.length, pI r14.next, ow 1 r13.tasks.length, pI r13.next], pI 0]))
        ·rcases bt (decide (((r15.length : Nat) : Int) > 0)) with h16 | h16
         ·replace hm := if_t h16 hm
          refine RD hnt (nn 2 (o60 [] true r15 :: nn 3 (sk 3 (pT :: [])))) [1, 2] [(81, pB true)] [1016] [] (an (Tasks_ref6Spec p0 p1 r15 hr15) (an4 h16 tv)) ?_
          exact jD true hm Conv.eqK
         ·replace hm := if_f h16 hm
          obtain ⟨r17, hr17, hm⟩ := bo hm
          refine RD hnt (nn 2 (o60 [] true r15 :: nn 4 (o54 [] true r17 :: .no :: pF :: []))) [1, 2] [(81, pB (!r17))] [1016] [] (an (Tasks_ref6Spec p0 p1 r15 hr15) (an2 h16 (an (Fits_ref8Spec ({ tree := r14, tasks := r13.tasks, next := r13.next } : Hierarchy) r17 hr17) (an2 h16 tv)))) ?_
          exact jD (!r17) hm Conv.eqK
     ·rcases bt (r8 == 3) with h9 | h9
      ·replace hm := if_t h9 hm
       refine RD hnt (nn 4 (o63 [] true r8 :: nn 2 (sk 9 (pT :: [])))) [8] [(57, pB true)] [1064] [] (an (Type_ref8Spec p0.tree r7.1.id r8 hr8) (an6 h9 tv)) ?_
       exact jD true hm Conv.eqK
      ·replace hm := if_f h9 hm
       rcases bt (r7.1.id != 1) with h10 | h10
       ·replace hm := if_t h10 hm
        refine RD hnt (nn 4 (o63 [] true r8 :: nn 10 (pT :: pF :: []))) [8] [(57, pB ((kand .i64 r7.1.control 6) != 0))] [1064] [] (an (Type_ref8Spec p0.tree r7.1.id r8 hr8) (an4 h9 (an4 h10 (an h9 (an h10 (an h9 tv)))))) ?_
        exact jD ((kand .i64 r7.1.control 6) != 0) hm Conv.eqK
       ·replace hm := if_f h10 hm
        refine RD hnt (nn 4 (o63 [] true r8 :: nn 6 (sk 4 (pF :: pF :: [])))) [8] [(57, pB false)] [1064] [] (an (Type_ref8Spec p0.tree r7.1.id r8 hr8) (an4 h9 (an4 h10 (an h9 (an h10 (an h9 tv)))))) ?_
        exact jD false hm Conv.eqK
abbrev o68 (ks : List Nat) (b : Bool) (RES : Hierarchy × Int) : Orc := .call 134 ks b (.tup [.agg [ow 0 RES.1.tree.nodes.length, pI RES.1.tree.next, ow 1 RES.1.tasks.length, pI RES.1.next], pI RES.2]) [] [roNode RES.1.tree.nodes, roTask RES.1.tasks]

abbrev c50e1 : Nat × Obj := (1032, bx [.p (.sl .nil 0 0 (fun _ => [])), pI 0, .p (.sl .nil 0 0 (fun _ => [])), pI 0])
theorem step_Dice_madeSpec (p0 : Dice) (p1 : Hierarchy) (RES : Hierarchy × Dice) (hm : step_Dice_made p0 p1 = some RES) : Spec Tryz.prog 81 [rr 0, .p (.agg (encHierarchy p1))] [.box (pm (encDice p0))] (.p (.agg (encHierarchy RES.1))) [.box (pm (encDice RES.2))] [] := by
 unfold step_Dice_made at hm
 refine SO Tryz.func81 rfl rfl [(0, rr 0), (1, .p (.agg (encHierarchy p1)))] [(0, bx (pm (encDice p0)))] ?_
 intro cx hnt
 refine Sq (RD hnt (nn 2 []) [1] [(3, rr 1024), (4, rr 1032)] [] [(1024, bx (pm (encHierarchy p1))), (c50e1)] tv ?_)
 obtain ⟨r1, hr1, hm⟩ := bo hm
 refine Sq (RD hnt (nn 3 (o51 [0] true r1 :: .no :: [])) [] [(5, pI r1.1)] [] [(0, bx (pm (encDice r1.2)))] (an (Group_Dice_madeSpec p0 p1.tree r1 hr1) (an tv tv)) ?_)
 obtain ⟨r2, hr2, hm⟩ := bo hm
 refine Sq (Sq (RD hnt (.no :: o35 [0] true r2 :: []) [] [(17, pI r2.1)] [] [(0, bx (pm (encDice r2.2)))] (an (Next_Dice_madeSpec r1.2 5 r2 hr2) (an tv tv)) ?_))
 refine Jn (ι := Dice × Hierarchy) (fun (y1 : Dice × Hierarchy) => mkSt [(3, rr 1024), (4, rr 1032)] [(0, bx (pm (encDice y1.1))), (1024, bx (pm (encHierarchy y1.2))), (c50e1)]) (fun y1 => step_Dice_madeJ1 y1 = some RES) ?_ ?_
 ·intro y1 hm
  unfold step_Dice_madeJ1 at hm
  refine Sq (RD hnt (nn 2 []) [3] [] [1024] [(1032, bx (pm (encHierarchy y1.2)))] tv ?_)
  obtain rfl := sj hm
  exact DW.ret (retK [.box (pm (encDice y1.1))] [] (.p (.agg (encHierarchy y1.2))))
 ·refine Bk ?_
  refine Sq (Sq (RD hnt (nn 2 []) [] [(18, pB (r2.1 == 0))] [] [] tv ?_))
  refine Jn (ι := Bool) (fun (y2 : Bool) => mkSt [(0, rr 0), (3, rr 1024), (4, rr 1032), (5, pI r1.1), (17, pI r2.1), (18, pB y2)] [(0, bx (pm (encDice r2.2))), (1024, bx (pm (encHierarchy p1))), (c50e1)]) (fun y2 => (step_Dice_madeJ2 p1 r1 r2) y2 = some RES) ?_ ?_
  ·intro y2 hm
   unfold step_Dice_madeJ2 at hm
   refine condM hm ?_ ?_
   ·intro h4 hm
    obtain ⟨r5, hr5, hm⟩ := bo hm
    obtain ⟨r6, hr6, hm⟩ := bo hm
    refine Sq (RD hnt (nn 3 (o52 [0] true r5 :: o53 [] true r6 :: nn 6 [])) [0, 5, 17, 18] [(6, rr 1048), (7, pI r6.2)] [] [(0, bx (pm (encDice r5.2))), (1048, bx [ow 1208 r6.1.tree.nodes.length, pI r6.1.tree.next, ow 1209 r6.1.tasks.length, pI r6.1.next]), (1208, ob0 (roNode r6.1.tree.nodes)), (1209, ob0 (roTask r6.1.tasks))] (an (Controllers_Dice_madeSpec r2.2 r5 hr5) (an tv (an (Enable_ref8Spec p1 r1.1 r5.1 0 r6 hr6) tv))) ?_)
    refine Sq (RD hnt (nn 2 []) [7] [(30, pB (r6.2 == 0))] [] [] tv ?_)
    refine condM hm ?_ ?_
    ·intro h7 hm
     refine Sq (RD hnt (nn 2 []) [3, 6, 30] [] [1024, 1048] [(1032, bx [ow 1208 r6.1.tree.nodes.length, pI r6.1.tree.next, ow 1209 r6.1.tasks.length, pI r6.1.next])] tv ?_)
     obtain rfl := sj hm
     exact DW.ret (retK [.box (pm (encDice r5.2))] [] (.p (.agg (encHierarchy r6.1))))
    ·intro h7 hm
     refine Sk ?_
     exact bD (r5.2, p1) hm Conv.t0
   ·intro h4 hm
    refine Sq (RD hnt (nn 2 []) [18] [(32, pB (r2.1 == 2))] [] [] tv ?_)
    refine condM hm ?_ ?_
    ·intro h8 hm
     obtain ⟨r9, hr9, hm⟩ := bo hm
     refine Sq (RD hnt (nn 2 (o68 [] true r9 :: nn 6 [])) [0, 5, 17, 32] [(8, rr 1064), (9, pI r9.2)] [] [(1064, bx [ow 1296 r9.1.tree.nodes.length, pI r9.1.tree.next, ow 1297 r9.1.tasks.length, pI r9.1.next]), (1296, ob0 (roNode r9.1.tree.nodes)), (1297, ob0 (roTask r9.1.tasks))] (an (Convert_ref8Spec p1 r1.1 r9 hr9) tv) ?_)
     refine Sq (RD hnt (nn 2 []) [9] [(41, pB (r9.2 == 0))] [] [] tv ?_)
     refine condM hm ?_ ?_
     ·intro h10 hm
      refine Sq (RD hnt (nn 2 []) [3, 8, 41] [] [1024, 1064] [(1032, bx [ow 1296 r9.1.tree.nodes.length, pI r9.1.tree.next, ow 1297 r9.1.tasks.length, pI r9.1.next])] tv ?_)
      obtain rfl := sj hm
      exact DW.ret (retK [.box (pm (encDice r2.2))] [] (.p (.agg (encHierarchy r9.1))))
     ·intro h10 hm
      refine Sk ?_
      exact bD (r2.2, p1) hm Conv.t0
    ·intro h8 hm
     refine Sq (RD hnt (nn 2 []) [17, 32] [(43, pB (r2.1 == 3))] [] [] tv ?_)
     refine condM hm ?_ ?_
     ·intro h11 hm
      obtain ⟨r12, hr12, hm⟩ := bo hm
      refine Sq (RD hnt (nn 3 (o43 [] true r12 :: nn 6 [])) [43] [(10, rr 1080), (11, pB r12.2)] [] [(1080, bx (pm (encNode r12.1)))] (an (Find_ref5Spec p1.tree r1.1 r12 hr12) tv) ?_)
      refine Sq (DW.regJ (sl2 := [(0, rr 0), (3, rr 1024), (4, rr 1032), (10, rr 1080), (56, pB (r12.2 && (r1.1 != 1)))]) (ob2 := [(0, bx (pm (encDice r2.2))), (1024, bx (pm (encHierarchy p1))), (c50e1), (1080, bx (pm (encNode r12.1)))]) ?_ ?_)
      ·rcases bt r12.2 with h13 | h13
       ·exact RT hnt (nn 4 (pT :: [])) [(56, pB (r1.1 != 1))] (an3 h13 tv) (by kernel_rfl) (.cons rfl (.of_eq (by rw [h13]; try rfl)) .nil)
       ·exact RT hnt (nn 2 (sk 2 (pF :: []))) [(56, pB false)] (an3 h13 tv) (by kernel_rfl) (.cons rfl (.of_eq (by rw [h13]; try rfl)) .nil)
      ·refine condM hm ?_ ?_
       ·intro h14 hm
        obtain ⟨r15, hr15, hm⟩ := bo hm
        refine Sq (RD hnt (.no :: o35 [0] true r15 :: nn 2 []) [0, 56] [] [] [(0, bx (pm (encDice r15.2))), (1080, bx [pI r12.1.id, pI r12.1.parent, pS r12.1.name, pI r12.1.control, pI r12.1.kind, pI r15.1])] (an (Next_Dice_madeSpec r2.2 3 r15 hr15) (an tv tv)) ?_)
        obtain ⟨r16, hr16, hm⟩ := bo hm
        refine RD hnt (nn 3 (o67 [] true r16 :: nn 2 [])) [10] [] [1080] [(1024, bx [ow 1504 r16.nodes.length, pI r16.next, .p (slTask p1.tasks), pI p1.next]), (1504, ob0 (roNode r16.nodes))] (an (Set_ref5Spec p1.tree ({ id := r12.1.id, parent := r12.1.parent, name := r12.1.name, control := r12.1.control, kind := r12.1.kind, owner := r15.1 } : Node) r16 hr16) tv) ?_
        exact bD (r15.2, ({ tree := r16, tasks := p1.tasks, next := p1.next } : Hierarchy)) hm (Conv.frz [1504])
       ·intro h14 hm
        refine Sk ?_
        exact bD (r2.2, p1) hm Conv.t0
     ·intro h11 hm
      refine Sk ?_
      exact bD (r2.2, p1) hm Conv.t0
  ·refine condM hm ?_ ?_
   ·intro h3 hm
    refine Sk ?_
    exact jD (r2.1 == 0) hm Conv.eqK
   ·intro h3 hm
    refine RD hnt (nn 2 []) [] [(18, pB (r2.1 == 1))] [] [] tv ?_
    exact jD (r2.1 == 1) hm Conv.eqK
abbrev o50 (ks : List Nat) (b : Bool) (RES : Hierarchy × Dice) : Orc := .call 81 ks b (.p (.agg (encHierarchy RES.1))) [.box (pm (encDice RES.2))] []

theorem Admits_ref8Spec (p0 : Hierarchy) (p1 : Int) (RES : Int) (hm : Admits_ref8 p0 p1 = some RES) : Spec Tryz.prog 82 [.p (.agg (encHierarchy p0)), pI p1] [] (pI RES) [] [] := by
 unfold Admits_ref8 at hm
 refine SO Tryz.func82 rfl rfl [(0, .p (.agg (encHierarchy p0))), (1, pI p1)] [] ?_
 intro cx hnt
 refine Sq (RK hnt (nn 2 []) [(1, pI p1), (2, rr 1016)] [(1016, bx (pm (encHierarchy p0)))] tv ?_)
 obtain ⟨r1, hr1, hm⟩ := bo hm
 refine Sq (Sq (RD hnt (.no :: o54 [] true r1 :: .no :: []) [] [(9, pB (!r1))] [] [] (an (Fits_ref8Spec p0 r1 hr1) tv) ?_))
 refine condM hm ?_ ?_
 ·intro h2 hm
  refine Sq (RK hnt (.no :: []) [(4, pI 1)] [] tv ?_)
  obtain rfl := sj hm
  exact DW.ret (retK [] [] (pI 1))
 ·intro h2 hm
  refine Sk ?_
  obtain ⟨r3, hr3, hm⟩ := bo hm
  refine Sq (RD hnt (nn 3 (o43 [] true r3 :: nn 6 [])) [9] [(5, rr 1040), (6, pB r3.2)] [] [(1040, bx (pm (encNode r3.1)))] (an (Find_ref5Spec p0.tree p1 r3 hr3) tv) ?_)
  refine Sq (Bk ?_)
  refine Sq (RD hnt (nn 3 []) [6] [(17, pB (!r3.2))] [] [] tv ?_)
  refine condM hm ?_ ?_
  ·intro h4 hm
   refine Sq (RK hnt (.no :: []) [(4, pI 4)] [] tv ?_)
   obtain rfl := sj hm
   exact DW.ret (retK [] [] (pI 4))
  ·intro h4 hm
   obtain ⟨r5, hr5, hm⟩ := bo hm
   refine Sq (RD hnt (nn 3 (o63 [] true r5 :: nn 2 [])) [2, 17] [(20, pB (r5 == 3))] [1016] [] (an (Type_ref8Spec p0.tree p1 r5 hr5) tv) ?_)
   refine condM hm ?_ ?_
   ·intro h6 hm
    refine Sq (RK hnt (.no :: []) [(4, pI 10)] [] tv ?_)
    obtain rfl := sj hm
    exact DW.ret (retK [] [] (pI 10))
   ·intro h6 hm
    refine Sq (DW.regJ (sl2 := [(26, pB ((p1 != 1) && ((kand .i64 r3.1.control 6) != 0)))]) (ob2 := []) ?_ ?_)
    ·rcases bt (p1 != 1) with h7 | h7
     ·exact RT hnt (nn 7 (pT :: .no :: [])) [(26, pB ((kand .i64 r3.1.control 6) != 0))] (an5 h7 tv) (by kernel_rfl) (.cons rfl (.of_eq (by rw [h7]; try rfl)) .nil)
     ·exact RT hnt (nn 3 (sk 4 (pF :: .no :: []))) [(26, pB false)] (an5 h7 tv) (by kernel_rfl) (.cons rfl (.of_eq (by rw [h7]; try rfl)) .nil)
    ·refine condM hm ?_ ?_
     ·intro h8 hm
      refine Sq (RK hnt (.no :: []) [(4, pI 6)] [] tv ?_)
      obtain rfl := sj hm
      exact DW.ret (retK [] [] (pI 6))
     ·intro h8 hm
      refine Sk ?_
      refine DW.done ?_
      show DW _ _ _ _ _
      refine Sq (RK hnt (.no :: []) [(4, pI 0)] [] tv ?_)
      obtain rfl := sj hm
      exact DW.ret (retK [] [] (pI 0))
abbrev o69 (ks : List Nat) (b : Bool) (RES : Int) : Orc := .call 82 ks b (pI RES) [] []

abbrev c71e1 : Nat × Obj := (1032, bx [.p (.sl .nil 0 0 (fun _ => [])), pI 0, .p (.sl .nil 0 0 (fun _ => [])), pI 0])
abbrev c71e2 (r3 : Hierarchy) : Nat × Obj := (1056, bx [ow 1152 r3.tree.nodes.length, pI r3.tree.next, ow 1153 r3.tasks.length, pI r3.next])
theorem add_ref6Spec (p0 : Hierarchy) (p1 : Task) (RES : Hierarchy × Int × Int) (hm : add_ref6 p0 p1 = some RES) : Spec Tryz.prog 121 [.p (.agg (encHierarchy p0)), .p (.agg (encTask p1))] [] (.tup [.agg [ow 0 RES.1.tree.nodes.length, pI RES.1.tree.next, ow 1 RES.1.tasks.length, pI RES.1.next], pI RES.2.1, pI RES.2.2]) [] [roNode RES.1.tree.nodes, roTask RES.1.tasks] := by
 unfold add_ref6 at hm
 refine SO Tryz.func121 rfl rfl [(0, .p (.agg (encHierarchy p0))), (1, .p (.agg (encTask p1)))] [] ?_
 intro cx hnt
 refine Sq (RK hnt (nn 5 []) [(2, rr 1016), (3, rr 1024), (4, rr 1032)] [(1016, bx (pm (encHierarchy p0))), (1024, bx (pm (encTask p1))), (c71e1)] tv ?_)
 refine Sq (Sq (DW.regJ (sl2 := [(2, rr 1016), (3, rr 1024), (4, rr 1032), (16, pB ((decide (((p0.tasks.length : Nat) : Int) ≥ 128)) || (decide (p0.next > 2147483647))))]) (ob2 := [(1016, bx (pm (encHierarchy p0))), (1024, bx (pm (encTask p1))), (c71e1)]) ?_ ?_))
 ·rcases bt (decide (((p0.tasks.length : Nat) : Int) ≥ 128)) with h1 | h1
  ·exact RT hnt (nn 5 (sk 3 (pT :: []))) [(16, pB true)] (an4 h1 tv) (by kernel_rfl) (.cons rfl (.of_eq (by rw [h1]; try rfl)) .nil)
  ·exact RT hnt (nn 8 (pF :: [])) [(16, pB (decide (p0.next > 2147483647)))] (an4 h1 tv) (by kernel_rfl) (.cons rfl (.of_eq (by rw [h1]; try rfl)) .nil)
 ·refine condM hm ?_ ?_
  ·intro h2 hm
   refine Sq (RD hnt (nn 4 []) [2, 3, 16] [(5, pI 0), (6, pI 7)] [1016, 1024] [] tv ?_)
   refine DW.cv [] [] [] [(1032, bx [ow 100000 0, pI 0, ow 100001 0, pI 0]), (100000, ob0 (roNode [])), (100001, ob0 (roTask []))] (Conv.ads [(.o 1032 0, 100000, 6, elems encNode dNode []), (.o 1032 2, 100001, 4, elems encTask dTask [])]) ?_
   obtain rfl := sj hm
   exact DW.ret (retK [roNode [], roTask []] [100000, 100001] (.tup [.agg [ow 0 0, pI 0, ow 1 0, pI 0], pI 0, pI 7]))
  ·intro h2 hm
   refine Sk ?_
   obtain ⟨r3, hr3, hm⟩ := bo hm
   refine Sq (RD hnt (.no :: o66 [] true r3 :: nn 2 []) [16] [(7, rr 1056)] [] [(c71e2 r3), (1152, ob0 (roNode r3.tree.nodes)), (1153, ob0 (roTask r3.tasks))] (an (Copy_ref6Spec p0 r3 hr3) tv) ?_)
   refine Sq (RD hnt (nn 4 []) [2] [] [1016] [(1024, bx [pI p0.next, pI p1.process, pI p1.group, pI p1.user])] tv ?_)
   refine Sq (Sq (RD hnt (nn 3 []) [] [(25, pB (p1.process == 0))] [] [] tv ?_))
   refine Jn (ι := Task) (fun (y1 : Task) => mkSt [(3, rr 1024), (4, rr 1032), (7, rr 1056)] [(1024, bx (pm (encTask y1))), (c71e1), (c71e2 r3), (1152, ob0 (roNode r3.tree.nodes)), (1153, ob0 (roTask r3.tasks))]) (fun y1 => (add_ref6J1 r3) y1 = some RES) ?_ ?_
   ·intro y1 hm
    unfold add_ref6J1 at hm
    obtain ⟨g5, hm⟩ := go1 hm
    refine Sq (RN hnt (nn 7 []) [(3, rr 1024), (4, rr 1032), (7, rr 1056)] [(1024, bx (pm (encTask y1))), (c71e1), (1056, bx [ow 1152 r3.tree.nodes.length, pI r3.tree.next, ow 1153 (r3.tasks ++ [y1]).length, pI r3.next]), (1152, ob0 (roNode r3.tree.nodes)), (1153, ob0 (roTask (r3.tasks ++ [y1])))] [] [(1056, .box [ow 1152 r3.tree.nodes.length, pI r3.tree.next, ow 1153 (r3.tasks.length + 1), pI r3.next]), (1153, .row 4 (r3.tasks.length + 1) (catF r3.tasks.length (elTask r3.tasks) (cut 4 [vi y1.id, vi y1.process, vi y1.group, vi y1.user])))] (an (by omega : (r3.tasks.length + 1) * 32 ≤ 140737488355328) tv) (by kernel_rfl) .nil (.cons rfl (.box (.cons .rfl (.cons .rfl (.cons (MLe.ownLen (enc := encTask) (d := dTask) (f := (catF r3.tasks.length (elTask r3.tasks) (cut 4 [vi y1.id, vi y1.process, vi y1.group, vi y1.user]))) (RowIs.cat RowIs.elems (RowIs.lit (enc := encTask) (d := dTask) (n := 1) (f := (cut 4 [vi y1.id, vi y1.process, vi y1.group, vi y1.user])) [y1] rfl (fun | 0, _ => rfl | n + 1, h => absurd h (by omega))))) (.cons .rfl .nil))))) (.cons rfl (BLe.typed (RowIs.cat RowIs.elems (RowIs.lit (enc := encTask) (d := dTask) (n := 1) (f := (cut 4 [vi y1.id, vi y1.process, vi y1.group, vi y1.user])) [y1] rfl (fun | 0, _ => rfl | n + 1, h => absurd h (by omega))))) .nil)) ?_)
    refine Sq (RD hnt (nn 5 []) [] [] [] [(1056, bx [ow 1152 r3.tree.nodes.length, pI r3.tree.next, ow 1153 (r3.tasks ++ [y1]).length, pI (w64 (r3.next + 1))])] tv ?_)
    refine Sq (RD hnt (nn 6 []) [3, 7] [(5, pI y1.id), (6, pI 0)] [1024, 1056] [(1032, bx [ow 1152 r3.tree.nodes.length, pI r3.tree.next, ow 1153 (r3.tasks ++ [y1]).length, pI (w64 (r3.next + 1))])] tv ?_)
    obtain rfl := sj hm
    exact DW.ret (retK [roNode r3.tree.nodes, roTask (r3.tasks ++ [y1])] [1152, 1153] (.tup [.agg [ow 0 r3.tree.nodes.length, pI r3.tree.next, ow 1 (r3.tasks ++ [y1]).length, pI (w64 (r3.next + 1))], pI y1.id, pI 0]))
   ·refine condM hm ?_ ?_
    ·intro h4 hm
     refine RD hnt (nn 4 []) [25] [] [] [(1024, bx [pI p0.next, pI p0.next, pI p1.group, pI p1.user])] tv ?_
     exact jD ({ id := p0.next, process := p0.next, group := p1.group, user := p1.user } : Task) hm Conv.eqK
    ·intro h4 hm
     refine Sk ?_
     exact jD ({ id := p0.next, process := p1.process, group := p1.group, user := p1.user } : Task) hm Conv.t0
abbrev o71 (ks : List Nat) (b : Bool) (RES : Hierarchy × Int × Int) : Orc := .call 121 ks b (.tup [.agg [ow 0 RES.1.tree.nodes.length, pI RES.1.tree.next, ow 1 RES.1.tasks.length, pI RES.1.next], pI RES.2.1, pI RES.2.2]) [] [roNode RES.1.tree.nodes, roTask RES.1.tasks]

abbrev c70e1 : Nat × Obj := (1048, bx [.p (.sl .nil 0 0 (fun _ => [])), pI 0, .p (.sl .nil 0 0 (fun _ => [])), pI 0])
theorem Spawn_ref6Spec (p0 : Hierarchy) (p1 : Int) (p2 : Int) (RES : Hierarchy × Int × Int) (hm : Spawn_ref6 p0 p1 p2 = some RES) : Spec Tryz.prog 66 [.p (.agg (encHierarchy p0)), pI p1, pI p2] [] (.tup [.agg [ow 0 RES.1.tree.nodes.length, pI RES.1.tree.next, ow 1 RES.1.tasks.length, pI RES.1.next], pI RES.2.1, pI RES.2.2]) [] [roNode RES.1.tree.nodes, roTask RES.1.tasks] := by
 unfold Spawn_ref6 at hm
 refine SO Tryz.func66 rfl rfl [(0, .p (.agg (encHierarchy p0))), (1, pI p1), (2, pI p2)] [] ?_
 intro cx hnt
 refine Sq (RD hnt (nn 4 []) [0] [(3, rr 1024), (6, rr 1048)] [] [(1024, bx (pm (encHierarchy p0))), (c70e1)] tv ?_)
 obtain ⟨r1, hr1, hm⟩ := bo hm
 refine Sq (Sq ?_)
 refine Jn (ι := Bool) (fun (y1 : Bool) => mkSt [(1, pI p1), (2, pI p2), (3, rr 1024), (6, rr 1048), (19, pB y1)] [(1024, bx (pm (encHierarchy p0))), (c70e1)]) (fun y1 => (Spawn_ref6J1 p0 p1 p2) y1 = some RES) ?_ ?_
 ·intro y1 hm
  unfold Spawn_ref6J1 at hm
  refine condM hm ?_ ?_
  ·intro h4 hm
   refine Sq (RD hnt (nn 4 []) [1, 2, 3, 19] [(7, pI 0), (8, pI 1)] [1024] [] tv ?_)
   refine DW.cv [] [] [] [(1048, bx [ow 100000 0, pI 0, ow 100001 0, pI 0]), (100000, ob0 (roNode [])), (100001, ob0 (roTask []))] (Conv.ads [(.o 1048 0, 100000, 6, elems encNode dNode []), (.o 1048 2, 100001, 4, elems encTask dTask [])]) ?_
   obtain rfl := sj hm
   exact DW.ret (retK [roNode [], roTask []] [100000, 100001] (.tup [.agg [ow 0 0, pI 0, ow 1 0, pI 0], pI 0, pI 1]))
  ·intro h4 hm
   refine Sk ?_
   obtain ⟨r5, hr5, hm⟩ := bo hm
   refine Sq (Sq (RD hnt (nn 3 (o42 [] true r5 :: .no :: [])) [19] [(25, pB (!r5))] [] [] (an (Has_ref5Spec p0.tree p1 r5 hr5) tv) ?_))
   refine condM hm ?_ ?_
   ·intro h6 hm
    refine Sq (RD hnt (nn 4 []) [1, 2, 3, 25] [(7, pI 0), (8, pI 4)] [1024] [] tv ?_)
    refine DW.cv [] [] [] [(1048, bx [ow 100000 0, pI 0, ow 100001 0, pI 0]), (100000, ob0 (roNode [])), (100001, ob0 (roTask []))] (Conv.ads [(.o 1048 0, 100000, 6, elems encNode dNode []), (.o 1048 2, 100001, 4, elems encTask dTask [])]) ?_
    obtain rfl := sj hm
    exact DW.ret (retK [roNode [], roTask []] [100000, 100001] (.tup [.agg [ow 0 0, pI 0, ow 1 0, pI 0], pI 0, pI 4]))
   ·intro h6 hm
    refine Sk ?_
    obtain ⟨r7, hr7, hm⟩ := bo hm
    refine Sq (RK hnt (nn 4 (o71 [] true r7 :: nn 6 [])) [(6, rr 1048), (7, pI r7.2.1), (8, pI r7.2.2)] [(1048, bx [ow 1248 r7.1.tree.nodes.length, pI r7.1.tree.next, ow 1249 r7.1.tasks.length, pI r7.1.next]), (1248, ob0 (roNode r7.1.tree.nodes)), (1249, ob0 (roTask r7.1.tasks))] (an (add_ref6Spec p0 ({ id := 0, process := 0, group := p1, user := p2 } : Task) r7 hr7) tv) ?_)
    obtain rfl := sj hm
    exact DW.ret (retK [roNode r7.1.tree.nodes, roTask r7.1.tasks] [1248, 1249] (.tup [.agg [ow 0 r7.1.tree.nodes.length, pI r7.1.tree.next, ow 1 r7.1.tasks.length, pI r7.1.next], pI r7.2.1, pI r7.2.2]))
 ·rcases bt (!r1) with h2 | h2
  ·replace hm := if_t h2 hm
   refine RD hnt (.no :: o56 [] true r1 :: nn 2 (sk 2 (pT :: .no :: sk 2 (pT :: [])))) [] [(19, pB true)] [] [] (an (Check_ref6Spec p0 r1 hr1) (an3 h2 (an3 tt tv))) ?_
   exact jD true hm Conv.eqK
  ·replace hm := if_f h2 hm
   rcases bt (decide (p2 < 0)) with h3 | h3
   ·replace hm := if_t h3 hm
    refine RD hnt (.no :: o56 [] true r1 :: nn 4 (pF :: .no :: sk 2 (pT :: []))) [] [(19, pB true)] [] [] (an (Check_ref6Spec p0 r1 hr1) (an3 h2 (an3 h3 tv))) ?_
    exact jD true hm Conv.eqK
   ·replace hm := if_f h3 hm
    refine RD hnt (.no :: o56 [] true r1 :: nn 4 (pF :: nn 3 (pF :: []))) [] [(19, pB (decide (p2 > 1048576)))] [] [] (an (Check_ref6Spec p0 r1 hr1) (an3 h2 (an3 h3 tv))) ?_
    exact jD (decide (p2 > 1048576)) hm Conv.eqK
abbrev o70 (ks : List Nat) (b : Bool) (RES : Hierarchy × Int × Int) : Orc := .call 66 ks b (.tup [.agg [ow 0 RES.1.tree.nodes.length, pI RES.1.tree.next, ow 1 RES.1.tasks.length, pI RES.1.next], pI RES.2.1, pI RES.2.2]) [] [roNode RES.1.tree.nodes, roTask RES.1.tasks]

theorem Task_Dice_madeSpec (p0 : Dice) (p1 : Hierarchy) (RES : Int × Dice) (hm : Task_Dice_made p0 p1 = some RES) : Spec Tryz.prog 47 [rr 0, .p (.agg (encHierarchy p1))] [.box (pm (encDice p0))] (pI RES.1) [.box (pm (encDice RES.2))] [] := by
 unfold Task_Dice_made at hm
 refine SO Tryz.func47 rfl rfl [(0, rr 0), (1, .p (.agg (encHierarchy p1)))] [(0, bx (pm (encDice p0)))] ?_
 intro cx hnt
 refine Sq (RD hnt (nn 2 []) [1] [(3, rr 1024)] [] [(1024, bx (pm (encHierarchy p1)))] tv ?_)
 obtain ⟨r1, hr1, hm⟩ := bo hm
 refine Sq (Sq ?_)
 refine Jn (ι := Bool) (fun (y1 : Bool) => mkSt [(0, rr 0), (3, rr 1024), (12, pB y1)] [(0, bx (pm (encDice r1.2))), (1024, bx (pm (encHierarchy p1)))]) (fun y1 => (Task_Dice_madeJ1 p1 r1) y1 = some RES) ?_ ?_
 ·intro y1 hm
  unfold Task_Dice_madeJ1 at hm
  refine condM hm ?_ ?_
  ·intro h3 hm
   obtain ⟨r4, hr4, hm⟩ := bo hm
   refine Sq (RK hnt (.no :: o35 [0] true r4 :: nn 2 []) [(4, pI (w64 (r4.1 - 1)))] [(0, bx (pm (encDice r4.2)))] (an (Next_Dice_madeSpec r1.2 9 r4 hr4) (an tv tv)) ?_)
   obtain rfl := sj hm
   exact DW.ret (retK [.box (pm (encDice r4.2))] [] (pI (w64 (r4.1 - 1))))
  ·intro h3 hm
   refine Sk ?_
   obtain ⟨r5, hr5, hm⟩ := bo hm
   obtain ⟨g6, hm⟩ := go1 hm
   refine Sq (RK hnt (nn 6 (o35 [0] true r5 :: nn 4 [])) [(4, pI (p1.tasks.getD (Int.toNat r5.1) dTask).id)] [(0, bx (pm (encDice r5.2)))] (an (Next_Dice_madeSpec r1.2 ((p1.tasks.length : Nat) : Int) r5 hr5) (an tv (an g6.1 (an g6.2 tv)))) ?_)
   obtain rfl := sj hm
   exact DW.ret (retK [.box (pm (encDice r5.2))] [] (pI (p1.tasks.getD (Int.toNat r5.1) dTask).id))
 ·rcases bt r1.1 with h2 | h2
  ·replace hm := if_t h2 hm
   refine RD hnt (.no :: o47 [0] true r1 :: .no :: sk 4 (pT :: [])) [] [(12, pB true)] [] [(0, bx (pm (encDice r1.2)))] (an (Bool_Dice_madeSpec p0 15 r1 hr1) (an tv (an5 h2 tv))) ?_
   exact jD true hm Conv.eqK
  ·replace hm := if_f h2 hm
   refine RD hnt (.no :: o47 [0] true r1 :: nn 5 (pF :: [])) [] [(12, pB (((p1.tasks.length : Nat) : Int) == 0))] [] [(0, bx (pm (encDice r1.2)))] (an (Bool_Dice_madeSpec p0 15 r1 hr1) (an tv (an5 h2 tv))) ?_
   exact jD (((p1.tasks.length : Nat) : Int) == 0) hm Conv.eqK
abbrev o72 (ks : List Nat) (b : Bool) (RES : Int × Dice) : Orc := .call 47 ks b (pI RES.1) [.box (pm (encDice RES.2))] []

theorem Clone_ref6Spec (p0 : Hierarchy) (p1 : Int) (RES : Hierarchy × Int × Int) (hm : Clone_ref6 p0 p1 = some RES) : Spec Tryz.prog 67 [.p (.agg (encHierarchy p0)), pI p1] [] (.tup [.agg [ow 0 RES.1.tree.nodes.length, pI RES.1.tree.next, ow 1 RES.1.tasks.length, pI RES.1.next], pI RES.2.1, pI RES.2.2]) [] [roNode RES.1.tree.nodes, roTask RES.1.tasks] := by
 unfold Clone_ref6 at hm
 refine SO Tryz.func67 rfl rfl [(0, .p (.agg (encHierarchy p0))), (1, pI p1)] [] ?_
 intro cx hnt
 refine Sq (RK hnt (nn 4 []) [(1, pI p1), (2, rr 1016), (4, rr 1032)] [(1016, bx (pm (encHierarchy p0))), (1032, bx [.p (.sl .nil 0 0 (fun _ => [])), pI 0, .p (.sl .nil 0 0 (fun _ => [])), pI 0])] tv ?_)
 obtain ⟨r1, hr1, hm⟩ := bo hm
 refine Sq (Sq (RD hnt (.no :: o56 [] true r1 :: .no :: []) [] [(11, pB (!r1))] [] [] (an (Check_ref6Spec p0 r1 hr1) tv) ?_))
 refine condM hm ?_ ?_
 ·intro h2 hm
  refine Sq (RD hnt (nn 4 []) [1, 2, 11] [(5, pI 0), (6, pI 1)] [1016] [] tv ?_)
  refine DW.cv [] [] [] [(1032, bx [ow 100000 0, pI 0, ow 100001 0, pI 0]), (100000, ob0 (roNode [])), (100001, ob0 (roTask []))] (Conv.ads [(.o 1032 0, 100000, 6, elems encNode dNode []), (.o 1032 2, 100001, 4, elems encTask dTask [])]) ?_
  obtain rfl := sj hm
  exact DW.ret (retK [roNode [], roTask []] [100000, 100001] (.tup [.agg [ow 0 0, pI 0, ow 1 0, pI 0], pI 0, pI 1]))
 ·intro h2 hm
  refine Sk ?_
  obtain ⟨r3, hr3, hm⟩ := bo hm
  refine Sq (RD hnt (nn 2 (o61 [] true r3 :: nn 6 [])) [1, 11] [(7, rr 1056), (8, pB r3.2)] [] [(1056, bx (pm (encTask r3.1)))] (an (Find_ref6Spec p0 p1 r3 hr3) tv) ?_)
  refine Sq (Sq (RD hnt (nn 2 []) [8] [(20, pB (!r3.2))] [] [] tv ?_))
  refine condM hm ?_ ?_
  ·intro h4 hm
   refine Sq (RD hnt (nn 4 []) [2, 7, 20] [(5, pI 0), (6, pI 4)] [1016, 1056] [] tv ?_)
   refine DW.cv [] [] [] [(1032, bx [ow 100000 0, pI 0, ow 100001 0, pI 0]), (100000, ob0 (roNode [])), (100001, ob0 (roTask []))] (Conv.ads [(.o 1032 0, 100000, 6, elems encNode dNode []), (.o 1032 2, 100001, 4, elems encTask dTask [])]) ?_
   obtain rfl := sj hm
   exact DW.ret (retK [roNode [], roTask []] [100000, 100001] (.tup [.agg [ow 0 0, pI 0, ow 1 0, pI 0], pI 0, pI 4]))
  ·intro h4 hm
   refine Sk ?_
   obtain ⟨r5, hr5, hm⟩ := bo hm
   refine Sq (RK hnt (nn 2 (o71 [] true r5 :: nn 6 [])) [(4, rr 1032), (5, pI r5.2.1), (6, pI r5.2.2)] [(1032, bx [ow 1192 r5.1.tree.nodes.length, pI r5.1.tree.next, ow 1193 r5.1.tasks.length, pI r5.1.next]), (1192, ob0 (roNode r5.1.tree.nodes)), (1193, ob0 (roTask r5.1.tasks))] (an (add_ref6Spec p0 r3.1 r5 hr5) tv) ?_)
   obtain rfl := sj hm
   exact DW.ret (retK [roNode r5.1.tree.nodes, roTask r5.1.tasks] [1192, 1193] (.tup [.agg [ow 0 r5.1.tree.nodes.length, pI r5.1.tree.next, ow 1 r5.1.tasks.length, pI r5.1.next], pI r5.2.1, pI r5.2.2]))
abbrev o73 (ks : List Nat) (b : Bool) (RES : Hierarchy × Int × Int) : Orc := .call 67 ks b (.tup [.agg [ow 0 RES.1.tree.nodes.length, pI RES.1.tree.next, ow 1 RES.1.tasks.length, pI RES.1.next], pI RES.2.1, pI RES.2.2]) [] [roNode RES.1.tree.nodes, roTask RES.1.tasks]

abbrev c75e1 (s1 : (List Task) × Int) (p2 : Int) := ({ id := (s1.1.getD (Int.toNat s1.2) dTask).id, process := (s1.1.getD (Int.toNat s1.2) dTask).process, group := p2, user := (s1.1.getD (Int.toNat s1.2) dTask).user } : Task)
abbrev c75e2 : Nat × Obj := (1048, bx [.p (.sl .nil 0 0 (fun _ => [])), pI 0, .p (.sl .nil 0 0 (fun _ => [])), pI 0])
abbrev c75e3 (s1 : (List Task) × Int) (p2 : Int) := (updF (elTask s1.1) (Int.toNat s1.2) [vi (s1.1.getD (Int.toNat s1.2) dTask).id, vi (s1.1.getD (Int.toNat s1.2) dTask).process, vi p2, vi (s1.1.getD (Int.toNat s1.2) dTask).user])
theorem Place_ref6Spec (p0 : Hierarchy) (p1 : Int) (p2 : Int) (RES : Hierarchy × Int) (hm : Place_ref6 p0 p1 p2 = some RES) : Spec Tryz.prog 70 [.p (.agg (encHierarchy p0)), pI p1, pI p2] [] (.tup [.agg [ow 0 RES.1.tree.nodes.length, pI RES.1.tree.next, ow 1 RES.1.tasks.length, pI RES.1.next], pI RES.2]) [] [roNode RES.1.tree.nodes, roTask RES.1.tasks] := by
 unfold Place_ref6 at hm
 refine SO Tryz.func70 rfl rfl [(0, .p (.agg (encHierarchy p0))), (1, pI p1), (2, pI p2)] [] ?_
 intro cx hnt
 refine Sq (RD hnt (nn 3 []) [0] [(3, rr 1024), (6, rr 1048)] [] [(1024, bx (pm (encHierarchy p0))), (c75e2)] tv ?_)
 obtain ⟨r1, hr1, hm⟩ := bo hm
 refine Sq (Sq (RD hnt (.no :: o56 [] true r1 :: .no :: []) [] [(14, pB (!r1))] [] [] (an (Check_ref6Spec p0 r1 hr1) tv) ?_))
 refine condM hm ?_ ?_
 ·intro h2 hm
  refine Sq (RD hnt (nn 3 []) [1, 2, 3, 14] [(7, pI 1)] [1024] [] tv ?_)
  refine DW.cv [] [] [] [(1048, bx [ow 100000 0, pI 0, ow 100001 0, pI 0]), (100000, ob0 (roNode [])), (100001, ob0 (roTask []))] (Conv.ads [(.o 1048 0, 100000, 6, elems encNode dNode []), (.o 1048 2, 100001, 4, elems encTask dTask [])]) ?_
  obtain rfl := sj hm
  exact DW.ret (retK [roNode [], roTask []] [100000, 100001] (.tup [.agg [ow 0 0, pI 0, ow 1 0, pI 0], pI 1]))
 ·intro h2 hm
  refine Sk ?_
  obtain ⟨r3, hr3, hm⟩ := bo hm
  refine Sq (Sq (RD hnt (nn 2 (o61 [] true r3 :: nn 6 [])) [14] [(9, pB r3.2)] [] [] (an (Find_ref6Spec p0 p1 r3 hr3) tv) ?_))
  refine Sq ?_
  refine Jn (ι := Bool) (fun (y1 : Bool) => mkSt [(1, pI p1), (2, pI p2), (3, rr 1024), (6, rr 1048), (30, pB y1)] [(1024, bx (pm (encHierarchy p0))), (c75e2)]) (fun y1 => (Place_ref6J1 p0 p1 p2) y1 = some RES) ?_ ?_
  ·intro y1 hm
   unfold Place_ref6J1 at hm
   refine condM hm ?_ ?_
   ·intro h6 hm
    refine Sq (RD hnt (nn 3 []) [1, 2, 3, 30] [(7, pI 4)] [1024] [] tv ?_)
    refine DW.cv [] [] [] [(1048, bx [ow 100000 0, pI 0, ow 100001 0, pI 0]), (100000, ob0 (roNode [])), (100001, ob0 (roTask []))] (Conv.ads [(.o 1048 0, 100000, 6, elems encNode dNode []), (.o 1048 2, 100001, 4, elems encTask dTask [])]) ?_
    obtain rfl := sj hm
    exact DW.ret (retK [roNode [], roTask []] [100000, 100001] (.tup [.agg [ow 0 0, pI 0, ow 1 0, pI 0], pI 4]))
   ·intro h6 hm
    refine Sk ?_
    obtain ⟨r7, hr7, hm⟩ := bo hm
    refine Sq (RD hnt (.no :: o66 [] true r7 :: nn 2 []) [3, 30] [(10, rr 1080)] [1024] [(1080, bx [ow 1264 r7.tree.nodes.length, pI r7.tree.next, ow 1265 r7.tasks.length, pI r7.next]), (1264, ob0 (roNode r7.tree.nodes)), (1265, ob0 (roTask r7.tasks))] (an (Copy_ref6Spec p0 r7 hr7) tv) ?_)
    refine Sq (Sq (RD hnt (.no :: []) [] [(11, pI 0)] [] [] tv ?_))
    refine Bk ?_
    refine DW.whileO (fun (s1 : (List Task) × Int) => mkSt [(1, pI p1), (2, pI p2), (6, rr 1048), (10, rr 1080), (11, pI s1.2)] [(c75e2), (1080, bx [ow 1264 r7.tree.nodes.length, pI r7.tree.next, ow 1265 s1.1.length, pI r7.next]), (1264, ob0 (roNode r7.tree.nodes)), (1265, ob0 (roTask s1.1))]) hm Conv.eqK ?_
    intro s1 n1 hm
    unfold Place_ref6L1 at hm
    refine Sq (Sq (RD hnt (nn 5 []) [] [(38, pB (decide (s1.2 < ((s1.1.length : Nat) : Int))))] [] [] tv ?_))
    refine condM hm ?_ ?_
    ·intro h14 hm
     refine Sk ?_
     refine Sq ?_
     refine Jn (ι := List Task) (fun (y3 : List Task) => mkSt [(1, pI p1), (2, pI p2), (6, rr 1048), (10, rr 1080), (11, pI s1.2)] [(c75e2), (1080, bx [ow 1264 r7.tree.nodes.length, pI r7.tree.next, ow 1265 y3.length, pI r7.next]), (1264, ob0 (roNode r7.tree.nodes)), (1265, ob0 (roTask y3))]) (fun y3 => (Place_ref6J3 s1 n1) y3 = some RES) ?_ ?_
     ·intro y3 hm
      unfold Place_ref6J3 at hm
      refine RD hnt (nn 3 []) [] [(11, pI (w64 (s1.2 + 1)))] [] [] tv ?_
      exact jD (y3, (w64 (s1.2 + 1))) hm Conv.eqK
     ·refine Bk ?_
      obtain ⟨g15, g16, hm⟩ := go2 hm
      refine Sq (RD hnt (nn 8 []) [38] [(48, pB ((s1.1.getD (Int.toNat s1.2) dTask).id == p1))] [] [] (an g15.1 (an g15.2 (an g16 tv))) ?_)
      refine condM hm ?_ ?_
      ·intro h17 hm
       obtain ⟨g18, g19, hm⟩ := go2 hm
       refine RN hnt (nn 7 []) [(1, pI p1), (2, pI p2), (6, rr 1048), (10, rr 1080), (11, pI s1.2)] [(c75e2), (1080, bx [ow 1264 r7.tree.nodes.length, pI r7.tree.next, ow 1265 (s1.1.set (Int.toNat s1.2) (c75e1 s1 p2)).length, pI r7.next]), (1264, ob0 (roNode r7.tree.nodes)), (1265, ob0 (roTask (s1.1.set (Int.toNat s1.2) (c75e1 s1 p2))))] [] [(1080, .box [ow 1264 r7.tree.nodes.length, pI r7.tree.next, ow 1265 s1.1.length, pI r7.next]), (1265, .row 4 s1.1.length (c75e3 s1 p2))] (an g18.1 (an g18.2 (an g19 tv))) (by kernel_rfl) .nil (.cons rfl (.box (.cons .rfl (.cons .rfl (.cons (MLe.ownLen (enc := encTask) (d := dTask) (f := (c75e3 s1 p2)) (RowIs.upd RowIs.elems (c75e1 s1 p2) rfl)) (.cons .rfl .nil))))) (.cons rfl (BLe.typed (RowIs.upd RowIs.elems (c75e1 s1 p2) rfl)) .nil)) ?_
       exact bD (s1.1.set (Int.toNat s1.2) (c75e1 s1 p2)) hm .refl
      ·intro h17 hm
       refine Sk ?_
       exact bD s1.1 hm Conv.t0
    ·intro h14 hm
     refine DW.exit ?_
     refine joinQ_exit ?_
     refine KQ_exit ?_
     refine blockQ_exit ?_
     show DW _ _ _ _ _
     refine Sq (RD hnt (nn 3 []) [1, 2, 10, 11, 38] [(7, pI 0)] [1080] [(1048, bx [ow 1264 r7.tree.nodes.length, pI r7.tree.next, ow 1265 s1.1.length, pI r7.next])] tv ?_)
     obtain rfl := sj hm
     exact DW.ret (retK [roNode r7.tree.nodes, roTask s1.1] [1264, 1265] (.tup [.agg [ow 0 r7.tree.nodes.length, pI r7.tree.next, ow 1 s1.1.length, pI r7.next], pI 0]))
  ·rcases bt (!r3.2) with h4 | h4
   ·replace hm := if_t h4 hm
    refine RD hnt (nn 3 (sk 5 (pT :: []))) [9] [(30, pB true)] [] [] (an6 h4 tv) ?_
    exact jD true hm Conv.eqK
   ·replace hm := if_f h4 hm
    obtain ⟨r5, hr5, hm⟩ := bo hm
    refine RD hnt (nn 6 (o42 [] true r5 :: .no :: pF :: [])) [9] [(30, pB (!r5))] [] [] (an4 h4 (an (Has_ref5Spec p0.tree p2 r5 hr5) (an2 h4 tv))) ?_
    exact jD (!r5) hm Conv.eqK
abbrev o75 (ks : List Nat) (b : Bool) (RES : Hierarchy × Int) : Orc := .call 70 ks b (.tup [.agg [ow 0 RES.1.tree.nodes.length, pI RES.1.tree.next, ow 1 RES.1.tasks.length, pI RES.1.next], pI RES.2]) [] [roNode RES.1.tree.nodes, roTask RES.1.tasks]

abbrev c74e1 : Nat × Obj := (1048, bx [ow 100000 0, pI 0, ow 100001 0, pI 0])
abbrev c74e2 : Nat × Obj := (1048, bx [.p (.sl .nil 0 0 (fun _ => [])), pI 0, .p (.sl .nil 0 0 (fun _ => [])), pI 0])
theorem AttachThread_ref8Spec (p0 : Hierarchy) (p1 : Int) (p2 : Int) (RES : Hierarchy × Int) (hm : AttachThread_ref8 p0 p1 p2 = some RES) : Spec Tryz.prog 83 [.p (.agg (encHierarchy p0)), pI p1, pI p2] [] (.tup [.agg [ow 0 RES.1.tree.nodes.length, pI RES.1.tree.next, ow 1 RES.1.tasks.length, pI RES.1.next], pI RES.2]) [] [roNode RES.1.tree.nodes, roTask RES.1.tasks] := by
 unfold AttachThread_ref8 at hm
 refine SO Tryz.func83 rfl rfl [(0, .p (.agg (encHierarchy p0))), (1, pI p1), (2, pI p2)] [] ?_
 intro cx hnt
 refine Sq (RD hnt (nn 3 []) [0] [(3, rr 1024), (6, rr 1048)] [] [(1024, bx (pm (encHierarchy p0))), (c74e2)] tv ?_)
 obtain ⟨r1, hr1, hm⟩ := bo hm
 refine Sq (Sq (RD hnt (.no :: o54 [] true r1 :: .no :: []) [] [(17, pB (!r1))] [] [] (an (Fits_ref8Spec p0 r1 hr1) tv) ?_))
 refine condM hm ?_ ?_
 ·intro h2 hm
  refine Sq (RD hnt (nn 3 []) [1, 2, 3, 17] [(7, pI 1)] [1024] [] tv ?_)
  refine DW.cv [] [] [] [(c74e1), (100000, ob0 (roNode [])), (100001, ob0 (roTask []))] (Conv.ads [(.o 1048 0, 100000, 6, elems encNode dNode []), (.o 1048 2, 100001, 4, elems encTask dTask [])]) ?_
  obtain rfl := sj hm
  exact DW.ret (retK [roNode [], roTask []] [100000, 100001] (.tup [.agg [ow 0 0, pI 0, ow 1 0, pI 0], pI 1]))
 ·intro h2 hm
  refine Sk ?_
  obtain ⟨r3, hr3, hm⟩ := bo hm
  refine Sq (RD hnt (nn 2 (o61 [] true r3 :: nn 6 [])) [17] [(8, rr 1064), (9, pB r3.2)] [] [(1064, bx (pm (encTask r3.1)))] (an (Find_ref6Spec p0 p1 r3 hr3) tv) ?_)
  refine Sq (Sq ?_)
  refine Jn (ι := Bool) (fun (y1 : Bool) => mkSt [(1, pI p1), (2, pI p2), (3, rr 1024), (6, rr 1048), (8, rr 1064), (33, pB y1)] [(1024, bx (pm (encHierarchy p0))), (c74e2), (1064, bx (pm (encTask r3.1)))]) (fun y1 => (AttachThread_ref8J1 p0 p1 p2 r3) y1 = some RES) ?_ ?_
  ·intro y1 hm
   unfold AttachThread_ref8J1 at hm
   refine condM hm ?_ ?_
   ·intro h6 hm
    refine Sq (RD hnt (nn 3 []) [1, 2, 3, 8, 33] [(7, pI 4)] [1024, 1064] [] tv ?_)
    refine DW.cv [] [] [] [(c74e1), (100000, ob0 (roNode [])), (100001, ob0 (roTask []))] (Conv.ads [(.o 1048 0, 100000, 6, elems encNode dNode []), (.o 1048 2, 100001, 4, elems encTask dTask [])]) ?_
    obtain rfl := sj hm
    exact DW.ret (retK [roNode [], roTask []] [100000, 100001] (.tup [.agg [ow 0 0, pI 0, ow 1 0, pI 0], pI 4]))
   ·intro h6 hm
    refine Sk ?_
    obtain ⟨r7, hr7, hm⟩ := bo hm
    refine Sq (Sq (RD hnt (nn 2 (o69 [] true r7 :: .no :: [])) [33] [(10, pI r7)] [] [] (an (Admits_ref8Spec p0 p2 r7 hr7) tv) ?_))
    refine Sq (RD hnt (nn 2 []) [] [(39, pB (r7 != 0))] [] [] tv ?_)
    refine condM hm ?_ ?_
    ·intro h8 hm
     refine Sq (RD hnt (nn 4 []) [1, 2, 3, 8, 10, 39] [(7, pI r7)] [1024, 1064] [] tv ?_)
     refine DW.cv [] [] [] [(c74e1), (100000, ob0 (roNode [])), (100001, ob0 (roTask []))] (Conv.ads [(.o 1048 0, 100000, 6, elems encNode dNode []), (.o 1048 2, 100001, 4, elems encTask dTask [])]) ?_
     obtain rfl := sj hm
     exact DW.ret (retK [roNode [], roTask []] [100000, 100001] (.tup [.agg [ow 0 0, pI 0, ow 1 0, pI 0], pI r7]))
    ·intro h8 hm
     refine Sk ?_
     obtain ⟨r9, hr9, hm⟩ := bo hm
     refine Sq (RD hnt (nn 3 (o62 [] true r9 :: nn 5 [])) [10, 39] [(11, pI r9.1)] [] [] (an (Domain_ref8Spec p0.tree p2 r9 hr9) tv) ?_)
     obtain ⟨r10, hr10, hm⟩ := bo hm
     refine Sq (Sq (RD hnt (nn 4 (o62 [] true r10 :: nn 5 [])) [8] [(13, pI r10.1)] [1064] [] (an (Domain_ref8Spec p0.tree r3.1.group r10 hr10) tv) ?_))
     refine Sq (RD hnt (nn 3 []) [11, 13] [(59, pB (r9.1 != r10.1))] [] [] tv ?_)
     refine condM hm ?_ ?_
     ·intro h11 hm
      refine Sq (RD hnt (nn 3 []) [1, 2, 3, 59] [(7, pI 9)] [1024] [] tv ?_)
      refine DW.cv [] [] [] [(c74e1), (100000, ob0 (roNode [])), (100001, ob0 (roTask []))] (Conv.ads [(.o 1048 0, 100000, 6, elems encNode dNode []), (.o 1048 2, 100001, 4, elems encTask dTask [])]) ?_
      obtain rfl := sj hm
      exact DW.ret (retK [roNode [], roTask []] [100000, 100001] (.tup [.agg [ow 0 0, pI 0, ow 1 0, pI 0], pI 9]))
     ·intro h11 hm
      refine Sk ?_
      obtain ⟨r12, hr12, hm⟩ := bo hm
      refine Sq (RK hnt (nn 3 (o75 [] true r12 :: nn 4 [])) [(6, rr 1048), (7, pI r12.2)] [(1048, bx [ow 1512 r12.1.tree.nodes.length, pI r12.1.tree.next, ow 1513 r12.1.tasks.length, pI r12.1.next]), (1512, ob0 (roNode r12.1.tree.nodes)), (1513, ob0 (roTask r12.1.tasks))] (an (Place_ref6Spec p0 p1 p2 r12 hr12) tv) ?_)
      obtain rfl := sj hm
      exact DW.ret (retK [roNode r12.1.tree.nodes, roTask r12.1.tasks] [1512, 1513] (.tup [.agg [ow 0 r12.1.tree.nodes.length, pI r12.1.tree.next, ow 1 r12.1.tasks.length, pI r12.1.next], pI r12.2]))
  ·rcases bt (!r3.2) with h4 | h4
   ·replace hm := if_t h4 hm
    refine RD hnt (nn 3 (sk 5 (pT :: []))) [9] [(33, pB true)] [] [] (an6 h4 tv) ?_
    exact jD true hm Conv.eqK
   ·replace hm := if_f h4 hm
    obtain ⟨r5, hr5, hm⟩ := bo hm
    refine RD hnt (nn 6 (o42 [] true r5 :: .no :: pF :: [])) [9] [(33, pB (!r5))] [] [] (an4 h4 (an (Has_ref5Spec p0.tree p2 r5 hr5) (an2 h4 tv))) ?_
    exact jD (!r5) hm Conv.eqK
abbrev o74 (ks : List Nat) (b : Bool) (RES : Hierarchy × Int) : Orc := .call 83 ks b (.tup [.agg [ow 0 RES.1.tree.nodes.length, pI RES.1.tree.next, ow 1 RES.1.tasks.length, pI RES.1.next], pI RES.2]) [] [roNode RES.1.tree.nodes, roTask RES.1.tasks]

abbrev c76e1 (p0 : Hierarchy) (k1 : Nat) := (p0.tasks.getD k1 (default : Task))
abbrev c76e2 : Nat × Obj := (1032, bx [.p (.sl .nil 0 0 (fun _ => [])), pI 0, .p (.sl .nil 0 0 (fun _ => [])), pI 0])
abbrev c76e3 (p0 : Hierarchy) : Nat × Obj := (1016, bx (pm (encHierarchy p0)))
abbrev c76e4 (r5 : Tree) : Nat × Obj := (1208, ob0 (roNode r5.nodes))
theorem Exit_ref6Spec (p0 : Hierarchy) (p1 : Int) (RES : Hierarchy × Int) (hm : Exit_ref6 p0 p1 = some RES) : Spec Tryz.prog 68 [.p (.agg (encHierarchy p0)), pI p1] [] (.tup [.agg [ow 0 RES.1.tree.nodes.length, pI RES.1.tree.next, ow 1 RES.1.tasks.length, pI RES.1.next], pI RES.2]) [] [roNode RES.1.tree.nodes, roTask RES.1.tasks] := by
 unfold Exit_ref6 at hm
 refine SO Tryz.func68 rfl rfl [(0, .p (.agg (encHierarchy p0))), (1, pI p1)] [] ?_
 intro cx hnt
 refine Sq (RK hnt (nn 3 []) [(1, pI p1), (2, rr 1016), (4, rr 1032)] [(c76e3 p0), (c76e2)] tv ?_)
 obtain ⟨r1, hr1, hm⟩ := bo hm
 refine Sq (Sq (RD hnt (.no :: o56 [] true r1 :: .no :: []) [] [(13, pB (!r1))] [] [] (an (Check_ref6Spec p0 r1 hr1) tv) ?_))
 refine condM hm ?_ ?_
 ·intro h2 hm
  refine Sq (RD hnt (nn 3 []) [1, 2, 13] [(5, pI 1)] [1016] [] tv ?_)
  refine DW.cv [] [] [] [(1032, bx [ow 100000 0, pI 0, ow 100001 0, pI 0]), (100000, ob0 (roNode [])), (100001, ob0 (roTask []))] (Conv.ads [(.o 1032 0, 100000, 6, elems encNode dNode []), (.o 1032 2, 100001, 4, elems encTask dTask [])]) ?_
  obtain rfl := sj hm
  exact DW.ret (retK [roNode [], roTask []] [100000, 100001] (.tup [.agg [ow 0 0, pI 0, ow 1 0, pI 0], pI 1]))
 ·intro h2 hm
  refine Sk ?_
  obtain ⟨r3, hr3, hm⟩ := bo hm
  refine Sq (Sq (RD hnt (nn 2 (o61 [] true r3 :: nn 6 [])) [13] [(7, pB r3.2)] [] [] (an (Find_ref6Spec p0 p1 r3 hr3) tv) ?_))
  refine Sq (RD hnt (nn 2 []) [7] [(22, pB (!r3.2))] [] [] tv ?_)
  refine condM hm ?_ ?_
  ·intro h4 hm
   refine Sq (RD hnt (nn 3 []) [1, 2, 22] [(5, pI 4)] [1016] [] tv ?_)
   refine DW.cv [] [] [] [(1032, bx [ow 100000 0, pI 0, ow 100001 0, pI 0]), (100000, ob0 (roNode [])), (100001, ob0 (roTask []))] (Conv.ads [(.o 1032 0, 100000, 6, elems encNode dNode []), (.o 1032 2, 100001, 4, elems encTask dTask [])]) ?_
   obtain rfl := sj hm
   exact DW.ret (retK [roNode [], roTask []] [100000, 100001] (.tup [.agg [ow 0 0, pI 0, ow 1 0, pI 0], pI 4]))
  ·intro h4 hm
   refine Sk ?_
   obtain ⟨r5, hr5, hm⟩ := bo hm
   refine Sq (RD hnt (nn 2 (o46 [] true r5 :: nn 5 [])) [22] [(8, rr 1064)] [] [(1064, bx [ow 1208 r5.nodes.length, pI r5.next, .p (.sl .nil 0 0 (fun _ => [])), pI p0.next]), (c76e4 r5)] (an (Copy_ref5Spec p0.tree r5 hr5) tv) ?_)
   refine Sq (Sq (RD hnt (.no :: []) [] [(9, pI 0)] [] [] tv ?_))
   refine Bk ?_
   obtain ⟨hc1, hm⟩ := go1 hm
   refine DW.rangeO (fun (k1 : Nat) (s1 : List Task) => mkSt [(1, pI p1), (2, rr 1016), (4, rr 1032), (8, rr 1064), (9, pI ((k1 : Nat) : Int))] [(c76e3 p0), (c76e2), (1064, bx [ow 1208 r5.nodes.length, pI r5.next, ow 1448 s1.length, pI p0.next]), (c76e4 r5), (1448, ob0 (roTask s1))]) dTask hm (Conv.ads [(.o 1064 2, 1448, 4, elems encTask dTask [])]) ?_
   intro k1 s1 n1 hk1 hs1 he1
   refine Sq (Sq (RD hnt (nn 5 []) [] [(34, pB (decide (((k1 : Nat) : Int) < ((p0.tasks.length : Nat) : Int))))] [] [] tv ?_))
   refine condK (decide (((k1 : Nat) : Int) < ((p0.tasks.length : Nat) : Int))) ?_ ?_
   ·intro h15
    have hlt1 : k1 < p0.tasks.length := by have := of_decide_eq_true h15; omega
    have hm := hs1 hlt1
    unfold Exit_ref6L1 at hm
    refine Sk ?_
    refine Sq ?_
    refine Jn (ι := List Task) (fun (y3 : List Task) => mkSt [(1, pI p1), (2, rr 1016), (4, rr 1032), (8, rr 1064), (9, pI ((k1 : Nat) : Int))] [(c76e3 p0), (c76e2), (1064, bx [ow 1208 r5.nodes.length, pI r5.next, ow 1448 y3.length, pI p0.next]), (c76e4 r5), (1448, ob0 (roTask y3))]) (fun y3 => (Exit_ref6J3 n1) y3 = some RES) ?_ ?_
    ·intro y3 hm
     unfold Exit_ref6J3 at hm
     refine RD hnt (nn 3 []) [] [(9, pI (w64 (((k1 : Nat) : Int) + 1)))] [] [] tv ?_
     exact jD y3 ⟨hlt1, hm⟩ (Conv.tp [(9, pI (w64 (((k1 : Nat) : Int) + 1)))] [] (by kernel_rfl) (.cons rfl (.of_eq (congrArg pI (w64_succ hlt1 hc1))) .nil) .nil)
    ·refine Bk ?_
     refine Sq (RD hnt (nn 7 []) [34] [(10, rr 1080)] [] [(1080, bx (pm (encTask (c76e1 p0 k1))))] (an (nn0 k1) (an (ltc hlt1) tv)) ?_)
     refine Sq (DW.regJ (sl2 := [(1, pI p1), (2, rr 1016), (4, rr 1032), (8, rr 1064), (9, pI ((k1 : Nat) : Int)), (10, rr 1080), (51, pB (((c76e1 p0 k1).id != p1) && ((c76e1 p0 k1).process != p1)))]) (ob2 := [(c76e3 p0), (c76e2), (1064, bx [ow 1208 r5.nodes.length, pI r5.next, ow 1448 s1.length, pI p0.next]), (1080, bx (pm (encTask (c76e1 p0 k1)))), (c76e4 r5), (1448, ob0 (roTask s1))]) ?_ ?_)
     ·rcases bt ((c76e1 p0 k1).id != p1) with h16 | h16
      ·exact RT hnt (nn 9 (pT :: [])) [(51, pB ((c76e1 p0 k1).process != p1))] (an5 h16 tv) (by kernel_rfl) (.cons rfl (.of_eq (by rw [h16]; try rfl)) .nil)
      ·exact RT hnt (nn 5 (sk 4 (pF :: []))) [(51, pB false)] (an5 h16 tv) (by kernel_rfl) (.cons rfl (.of_eq (by rw [h16]; try rfl)) .nil)
     ·refine condM hm ?_ ?_
      ·intro h17 hm
       obtain ⟨g18, hm⟩ := go1 hm
       refine RN hnt (nn 7 []) [(1, pI p1), (2, rr 1016), (4, rr 1032), (8, rr 1064), (9, pI ((k1 : Nat) : Int))] [(c76e3 p0), (c76e2), (1064, bx [ow 1208 r5.nodes.length, pI r5.next, ow 1448 (s1 ++ [(c76e1 p0 k1)]).length, pI p0.next]), (c76e4 r5), (1448, ob0 (roTask (s1 ++ [(c76e1 p0 k1)])))] [] [(1064, .box [ow 1208 r5.nodes.length, pI r5.next, ow 1448 (s1.length + 1), pI p0.next]), (1448, .row 4 (s1.length + 1) (catF s1.length (elTask s1) (cut 4 [vi (c76e1 p0 k1).id, vi (c76e1 p0 k1).process, vi (c76e1 p0 k1).group, vi (c76e1 p0 k1).user])))] (an (by omega : (s1.length + 1) * 32 ≤ 140737488355328) tv) (by kernel_rfl) .nil (.cons rfl (.box (.cons .rfl (.cons .rfl (.cons (MLe.ownLen (enc := encTask) (d := dTask) (f := (catF s1.length (elTask s1) (cut 4 [vi (c76e1 p0 k1).id, vi (c76e1 p0 k1).process, vi (c76e1 p0 k1).group, vi (c76e1 p0 k1).user]))) (RowIs.cat RowIs.elems (RowIs.lit (enc := encTask) (d := dTask) (n := 1) (f := (cut 4 [vi (c76e1 p0 k1).id, vi (c76e1 p0 k1).process, vi (c76e1 p0 k1).group, vi (c76e1 p0 k1).user])) [(c76e1 p0 k1)] rfl (fun | 0, _ => rfl | n + 1, h => absurd h (by omega))))) (.cons .rfl .nil))))) (.cons rfl (BLe.typed (RowIs.cat RowIs.elems (RowIs.lit (enc := encTask) (d := dTask) (n := 1) (f := (cut 4 [vi (c76e1 p0 k1).id, vi (c76e1 p0 k1).process, vi (c76e1 p0 k1).group, vi (c76e1 p0 k1).user])) [(c76e1 p0 k1)] rfl (fun | 0, _ => rfl | n + 1, h => absurd h (by omega))))) .nil)) ?_
       exact bD (s1 ++ [(c76e1 p0 k1)]) hm .refl
      ·intro h17 hm
       refine Sk ?_
       exact bD s1 hm Conv.t0
   ·intro h15
    have hge1 : ¬ k1 < p0.tasks.length := by have := of_decide_eq_false h15; omega
    have hm := he1 hge1
    unfold Exit_ref6D1 at hm
    refine DW.exit ?_
    refine joinQ_exit ?_
    refine KQ_exit ?_
    refine blockQ_exit ?_
    show DW _ _ _ _ _
    refine Sq (RD hnt (nn 3 []) [1, 2, 8, 9, 34] [(5, pI 0)] [1016, 1064] [(1032, bx [ow 1208 r5.nodes.length, pI r5.next, ow 1448 s1.length, pI p0.next])] tv ?_)
    obtain rfl := sj hm
    exact DW.ret (retK [roNode r5.nodes, roTask s1] [1208, 1448] (.tup [.agg [ow 0 r5.nodes.length, pI r5.next, ow 1 s1.length, pI p0.next], pI 0]))
abbrev o76 (ks : List Nat) (b : Bool) (RES : Hierarchy × Int) : Orc := .call 68 ks b (.tup [.agg [ow 0 RES.1.tree.nodes.length, pI RES.1.tree.next, ow 1 RES.1.tasks.length, pI RES.1.next], pI RES.2]) [] [roNode RES.1.tree.nodes, roTask RES.1.tasks]

abbrev c31e1 : Nat × Obj := (1048, bx [.p (.sl .nil 0 0 (fun _ => [])), pI 0, .p (.sl .nil 0 0 (fun _ => [])), pI 0])
theorem Hierarchy_Dice_madeSpec (p0 : Dice) (p1 : Int) (p2 : Int) (RES : Hierarchy × Dice) (hm : Hierarchy_Dice_made p0 p1 p2 = some RES) : Spec Tryz.prog 17 [rr 0, pI p1, pI p2] [.box (pm (encDice p0))] (.p (.agg (encHierarchy RES.1))) [.box (pm (encDice RES.2))] [] := by
 unfold Hierarchy_Dice_made at hm
 refine SO Tryz.func17 rfl rfl [(0, rr 0), (1, pI p1), (2, pI p2)] [(0, bx (pm (encDice p0)))] ?_
 intro cx hnt
 refine Sq (RD hnt (.no :: []) [] [(6, rr 1048)] [] [(c31e1)] tv ?_)
 obtain ⟨r1, hr1, hm⟩ := bo hm
 refine Sq (RD hnt (o32 [] true r1 :: nn 2 []) [] [(7, rr 1056)] [] [(1056, bx [ow 1168 r1.tree.nodes.length, pI r1.tree.next, ow 1169 r1.tasks.length, pI r1.next]), (1168, ob0 (roNode r1.tree.nodes)), (1169, ob0 (roTask r1.tasks))] (an (New_ref6Spec r1 hr1) tv) ?_)
 obtain ⟨r2, hr2, hm⟩ := bo hm
 refine Sq (RD hnt (nn 2 (o34 [0] true r2 :: nn 2 [])) [] [] [1168] [(0, bx (pm (encDice r2.2))), (1056, bx [.p (slNode r2.1.nodes), pI r2.1.next, ow 1169 r1.tasks.length, pI r1.next])] (an (Tree_Dice_madeSpec p0 p1 r2 hr2) (an tv tv)) ?_)
 obtain ⟨r3, hr3, hm⟩ := bo hm
 refine Sq (Sq (RD hnt (nn 3 (o35 [0] true r3 :: .no :: [])) [1] [(8, pI r3.1)] [] [(0, bx (pm (encDice r3.2)))] (an (Next_Dice_madeSpec r2.2 (w64 (p1 + 3)) r3 hr3) (an tv tv)) ?_))
 refine Bk ?_
 refine DW.whileO (fun (s1 : Dice × Hierarchy × Int) => mkSt [(0, rr 0), (2, pI p2), (6, rr 1048), (7, rr 1056), (8, pI s1.2.2)] [(0, bx (pm (encDice s1.1))), (c31e1), (1056, bx (pm (encHierarchy s1.2.1)))]) hm (Conv.frz [1169]) ?_
 intro s1 n1 hm
 unfold Hierarchy_Dice_madeL1 at hm
 refine Sq (Sq (RD hnt (nn 2 []) [] [(31, pB (decide (s1.2.2 > 0)))] [] [] tv ?_))
 refine condM hm ?_ ?_
 ·intro h56 hm
  refine Sk ?_
  refine Sq (Bk ?_)
  obtain ⟨r57, hr57, hm⟩ := bo hm
  refine RD hnt (nn 2 (o50 [0] true r57 :: .no :: [])) [31] [] [] [(0, bx (pm (encDice r57.2))), (1056, bx (pm (encHierarchy r57.1)))] (an (step_Dice_madeSpec s1.1 s1.2.1 r57 hr57) (an tv tv)) ?_
  refine DW.done ?_
  show DW _ _ _ _ _
  refine RD hnt (nn 3 []) [] [(8, pI (w64 (s1.2.2 - 1)))] [] [] tv ?_
  exact jD (r57.2, r57.1, (w64 (s1.2.2 - 1))) hm Conv.eqK
 ·intro h56 hm
  refine DW.exit ?_
  refine joinQ_exit ?_
  refine KQ_exit ?_
  refine blockQ_exit ?_
  show DW _ _ _ _ _
  obtain ⟨r58, hr58, hm⟩ := bo hm
  refine Sq (Sq (RD hnt (nn 3 (o35 [0] true r58 :: .no :: [])) [2, 8, 31] [(9, pI r58.1)] [] [(0, bx (pm (encDice r58.2)))] (an (Next_Dice_madeSpec s1.1 (w64 (p2 + 1)) r58 hr58) (an tv tv)) ?_))
  refine Bk ?_
  refine DW.whileO (fun (s3 : Dice × Hierarchy × Int) => mkSt [(0, rr 0), (6, rr 1048), (7, rr 1056), (9, pI s3.2.2)] [(0, bx (pm (encDice s3.1))), (c31e1), (1056, bx (pm (encHierarchy s3.2.1)))]) hm Conv.eqK ?_
  intro s3 n3 hm
  unfold Hierarchy_Dice_madeL3 at hm
  refine Sq (Sq (RD hnt (nn 2 []) [] [(42, pB (decide (s3.2.2 > 0)))] [] [] tv ?_))
  refine condM hm ?_ ?_
  ·intro h82 hm
   refine Sk ?_
   refine Sq ?_
   refine Jn (ι := Dice × Hierarchy) (fun (y13 : Dice × Hierarchy) => mkSt [(0, rr 0), (6, rr 1048), (7, rr 1056), (9, pI s3.2.2)] [(0, bx (pm (encDice y13.1))), (c31e1), (1056, bx (pm (encHierarchy y13.2)))]) (fun y13 => (Hierarchy_Dice_madeJ13 s3 n3) y13 = some RES) ?_ ?_
   ·intro y13 hm
    unfold Hierarchy_Dice_madeJ13 at hm
    refine RD hnt (nn 3 []) [] [(9, pI (w64 (s3.2.2 - 1)))] [] [] tv ?_
    exact jD (y13.1, y13.2, (w64 (s3.2.2 - 1))) hm Conv.eqK
   ·refine Bk ?_
    obtain ⟨r83, hr83, hm⟩ := bo hm
    refine Sq (RD hnt (nn 3 (o51 [0] true r83 :: .no :: [])) [42] [(10, pI r83.1)] [] [(0, bx (pm (encDice r83.2)))] (an (Group_Dice_madeSpec s3.1 s3.2.1.tree r83 hr83) (an tv tv)) ?_)
    obtain ⟨r84, hr84, hm⟩ := bo hm
    refine Sq (Sq (RD hnt (nn 2 (o69 [] true r84 :: .no :: [])) [] [(52, pB (r84 != 0))] [] [] (an (Admits_ref8Spec s3.2.1 r83.1 r84 hr84) tv) ?_))
    refine condM hm ?_ ?_
    ·intro h85 hm
     refine DW.exit ?_
     exact blockQ_exit (joinKQ (r83.2, s3.2.1) hm Conv.t0)
    ·intro h85 hm
     refine Sk ?_
     obtain ⟨r86, hr86, hm⟩ := bo hm
     obtain ⟨r87, hr87, hm⟩ := bo hm
     refine Sq (Sq (RD hnt (nn 3 (o35 [0] true r86 :: o70 [] true r87 :: nn 8 [])) [10, 52] [(11, rr 1088), (13, pI r87.2.2)] [] [(0, bx (pm (encDice r86.2))), (1088, bx [ow 1464 r87.1.tree.nodes.length, pI r87.1.tree.next, ow 1465 r87.1.tasks.length, pI r87.1.next]), (1464, ob0 (roNode r87.1.tree.nodes)), (1465, ob0 (roTask r87.1.tasks))] (an (Next_Dice_madeSpec r83.2 3 r86 hr86) (an tv (an (Spawn_ref6Spec s3.2.1 r83.1 r86.1 r87 hr87) tv))) ?_))
     refine Sq (RD hnt (nn 2 []) [13] [(63, pB (r87.2.2 == 0))] [] [] tv ?_)
     refine Jn (ι := Hierarchy) (fun (y14 : Hierarchy) => mkSt [(0, rr 0), (6, rr 1048), (7, rr 1056), (9, pI s3.2.2)] [(0, bx (pm (encDice r86.2))), (c31e1), (1056, bx (pm (encHierarchy y14)))]) (fun y14 => (Hierarchy_Dice_madeJ14 s3 n3 r86) y14 = some RES) ?_ ?_
     ·intro y14 hm
      unfold Hierarchy_Dice_madeJ14 at hm
      obtain ⟨r89, hr89, hm⟩ := bo hm
      refine Sq (Sq (RD hnt (.no :: o47 [0] true r89 :: []) [] [(66, pB r89.1)] [] [(0, bx (pm (encDice r89.2)))] (an (Bool_Dice_madeSpec r86.2 3 r89 hr89) (an tv tv)) ?_))
      refine Jn (ι := Dice × Hierarchy) (fun (y15 : Dice × Hierarchy) => mkSt [(0, rr 0), (6, rr 1048), (7, rr 1056), (9, pI s3.2.2)] [(0, bx (pm (encDice y15.1))), (c31e1), (1056, bx (pm (encHierarchy y15.2)))]) (fun y15 => (Hierarchy_Dice_madeJ15 s3 n3) y15 = some RES) ?_ ?_
      ·intro y15 hm
       unfold Hierarchy_Dice_madeJ15 at hm
       obtain ⟨r94, hr94, hm⟩ := bo hm
       refine Sq (Sq (RD hnt (.no :: o47 [0] true r94 :: []) [] [(80, pB r94.1)] [] [(0, bx (pm (encDice r94.2)))] (an (Bool_Dice_madeSpec y15.1 4 r94 hr94) (an tv tv)) ?_))
       refine Jn (ι := Dice × Hierarchy) (fun (y16 : Dice × Hierarchy) => mkSt [(0, rr 0), (6, rr 1048), (7, rr 1056), (9, pI s3.2.2)] [(0, bx (pm (encDice y16.1))), (c31e1), (1056, bx (pm (encHierarchy y16.2)))]) (fun y16 => (Hierarchy_Dice_madeJ16 s3 n3) y16 = some RES) ?_ ?_
       ·intro y16 hm
        unfold Hierarchy_Dice_madeJ16 at hm
        obtain ⟨r100, hr100, hm⟩ := bo hm
        refine Sq (RD hnt (.no :: o47 [0] true r100 :: []) [] [(97, pB r100.1)] [] [(0, bx (pm (encDice r100.2)))] (an (Bool_Dice_madeSpec y16.1 8 r100 hr100) (an tv tv)) ?_)
        refine condM hm ?_ ?_
        ·intro h101 hm
         obtain ⟨r102, hr102, hm⟩ := bo hm
         obtain ⟨r103, hr103, hm⟩ := bo hm
         refine Sq (RD hnt (nn 3 (o72 [0] true r102 :: o76 [] true r103 :: nn 6 [])) [97] [(19, rr 1152), (20, pI r103.2)] [] [(0, bx (pm (encDice r102.2))), (1152, bx [ow 1824 r103.1.tree.nodes.length, pI r103.1.tree.next, ow 1825 r103.1.tasks.length, pI r103.1.next]), (1824, ob0 (roNode r103.1.tree.nodes)), (1825, ob0 (roTask r103.1.tasks))] (an (Task_Dice_madeSpec r100.2 y16.2 r102 hr102) (an tv (an (Exit_ref6Spec y16.2 r102.1 r103 hr103) tv))) ?_)
         refine Sq (RD hnt (nn 2 []) [20] [(107, pB (r103.2 == 0))] [] [] tv ?_)
         refine condM hm ?_ ?_
         ·intro h104 hm
          refine RD hnt (nn 2 []) [19, 107] [] [1152] [(1056, bx [ow 1824 r103.1.tree.nodes.length, pI r103.1.tree.next, ow 1825 r103.1.tasks.length, pI r103.1.next])] tv ?_
          exact bD (r102.2, r103.1) hm (Conv.frz [1824, 1825])
         ·intro h104 hm
          refine Sk ?_
          exact bD (r102.2, y16.2) hm Conv.t0
        ·intro h101 hm
         refine Sk ?_
         exact bD (r100.2, y16.2) hm Conv.t0
       ·refine condM hm ?_ ?_
        ·intro h95 hm
         obtain ⟨r96, hr96, hm⟩ := bo hm
         obtain ⟨r97, hr97, hm⟩ := bo hm
         obtain ⟨r98, hr98, hm⟩ := bo hm
         refine Sq (RD hnt (nn 3 (o72 [0] true r96 :: nn 3 (o51 [0] true r97 :: o74 [] true r98 :: nn 6 []))) [80] [(17, rr 1136), (18, pI r98.2)] [] [(0, bx (pm (encDice r97.2))), (1136, bx [ow 1720 r98.1.tree.nodes.length, pI r98.1.tree.next, ow 1721 r98.1.tasks.length, pI r98.1.next]), (1720, ob0 (roNode r98.1.tree.nodes)), (1721, ob0 (roTask r98.1.tasks))] (an (Task_Dice_madeSpec r94.2 y15.2 r96 hr96) (an tv (an (Group_Dice_madeSpec r96.2 y15.2.tree r97 hr97) (an tv (an (AttachThread_ref8Spec y15.2 r96.1 r97.1 r98 hr98) tv))))) ?_)
         refine Sq (RD hnt (nn 2 []) [18] [(94, pB (r98.2 == 0))] [] [] tv ?_)
         refine condM hm ?_ ?_
         ·intro h99 hm
          refine RD hnt (nn 2 []) [17, 94] [] [1136] [(1056, bx [ow 1720 r98.1.tree.nodes.length, pI r98.1.tree.next, ow 1721 r98.1.tasks.length, pI r98.1.next])] tv ?_
          exact jD (r97.2, r98.1) hm (Conv.frz [1720, 1721])
         ·intro h99 hm
          refine Sk ?_
          exact jD (r97.2, y15.2) hm Conv.t0
        ·intro h95 hm
         refine Sk ?_
         exact jD (r94.2, y15.2) hm Conv.t0
      ·refine condM hm ?_ ?_
       ·intro h90 hm
        obtain ⟨r91, hr91, hm⟩ := bo hm
        obtain ⟨r92, hr92, hm⟩ := bo hm
        refine Sq (RD hnt (nn 3 (o72 [0] true r91 :: o73 [] true r92 :: nn 8 [])) [66] [(14, rr 1112), (16, pI r92.2.2)] [] [(0, bx (pm (encDice r91.2))), (1112, bx [ow 1576 r92.1.tree.nodes.length, pI r92.1.tree.next, ow 1577 r92.1.tasks.length, pI r92.1.next]), (1576, ob0 (roNode r92.1.tree.nodes)), (1577, ob0 (roTask r92.1.tasks))] (an (Task_Dice_madeSpec r89.2 y14 r91 hr91) (an tv (an (Clone_ref6Spec y14 r91.1 r92 hr92) tv))) ?_)
        refine Sq (RD hnt (nn 2 []) [16] [(77, pB (r92.2.2 == 0))] [] [] tv ?_)
        refine condM hm ?_ ?_
        ·intro h93 hm
         refine RD hnt (nn 2 []) [14, 77] [] [1112] [(1056, bx [ow 1576 r92.1.tree.nodes.length, pI r92.1.tree.next, ow 1577 r92.1.tasks.length, pI r92.1.next])] tv ?_
         exact jD (r91.2, r92.1) hm (Conv.frz [1576, 1577])
        ·intro h93 hm
         refine Sk ?_
         exact jD (r91.2, y14) hm Conv.t0
       ·intro h90 hm
        refine Sk ?_
        exact jD (r89.2, y14) hm Conv.t0
     ·refine condM hm ?_ ?_
      ·intro h88 hm
       refine RD hnt (nn 2 []) [11, 63] [] [1088] [(1056, bx [ow 1464 r87.1.tree.nodes.length, pI r87.1.tree.next, ow 1465 r87.1.tasks.length, pI r87.1.next])] tv ?_
       exact jD r87.1 hm (Conv.frz [1464, 1465])
      ·intro h88 hm
       refine Sk ?_
       exact jD s3.2.1 hm Conv.t0
  ·intro h82 hm
   refine DW.exit ?_
   refine joinQ_exit ?_
   refine KQ_exit ?_
   refine blockQ_exit ?_
   show DW _ _ _ _ _
   refine Sq (RD hnt (nn 2 []) [0, 7, 9, 42] [] [1056] [(1048, bx (pm (encHierarchy s3.2.1)))] tv ?_)
   obtain rfl := sj hm
   exact DW.ret (retK [.box (pm (encDice s3.1))] [] (.p (.agg (encHierarchy s3.2.1))))
abbrev o31 (ks : List Nat) (b : Bool) (RES : Hierarchy × Dice) : Orc := .call 17 ks b (.p (.agg (encHierarchy RES.1))) [.box (pm (encDice RES.2))] []

abbrev c77e1 (r7 : Hierarchy) (r3 : Int) (p2 : Int) := ({ id := (r7.tasks.getD (Int.toNat r3) dTask).id, process := (r7.tasks.getD (Int.toNat r3) dTask).process, group := p2, user := (r7.tasks.getD (Int.toNat r3) dTask).user } : Task)
abbrev c77e2 : Nat × Obj := (1048, bx [.p (.sl .nil 0 0 (fun _ => [])), pI 0, .p (.sl .nil 0 0 (fun _ => [])), pI 0])
abbrev c77e3 (r7 : Hierarchy) (r3 : Int) (p2 : Int) := (updF (elTask r7.tasks) (Int.toNat r3) [vi (r7.tasks.getD (Int.toNat r3) dTask).id, vi (r7.tasks.getD (Int.toNat r3) dTask).process, vi p2, vi (r7.tasks.getD (Int.toNat r3) dTask).user])
abbrev c77e4 (r7 : Hierarchy) (r3 : Int) (p2 : Int) := (r7.tasks.set (Int.toNat r3) (c77e1 r7 r3 p2))
theorem Place_memberSpec (p0 : Hierarchy) (p1 : Int) (p2 : Int) (RES : Hierarchy × Int) (hm : Place_member p0 p1 p2 = some RES) : Spec Tryz.prog 69 [.p (.agg (encHierarchy p0)), pI p1, pI p2] [] (.tup [.agg [ow 0 RES.1.tree.nodes.length, pI RES.1.tree.next, ow 1 RES.1.tasks.length, pI RES.1.next], pI RES.2]) [] [roNode RES.1.tree.nodes, roTask RES.1.tasks] := by
 unfold Place_member at hm
 refine SO Tryz.func69 rfl rfl [(0, .p (.agg (encHierarchy p0))), (1, pI p1), (2, pI p2)] [] ?_
 intro cx hnt
 refine Sq (RD hnt (nn 3 []) [0] [(3, rr 1024), (6, rr 1048)] [] [(1024, bx (pm (encHierarchy p0))), (c77e2)] tv ?_)
 obtain ⟨r1, hr1, hm⟩ := bo hm
 refine Sq (Sq (RD hnt (.no :: o7 [] true r1 :: .no :: []) [] [(12, pB (!r1))] [] [] (an (Check_memberSpec p0 r1 hr1) tv) ?_))
 refine condM hm ?_ ?_
 ·intro h2 hm
  refine Sq (RD hnt (nn 3 []) [1, 2, 3, 12] [(7, pI 1)] [1024] [] tv ?_)
  refine DW.cv [] [] [] [(1048, bx [ow 100000 0, pI 0, ow 100001 0, pI 0]), (100000, ob0 (roNode [])), (100001, ob0 (roTask []))] (Conv.ads [(.o 1048 0, 100000, 6, elems encNode dNode []), (.o 1048 2, 100001, 4, elems encTask dTask [])]) ?_
  obtain rfl := sj hm
  exact DW.ret (retK [roNode [], roTask []] [100000, 100001] (.tup [.agg [ow 0 0, pI 0, ow 1 0, pI 0], pI 1]))
 ·intro h2 hm
  refine Sk ?_
  obtain ⟨r3, hr3, hm⟩ := bo hm
  refine Sq (RD hnt (nn 2 (o15 [] true r3 :: .no :: [])) [1, 12] [(8, pI r3)] [] [] (an (At_crewSpec p0 p1 r3 hr3) tv) ?_)
  refine Sq (Sq ?_)
  refine Jn (ι := Bool) (fun (y1 : Bool) => mkSt [(2, pI p2), (3, rr 1024), (6, rr 1048), (8, pI r3), (25, pB y1)] [(1024, bx (pm (encHierarchy p0))), (c77e2)]) (fun y1 => (Place_memberJ1 p0 p2 r3) y1 = some RES) ?_ ?_
  ·intro y1 hm
   unfold Place_memberJ1 at hm
   refine condM hm ?_ ?_
   ·intro h6 hm
    refine Sq (RD hnt (nn 3 []) [2, 3, 8, 25] [(7, pI 4)] [1024] [] tv ?_)
    refine DW.cv [] [] [] [(1048, bx [ow 100000 0, pI 0, ow 100001 0, pI 0]), (100000, ob0 (roNode [])), (100001, ob0 (roTask []))] (Conv.ads [(.o 1048 0, 100000, 6, elems encNode dNode []), (.o 1048 2, 100001, 4, elems encTask dTask [])]) ?_
    obtain rfl := sj hm
    exact DW.ret (retK [roNode [], roTask []] [100000, 100001] (.tup [.agg [ow 0 0, pI 0, ow 1 0, pI 0], pI 4]))
   ·intro h6 hm
    refine Sk ?_
    obtain ⟨r7, hr7, hm⟩ := bo hm
    refine Sq (RD hnt (.no :: o22 [] true r7 :: nn 2 []) [3, 25] [(9, rr 1072)] [1024] [(1072, bx [ow 1224 r7.tree.nodes.length, pI r7.tree.next, ow 1225 r7.tasks.length, pI r7.next]), (1224, ob0 (roNode r7.tree.nodes)), (1225, ob0 (roTask r7.tasks))] (an (Copy_crewSpec p0 r7 hr7) tv) ?_)
    obtain ⟨g8, g9, hm⟩ := go2 hm
    refine Sq (RN hnt (nn 7 []) [(6, rr 1048), (9, rr 1072)] [(c77e2), (1072, bx [ow 1224 r7.tree.nodes.length, pI r7.tree.next, ow 1225 (c77e4 r7 r3 p2).length, pI r7.next]), (1224, ob0 (roNode r7.tree.nodes)), (1225, ob0 (roTask (c77e4 r7 r3 p2)))] [] [(1072, .box [ow 1224 r7.tree.nodes.length, pI r7.tree.next, ow 1225 r7.tasks.length, pI r7.next]), (1225, .row 4 r7.tasks.length (c77e3 r7 r3 p2))] (an g8.1 (an g8.2 (an g9 tv))) (by kernel_rfl) .nil (.cons rfl (.box (.cons .rfl (.cons .rfl (.cons (MLe.ownLen (enc := encTask) (d := dTask) (f := (c77e3 r7 r3 p2)) (RowIs.upd RowIs.elems (c77e1 r7 r3 p2) rfl)) (.cons .rfl .nil))))) (.cons rfl (BLe.typed (RowIs.upd RowIs.elems (c77e1 r7 r3 p2) rfl)) .nil)) ?_)
    refine Sq (RD hnt (nn 3 []) [9] [(7, pI 0)] [1072] [(1048, bx [ow 1224 r7.tree.nodes.length, pI r7.tree.next, ow 1225 (c77e4 r7 r3 p2).length, pI r7.next])] tv ?_)
    obtain rfl := sj hm
    exact DW.ret (retK [roNode r7.tree.nodes, roTask (c77e4 r7 r3 p2)] [1224, 1225] (.tup [.agg [ow 0 r7.tree.nodes.length, pI r7.tree.next, ow 1 (c77e4 r7 r3 p2).length, pI r7.next], pI 0]))
  ·rcases bt (decide (r3 < 0)) with h4 | h4
   ·replace hm := if_t h4 hm
    refine RD hnt (nn 3 (sk 5 (pT :: []))) [] [(25, pB true)] [] [] (an6 h4 tv) ?_
    exact jD true hm Conv.eqK
   ·replace hm := if_f h4 hm
    obtain ⟨r5, hr5, hm⟩ := bo hm
    refine RD hnt (nn 6 (o18 [] true r5 :: .no :: pF :: [])) [] [(25, pB (decide (r5 < 0)))] [] [] (an4 h4 (an (At_forestSpec p0.tree p2 r5 hr5) (an2 h4 tv))) ?_
    exact jD (decide (r5 < 0)) hm Conv.eqK
abbrev o77 (ks : List Nat) (b : Bool) (RES : Hierarchy × Int) : Orc := .call 69 ks b (.tup [.agg [ow 0 RES.1.tree.nodes.length, pI RES.1.tree.next, ow 1 RES.1.tasks.length, pI RES.1.next], pI RES.2]) [] [roNode RES.1.tree.nodes, roTask RES.1.tasks]

abbrev c80e1 (p0 : Tree) (k1 : Nat) := (p0.nodes.getD k1 (default : Node))
abbrev c80e2 (p0 : Tree) : Nat × MV := (10, pI ((p0.nodes.length : Nat) : Int))
theorem Children_forestSpec (p0 : Tree) (p1 : Int) (RES : List Int) (hm : Children_forest p0 p1 = some RES) : Spec Tryz.prog 157 [.p (.agg (encTree p0)), pI p1] [] (ow 0 RES.length) [] [roI RES] := by
 unfold Children_forest at hm
 refine SO Tryz.func157 rfl rfl [(0, .p (.agg (encTree p0))), (1, pI p1)] [] ?_
 intro cx hnt
 refine Sq (RK hnt (nn 2 []) [(1, pI p1), (2, rr 1016)] [(1016, bx (pm (encTree p0)))] tv ?_)
 refine Sq (RD hnt (.no :: []) [] [(5, .p (.sl .nil 0 0 (fun _ => [])))] [] [] tv ?_)
 refine Sq (Sq (RD hnt (nn 4 []) [2] [(9, .p (slNode p0.nodes)), (c80e2 p0), (11, pI 0)] [1016] [] tv ?_))
 refine Bk ?_
 obtain ⟨hc1, hm⟩ := go1 hm
 refine DW.rangeO (fun (k1 : Nat) (s1 : List Int) => mkSt [(1, pI p1), (5, ow 1184 s1.length), (9, .p (slNode p0.nodes)), (c80e2 p0), (11, pI ((k1 : Nat) : Int))] [(1184, ob0 (roI s1))]) dNode hm (Conv.ads [(.s 5, 1184, 1, elems encI 0 [])]) ?_
 intro k1 s1 n1 hk1 hs1 he1
 refine Sq (RD hnt (.no :: []) [] [(12, pB (decide (((k1 : Nat) : Int) < ((p0.nodes.length : Nat) : Int))))] [] [] tv ?_)
 refine Sq (condK (decide (((k1 : Nat) : Int) < ((p0.nodes.length : Nat) : Int))) ?_ ?_)
 ·intro h8
  have hlt1 : k1 < p0.nodes.length := by have := of_decide_eq_true h8; omega
  have hm := hs1 hlt1
  unfold Children_forestL1 at hm
  refine Sk ?_
  refine Sq ?_
  refine Jn (ι := List Int) (fun (y3 : List Int) => mkSt [(1, pI p1), (5, ow 1184 y3.length), (9, .p (slNode p0.nodes)), (c80e2 p0), (11, pI ((k1 : Nat) : Int))] [(1184, ob0 (roI y3))]) (fun y3 => (Children_forestJ3 n1) y3 = some RES) ?_ ?_
  ·intro y3 hm
   unfold Children_forestJ3 at hm
   refine RD hnt (nn 2 []) [] [(11, pI (w64 (((k1 : Nat) : Int) + 1)))] [] [] tv ?_
   exact jD y3 ⟨hlt1, hm⟩ (Conv.tp [(11, pI (w64 (((k1 : Nat) : Int) + 1)))] [] (by kernel_rfl) (.cons rfl (.of_eq (congrArg pI (w64_succ hlt1 hc1))) .nil) .nil)
  ·refine Bk ?_
   refine Sq (RD hnt (nn 4 []) [12] [(7, rr 1056)] [] [(1056, bx (pm (encNode (c80e1 p0 k1))))] (an (nn0 k1) (an (ltc hlt1) tv)) ?_)
   refine Sq (RD hnt (nn 4 []) [] [(18, pB ((c80e1 p0 k1).parent == p1))] [] [] tv ?_)
   refine condM hm ?_ ?_
   ·intro h9 hm
    obtain ⟨g10, hm⟩ := go1 hm
    refine RN hnt (nn 6 []) [(1, pI p1), (5, ow 1184 (s1 ++ [(c80e1 p0 k1).id]).length), (9, .p (slNode p0.nodes)), (c80e2 p0), (11, pI ((k1 : Nat) : Int))] [(1184, ob0 (roI (s1 ++ [(c80e1 p0 k1).id])))] [(5, ow 1184 (s1.length + 1))] [(1184, .row 1 (s1.length + 1) (catF s1.length (elI s1) (cut 1 [vi (c80e1 p0 k1).id])))] (an (by omega : (s1.length + 1) * 8 ≤ 140737488355328) tv) (by kernel_rfl) (.cons rfl (MLe.ownLen (enc := encI) (d := 0) (f := (catF s1.length (elI s1) (cut 1 [vi (c80e1 p0 k1).id]))) (RowIs.cat RowIs.elems (RowIs.lit (enc := encI) (d := 0) (n := 1) (f := (cut 1 [vi (c80e1 p0 k1).id])) [(c80e1 p0 k1).id] rfl (fun | 0, _ => rfl | n + 1, h => absurd h (by omega))))) .nil) (.cons rfl (BLe.typed (RowIs.cat RowIs.elems (RowIs.lit (enc := encI) (d := 0) (n := 1) (f := (cut 1 [vi (c80e1 p0 k1).id])) [(c80e1 p0 k1).id] rfl (fun | 0, _ => rfl | n + 1, h => absurd h (by omega))))) .nil) ?_
    exact bD (s1 ++ [(c80e1 p0 k1).id]) hm .refl
   ·intro h9 hm
    refine Sk ?_
    exact bD s1 hm Conv.t0
 ·intro h8
  have hge1 : ¬ k1 < p0.nodes.length := by have := of_decide_eq_false h8; omega
  have hm := he1 hge1
  unfold Children_forestD1 at hm
  refine DW.exit ?_
  refine joinQ_exit ?_
  refine KQ_exit ?_
  refine blockQ_exit ?_
  show DW _ _ _ _ _
  refine Sq (RK hnt (nn 2 []) [(4, ow 1184 s1.length)] [(1184, ob0 (roI s1))] tv ?_)
  obtain rfl := sj hm
  exact DW.ret (retK [roI s1] [1184] (ow 0 s1.length))
abbrev o80 (ks : List Nat) (b : Bool) (RES : List Int) : Orc := .call 157 ks b (ow 0 RES.length) [] [roI RES]

theorem copied_treeSpec (p0 : Tree) (RES : Tree) (hm : copied_tree p0 = some RES) : Spec Tryz.prog 158 [.p (.agg (encTree p0))] [] (.agg [ow 0 RES.nodes.length, pI RES.next]) [] [roNode RES.nodes] := by
 unfold copied_tree at hm
 refine SO Tryz.func158 rfl rfl [(0, .p (.agg (encTree p0)))] [] ?_
 intro cx hnt
 refine Sq (RK hnt (nn 2 []) [(1, rr 1008), (2, rr 1016)] [(1008, bx (pm (encTree p0))), (1016, bx [.p (.sl .nil 0 0 (fun _ => [])), pI 0])] tv ?_)
 obtain ⟨r1, hr1, hm⟩ := bo hm
 refine Sq (RK hnt (nn 2 (o23 [] true r1 :: nn 4 [])) [(2, rr 1016)] [(1016, bx [ow 1040 r1.length, pI p0.next]), (1040, ob0 (roNode r1))] (an (Clone_slices_NodeSpec p0.nodes r1 hr1) tv) ?_)
 obtain rfl := sj hm
 exact DW.ret (retK [roNode r1] [1040] (.agg [ow 0 r1.length, pI p0.next]))
abbrev o81 (ks : List Nat) (b : Bool) (RES : Tree) : Orc := .call 158 ks b (.agg [ow 0 RES.nodes.length, pI RES.next]) [] [roNode RES.nodes]

abbrev c82e1 := ({ id := 0, parent := 0, name := ByteArray.empty, control := 0, kind := 0, owner := 0 } : Node)
theorem Delete_slices_NodeSpec (p0 : List Node) (p1 : Int) (p2 : Int) (RES : Nat × (List Node)) (hm : Delete_slices_Node p0 p1 p2 = some RES) : Spec Tryz.prog 159 [ow 0 p0.length, pI p1, pI p2] [roNode p0] (ow 0 RES.1) [roNode RES.2] [] := by
 unfold Delete_slices_Node at hm
 refine SO Tryz.func159 rfl rfl [(0, ow 0 p0.length), (1, pI p1), (2, pI p2)] [(0, ob0 (roNode p0))] ?_
 intro cx hnt
 refine Sq (RD hnt (.no :: []) [] [] [] [] tv ?_)
 obtain ⟨g1, hm⟩ := go1 hm
 refine Sq (RD hnt (nn 6 []) [] [] [] [] (an g1.1 (an g1.2.1 (an g1.2.2.1 (an g1.2.2.2 tv)))) ?_)
 refine Sq (Sq (RD hnt (nn 3 []) [] [(16, pB (p1 == p2))] [] [] tv ?_))
 refine condM hm ?_ ?_
 ·intro h2 hm
  refine Sq (RK hnt (nn 2 []) [(6, ow 0 p0.length)] [(0, ob0 (roNode p0))] tv ?_)
  obtain rfl := sj hm
  exact DW.ret (retK [roNode p0] [] (ow 0 p0.length))
 ·intro h2 hm
  refine Sk ?_
  refine Sq (RD hnt (nn 3 []) [16] [(7, pI ((p0.length : Nat) : Int))] [] [] tv ?_)
  obtain ⟨g3, g4, g5, hm⟩ := go3 hm
  refine Sq (RN hnt (nn 8 []) [(0, ow 0 ((Int.toNat p1) + (subN p0.length (Int.toNat p2)))), (7, pI ((p0.length : Nat) : Int))] [(0, ob0 (roNode (overL p0 (0 + (Int.toNat p1)) (subN p0.length (Int.toNat p2)) ((p0.drop (Int.toNat p2)).take (subN p0.length (Int.toNat p2))))))] [] [(0, .row 6 p0.length (overF (elNode p0) (0 + (Int.toNat p1)) (subN p0.length (Int.toNat p2)) (shF (Int.toNat p2) (elNode p0))))] (an (by omega : (0 : Int) ≤ 0) (an (by omega : (0 : Int) ≤ p1) (an (by omega : p1 ≤ ((p0.length : Nat) : Int)) (an (by omega : (0 : Int) ≤ p2) (an (by omega : p2 ≤ ((p0.length : Nat) : Int)) (an (by omega : ((p0.length : Nat) : Int) ≤ ((p0.length : Nat) : Int)) (an g5.1 (an g5.2 tv)))))))) (by kernel_rfl) .nil (.cons rfl (BLe.typed (RowIs.over RowIs.elems (RowIs.sub RowIs.elems (by first | omega | (simp only [subN_eq, addN_eq] at *; omega))) (Nat.le_refl _) g5.1)) .nil) ?_)
  generalize (overL p0 (0 + (Int.toNat p1)) (subN p0.length (Int.toNat p2)) ((p0.drop (Int.toNat p2)).take (subN p0.length (Int.toNat p2)))) = G1 at hm ⊢
  obtain ⟨g6, g7, hm⟩ := go2 hm
  refine Sq (RN hnt (nn 4 (pF :: .no :: [])) [(0, ow 0 ((Int.toNat p1) + (subN p0.length (Int.toNat p2))))] [(0, ob0 (roNode (fillL G1 ((Int.toNat p1) + (subN p0.length (Int.toNat p2))) (subN p0.length ((Int.toNat p1) + (subN p0.length (Int.toNat p2)))) (c82e1))))] [] [(0, .row 6 G1.length (overF (elNode G1) ((Int.toNat p1) + (subN p0.length (Int.toNat p2))) (subN p0.length ((Int.toNat p1) + (subN p0.length (Int.toNat p2)))) (fun _ => [vi 0, vi 0, vs ByteArray.empty, vi 0, vi 0, vi 0])))] (an g6.1 (an g6.2.1 (an g6.2.2 (an g7 tv)))) (by kernel_rfl) .nil (.cons rfl (BLe.typed (RowIs.fill RowIs.elems (c82e1) rfl (by first | exact g7 | omega))) .nil) ?_)
  refine Sq (RD hnt (nn 2 []) [0] [(6, ow 0 ((Int.toNat p1) + (subN p0.length (Int.toNat p2))))] [] [] tv ?_)
  obtain rfl := sj hm
  exact DW.ret (retK [roNode (fillL G1 ((Int.toNat p1) + (subN p0.length (Int.toNat p2))) (subN p0.length ((Int.toNat p1) + (subN p0.length (Int.toNat p2)))) (c82e1))] [] (ow 0 ((Int.toNat p1) + (subN p0.length (Int.toNat p2)))))
abbrev o82 (ks : List Nat) (b : Bool) (RES : Nat × (List Node)) : Orc := .call 159 ks b (ow 0 RES.1) [roNode RES.2] []

abbrev c79e1 : Nat × Body := (1032, .box [.p (.sl .nil 0 0 (fun _ => [])), pI 0])
abbrev c79e2 : Nat × Obj := (1032, bx [.p (slNode []), pI 0])
theorem Remove_treeSpec (p0 : Tree) (p1 : Int) (RES : Tree × Int) (hm : Remove_tree p0 p1 = some RES) : Spec Tryz.prog 123 [.p (.agg (encTree p0)), pI p1] [] (.p (.tup [.agg (encTree RES.1), vi RES.2])) [] [] := by
 unfold Remove_tree at hm
 refine SO Tryz.func123 rfl rfl [(0, .p (.agg (encTree p0))), (1, pI p1)] [] ?_
 intro cx hnt
 refine Sq (RK hnt (nn 3 []) [(1, pI p1), (2, rr 1016), (4, rr 1032)] [(1016, bx (pm (encTree p0))), (1032, bx [.p (.sl .nil 0 0 (fun _ => [])), pI 0])] tv ?_)
 obtain ⟨r1, hr1, hm⟩ := bo hm
 refine Sq (RD hnt (nn 2 (o18 [] true r1 :: .no :: [])) [] [(6, pI r1)] [] [] (an (At_forestSpec p0 p1 r1 hr1) tv) ?_)
 refine Sq (Bk ?_)
 obtain ⟨r2, hr2, hm⟩ := bo hm
 refine Sq (RD hnt (.no :: o8 [] true r2 :: nn 2 []) [] [(11, pB (!r2))] [] [] (an (Check_treeSpec p0 r2 hr2) tv) ?_)
 refine condM hm ?_ ?_
 ·intro h3 hm
  refine Sq (RD hnt (nn 3 []) [1, 2, 6, 11] [(5, pI 1)] [1016] [] tv ?_)
  refine DW.conv (τ := mkSt [(4, rr 1032), (5, pI 1)] [(c79e2)]) (Conv.tp [] [(c79e1)] (by kernel_rfl) .nil (.cons rfl (.box (.cons MLe.nilL (.cons .rfl .nil))) .nil)) ?_
  obtain rfl := sj hm
  exact DW.ret (retK [] [] (.p (.tup [.agg [slNode [], vi 0], vi 1])))
 ·intro h3 hm
  refine Sq (RD hnt (nn 3 []) [11] [(16, pB (decide (r1 < 0)))] [] [] tv ?_)
  refine condM hm ?_ ?_
  ·intro h4 hm
   refine Sq (RD hnt (nn 3 []) [1, 2, 6, 16] [(5, pI 4)] [1016] [] tv ?_)
   refine DW.conv (τ := mkSt [(4, rr 1032), (5, pI 4)] [(c79e2)]) (Conv.tp [] [(c79e1)] (by kernel_rfl) .nil (.cons rfl (.box (.cons MLe.nilL (.cons .rfl .nil))) .nil)) ?_
   obtain rfl := sj hm
   exact DW.ret (retK [] [] (.p (.tup [.agg [slNode [], vi 0], vi 4])))
  ·intro h4 hm
   refine Sq (RD hnt (nn 3 []) [16] [(20, pB (p1 == 1))] [] [] tv ?_)
   refine condM hm ?_ ?_
   ·intro h5 hm
    refine Sq (RD hnt (nn 3 []) [1, 2, 6, 20] [(5, pI 9)] [1016] [] tv ?_)
    refine DW.conv (τ := mkSt [(4, rr 1032), (5, pI 9)] [(c79e2)]) (Conv.tp [] [(c79e1)] (by kernel_rfl) .nil (.cons rfl (.box (.cons MLe.nilL (.cons .rfl .nil))) .nil)) ?_
    obtain rfl := sj hm
    exact DW.ret (retK [] [] (.p (.tup [.agg [slNode [], vi 0], vi 9])))
   ·intro h5 hm
    obtain ⟨r6, hr6, hm⟩ := bo hm
    refine Sq (RD hnt (nn 2 (o80 [] true r6 :: nn 3 [])) [1, 20] [(24, pB (decide (((r6.length : Nat) : Int) > 0)))] [] [] (an (Children_forestSpec p0 p1 r6 hr6) tv) ?_)
    refine condM hm ?_ ?_
    ·intro h7 hm
     refine Sq (RD hnt (nn 3 []) [2, 6, 24] [(5, pI 6)] [1016] [] tv ?_)
     refine DW.conv (τ := mkSt [(4, rr 1032), (5, pI 6)] [(c79e2)]) (Conv.tp [] [(c79e1)] (by kernel_rfl) .nil (.cons rfl (.box (.cons MLe.nilL (.cons .rfl .nil))) .nil)) ?_
     obtain rfl := sj hm
     exact DW.ret (retK [] [] (.p (.tup [.agg [slNode [], vi 0], vi 6])))
    ·intro h7 hm
     refine Sk ?_
     refine DW.done ?_
     show DW _ _ _ _ _
     obtain ⟨r8, hr8, hm⟩ := bo hm
     refine Sq (RD hnt (.no :: o81 [] true r8 :: nn 2 []) [2, 24] [(7, rr 1056)] [1016] [(1056, bx [ow 1256 r8.nodes.length, pI r8.next]), (1256, ob0 (roNode r8.nodes))] (an (copied_treeSpec p0 r8 hr8) tv) ?_)
     obtain ⟨r9, hr9, hm⟩ := bo hm
     obtain ⟨g10, g11, hm⟩ := go2 hm
     refine Sq (RD hnt (nn 5 (o82 [1256] true r9 :: nn 2 [])) [6] [] [] [(1056, bx [ow 1256 r9.1, pI r8.next]), (1256, ob0 (roNode r9.2))] (an (Delete_slices_NodeSpec r8.nodes r1 (w64 (r1 + 1)) r9 hr9) (an (⟨rfl, g10⟩ : Body.same (roNode r8.nodes) (roNode r9.2)) tv)) ?_)
     refine Sq (RD hnt (nn 3 []) [7] [(5, pI 0)] [1056] [(1032, bx [ow 1256 r9.1, pI r8.next])] tv ?_)
     refine DW.conv (τ := mkSt [(4, rr 1032), (5, pI 0)] [(1032, bx [.p (slNode (r9.2.take r9.1)), pI r8.next])]) (Conv.trans (τ := mkSt [(4, rr 1032), (5, pI 0)] [(1032, bx [.p (.sl .unk 6 r9.1 (elNode r9.2)), pI r8.next])]) (Conv.frz [1256]) (Conv.tp [] [(1032, .box [.p (.sl .unk 6 r9.1 (elNode r9.2)), pI r8.next])] (by kernel_rfl) .nil (.cons rfl (.box (.cons (MLe.typed (RowIs.take RowIs.elems (by first | omega | (simp only [subN_eq, addN_eq] at *; omega)))) (.cons .rfl .nil))) .nil))) ?_
     obtain rfl := sj hm
     exact DW.ret (retK [] [] (.p (.tup [.agg [slNode (r9.2.take r9.1), vi r8.next], vi 0])))
abbrev o79 (ks : List Nat) (b : Bool) (RES : Tree × Int) : Orc := .call 123 ks b (.p (.tup [.agg (encTree RES.1), vi RES.2])) [] []

theorem TasksFa_crewSpec (p0 : Task) (p1 : Int) (RES : Bool) (hm : TasksFa_crew p0 p1 = some RES) : Spec Tryz.prog 151 [.p (.agg (encTask p0)), rr 0] [.box [pI p1]] (pB RES) [.box [pI p1]] [] := by
 unfold TasksFa_crew at hm
 refine SO Tryz.func151 rfl rfl [(0, .p (.agg (encTask p0))), (1, rr 0)] [(0, bx [pI p1])] ?_
 intro cx hnt
 refine Sq (RD hnt (nn 2 []) [0] [(2, rr 1016)] [] [(1016, bx (pm (encTask p0)))] tv ?_)
 refine Sq (RK hnt (nn 5 []) [(3, pB (p0.group == p1))] [(0, bx [pI p1])] tv ?_)
 obtain rfl := sj hm
 exact DW.ret (retK [.box [pI p1]] [] (pB (p0.group == p1)))

theorem ID_crewSpec (p0 : Task) (RES : Int) (hm : ID_crew p0 = some RES) : Spec Tryz.prog 148 [.p (.agg (encTask p0))] [] (pI RES) [] [] := by
 unfold ID_crew at hm
 refine SO Tryz.func148 rfl rfl [(0, .p (.agg (encTask p0)))] [] ?_
 intro cx hnt
 refine Sq (RK hnt (nn 2 []) [(1, rr 1008)] [(1008, bx (pm (encTask p0)))] tv ?_)
 refine Sq (RK hnt (nn 3 []) [(2, pI p0.id)] [] tv ?_)
 obtain rfl := sj hm
 exact DW.ret (retK [] [] (pI p0.id))
abbrev o86 (ks : List Nat) (b : Bool) (RES : Int) : Orc := .call 148 ks b (pI RES) [] []

abbrev c89e1 (y3 : Int × Int) := (w64 (y3.2 + (w64 (((byteAt (bs [0, 1, 2, 2, 3, 3, 3, 3, 4, 4, 4, 4, 4, 4, 4, 4, 5, 5, 5, 5, 5, 5, 5, 5, 5, 5, 5, 5, 5, 5, 5, 5, 6, 6, 6, 6, 6, 6, 6, 6, 6, 6, 6, 6, 6, 6, 6, 6, 6, 6, 6, 6, 6, 6, 6, 6, 6, 6, 6, 6, 6, 6, 6, 6, 7, 7, 7, 7, 7, 7, 7, 7, 7, 7, 7, 7, 7, 7, 7, 7, 7, 7, 7, 7, 7, 7, 7, 7, 7, 7, 7, 7, 7, 7, 7, 7, 7, 7, 7, 7, 7, 7, 7, 7, 7, 7, 7, 7, 7, 7, 7, 7, 7, 7, 7, 7, 7, 7, 7, 7, 7, 7, 7, 7, 7, 7, 7, 7, 8, 8, 8, 8, 8, 8, 8, 8, 8, 8, 8, 8, 8, 8, 8, 8, 8, 8, 8, 8, 8, 8, 8, 8, 8, 8, 8, 8, 8, 8, 8, 8, 8, 8, 8, 8, 8, 8, 8, 8, 8, 8, 8, 8, 8, 8, 8, 8, 8, 8, 8, 8, 8, 8, 8, 8, 8, 8, 8, 8, 8, 8, 8, 8, 8, 8, 8, 8, 8, 8, 8, 8, 8, 8, 8, 8, 8, 8, 8, 8, 8, 8, 8, 8, 8, 8, 8, 8, 8, 8, 8, 8, 8, 8, 8, 8, 8, 8, 8, 8, 8, 8, 8, 8, 8, 8, 8, 8, 8, 8, 8, 8, 8, 8, 8, 8, 8, 8, 8, 8, 8, 8, 8, 8, 8, 8, 8, 8]) (Int.toNat (IntKind.u8.wrap y3.1))) : Nat) : Int))))
theorem Len64_bitsSpec (p0 : Int) (RES : Int) (hm : Len64_bits p0 = some RES) : Spec Tryz.prog 187 [.p (vk .u64 p0)] [] (pI RES) [] [] := by
 unfold Len64_bits at hm
 refine SO Tryz.func187 rfl rfl [(0, .p (vk .u64 p0))] [] ?_
 intro cx hnt
 refine Sq (RD hnt (.no :: []) [] [(2, pI 0)] [] [] tv ?_)
 refine Sq (Sq (RD hnt (nn 2 []) [] [(4, pB (decide (p0 ≥ 4294967296)))] [] [] tv ?_))
 refine Jn (ι := Int × Int) (fun (y1 : Int × Int) => mkSt [(0, .p (vk .u64 y1.1)), (2, pI y1.2)] []) (fun y1 => Len64_bitsJ1 y1 = some RES) ?_ ?_
 ·intro y1 hm
  unfold Len64_bitsJ1 at hm
  refine Sq (Sq (RD hnt (nn 2 []) [] [(8, pB (decide (y1.1 ≥ 65536)))] [] [] tv ?_))
  refine Jn (ι := Int × Int) (fun (y2 : Int × Int) => mkSt [(0, .p (vk .u64 y2.1)), (2, pI y2.2)] []) (fun y2 => Len64_bitsJ2 y2 = some RES) ?_ ?_
  ·intro y2 hm
   unfold Len64_bitsJ2 at hm
   refine Sq (Sq (RD hnt (nn 2 []) [] [(14, pB (decide (y2.1 ≥ 256)))] [] [] tv ?_))
   refine Jn (ι := Int × Int) (fun (y3 : Int × Int) => mkSt [(0, .p (vk .u64 y3.1)), (2, pI y3.2)] []) (fun y3 => Len64_bitsJ3 y3 = some RES) ?_ ?_
   ·intro y3 hm
    unfold Len64_bitsJ3 at hm
    obtain ⟨g4, hm⟩ := go1 hm
    refine Sq (RK hnt (nn 7 []) [(2, pI (c89e1 y3))] [] (an g4.1 (an g4.2 tv)) ?_)
    obtain rfl := sj hm
    exact DW.ret (retK [] [] (pI (c89e1 y3)))
   ·refine condM hm ?_ ?_
    ·intro h3 hm
     refine Sq (RK hnt (nn 3 []) [(0, .p (vk .u64 (kshr .u64 y2.1 8))), (2, pI y2.2)] [] (an (by decide : (0 : Int) ≤ 8) tv) ?_)
     refine RD hnt (nn 3 []) [] [(2, pI (w64 (y2.2 + 8)))] [] [] tv ?_
     exact jD ((kshr .u64 y2.1 8), (w64 (y2.2 + 8))) hm Conv.eqK
    ·intro h3 hm
     refine Sk ?_
     exact jD (y2.1, y2.2) hm Conv.t0
  ·refine condM hm ?_ ?_
   ·intro h2 hm
    refine Sq (RK hnt (nn 3 []) [(0, .p (vk .u64 (kshr .u64 y1.1 16))), (2, pI y1.2)] [] (an (by decide : (0 : Int) ≤ 16) tv) ?_)
    refine RD hnt (nn 3 []) [] [(2, pI (w64 (y1.2 + 16)))] [] [] tv ?_
    exact jD ((kshr .u64 y1.1 16), (w64 (y1.2 + 16))) hm Conv.eqK
   ·intro h2 hm
    refine Sk ?_
    exact jD (y1.1, y1.2) hm Conv.t0
 ·refine condM hm ?_ ?_
  ·intro h1 hm
   refine Sq (RK hnt (nn 3 []) [(0, .p (vk .u64 (kshr .u64 p0 32)))] [] (an (by decide : (0 : Int) ≤ 32) tv) ?_)
   refine RD hnt (.no :: []) [] [(2, pI 32)] [] [] tv ?_
   exact jD ((kshr .u64 p0 32), 32) hm Conv.eqK
  ·intro h1 hm
   refine Sk ?_
   exact jD (p0, 0) hm Conv.t0
abbrev o89 (ks : List Nat) (b : Bool) (RES : Int) : Orc := .call 187 ks b (pI RES) [] []

theorem Len_bitsSpec (p0 : Int) (RES : Int) (hm : Len_bits p0 = some RES) : Spec Tryz.prog 169 [.p (vk .u64 p0)] [] (pI RES) [] [] := by
 unfold Len_bits at hm
 refine SO Tryz.func169 rfl rfl [(0, .p (vk .u64 p0))] [] ?_
 intro cx hnt
 refine Sq (RD hnt (.no :: []) [] [] [] [] tv ?_)
 refine Sq (condF ff ?_)
 refine Sk ?_
 obtain ⟨r1, hr1, hm⟩ := bo hm
 refine Sq (RK hnt (.no :: o89 [] true r1 :: .no :: []) [(2, pI r1)] [] (an (Len64_bitsSpec p0 r1 hr1) tv) ?_)
 obtain rfl := sj hm
 exact DW.ret (retK [] [] (pI r1))
abbrev o88 (ks : List Nat) (b : Bool) (RES : Int) : Orc := .call 169 ks b (pI RES) [] []

theorem isNaN_cmp_intSpec (p0 : Int) (RES : Bool) (hm : isNaN_cmp_int p0 = some RES) : Spec Tryz.prog 195 [pI p0] [] (pB RES) [] [] := by
 unfold isNaN_cmp_int at hm
 refine SO Tryz.func195 rfl rfl [(0, pI p0)] [] ?_
 intro cx hnt
 refine Sq (RK hnt (.no :: []) [(0, pI p0)] [] tv ?_)
 refine Sq (RK hnt (nn 4 []) [(2, pB (p0 != p0))] [] tv ?_)
 obtain rfl := sj hm
 exact DW.ret (retK [] [] (pB (p0 != p0)))
abbrev o93 (ks : List Nat) (b : Bool) (RES : Bool) : Orc := .call 195 ks b (pB RES) [] []

theorem Less_cmp_intSpec (p0 : Int) (p1 : Int) (RES : Bool) (hm : Less_cmp_int p0 p1 = some RES) : Spec Tryz.prog 183 [pI p0, pI p1] [] (pB RES) [] [] := by
 unfold Less_cmp_int at hm
 refine SO Tryz.func183 rfl rfl [(0, pI p0), (1, pI p1)] [] ?_
 intro cx hnt
 refine Sq (RD hnt (.no :: []) [] [] [] [] tv ?_)
 obtain ⟨r1, hr1, hm⟩ := bo hm
 refine Sq ?_
 refine Jn (ι := Bool) (fun (y1 : Bool) => mkSt [(4, pB y1)] []) (fun y1 => Less_cmp_intJ1 y1 = some RES) ?_ ?_
 ·intro y1 hm
  unfold Less_cmp_intJ1 at hm
  obtain rfl := sj hm
  exact DW.ret (retK [] [] (pB y1))
 ·rcases bt r1 with h2 | h2
  ·replace hm := if_t h2 hm
   obtain ⟨r3, hr3, hm⟩ := bo hm
   rcases bt (!r3) with h4 | h4
   ·replace hm := if_t h4 hm
    refine RK hnt (.no :: o93 [] true r1 :: nn 2 (o93 [] true r3 :: .no :: pT :: .no :: sk 3 (pT :: .no :: []))) [(4, pB true)] [] (an (isNaN_cmp_intSpec p0 r1 hr1) (an2 h2 (an (isNaN_cmp_intSpec p1 r3 hr3) (an2 h2 (an4 h4 tv))))) ?_
    exact jD true hm .refl
   ·replace hm := if_f h4 hm
    refine RK hnt (.no :: o93 [] true r1 :: nn 2 (o93 [] true r3 :: .no :: pT :: nn 4 (pF :: .no :: []))) [(4, pB (decide (p0 < p1)))] [] (an (isNaN_cmp_intSpec p0 r1 hr1) (an2 h2 (an (isNaN_cmp_intSpec p1 r3 hr3) (an2 h2 (an4 h4 tv))))) ?_
    exact jD (decide (p0 < p1)) hm .refl
  ·replace hm := if_f h2 hm
   refine RK hnt (.no :: o93 [] true r1 :: .no :: sk 3 (pF :: nn 4 (pF :: .no :: []))) [(4, pB (decide (p0 < p1)))] [] (an (isNaN_cmp_intSpec p0 r1 hr1) (an4 h2 (an4 ff tv))) ?_
   exact jD (decide (p0 < p1)) hm .refl
abbrev o92 (ks : List Nat) (b : Bool) (RES : Bool) : Orc := .call 183 ks b (pB RES) [] []

abbrev c91e1 (s4 : (List Int) × Int) := (s4.1.getD (Int.toNat (w64 (s4.2 - 1))) 0)
abbrev c91e2 (s4 : (List Int) × Int) := (updF (updF (elI s4.1) (Int.toNat s4.2) [vi (c91e1 s4)]) (Int.toNat (w64 (s4.2 - 1))) (setRange ((updF (elI s4.1) (Int.toNat s4.2) [vi (c91e1 s4)]) (Int.toNat (w64 (s4.2 - 1)))) 0 [vi (s4.1.getD (Int.toNat s4.2) 0)]))
abbrev c91e3 (s4 : (List Int) × Int) := ((s4.1.set (Int.toNat s4.2) (c91e1 s4)).set (Int.toNat (w64 (s4.2 - 1))) (s4.1.getD (Int.toNat s4.2) 0))
theorem insertionSortOrdered_slices_intSpec (p0 : List Int) (p1 : Int) (p2 : Int) (RES : List Int) (hm : insertionSortOrdered_slices_int p0 p1 p2 = some RES) : Spec Tryz.prog 177 [ow 0 p0.length, pI p1, pI p2] [roI p0] (.p (.tup [])) [roI RES] [] := by
 unfold insertionSortOrdered_slices_int at hm
 refine SO Tryz.func177 rfl rfl [(0, ow 0 p0.length), (1, pI p1), (2, pI p2)] [(0, ob0 (roI p0))] ?_
 intro cx hnt
 refine Sq (RD hnt (nn 3 []) [] [(6, pI (w64 (p1 + 1)))] [] [] tv ?_)
 refine Bk ?_
 obtain ⟨hc1, hm⟩ := go1 hm
 refine DW.forO (fun (k1 : Int) (s1 : List Int) => mkSt [(0, ow 0 s1.length), (1, pI p1), (2, pI p2), (6, pI k1)] [(0, ob0 (roI s1))]) (lo := (w64 (p1 + 1))) (hi := p2) hm Conv.eqK ?_
 intro k1 s1 n1 hk1 hs1 he1
 refine Sq (Sq (RD hnt (nn 3 []) [] [(12, pB (decide (k1 < p2)))] [] [] tv ?_))
 refine condK (decide (k1 < p2)) ?_ ?_
 ·intro h75
  have hlt1 : k1 < p2 := by have := of_decide_eq_true h75; omega
  have hm := hs1 hlt1
  unfold insertionSortOrdered_slices_intL1 at hm
  refine Sk ?_
  refine Sq (Bk ?_)
  refine Sq (RD hnt (nn 2 []) [12] [(7, pI k1)] [] [] tv ?_)
  refine Bk ?_
  refine DW.whileO (fun (s4 : (List Int) × Int) => mkSt [(0, ow 0 s4.1.length), (1, pI p1), (2, pI p2), (6, pI k1), (7, pI s4.2)] [(0, ob0 (roI s4.1))]) hm Conv.eqK ?_
  intro s4 n4 hm
  unfold insertionSortOrdered_slices_intL4 at hm
  refine Sq (Sq ?_)
  refine Jn (ι := Bool) (fun (y6 : Bool) => mkSt [(0, ow 0 s4.1.length), (1, pI p1), (2, pI p2), (6, pI k1), (7, pI s4.2), (30, pB y6)] [(0, ob0 (roI s4.1))]) (fun y6 => (insertionSortOrdered_slices_intJ6 n1 s4 n4) y6 = some RES) ?_ ?_
  ·intro y6 hm
   unfold insertionSortOrdered_slices_intJ6 at hm
   refine condM hm ?_ ?_
   ·intro h97 hm
    refine Sk ?_
    refine Sq (Bk ?_)
    obtain ⟨g98, g99, g100, g101, hm⟩ := go4 hm
    obtain ⟨g102, g103, g104, g105, hm⟩ := go4 hm
    refine RN hnt (nn 18 []) [(0, ow 0 (c91e3 s4).length), (1, pI p1), (2, pI p2), (6, pI k1), (7, pI s4.2)] [(0, ob0 (roI (c91e3 s4)))] [(0, ow 0 s4.1.length)] [(0, .row 1 s4.1.length (c91e2 s4))] (an g98.1 (an g98.2 (an g99 (an g100.1 (an g100.2 (an g101 (an g102.1 (an g102.2 (an g103 (an g104.1 (an g104.2 (an g105 tv)))))))))))) (by kernel_rfl) (.cons rfl (MLe.ownLen (enc := encI) (d := 0) (f := (c91e2 s4)) (RowIs.updR (RowIs.upd RowIs.elems (c91e1 s4) rfl) (by omega) (s4.1.getD (Int.toNat s4.2) 0) rfl)) .nil) (.cons rfl (BLe.typed (RowIs.updR (RowIs.upd RowIs.elems (c91e1 s4) rfl) (by omega) (s4.1.getD (Int.toNat s4.2) 0) rfl)) .nil) ?_
    refine DW.done ?_
    show DW _ _ _ _ _
    refine RD hnt (nn 3 []) [] [(7, pI (w64 (s4.2 - 1)))] [] [] tv ?_
    exact jD ((c91e3 s4), (w64 (s4.2 - 1))) hm Conv.eqK
   ·intro h97 hm
    refine DW.exit ?_
    refine joinQ_exit ?_
    refine KQ_exit ?_
    refine blockQ_exit ?_
    show DW _ _ _ _ _
    refine DW.done ?_
    show DW _ _ _ _ _
    refine RD hnt (nn 3 []) [7, 30] [(6, pI (w64 (k1 + 1)))] [] [] tv ?_
    exact jD s4.1 ⟨hlt1, hm⟩ (Conv.tp [(6, pI (w64 (k1 + 1)))] [] (by kernel_rfl) (.cons rfl (.of_eq (congrArg pI (w64_for (lo := (w64 (p1 + 1))) (hi := p2) (by omega) hk1 hlt1 (by omega)))) .nil) .nil)
  ·rcases bt (decide (s4.2 > p1)) with h91 | h91
   ·replace hm := if_t h91 hm
    obtain ⟨g92, g93, g94, g95, hm⟩ := go4 hm
    obtain ⟨r96, hr96, hm⟩ := bo hm
    refine RD hnt (nn 13 (o92 [] true r96 :: pT :: [])) [] [(30, pB r96)] [] [] (an3 h91 (an g92.1 (an g92.2 (an h91 (an g93 (an4 h91 (an g94.1 (an g94.2 (an h91 (an g95 (an h91 (an (Less_cmp_intSpec (s4.1.getD (Int.toNat s4.2) 0) (c91e1 s4) r96 hr96) (an h91 tv))))))))))))) ?_
    exact jD r96 hm Conv.eqK
   ·replace hm := if_f h91 hm
    refine RD hnt (nn 4 (sk 10 (pF :: []))) [] [(30, pB false)] [] [] (an5 h91 (an6 h91 tv)) ?_
    exact jD false hm Conv.eqK
 ·intro h75
  have hge1 : ¬ k1 < p2 := by have := of_decide_eq_false h75; omega
  have hm := he1 hge1
  unfold insertionSortOrdered_slices_intD1 at hm
  refine DW.exit ?_
  refine joinQ_exit ?_
  refine KQ_exit ?_
  refine blockQ_exit ?_
  show DW _ _ _ _ _
  refine DW.done ?_
  obtain rfl := sj hm
  exact endK [roI s1] [] (.p (.tup []))
abbrev o91 (ks : List Nat) (b : Bool) (RES : List Int) : Orc := .call 177 ks b (.p (.tup [])) [roI RES] []

abbrev c95e1 (s1 : (List Int) × Int) (p3 : Int) (y4 : Int) := (updF (updF (elI s1.1) (Int.toNat (w64 (p3 + s1.2))) [vi (s1.1.getD (Int.toNat (w64 (p3 + y4))) 0)]) (Int.toNat (w64 (p3 + y4))) (setRange ((updF (elI s1.1) (Int.toNat (w64 (p3 + s1.2))) [vi (s1.1.getD (Int.toNat (w64 (p3 + y4))) 0)]) (Int.toNat (w64 (p3 + y4)))) 0 [vi (s1.1.getD (Int.toNat (w64 (p3 + s1.2))) 0)]))
abbrev c95e2 (s1 : (List Int) × Int) (p3 : Int) (y4 : Int) := ((s1.1.set (Int.toNat (w64 (p3 + s1.2))) (s1.1.getD (Int.toNat (w64 (p3 + y4))) 0)).set (Int.toNat (w64 (p3 + y4))) (s1.1.getD (Int.toNat (w64 (p3 + s1.2))) 0))
abbrev c95e3 (s1 : (List Int) × Int) := (w64 ((w64 (2 * s1.2)) + 1))
theorem siftDownOrdered_slices_intSpec (p0 : List Int) (p1 : Int) (p2 : Int) (p3 : Int) (RES : List Int) (hm : siftDownOrdered_slices_int p0 p1 p2 p3 = some RES) : Spec Tryz.prog 190 [ow 0 p0.length, pI p1, pI p2, pI p3] [roI p0] (.p (.tup [])) [roI RES] [] := by
 unfold siftDownOrdered_slices_int at hm
 refine SO Tryz.func190 rfl rfl [(0, ow 0 p0.length), (1, pI p1), (2, pI p2), (3, pI p3)] [(0, ob0 (roI p0))] ?_
 intro cx hnt
 refine Sq (RD hnt (nn 2 []) [1] [(8, pI p1)] [] [] tv ?_)
 refine Bk ?_
 refine DW.whileO (fun (s1 : (List Int) × Int) => mkSt [(0, ow 0 s1.1.length), (2, pI p2), (3, pI p3), (8, pI s1.2)] [(0, ob0 (roI s1.1))]) hm Conv.eqK ?_
 intro s1 n1 hm
 unfold siftDownOrdered_slices_intL1 at hm
 refine Bk ?_
 refine Sq (RD hnt (nn 4 []) [] [(9, pI (c95e3 s1))] [] [] tv ?_)
 refine Sq (Sq (RD hnt (nn 3 []) [] [(16, pB (decide ((c95e3 s1) ≥ p2)))] [] [] tv ?_))
 refine condM hm ?_ ?_
 ·intro h23 hm
  refine DW.exit ?_
  refine blockQ_other (by decide) ?_
  refine KQ_exit ?_
  refine joinQ_exit ?_
  refine KQ_exit ?_
  refine blockQ_exit ?_
  show DW _ _ _ _ _
  refine DW.done ?_
  obtain rfl := sj hm
  exact endK [roI s1.1] [] (.p (.tup []))
 ·intro h23 hm
  refine Sk ?_
  refine Sq (Sq ?_)
  refine Jn (ι := Bool) (fun (y3 : Bool) => mkSt [(0, ow 0 s1.1.length), (2, pI p2), (3, pI p3), (8, pI s1.2), (9, pI (c95e3 s1)), (36, pB y3)] [(0, ob0 (roI s1.1))]) (fun y3 => (siftDownOrdered_slices_intJ3 p3 s1 n1) y3 = some RES) ?_ ?_
  ·intro y3 hm
   unfold siftDownOrdered_slices_intJ3 at hm
   refine Jn (ι := Int) (fun (y4 : Int) => mkSt [(0, ow 0 s1.1.length), (2, pI p2), (3, pI p3), (8, pI s1.2), (9, pI y4)] [(0, ob0 (roI s1.1))]) (fun y4 => (siftDownOrdered_slices_intJ4 p3 s1 n1) y4 = some RES) ?_ ?_
   ·intro y4 hm
    unfold siftDownOrdered_slices_intJ4 at hm
    obtain ⟨g31, g32, g33, g34, hm⟩ := go4 hm
    obtain ⟨r35, hr35, hm⟩ := bo hm
    refine Sq (Sq (RD hnt (nn 12 (o92 [] true r35 :: .no :: [])) [] [(52, pB (!r35))] [] [] (an g31.1 (an g31.2 (an g32 (an g33.1 (an g33.2 (an g34 (an (Less_cmp_intSpec (s1.1.getD (Int.toNat (w64 (p3 + s1.2))) 0) (s1.1.getD (Int.toNat (w64 (p3 + y4))) 0) r35 hr35) tv))))))) ?_))
    refine condM hm ?_ ?_
    ·intro h36 hm
     obtain rfl := sj hm
     exact DW.ret (retK [roI s1.1] [] (.p (.tup [])))
    ·intro h36 hm
     refine Sk ?_
     obtain ⟨g37, g38, g39, g40, hm⟩ := go4 hm
     obtain ⟨g41, g42, g43, g44, hm⟩ := go4 hm
     refine Sq (RN hnt (nn 24 []) [(0, ow 0 (c95e2 s1 p3 y4).length), (2, pI p2), (3, pI p3), (9, pI y4)] [(0, ob0 (roI (c95e2 s1 p3 y4)))] [(0, ow 0 s1.1.length)] [(0, .row 1 s1.1.length (c95e1 s1 p3 y4))] (an g37.1 (an g37.2 (an g38 (an g39.1 (an g39.2 (an g40 (an g41.1 (an g41.2 (an g42 (an g43.1 (an g43.2 (an g44 tv)))))))))))) (by kernel_rfl) (.cons rfl (MLe.ownLen (enc := encI) (d := 0) (f := (c95e1 s1 p3 y4)) (RowIs.updR (RowIs.upd RowIs.elems (s1.1.getD (Int.toNat (w64 (p3 + y4))) 0) rfl) (by omega) (s1.1.getD (Int.toNat (w64 (p3 + s1.2))) 0) rfl)) .nil) (.cons rfl (BLe.typed (RowIs.updR (RowIs.upd RowIs.elems (s1.1.getD (Int.toNat (w64 (p3 + y4))) 0) rfl) (by omega) (s1.1.getD (Int.toNat (w64 (p3 + s1.2))) 0) rfl)) .nil) ?_)
     refine RD hnt (nn 2 []) [9] [(8, pI y4)] [] [] tv ?_
     refine DW.done ?_
     show DW _ _ _ _ _
     exact jD ((c95e2 s1 p3 y4), y4) hm Conv.eqK
   ·refine condM hm ?_ ?_
    ·intro h30 hm
     refine RD hnt (nn 3 []) [36] [(9, pI (w64 ((c95e3 s1) + 1)))] [] [] tv ?_
     exact jD (w64 ((c95e3 s1) + 1)) hm Conv.eqK
    ·intro h30 hm
     refine Sk ?_
     exact jD (c95e3 s1) hm Conv.t0
  ·rcases bt (decide ((w64 ((c95e3 s1) + 1)) < p2)) with h24 | h24
   ·replace hm := if_t h24 hm
    obtain ⟨g25, g26, g27, g28, hm⟩ := go4 hm
    obtain ⟨r29, hr29, hm⟩ := bo hm
    refine RD hnt (nn 18 (o92 [] true r29 :: pT :: [])) [16] [(36, pB r29)] [] [] (an5 h24 (an g25.1 (an g25.2 (an h24 (an g26 (an6 h24 (an g27.1 (an g27.2 (an h24 (an g28 (an h24 (an (Less_cmp_intSpec (s1.1.getD (Int.toNat (w64 (p3 + (c95e3 s1)))) 0) (s1.1.getD (Int.toNat (w64 ((w64 (p3 + (c95e3 s1))) + 1))) 0) r29 hr29) (an h24 tv))))))))))))) ?_
    exact jD r29 hm Conv.eqK
   ·replace hm := if_f h24 hm
    refine RD hnt (nn 5 (sk 14 (pF :: []))) [16] [(36, pB false)] [] [] (an3 h24 (an6 h24 (an6 h24 tv))) ?_
    exact jD false hm Conv.eqK
abbrev o95 (ks : List Nat) (b : Bool) (RES : List Int) : Orc := .call 190 ks b (.p (.tup [])) [roI RES] []

abbrev c94e1 (s3 : (List Int) × Int) (p1 : Int) := ((s3.1.set (Int.toNat p1) (s3.1.getD (Int.toNat (w64 (p1 + s3.2))) 0)).set (Int.toNat (w64 (p1 + s3.2))) (s3.1.getD (Int.toNat p1) 0))
abbrev c94e2 (s3 : (List Int) × Int) (p1 : Int) := (updF (updF (elI s3.1) (Int.toNat p1) [vi (s3.1.getD (Int.toNat (w64 (p1 + s3.2))) 0)]) (Int.toNat (w64 (p1 + s3.2))) (setRange ((updF (elI s3.1) (Int.toNat p1) [vi (s3.1.getD (Int.toNat (w64 (p1 + s3.2))) 0)]) (Int.toNat (w64 (p1 + s3.2)))) 0 [vi (s3.1.getD (Int.toNat p1) 0)]))
theorem heapSortOrdered_slices_intSpec (p0 : List Int) (p1 : Int) (p2 : Int) (RES : List Int) (hm : heapSortOrdered_slices_int p0 p1 p2 = some RES) : Spec Tryz.prog 178 [ow 0 p0.length, pI p1, pI p2] [roI p0] (.p (.tup [])) [roI RES] [] := by
 unfold heapSortOrdered_slices_int at hm
 refine SO Tryz.func178 rfl rfl [(0, ow 0 p0.length), (1, pI p1), (2, pI p2)] [(0, ob0 (roI p0))] ?_
 intro cx hnt
 refine Sq (RD hnt (nn 2 []) [] [(6, pI p1)] [] [] tv ?_)
 refine Sq (RD hnt (.no :: []) [] [(7, pI 0)] [] [] tv ?_)
 refine Sq (RD hnt (nn 4 []) [1, 2] [(8, pI (w64 (p2 - p1)))] [] [] tv ?_)
 refine Sq (Sq (RD hnt (nn 4 []) [] [(9, pI (w64 (Int.tdiv (w64 ((w64 (p2 - p1)) - 1)) 2)))] [] [] (an (by decide : (2 : Int) ≠ 0) tv) ?_))
 refine Bk ?_
 refine DW.whileO (fun (s1 : (List Int) × Int) => mkSt [(0, ow 0 s1.1.length), (6, pI p1), (7, pI 0), (8, pI (w64 (p2 - p1))), (9, pI s1.2)] [(0, ob0 (roI s1.1))]) hm Conv.eqK ?_
 intro s1 n1 hm
 unfold heapSortOrdered_slices_intL1 at hm
 refine Sq (Sq (RD hnt (nn 2 []) [] [(19, pB (decide (s1.2 ≥ 0)))] [] [] tv ?_))
 refine condM hm ?_ ?_
 ·intro h26 hm
  refine Sk ?_
  refine Sq (Bk ?_)
  obtain ⟨r27, hr27, hm⟩ := bo hm
  obtain ⟨g28, hm⟩ := go1 hm
  refine RN hnt (nn 4 (o95 [0] true r27 :: [])) [(0, ow 0 r27.length), (6, pI p1), (7, pI 0), (8, pI (w64 (p2 - p1))), (9, pI s1.2)] [(0, ob0 (roI r27))] [(0, ow 0 s1.1.length)] [] (an (siftDownOrdered_slices_intSpec s1.1 s1.2 (w64 (p2 - p1)) p1 r27 hr27) (an (⟨rfl, g28⟩ : Body.same (roI s1.1) (roI r27)) tv)) (by kernel_rfl) (.cons rfl (MLe.of_eq (congrArg (MV.own 0 0 0) g28)) .nil) .nil ?_
  refine DW.done ?_
  show DW _ _ _ _ _
  refine RD hnt (nn 3 []) [] [(9, pI (w64 (s1.2 - 1)))] [] [] tv ?_
  exact jD (r27, (w64 (s1.2 - 1))) hm Conv.eqK
 ·intro h26 hm
  refine DW.exit ?_
  refine joinQ_exit ?_
  refine KQ_exit ?_
  refine blockQ_exit ?_
  show DW _ _ _ _ _
  refine Sq (RD hnt (nn 3 []) [8, 9, 19] [(10, pI (w64 ((w64 (p2 - p1)) - 1)))] [] [] tv ?_)
  refine Bk ?_
  refine DW.whileO (fun (s3 : (List Int) × Int) => mkSt [(0, ow 0 s3.1.length), (6, pI p1), (7, pI 0), (10, pI s3.2)] [(0, ob0 (roI s3.1))]) hm Conv.eqK ?_
  intro s3 n3 hm
  unfold heapSortOrdered_slices_intL3 at hm
  refine Sq (Sq (RD hnt (nn 2 []) [] [(30, pB (decide (s3.2 ≥ 0)))] [] [] tv ?_))
  refine condM hm ?_ ?_
  ·intro h40 hm
   refine Sk ?_
   refine Sq (Bk ?_)
   obtain ⟨g41, g42, g43, g44, hm⟩ := go4 hm
   obtain ⟨g45, g46, g47, g48, hm⟩ := go4 hm
   refine Sq (RN hnt (nn 20 []) [(0, ow 0 (c94e1 s3 p1).length), (6, pI p1), (7, pI 0), (10, pI s3.2)] [(0, ob0 (roI (c94e1 s3 p1)))] [(0, ow 0 s3.1.length)] [(0, .row 1 s3.1.length (c94e2 s3 p1))] (an g41.1 (an g41.2 (an g42 (an g43.1 (an g43.2 (an g44 (an g45.1 (an g45.2 (an g46 (an g47.1 (an g47.2 (an g48 tv)))))))))))) (by kernel_rfl) (.cons rfl (MLe.ownLen (enc := encI) (d := 0) (f := (c94e2 s3 p1)) (RowIs.updR (RowIs.upd RowIs.elems (s3.1.getD (Int.toNat (w64 (p1 + s3.2))) 0) rfl) (by omega) (s3.1.getD (Int.toNat p1) 0) rfl)) .nil) (.cons rfl (BLe.typed (RowIs.updR (RowIs.upd RowIs.elems (s3.1.getD (Int.toNat (w64 (p1 + s3.2))) 0) rfl) (by omega) (s3.1.getD (Int.toNat p1) 0) rfl)) .nil) ?_)
   obtain ⟨r49, hr49, hm⟩ := bo hm
   obtain ⟨g50, hm⟩ := go1 hm
   refine RN hnt (nn 4 (o95 [0] true r49 :: [])) [(0, ow 0 r49.length), (6, pI p1), (7, pI 0), (10, pI s3.2)] [(0, ob0 (roI r49))] [(0, ow 0 (c94e1 s3 p1).length)] [] (an (siftDownOrdered_slices_intSpec (c94e1 s3 p1) 0 s3.2 p1 r49 hr49) (an (⟨rfl, g50⟩ : Body.same (roI (c94e1 s3 p1)) (roI r49)) tv)) (by kernel_rfl) (.cons rfl (MLe.of_eq (congrArg (MV.own 0 0 0) g50)) .nil) .nil ?_
   refine DW.done ?_
   show DW _ _ _ _ _
   refine RD hnt (nn 3 []) [] [(10, pI (w64 (s3.2 - 1)))] [] [] tv ?_
   exact jD (r49, (w64 (s3.2 - 1))) hm Conv.eqK
  ·intro h40 hm
   refine DW.exit ?_
   refine joinQ_exit ?_
   refine KQ_exit ?_
   refine blockQ_exit ?_
   show DW _ _ _ _ _
   refine DW.done ?_
   obtain rfl := sj hm
   exact endK [roI s3.1] [] (.p (.tup []))
abbrev o94 (ks : List Nat) (b : Bool) (RES : List Int) : Orc := .call 178 ks b (.p (.tup [])) [roI RES] []

theorem order2Ordered_slices_intSpec (p0 : List Int) (p1 : Int) (p2 : Int) (p3 : Int) (RES : Int × Int × Int) (hm : order2Ordered_slices_int p0 p1 p2 p3 = some RES) : Spec Tryz.prog 196 [.p (slI p0), pI p1, pI p2, rr 0] [.box [pI p3]] (.p (.tup [vi RES.1, vi RES.2.1])) [.box [pI RES.2.2]] [] := by
 unfold order2Ordered_slices_int at hm
 refine SO Tryz.func196 rfl rfl [(0, .p (slI p0)), (1, pI p1), (2, pI p2), (3, rr 0)] [(0, bx [pI p3])] ?_
 intro cx hnt
 refine Sq (RD hnt (nn 2 []) [] [] [] [] tv ?_)
 obtain ⟨g1, g2, hm⟩ := go2 hm
 obtain ⟨r3, hr3, hm⟩ := bo hm
 refine Sq (Sq (RD hnt (nn 8 (o92 [] true r3 :: [])) [0] [(18, pB r3)] [] [] (an g1.1 (an g1.2 (an g2.1 (an g2.2 (an (Less_cmp_intSpec (p0.getD (Int.toNat p2) 0) (p0.getD (Int.toNat p1) 0) r3 hr3) tv))))) ?_))
 refine condM hm ?_ ?_
 ·intro h4 hm
  refine Sq (RD hnt (nn 6 []) [3, 18] [] [] [(0, bx [pI (w64 (p3 + 1))])] tv ?_)
  refine Sq (RD hnt (nn 4 []) [1, 2] [(8, pI p2), (9, pI p1)] [] [] tv ?_)
  obtain rfl := sj hm
  exact DW.ret (retK [.box [pI (w64 (p3 + 1))]] [] (.p (.tup [vi p2, vi p1])))
 ·intro h4 hm
  refine Sk ?_
  refine Sq (RK hnt (nn 4 []) [(8, pI p1), (9, pI p2)] [(0, bx [pI p3])] tv ?_)
  obtain rfl := sj hm
  exact DW.ret (retK [.box [pI p3]] [] (.p (.tup [vi p1, vi p2])))
abbrev o99 (ks : List Nat) (b : Bool) (RES : Int × Int × Int) : Orc := .call 196 ks b (.p (.tup [vi RES.1, vi RES.2.1])) [.box [pI RES.2.2]] []

theorem medianOrdered_slices_intSpec (p0 : List Int) (p1 : Int) (p2 : Int) (p3 : Int) (p4 : Int) (RES : Int × Int) (hm : medianOrdered_slices_int p0 p1 p2 p3 p4 = some RES) : Spec Tryz.prog 194 [.p (slI p0), pI p1, pI p2, pI p3, rr 0] [.box [pI p4]] (pI RES.1) [.box [pI RES.2]] [] := by
 unfold medianOrdered_slices_int at hm
 refine SO Tryz.func194 rfl rfl [(0, .p (slI p0)), (1, pI p1), (2, pI p2), (3, pI p3), (4, rr 0)] [(0, bx [pI p4])] ?_
 intro cx hnt
 refine Sq (RD hnt (.no :: []) [] [] [] [] tv ?_)
 obtain ⟨r1, hr1, hm⟩ := bo hm
 refine Sq (RD hnt (nn 4 (o99 [0] true r1 :: nn 5 [])) [] [(1, pI r1.1), (2, pI r1.2.1)] [] [(0, bx [pI r1.2.2])] (an (order2Ordered_slices_intSpec p0 p1 p2 p4 r1 hr1) (an tv tv)) ?_)
 obtain ⟨r2, hr2, hm⟩ := bo hm
 refine Sq (RD hnt (nn 4 (o99 [0] true r2 :: nn 5 [])) [3] [(2, pI r2.1)] [] [(0, bx [pI r2.2.2])] (an (order2Ordered_slices_intSpec p0 r1.2.1 p3 r1.2.2 r2 hr2) (an tv tv)) ?_)
 obtain ⟨r3, hr3, hm⟩ := bo hm
 refine Sq (RK hnt (nn 4 (o99 [0] true r3 :: nn 5 [])) [(2, pI r3.2.1)] [(0, bx [pI r3.2.2])] (an (order2Ordered_slices_intSpec p0 r1.1 r2.1 r2.2.2 r3 hr3) (an tv tv)) ?_)
 refine Sq (RD hnt (nn 2 []) [2] [(10, pI r3.2.1)] [] [] tv ?_)
 obtain rfl := sj hm
 exact DW.ret (retK [.box [pI r3.2.2]] [] (pI r3.2.1))
abbrev o98 (ks : List Nat) (b : Bool) (RES : Int × Int) : Orc := .call 194 ks b (pI RES.1) [.box [pI RES.2]] []

theorem medianAdjacentOrdered_slices_intSpec (p0 : List Int) (p1 : Int) (p2 : Int) (RES : Int × Int) (hm : medianAdjacentOrdered_slices_int p0 p1 p2 = some RES) : Spec Tryz.prog 193 [.p (slI p0), pI p1, rr 0] [.box [pI p2]] (pI RES.1) [.box [pI RES.2]] [] := by
 unfold medianAdjacentOrdered_slices_int at hm
 refine SO Tryz.func193 rfl rfl [(0, .p (slI p0)), (1, pI p1), (2, rr 0)] [(0, bx [pI p2])] ?_
 intro cx hnt
 refine Sq (RD hnt (.no :: []) [] [] [] [] tv ?_)
 obtain ⟨r1, hr1, hm⟩ := bo hm
 refine Sq (RK hnt (nn 7 (o98 [0] true r1 :: .no :: [])) [(6, pI r1.1)] [(0, bx [pI r1.2])] (an (medianOrdered_slices_intSpec p0 (w64 (p1 - 1)) p1 (w64 (p1 + 1)) p2 r1 hr1) (an tv tv)) ?_)
 obtain rfl := sj hm
 exact DW.ret (retK [.box [pI r1.2]] [] (pI r1.1))
abbrev o97 (ks : List Nat) (b : Bool) (RES : Int × Int) : Orc := .call 193 ks b (pI RES.1) [.box [pI RES.2]] []

abbrev c96e1 (p2 : Int) (p1 : Int) := (w64 (Int.tdiv (w64 (p2 - p1)) 4))
abbrev c96e2 (p1 : Int) (p2 : Int) := (w64 (p1 + (w64 ((c96e1 p2 p1) * 2))))
theorem choosePivotOrdered_slices_intSpec (p0 : List Int) (p1 : Int) (p2 : Int) (RES : Int × Int) (hm : choosePivotOrdered_slices_int p0 p1 p2 = some RES) : Spec Tryz.prog 180 [.p (slI p0), pI p1, pI p2] [] (.p (.tup [vi RES.1, vi RES.2])) [] [] := by
 unfold choosePivotOrdered_slices_int at hm
 refine SO Tryz.func180 rfl rfl [(0, .p (slI p0)), (1, pI p1), (2, pI p2)] [] ?_
 intro cx hnt
 refine Sq (RD hnt (nn 2 []) [] [] [] [] tv ?_)
 refine Sq (RD hnt (nn 4 []) [2] [(8, pI (w64 (p2 - p1)))] [] [] tv ?_)
 refine Sq (RD hnt (.no :: []) [] [(9, rr 1072)] [] [(1072, bx [pI 0])] tv ?_)
 refine Sq (RD hnt (nn 6 []) [] [(10, pI (w64 (p1 + (w64 ((c96e1 p2 p1) * 1)))))] [] [] (an (by decide : (4 : Int) ≠ 0) tv) ?_)
 refine Sq (RD hnt (nn 6 []) [] [(11, pI (c96e2 p1 p2))] [] [] (an (by decide : (4 : Int) ≠ 0) tv) ?_)
 refine Sq (RD hnt (nn 6 []) [1] [(12, pI (w64 (p1 + (w64 ((c96e1 p2 p1) * 3)))))] [] [] (an (by decide : (4 : Int) ≠ 0) tv) ?_)
 refine Sq (Sq (RD hnt (nn 2 []) [] [(32, pB (decide ((w64 (p2 - p1)) ≥ 8)))] [] [] tv ?_))
 refine Jn (ι := Int × Int) (fun (y1 : Int × Int) => mkSt [(9, rr 1072), (11, pI y1.2)] [(1072, bx [pI y1.1])]) (fun y1 => choosePivotOrdered_slices_intJ1 y1 = some RES) ?_ ?_
 ·intro y1 hm
  unfold choosePivotOrdered_slices_intJ1 at hm
  refine Sq (RK hnt (.no :: []) [(11, pI y1.2), (49, pI y1.1)] [] tv ?_)
  refine Bk ?_
  refine Sq (RD hnt (nn 2 []) [] [(51, pB (y1.1 == 0))] [] [] tv ?_)
  refine condM hm ?_ ?_
  ·intro h7 hm
   refine Sq (RK hnt (nn 3 []) [(6, pI y1.2), (7, pI 1)] [] tv ?_)
   obtain rfl := sj hm
   exact DW.ret (retK [] [] (.p (.tup [vi y1.2, vi 1])))
  ·intro h7 hm
   refine Sq (RK hnt (nn 2 []) [(11, pI y1.2), (54, pB (y1.1 == 12))] [] tv ?_)
   refine condM hm ?_ ?_
   ·intro h8 hm
    refine Sq (RK hnt (nn 3 []) [(6, pI y1.2), (7, pI 2)] [] tv ?_)
    obtain rfl := sj hm
    exact DW.ret (retK [] [] (.p (.tup [vi y1.2, vi 2])))
   ·intro h8 hm
    refine Sq (RK hnt (nn 3 []) [(6, pI y1.2), (7, pI 0)] [] tv ?_)
    obtain rfl := sj hm
    exact DW.ret (retK [] [] (.p (.tup [vi y1.2, vi 0])))
 ·refine condM hm ?_ ?_
  ·intro h1 hm
   refine Sq (Sq (RD hnt (nn 2 []) [8, 32] [(34, pB (decide ((w64 (p2 - p1)) ≥ 50)))] [] [] tv ?_))
   refine Jn (ι := Int × Int × Int × Int) (fun (y2 : Int × Int × Int × Int) => mkSt [(0, .p (slI p0)), (9, rr 1072), (10, pI y2.2.1), (11, pI y2.2.2.1), (12, pI y2.2.2.2)] [(1072, bx [pI y2.1])]) (fun y2 => (choosePivotOrdered_slices_intJ2 p0) y2 = some RES) ?_ ?_
   ·intro y2 hm
    unfold choosePivotOrdered_slices_intJ2 at hm
    obtain ⟨r6, hr6, hm⟩ := bo hm
    refine RK hnt (nn 4 (o98 [1072] true r6 :: .no :: [])) [(9, rr 1072), (11, pI r6.1)] [(1072, bx [pI r6.2])] (an (medianOrdered_slices_intSpec p0 y2.2.1 y2.2.2.1 y2.2.2.2 y2.1 r6 hr6) (an tv tv)) ?_
    exact jD (r6.2, r6.1) hm .refl
   ·refine condM hm ?_ ?_
    ·intro h2 hm
     obtain ⟨r3, hr3, hm⟩ := bo hm
     refine Sq (RK hnt (nn 2 (o97 [1072] true r3 :: .no :: [])) [(0, .p (slI p0)), (9, rr 1072), (10, pI r3.1), (11, pI (c96e2 p1 p2)), (12, pI (w64 (p1 + (w64 ((c96e1 p2 p1) * 3)))))] [(1072, bx [pI r3.2])] (an (medianAdjacentOrdered_slices_intSpec p0 (w64 (p1 + (w64 ((c96e1 p2 p1) * 1)))) 0 r3 hr3) (an tv tv)) ?_)
     obtain ⟨r4, hr4, hm⟩ := bo hm
     refine Sq (RD hnt (nn 2 (o97 [1072] true r4 :: .no :: [])) [] [(11, pI r4.1)] [] [(1072, bx [pI r4.2])] (an (medianAdjacentOrdered_slices_intSpec p0 (c96e2 p1 p2) r3.2 r4 hr4) (an tv tv)) ?_)
     obtain ⟨r5, hr5, hm⟩ := bo hm
     refine RD hnt (nn 2 (o97 [1072] true r5 :: .no :: [])) [] [(12, pI r5.1)] [] [(1072, bx [pI r5.2])] (an (medianAdjacentOrdered_slices_intSpec p0 (w64 (p1 + (w64 ((c96e1 p2 p1) * 3)))) r4.2 r5 hr5) (an tv tv)) ?_
     exact jD (r5.2, r3.1, r4.1, r5.1) hm Conv.eqK
    ·intro h2 hm
     refine Sk ?_
     exact jD (0, (w64 (p1 + (w64 ((c96e1 p2 p1) * 1)))), (c96e2 p1 p2), (w64 (p1 + (w64 ((c96e1 p2 p1) * 3))))) hm Conv.t0
  ·intro h1 hm
   refine Sk ?_
   exact jD (0, (c96e2 p1 p2)) hm Conv.t0
abbrev o96 (ks : List Nat) (b : Bool) (RES : Int × Int) : Orc := .call 180 ks b (.p (.tup [vi RES.1, vi RES.2])) [] []

abbrev c100e1 (s1 : (List Int) × Int × Int) := (updF (updF (elI s1.1) (Int.toNat s1.2.1) [vi (s1.1.getD (Int.toNat s1.2.2) 0)]) (Int.toNat s1.2.2) (setRange ((updF (elI s1.1) (Int.toNat s1.2.1) [vi (s1.1.getD (Int.toNat s1.2.2) 0)]) (Int.toNat s1.2.2)) 0 [vi (s1.1.getD (Int.toNat s1.2.1) 0)]))
abbrev c100e2 (s1 : (List Int) × Int × Int) := ((s1.1.set (Int.toNat s1.2.1) (s1.1.getD (Int.toNat s1.2.2) 0)).set (Int.toNat s1.2.2) (s1.1.getD (Int.toNat s1.2.1) 0))
theorem reverseRangeOrdered_slices_intSpec (p0 : List Int) (p1 : Int) (p2 : Int) (RES : List Int) (hm : reverseRangeOrdered_slices_int p0 p1 p2 = some RES) : Spec Tryz.prog 181 [ow 0 p0.length, pI p1, pI p2] [roI p0] (.p (.tup [])) [roI RES] [] := by
 unfold reverseRangeOrdered_slices_int at hm
 refine SO Tryz.func181 rfl rfl [(0, ow 0 p0.length), (1, pI p1), (2, pI p2)] [(0, ob0 (roI p0))] ?_
 intro cx hnt
 refine Sq (RD hnt (nn 2 []) [1] [(6, pI p1)] [] [] tv ?_)
 refine Sq (RD hnt (nn 3 []) [2] [(7, pI (w64 (p2 - 1)))] [] [] tv ?_)
 refine Bk ?_
 refine DW.whileO (fun (s1 : (List Int) × Int × Int) => mkSt [(0, ow 0 s1.1.length), (6, pI s1.2.1), (7, pI s1.2.2)] [(0, ob0 (roI s1.1))]) hm Conv.eqK ?_
 intro s1 n1 hm
 unfold reverseRangeOrdered_slices_intL1 at hm
 refine Sq (Sq (RD hnt (nn 3 []) [] [(13, pB (decide (s1.2.1 < s1.2.2)))] [] [] tv ?_))
 refine condM hm ?_ ?_
 ·intro h10 hm
  refine Sk ?_
  refine Bk ?_
  obtain ⟨g11, g12, g13, g14, hm⟩ := go4 hm
  obtain ⟨g15, g16, g17, g18, hm⟩ := go4 hm
  refine Sq (RN hnt (nn 16 []) [(0, ow 0 (c100e2 s1).length), (6, pI s1.2.1), (7, pI s1.2.2)] [(0, ob0 (roI (c100e2 s1)))] [(0, ow 0 s1.1.length)] [(0, .row 1 s1.1.length (c100e1 s1))] (an g11.1 (an g11.2 (an g12 (an g13.1 (an g13.2 (an g14 (an g15.1 (an g15.2 (an g16 (an g17.1 (an g17.2 (an g18 tv)))))))))))) (by kernel_rfl) (.cons rfl (MLe.ownLen (enc := encI) (d := 0) (f := (c100e1 s1)) (RowIs.updR (RowIs.upd RowIs.elems (s1.1.getD (Int.toNat s1.2.2) 0) rfl) (by omega) (s1.1.getD (Int.toNat s1.2.1) 0) rfl)) .nil) (.cons rfl (BLe.typed (RowIs.updR (RowIs.upd RowIs.elems (s1.1.getD (Int.toNat s1.2.2) 0) rfl) (by omega) (s1.1.getD (Int.toNat s1.2.1) 0) rfl)) .nil) ?_)
  refine Sq (RD hnt (nn 3 []) [] [(6, pI (w64 (s1.2.1 + 1)))] [] [] tv ?_)
  refine RD hnt (nn 3 []) [] [(7, pI (w64 (s1.2.2 - 1)))] [] [] tv ?_
  refine DW.done ?_
  show DW _ _ _ _ _
  exact jD ((c100e2 s1), (w64 (s1.2.1 + 1)), (w64 (s1.2.2 - 1))) hm Conv.eqK
 ·intro h10 hm
  refine DW.exit ?_
  refine joinQ_exit ?_
  refine KQ_exit ?_
  refine blockQ_exit ?_
  show DW _ _ _ _ _
  refine DW.done ?_
  obtain rfl := sj hm
  exact endK [roI s1.1] [] (.p (.tup []))
abbrev o100 (ks : List Nat) (b : Bool) (RES : List Int) : Orc := .call 181 ks b (.p (.tup [])) [roI RES] []
end Go.Dm

