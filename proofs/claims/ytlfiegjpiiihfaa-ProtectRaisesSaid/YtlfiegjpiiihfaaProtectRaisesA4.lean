/- Go functions compute their models, printed by a program. -/
import Derived.Test.YtlfiegjpiiihfaaProtectRaisesA3
set_option linter.unusedVariables false
set_option linter.unusedSimpArgs false
namespace Go.Dm
open Go.Proofs
set_option linter.unusedVariables false
abbrev c56e1 (p0 : Tree) (p1 : Int) := (p0.nodes.getD (Int.toNat p1) dNode)
abbrev c56e2 (p0 : Tree) (p1 : Int) : Nat × Obj := (1040, bx (pm (encNode (c56e1 p0 p1))))
abbrev c56e3 (p0 : Tree) : Nat × Obj := (1016, bx (pm (encTree p0)))
abbrev c56e4 (p0 : Tree) (k1 : Int) := (p0.nodes.getD (Int.toNat k1) dNode)
theorem node_ref5Spec (p0 : Tree) (p1 : Int) (RES : Bool) (hm : node_ref5 p0 p1 = some RES) : Spec Try.prog 66 [.p (.agg (encTree p0)), pI p1] [] (pB RES) [] [] := by
 unfold node_ref5 at hm
 refine SO Try.func66 rfl rfl [(0, .p (.agg (encTree p0))), (1, pI p1)] [] ?_
 intro cx hnt
 refine Sq (RK hnt (nn 2 []) [(1, pI p1), (2, rr 1016)] [(c56e3 p0)] tv ?_)
 obtain ⟨g1, hm⟩ := go1 hm
 refine Sq (RD hnt (nn 7 []) [] [(5, rr 1040)] [] [(c56e2 p0 p1)] (an g1.1 (an g1.2 tv)) ?_)
 refine Sq (Sq (DW.regJ (sl2 := [(1, pI p1), (2, rr 1016), (5, rr 1040), (40, pB (((((((c56e1 p0 p1).kind != 0) && ((c56e1 p0 p1).kind != 1)) || (decide ((c56e1 p0 p1).control < 0))) || (decide ((c56e1 p0 p1).control > 31))) || (decide ((c56e1 p0 p1).owner < 0))) || (decide ((c56e1 p0 p1).owner > 1048576))))]) (ob2 := [(c56e3 p0), (c56e2 p0 p1)]) ?_ ?_))
 ·rcases bt ((c56e1 p0 p1).kind != 0) with h2 | h2
  ·rcases bt ((c56e1 p0 p1).kind != 1) with h3 | h3
   ·exact RT hnt (nn 7 (pT :: .no :: sk 3 (pT :: .no :: sk 3 (pT :: .no :: sk 3 (pT :: .no :: sk 3 (pT :: [])))))) [(40, pB true)] (an4 h2 (an4 h3 (an6 tt (an6 tt tv)))) (by kernel_rfl) (.cons rfl (.of_eq (by rw [h2, h3]; try rfl)) .nil)
   ·rcases bt (decide ((c56e1 p0 p1).control < 0)) with h4 | h4
    ·exact RT hnt (nn 7 (pT :: nn 4 (pF :: .no :: sk 3 (pT :: .no :: sk 3 (pT :: .no :: sk 3 (pT :: [])))))) [(40, pB true)] (an4 h2 (an4 h3 (an4 h4 (an2 tt (an6 tt tv))))) (by kernel_rfl) (.cons rfl (.of_eq (by rw [h2, h3, h4]; try rfl)) .nil)
    ·rcases bt (decide ((c56e1 p0 p1).control > 31)) with h5 | h5
     ·exact RT hnt (nn 7 (pT :: nn 4 (pF :: nn 4 (pF :: .no :: sk 3 (pT :: .no :: sk 3 (pT :: [])))))) [(40, pB true)] (an4 h2 (an4 h3 (an4 h4 (an4 h5 (an4 tt tv))))) (by kernel_rfl) (.cons rfl (.of_eq (by rw [h2, h3, h4, h5]; try rfl)) .nil)
     ·rcases bt (decide ((c56e1 p0 p1).owner < 0)) with h6 | h6
      ·exact RT hnt (nn 7 (pT :: nn 4 (pF :: nn 4 (pF :: nn 4 (pF :: .no :: sk 3 (pT :: [])))))) [(40, pB true)] (an4 h2 (an4 h3 (an4 h4 (an4 h5 (an4 h6 tv))))) (by kernel_rfl) (.cons rfl (.of_eq (by rw [h2, h3, h4, h5, h6]; try rfl)) .nil)
      ·exact RT hnt (nn 7 (pT :: nn 4 (pF :: nn 4 (pF :: nn 4 (pF :: nn 4 (pF :: [])))))) [(40, pB (decide ((c56e1 p0 p1).owner > 1048576)))] (an4 h2 (an4 h3 (an4 h4 (an4 h5 (an4 h6 tv))))) (by kernel_rfl) (.cons rfl (.of_eq (by rw [h2, h3, h4, h5, h6]; try rfl)) .nil)
  ·rcases bt (decide ((c56e1 p0 p1).control < 0)) with h7 | h7
   ·exact RT hnt (nn 4 (sk 3 (pF :: nn 4 (pF :: .no :: sk 3 (pT :: .no :: sk 3 (pT :: .no :: sk 3 (pT :: []))))))) [(40, pB true)] (an4 h2 (an4 ff (an4 h7 (an2 tt (an6 tt tv))))) (by kernel_rfl) (.cons rfl (.of_eq (by rw [h2, h7]; try rfl)) .nil)
   ·rcases bt (decide ((c56e1 p0 p1).control > 31)) with h8 | h8
    ·exact RT hnt (nn 4 (sk 3 (pF :: nn 4 (pF :: nn 4 (pF :: .no :: sk 3 (pT :: .no :: sk 3 (pT :: []))))))) [(40, pB true)] (an4 h2 (an4 ff (an4 h7 (an4 h8 (an4 tt tv))))) (by kernel_rfl) (.cons rfl (.of_eq (by rw [h2, h7, h8]; try rfl)) .nil)
    ·rcases bt (decide ((c56e1 p0 p1).owner < 0)) with h9 | h9
     ·exact RT hnt (nn 4 (sk 3 (pF :: nn 4 (pF :: nn 4 (pF :: nn 4 (pF :: .no :: sk 3 (pT :: []))))))) [(40, pB true)] (an4 h2 (an4 ff (an4 h7 (an4 h8 (an4 h9 tv))))) (by kernel_rfl) (.cons rfl (.of_eq (by rw [h2, h7, h8, h9]; try rfl)) .nil)
     ·exact RT hnt (nn 4 (sk 3 (pF :: nn 4 (pF :: nn 4 (pF :: nn 4 (pF :: nn 4 (pF :: []))))))) [(40, pB (decide ((c56e1 p0 p1).owner > 1048576)))] (an4 h2 (an4 ff (an4 h7 (an4 h8 (an4 h9 tv))))) (by kernel_rfl) (.cons rfl (.of_eq (by rw [h2, h7, h8, h9]; try rfl)) .nil)
 ·refine condM hm ?_ ?_
  ·intro h10 hm
   refine Sq (RK hnt (.no :: []) [(4, pB false)] [] tv ?_)
   obtain rfl := sj hm
   exact DW.ret (retK [] [] (pB false))
  ·intro h10 hm
   refine Sk ?_
   refine Sq (Sq (RD hnt (nn 2 []) [40] [(42, pB (p1 == 0))] [] [] tv ?_))
   refine condM hm ?_ ?_
   ·intro h11 hm
    refine Sq (DW.regJ (sl2 := [(4, pB (((((c56e1 p0 p1).id == 1) && ((c56e1 p0 p1).parent == 0)) && (beqS (c56e1 p0 p1).name ByteArray.empty)) && ((c56e1 p0 p1).kind == 0)))]) (ob2 := []) ?_ ?_)
    ·rcases bt ((c56e1 p0 p1).id == 1) with h12 | h12
     ·rcases bt ((c56e1 p0 p1).parent == 0) with h13 | h13
      ·rcases bt (beqS (c56e1 p0 p1).name ByteArray.empty) with h14 | h14
       ·exact RT hnt (nn 7 (pT :: nn 4 (pT :: nn 4 (pT :: .no :: [])))) [(4, pB ((c56e1 p0 p1).kind == 0))] (an4 h12 (an4 h13 (an4 h14 tv))) (by kernel_rfl) (.cons rfl (.of_eq (by rw [h12, h13, h14]; try rfl)) .nil)
       ·exact RT hnt (nn 7 (pT :: nn 4 (pT :: .no :: sk 3 (pF :: .no :: [])))) [(4, pB false)] (an4 h12 (an4 h13 (an4 h14 tv))) (by kernel_rfl) (.cons rfl (.of_eq (by rw [h12, h13, h14]; try rfl)) .nil)
      ·exact RT hnt (nn 7 (pT :: .no :: sk 3 (pF :: .no :: sk 3 (pF :: .no :: [])))) [(4, pB false)] (an4 h12 (an4 h13 (an4 ff tv))) (by kernel_rfl) (.cons rfl (.of_eq (by rw [h12, h13]; try rfl)) .nil)
     ·exact RT hnt (nn 4 (sk 3 (pF :: .no :: sk 3 (pF :: .no :: sk 3 (pF :: .no :: []))))) [(4, pB false)] (an4 h12 (an2 ff (an6 ff tv))) (by kernel_rfl) (.cons rfl (.of_eq (by rw [h12]; try rfl)) .nil)
    ·refine DW.ret ?_
     obtain rfl := sj hm
     exact retK [] [] (pB (((((c56e1 p0 p1).id == 1) && ((c56e1 p0 p1).parent == 0)) && (beqS (c56e1 p0 p1).name ByteArray.empty)) && ((c56e1 p0 p1).kind == 0)))
   ·intro h11 hm
    refine Sk ?_
    obtain ⟨g15, hm⟩ := go1 hm
    refine Sq (Sq ?_)
    refine Jn (ι := Bool) (fun (y1 : Bool) => mkSt [(1, pI p1), (2, rr 1016), (5, rr 1040), (76, pB y1)] [(c56e3 p0), (c56e2 p0 p1)]) (fun y1 => (node_ref5J1 p0 p1) y1 = some RES) ?_ ?_
    ·intro y1 hm
     unfold node_ref5J1 at hm
     refine condM hm ?_ ?_
     ·intro h18 hm
      refine Sq (RK hnt (.no :: []) [(4, pB false)] [] tv ?_)
      obtain rfl := sj hm
      exact DW.ret (retK [] [] (pB false))
     ·intro h18 hm
      refine Sk ?_
      refine Sq (RD hnt (.no :: []) [76] [(6, pB false)] [] [] tv ?_)
      refine Sq (Sq (RD hnt (.no :: []) [] [(7, pI 0)] [] [] tv ?_))
      refine Bk ?_
      obtain ⟨hc1, hm⟩ := go1 hm
      refine DW.forO (fun (k1 : Int) (s1 : Bool) => mkSt [(1, pI p1), (2, rr 1016), (5, rr 1040), (6, pB s1), (7, pI k1)] [(c56e3 p0), (c56e2 p0 p1)]) (lo := 0) (hi := p1) hm Conv.eqK ?_
      intro k1 s1 n1 hk1 hs1 he1
      refine Sq (Sq (RD hnt (nn 3 []) [] [(79, pB (decide (k1 < p1)))] [] [] tv ?_))
      refine condK (decide (k1 < p1)) ?_ ?_
      ·intro h32
       have hlt1 : k1 < p1 := by have := of_decide_eq_true h32; omega
       have hm := hs1 hlt1
       unfold node_ref5L1 at hm
       refine Sk ?_
       refine Sq (Bk ?_)
       refine Sq ?_
       refine Jn (ι := Bool) (fun (y5 : Bool) => mkSt [(1, pI p1), (2, rr 1016), (5, rr 1040), (6, pB y5), (7, pI k1)] [(c56e3 p0), (c56e2 p0 p1)]) (fun y5 => (node_ref5J5 p0 p1 k1 n1) y5 = some RES) ?_ ?_
       ·intro y5 hm
        unfold node_ref5J5 at hm
        obtain ⟨g35, hm⟩ := go1 hm
        refine Sq ?_
        refine Jn (ι := Bool) (fun (y6 : Bool) => mkSt [(1, pI p1), (2, rr 1016), (5, rr 1040), (6, pB y5), (7, pI k1), (113, pB y6)] [(c56e3 p0), (c56e2 p0 p1)]) (fun y6 => (node_ref5J6 n1 y5) y6 = some RES) ?_ ?_
        ·intro y6 hm
         unfold node_ref5J6 at hm
         refine condM hm ?_ ?_
         ·intro h38 hm
          refine Sq (RK hnt (.no :: []) [(4, pB false)] [] tv ?_)
          obtain rfl := sj hm
          exact DW.ret (retK [] [] (pB false))
         ·intro h38 hm
          refine Sk ?_
          refine DW.done ?_
          show DW _ _ _ _ _
          refine RD hnt (nn 3 []) [113] [(7, pI (w64 (k1 + 1)))] [] [] tv ?_
          exact jD y5 ⟨hlt1, hm⟩ (Conv.tp [(7, pI (w64 (k1 + 1)))] [] (by kernel_rfl) (.cons rfl (.of_eq (congrArg pI (w64_for (lo := 0) (hi := p1) (by omega) hk1 hlt1 (by omega)))) .nil) .nil)
        ·rcases bt ((c56e4 p0 k1).parent == (c56e1 p0 p1).parent) with h36 | h36
         ·replace hm := if_t h36 hm
          obtain ⟨g37, hm⟩ := go1 hm
          refine RD hnt (nn 19 (pT :: [])) [] [(113, pB (beqS (c56e4 p0 k1).name (c56e1 p0 p1).name))] [] [] (an g35.1 (an g35.2 (an4 h36 (an g37.1 (an g37.2 (an6 h36 tv)))))) ?_
          exact jD (beqS (c56e4 p0 k1).name (c56e1 p0 p1).name) hm Conv.eqK
         ·replace hm := if_f h36 hm
          refine RD hnt (nn 10 (sk 9 (pF :: []))) [] [(113, pB false)] [] [] (an g35.1 (an g35.2 (an4 h36 (an6 h36 tv)))) ?_
          exact jD false hm Conv.eqK
       ·rcases bt s1 with h33 | h33
        ·replace hm := if_t h33 hm
         refine RD hnt (nn 2 (sk 9 (pT :: .no :: []))) [79] [(6, pB true)] [] [] (an4 h33 (an6 h33 tv)) ?_
         exact jD true hm Conv.eqK
        ·replace hm := if_f h33 hm
         obtain ⟨g34, hm⟩ := go1 hm
         refine RD hnt (nn 11 (pF :: .no :: [])) [79] [(6, pB ((c56e4 p0 k1).id == (c56e1 p0 p1).parent))] [] [] (an4 h33 (an g34.1 (an g34.2 (an6 h33 tv)))) ?_
         exact jD ((c56e4 p0 k1).id == (c56e1 p0 p1).parent) hm Conv.eqK
      ·intro h32
       have hge1 : ¬ k1 < p1 := by have := of_decide_eq_false h32; omega
       have hm := he1 hge1
       unfold node_ref5D1 at hm
       refine DW.exit ?_
       refine joinQ_exit ?_
       refine KQ_exit ?_
       refine blockQ_exit ?_
       show DW _ _ _ _ _
       refine Sq (RK hnt (nn 2 []) [(4, pB s1)] [] tv ?_)
       obtain rfl := sj hm
       exact DW.ret (retK [] [] (pB s1))
    ·rcases bt (decide ((c56e1 p0 p1).id ≤ (p0.nodes.getD (Int.toNat (w64 (p1 - 1))) dNode).id)) with h16 | h16
     ·replace hm := if_t h16 hm
      refine RD hnt (nn 11 (sk 4 (pT :: []))) [42] [(76, pB true)] [] [] (an g15.1 (an g15.2 (an5 h16 tv))) ?_
      exact jD true hm Conv.eqK
     ·replace hm := if_f h16 hm
      obtain ⟨r17, hr17, hm⟩ := bo hm
      refine RD hnt (nn 13 (o57 [] true r17 :: .no :: pF :: [])) [42] [(76, pB (!r17))] [] [] (an g15.1 (an g15.2 (an3 h16 (an (Valid_ref1Spec (c56e1 p0 p1).name r17 hr17) (an2 h16 tv))))) ?_
      exact jD (!r17) hm Conv.eqK
abbrev o56 (ks : List Nat) (b : Bool) (RES : Bool) : Orc := .call 66 ks b (pB RES) [] []

theorem up_ref5Spec (p0 : Tree) (p1 : Int) (RES : List Int) (hm : up_ref5 p0 p1 = some RES) : Spec Try.prog 67 [.p (.agg (encTree p0)), pI p1] [] (ow 0 RES.length) [] [roI RES] := by
 unfold up_ref5 at hm
 refine SO Try.func67 rfl rfl [(0, .p (.agg (encTree p0))), (1, pI p1)] [] ?_
 intro cx hnt
 refine Sq (RK hnt (nn 2 []) [(1, pI p1), (2, rr 1016)] [(1016, bx (pm (encTree p0)))] tv ?_)
 refine Sq (RD hnt (.no :: []) [] [(5, .p (.sl .nil 0 0 (fun _ => [])))] [] [] tv ?_)
 refine Sq (Sq (RD hnt (nn 5 []) [] [(6, pI (w64 (((p0.nodes.length : Nat) : Int) - 1)))] [] [] tv ?_))
 refine Bk ?_
 refine DW.whileO (fun (s1 : (List Int) × Int × Int) => mkSt [(1, pI s1.2.1), (2, rr 1016), (5, ow 1208 s1.1.length), (6, pI s1.2.2)] [(1016, bx (pm (encTree p0))), (1208, ob0 (roI s1.1))]) hm (Conv.ads [(.s 5, 1208, 1, elems encI 0 [])]) ?_
 intro s1 n1 hm
 unfold up_ref5L1 at hm
 refine Sq (Sq (RD hnt (nn 2 []) [] [(12, pB (decide (s1.2.2 ≥ 0)))] [] [] tv ?_))
 refine condM hm ?_ ?_
 ·intro h5 hm
  refine Sk ?_
  refine Sq ?_
  refine Jn (ι := (List Int) × Int) (fun (y2 : (List Int) × Int) => mkSt [(1, pI y2.2), (2, rr 1016), (5, ow 1208 y2.1.length), (6, pI s1.2.2)] [(1016, bx (pm (encTree p0))), (1208, ob0 (roI y2.1))]) (fun y2 => (up_ref5J2 s1 n1) y2 = some RES) ?_ ?_
  ·intro y2 hm
   unfold up_ref5J2 at hm
   refine RD hnt (nn 3 []) [] [(6, pI (w64 (s1.2.2 - 1)))] [] [] tv ?_
   exact jD (y2.1, y2.2, (w64 (s1.2.2 - 1))) hm Conv.eqK
  ·refine Bk ?_
   obtain ⟨g6, hm⟩ := go1 hm
   refine Sq (RD hnt (nn 8 []) [12] [(22, pB ((p0.nodes.getD (Int.toNat s1.2.2) dNode).id == s1.2.1))] [] [] (an g6.1 (an g6.2 tv)) ?_)
   refine condM hm ?_ ?_
   ·intro h7 hm
    obtain ⟨g8, hm⟩ := go1 hm
    refine Sq (RN hnt (nn 5 []) [(2, rr 1016), (5, ow 1208 (s1.1 ++ [s1.2.1]).length), (6, pI s1.2.2)] [(1016, bx (pm (encTree p0))), (1208, ob0 (roI (s1.1 ++ [s1.2.1])))] [(5, ow 1208 (s1.1.length + 1))] [(1208, .row 1 (s1.1.length + 1) (catF s1.1.length (elI s1.1) (cut 1 [vi s1.2.1])))] (an (by omega : (s1.1.length + 1) * 8 ≤ 140737488355328) tv) (by kernel_rfl) (.cons rfl (MLe.ownLen (enc := encI) (d := 0) (f := (catF s1.1.length (elI s1.1) (cut 1 [vi s1.2.1]))) (RowIs.cat RowIs.elems (RowIs.lit (enc := encI) (d := 0) (n := 1) (f := (cut 1 [vi s1.2.1])) [s1.2.1] rfl (fun | 0, _ => rfl | n + 1, h => absurd h (by omega))))) .nil) (.cons rfl (BLe.typed (RowIs.cat RowIs.elems (RowIs.lit (enc := encI) (d := 0) (n := 1) (f := (cut 1 [vi s1.2.1])) [s1.2.1] rfl (fun | 0, _ => rfl | n + 1, h => absurd h (by omega))))) .nil) ?_)
    obtain ⟨g9, hm⟩ := go1 hm
    refine RD hnt (nn 7 []) [] [(1, pI (p0.nodes.getD (Int.toNat s1.2.2) dNode).parent)] [] [] (an g9.1 (an g9.2 tv)) ?_
    exact bD ((s1.1 ++ [s1.2.1]), (p0.nodes.getD (Int.toNat s1.2.2) dNode).parent) hm Conv.eqK
   ·intro h7 hm
    refine Sk ?_
    exact bD (s1.1, s1.2.1) hm Conv.t0
 ·intro h5 hm
  refine DW.exit ?_
  refine joinQ_exit ?_
  refine KQ_exit ?_
  refine blockQ_exit ?_
  show DW _ _ _ _ _
  refine Sq (RK hnt (nn 2 []) [(4, ow 1208 s1.1.length)] [(1208, ob0 (roI s1.1))] tv ?_)
  obtain rfl := sj hm
  exact DW.ret (retK [roI s1.1] [1208] (ow 0 s1.1.length))
abbrev o58 (ks : List Nat) (b : Bool) (RES : List Int) : Orc := .call 67 ks b (ow 0 RES.length) [] [roI RES]

abbrev c55e1 (p0 : Tree) : Nat × MV := (3, pI ((p0.nodes.length : Nat) : Int))
theorem Check_ref5Spec (p0 : Tree) (RES : Bool) (hm : Check_ref5 p0 = some RES) : Spec Try.prog 50 [.p (.agg (encTree p0))] [] (pB RES) [] [] := by
 unfold Check_ref5 at hm
 refine SO Try.func50 rfl rfl [(0, .p (.agg (encTree p0)))] [] ?_
 intro cx hnt
 refine Sq (RK hnt (nn 2 []) [(1, rr 1008)] [(1008, bx (pm (encTree p0)))] tv ?_)
 refine Sq (RD hnt (nn 4 []) [] [(c55e1 p0)] [] [] tv ?_)
 refine Sq (Sq (DW.regJ (sl2 := [(1, rr 1008), (c55e1 p0), (14, pB ((decide (((p0.nodes.length : Nat) : Int) < 1)) || (decide (((p0.nodes.length : Nat) : Int) > 64))))]) (ob2 := [(1008, bx (pm (encTree p0)))]) ?_ ?_))
 ·rcases bt (decide (((p0.nodes.length : Nat) : Int) < 1)) with h1 | h1
  ·exact RT hnt (nn 3 (sk 2 (pT :: []))) [(14, pB true)] (an3 h1 tv) (by kernel_rfl) (.cons rfl (.of_eq (by rw [h1]; try rfl)) .nil)
  ·exact RT hnt (nn 5 (pF :: [])) [(14, pB (decide (((p0.nodes.length : Nat) : Int) > 64)))] (an3 h1 tv) (by kernel_rfl) (.cons rfl (.of_eq (by rw [h1]; try rfl)) .nil)
 ·refine condM hm ?_ ?_
  ·intro h2 hm
   refine Sq (RK hnt (.no :: []) [(2, pB false)] [] tv ?_)
   obtain rfl := sj hm
   exact DW.ret (retK [] [] (pB false))
  ·intro h2 hm
   refine Sk ?_
   refine Sq (Sq (RD hnt (.no :: []) [14] [(4, pI 0)] [] [] tv ?_))
   refine Bk ?_
   obtain ⟨hc1, hm⟩ := go1 hm
   refine DW.rangeO (fun (k1 : Nat) (s1 : Unit) => mkSt [(1, rr 1008), (c55e1 p0), (4, pI ((k1 : Nat) : Int))] [(1008, bx (pm (encTree p0)))]) dNode hm Conv.eqK ?_
   intro k1 s1 n1 hk1 hs1 he1
   refine Sq (Sq (RD hnt (nn 3 []) [] [(17, pB (decide (((k1 : Nat) : Int) < ((p0.nodes.length : Nat) : Int))))] [] [] tv ?_))
   refine condK (decide (((k1 : Nat) : Int) < ((p0.nodes.length : Nat) : Int))) ?_ ?_
   ·intro h32
    have hlt1 : k1 < p0.nodes.length := by have := of_decide_eq_true h32; omega
    have hm := hs1 hlt1
    unfold Check_ref5L1 at hm
    refine Sk ?_
    refine Sq (Bk ?_)
    obtain ⟨r33, hr33, hm⟩ := bo hm
    refine Sq (RD hnt (nn 2 (o56 [] true r33 :: .no :: [])) [17] [(23, pB (!r33))] [] [] (an (node_ref5Spec p0 ((k1 : Nat) : Int) r33 hr33) tv) ?_)
    refine condM hm ?_ ?_
    ·intro h34 hm
     refine Sq (RK hnt (.no :: []) [(2, pB false)] [] tv ?_)
     obtain rfl := sj hm
     exact DW.ret (retK [] [] (pB false))
    ·intro h34 hm
     refine Sk ?_
     refine DW.done ?_
     show DW _ _ _ _ _
     refine RD hnt (nn 3 []) [23] [(4, pI (w64 (((k1 : Nat) : Int) + 1)))] [] [] tv ?_
     exact jD () ⟨hlt1, hm⟩ (Conv.tp [(4, pI (w64 (((k1 : Nat) : Int) + 1)))] [] (by kernel_rfl) (.cons rfl (.of_eq (congrArg pI (w64_succ hlt1 hc1))) .nil) .nil)
   ·intro h32
    have hge1 : ¬ k1 < p0.nodes.length := by have := of_decide_eq_false h32; omega
    have hm := he1 hge1
    unfold Check_ref5D1 at hm
    refine DW.exit ?_
    refine joinQ_exit ?_
    refine KQ_exit ?_
    refine blockQ_exit ?_
    show DW _ _ _ _ _
    refine Sq (Sq (RD hnt (.no :: []) [4, 17] [(5, pI 0)] [] [] tv ?_))
    refine Bk ?_
    obtain ⟨hc4, hm⟩ := go1 hm
    refine DW.rangeO (fun (k4 : Nat) (s4 : Unit) => mkSt [(1, rr 1008), (c55e1 p0), (5, pI ((k4 : Nat) : Int))] [(1008, bx (pm (encTree p0)))]) dNode hm Conv.eqK ?_
    intro k4 s4 n4 hk4 hs4 he4
    refine Sq (Sq (RD hnt (nn 3 []) [] [(26, pB (decide (((k4 : Nat) : Int) < ((p0.nodes.length : Nat) : Int))))] [] [] tv ?_))
    refine condK (decide (((k4 : Nat) : Int) < ((p0.nodes.length : Nat) : Int))) ?_ ?_
    ·intro h49
     have hlt4 : k4 < p0.nodes.length := by have := of_decide_eq_true h49; omega
     have hm := hs4 hlt4
     unfold Check_ref5L4 at hm
     refine Sk ?_
     refine Sq (Bk ?_)
     obtain ⟨r50, hr50, hm⟩ := bo hm
     refine Sq (RD hnt (nn 7 (o58 [] true r50 :: nn 2 [])) [26] [(38, pB (decide (((r50.length : Nat) : Int) > 9)))] [] [] (an (nn0 k4) (an (ltc hlt4) (an (up_ref5Spec p0 (p0.nodes.getD k4 (default : Node)).id r50 hr50) tv))) ?_)
     refine condM hm ?_ ?_
     ·intro h51 hm
      refine Sq (RK hnt (.no :: []) [(2, pB false)] [] tv ?_)
      obtain rfl := sj hm
      exact DW.ret (retK [] [] (pB false))
     ·intro h51 hm
      refine Sk ?_
      refine DW.done ?_
      show DW _ _ _ _ _
      refine RD hnt (nn 3 []) [38] [(5, pI (w64 (((k4 : Nat) : Int) + 1)))] [] [] tv ?_
      exact jD () ⟨hlt4, hm⟩ (Conv.tp [(5, pI (w64 (((k4 : Nat) : Int) + 1)))] [] (by kernel_rfl) (.cons rfl (.of_eq (congrArg pI (w64_succ hlt4 hc4))) .nil) .nil)
    ·intro h49
     have hge4 : ¬ k4 < p0.nodes.length := by have := of_decide_eq_false h49; omega
     have hm := he4 hge4
     unfold Check_ref5D4 at hm
     refine DW.exit ?_
     refine joinQ_exit ?_
     refine KQ_exit ?_
     refine blockQ_exit ?_
     show DW _ _ _ _ _
     obtain ⟨g52, hm⟩ := go1 hm
     refine Sq ?_
     refine Jn (ι := Bool) (fun (y7 : Bool) => mkSt [(2, pB y7)] []) (fun y7 => Check_ref5J7 y7 = some RES) ?_ ?_
     ·intro y7 hm
      unfold Check_ref5J7 at hm
      obtain rfl := sj hm
      exact DW.ret (retK [] [] (pB y7))
     ·rcases bt (decide (p0.next > (p0.nodes.getD (Int.toNat (w64 (((p0.nodes.length : Nat) : Int) - 1))) dNode).id)) with h53 | h53
      ·replace hm := if_t h53 hm
       refine RK hnt (nn 14 (pT :: .no :: [])) [(2, pB (decide (p0.next ≤ 2147483648)))] [] (an g52.1 (an g52.2 (an4 h53 tv))) ?_
       exact jD (decide (p0.next ≤ 2147483648)) hm .refl
      ·replace hm := if_f h53 hm
       refine RK hnt (nn 11 (sk 3 (pF :: .no :: []))) [(2, pB false)] [] (an g52.1 (an g52.2 (an4 h53 tv))) ?_
       exact jD false hm .refl
abbrev o55 (ks : List Nat) (b : Bool) (RES : Bool) : Orc := .call 50 ks b (pB RES) [] []

theorem Find_ref5Spec (p0 : Tree) (p1 : Int) (RES : Node × Bool) (hm : Find_ref5 p0 p1 = some RES) : Spec Try.prog 24 [.p (.agg (encTree p0)), pI p1] [] (.p (.tup [.agg (encNode RES.1), vb RES.2])) [] [] := by
 unfold Find_ref5 at hm
 refine SO Try.func24 rfl rfl [(0, .p (.agg (encTree p0))), (1, pI p1)] [] ?_
 intro cx hnt
 refine Sq (RK hnt (nn 3 []) [(1, pI p1), (2, rr 1016), (4, rr 1032)] [(1016, bx (pm (encTree p0))), (1032, bx [pI 0, pI 0, pS ByteArray.empty, pI 0, pI 0, pI 0])] tv ?_)
 obtain ⟨r1, hr1, hm⟩ := bo hm
 refine Sq (Sq (RD hnt (.no :: o55 [] true r1 :: .no :: []) [] [(9, pB (!r1))] [] [] (an (Check_ref5Spec p0 r1 hr1) tv) ?_))
 refine condM hm ?_ ?_
 ·intro h2 hm
  refine Sq (RD hnt (nn 3 []) [1, 2, 9] [(5, pB false)] [1016] [] tv ?_)
  obtain rfl := sj hm
  exact DW.ret (retK [] [] (.p (.tup [.agg [vi 0, vi 0, vs ByteArray.empty, vi 0, vi 0, vi 0], vb false])))
 ·intro h2 hm
  refine Sk ?_
  refine Sq (Sq (RD hnt (.no :: []) [9] [(6, pI 0)] [] [] tv ?_))
  refine Bk ?_
  obtain ⟨hc1, hm⟩ := go1 hm
  refine DW.rangeO (fun (k1 : Nat) (s1 : Unit) => mkSt [(1, pI p1), (2, rr 1016), (4, rr 1032), (6, pI ((k1 : Nat) : Int))] [(1016, bx (pm (encTree p0))), (1032, bx [pI 0, pI 0, pS ByteArray.empty, pI 0, pI 0, pI 0])]) dNode hm Conv.eqK ?_
  intro k1 s1 n1 hk1 hs1 he1
  refine Sq (Sq (RD hnt (nn 5 []) [] [(15, pB (decide (((k1 : Nat) : Int) < ((p0.nodes.length : Nat) : Int))))] [] [] tv ?_))
  refine condK (decide (((k1 : Nat) : Int) < ((p0.nodes.length : Nat) : Int))) ?_ ?_
  ·intro h11
   have hlt1 : k1 < p0.nodes.length := by have := of_decide_eq_true h11; omega
   have hm := hs1 hlt1
   unfold Find_ref5L1 at hm
   refine Sk ?_
   refine Sq (Bk ?_)
   refine Sq (RD hnt (nn 8 []) [15] [(25, pB ((p0.nodes.getD k1 (default : Node)).id == p1))] [] [] (an (nn0 k1) (an (ltc hlt1) tv)) ?_)
   refine condM hm ?_ ?_
   ·intro h12 hm
    refine Sq (RK hnt (nn 7 []) [(4, rr 1032), (5, pB true)] [(1032, bx (pm (encNode (p0.nodes.getD k1 (default : Node)))))] (an (nn0 k1) (an (ltc hlt1) tv)) ?_)
    obtain rfl := sj hm
    exact DW.ret (retK [] [] (.p (.tup [.agg (encNode (p0.nodes.getD k1 (default : Node))), vb true])))
   ·intro h12 hm
    refine Sk ?_
    refine DW.done ?_
    show DW _ _ _ _ _
    refine RD hnt (nn 3 []) [25] [(6, pI (w64 (((k1 : Nat) : Int) + 1)))] [] [] tv ?_
    exact jD () ⟨hlt1, hm⟩ (Conv.tp [(6, pI (w64 (((k1 : Nat) : Int) + 1)))] [] (by kernel_rfl) (.cons rfl (.of_eq (congrArg pI (w64_succ hlt1 hc1))) .nil) .nil)
  ·intro h11
   have hge1 : ¬ k1 < p0.nodes.length := by have := of_decide_eq_false h11; omega
   have hm := he1 hge1
   unfold Find_ref5D1 at hm
   refine DW.exit ?_
   refine joinQ_exit ?_
   refine KQ_exit ?_
   refine blockQ_exit ?_
   show DW _ _ _ _ _
   refine Sq (RD hnt (nn 3 []) [1, 2, 6, 15] [(5, pB false)] [1016] [] tv ?_)
   obtain rfl := sj hm
   exact DW.ret (retK [] [] (.p (.tup [.agg [vi 0, vi 0, vs ByteArray.empty, vi 0, vi 0, vi 0], vb false])))
abbrev o60 (ks : List Nat) (b : Bool) (RES : Node × Bool) : Orc := .call 24 ks b (.p (.tup [.agg (encNode RES.1), vb RES.2])) [] []

theorem Has_ref5Spec (p0 : Tree) (p1 : Int) (RES : Bool) (hm : Has_ref5 p0 p1 = some RES) : Spec Try.prog 47 [.p (.agg (encTree p0)), pI p1] [] (pB RES) [] [] := by
 unfold Has_ref5 at hm
 refine SO Try.func47 rfl rfl [(0, .p (.agg (encTree p0))), (1, pI p1)] [] ?_
 intro cx hnt
 refine Sq (RK hnt (nn 2 []) [(1, pI p1), (2, rr 1016)] [(1016, bx (pm (encTree p0)))] tv ?_)
 obtain ⟨r1, hr1, hm⟩ := bo hm
 refine Sq (RK hnt (nn 2 (o60 [] true r1 :: nn 6 [])) [(6, pB r1.2)] [] (an (Find_ref5Spec p0 p1 r1 hr1) tv) ?_)
 refine Sq (RK hnt (nn 2 []) [(4, pB r1.2)] [] tv ?_)
 obtain rfl := sj hm
 exact DW.ret (retK [] [] (pB r1.2))
abbrev o59 (ks : List Nat) (b : Bool) (RES : Bool) : Orc := .call 47 ks b (pB RES) [] []

theorem Ancestors_ref5Spec (p0 : Tree) (p1 : Int) (RES : List Int) (hm : Ancestors_ref5 p0 p1 = some RES) : Spec Try.prog 51 [.p (.agg (encTree p0)), pI p1] [] (ow 0 RES.length) [] [roI RES] := by
 unfold Ancestors_ref5 at hm
 refine SO Try.func51 rfl rfl [(0, .p (.agg (encTree p0))), (1, pI p1)] [] ?_
 intro cx hnt
 refine Sq (RK hnt (nn 2 []) [(1, pI p1), (2, rr 1016)] [(1016, bx (pm (encTree p0)))] tv ?_)
 obtain ⟨r1, hr1, hm⟩ := bo hm
 refine Sq (Sq (RD hnt (nn 2 (o59 [] true r1 :: .no :: [])) [] [(8, pB (!r1))] [] [] (an (Has_ref5Spec p0 p1 r1 hr1) tv) ?_))
 refine condM hm ?_ ?_
 ·intro h2 hm
  refine Sq (RK hnt (.no :: []) [(4, .p (.sl .nil 0 0 (fun _ => [])))] [] tv ?_)
  refine DW.cv [] [(4, ow 100000 0)] [] [(100000, ob0 (roI []))] (Conv.ads [(.s 4, 100000, 1, elems encI 0 [])]) ?_
  obtain rfl := sj hm
  exact DW.ret (retK [roI []] [100000] (ow 0 0))
 ·intro h2 hm
  refine Sk ?_
  obtain ⟨r3, hr3, hm⟩ := bo hm
  refine Sq (RK hnt (nn 2 (o58 [] true r3 :: .no :: [])) [(4, ow 1088 r3.length)] [(1088, ob0 (roI r3))] (an (up_ref5Spec p0 p1 r3 hr3) tv) ?_)
  obtain rfl := sj hm
  exact DW.ret (retK [roI r3] [1088] (ow 0 r3.length))
abbrev o62 (ks : List Nat) (b : Bool) (RES : List Int) : Orc := .call 51 ks b (ow 0 RES.length) [] [roI RES]

theorem Depth_ref5Spec (p0 : Tree) (p1 : Int) (RES : Int) (hm : Depth_ref5 p0 p1 = some RES) : Spec Try.prog 25 [.p (.agg (encTree p0)), pI p1] [] (pI RES) [] [] := by
 unfold Depth_ref5 at hm
 refine SO Try.func25 rfl rfl [(0, .p (.agg (encTree p0))), (1, pI p1)] [] ?_
 intro cx hnt
 refine Sq (RK hnt (nn 2 []) [(1, pI p1), (2, rr 1016)] [(1016, bx (pm (encTree p0)))] tv ?_)
 obtain ⟨r1, hr1, hm⟩ := bo hm
 refine Sq (RK hnt (nn 2 (o62 [] true r1 :: nn 3 [])) [(4, pI (w64 (((r1.length : Nat) : Int) - 1)))] [] (an (Ancestors_ref5Spec p0 p1 r1 hr1) tv) ?_)
 obtain rfl := sj hm
 exact DW.ret (retK [] [] (pI (w64 (((r1.length : Nat) : Int) - 1))))
abbrev o61 (ks : List Nat) (b : Bool) (RES : Int) : Orc := .call 25 ks b (pI RES) [] []

theorem Copy_ref5Spec (p0 : Tree) (RES : Tree) (hm : Copy_ref5 p0 = some RES) : Spec Try.prog 53 [.p (.agg (encTree p0))] [] (.agg [ow 0 RES.nodes.length, pI RES.next]) [] [roNode RES.nodes] := by
 unfold Copy_ref5 at hm
 refine SO Try.func53 rfl rfl [(0, .p (.agg (encTree p0)))] [] ?_
 intro cx hnt
 refine Sq (RK hnt (nn 2 []) [(1, rr 1008), (2, rr 1016)] [(1008, bx (pm (encTree p0))), (1016, bx [.p (.sl .nil 0 0 (fun _ => [])), pI 0])] tv ?_)
 obtain ⟨g1, hm⟩ := go1 hm
 refine Sq (RN hnt (nn 7 []) [(2, rr 1016)] [(1016, bx [ow 1040 p0.nodes.length, pI p0.next]), (1040, ob0 (roNode p0.nodes))] [] [(1040, .row 6 p0.nodes.length (elNode p0.nodes))] (an (by omega : p0.nodes.length * 56 ≤ 140737488355328) tv) (by kernel_rfl) .nil (.cons rfl (BLe.typed RowIs.elems) .nil) ?_)
 obtain rfl := sj hm
 exact DW.ret (retK [roNode p0.nodes] [1040] (.agg [ow 0 p0.nodes.length, pI p0.next]))
abbrev o63 (ks : List Nat) (b : Bool) (RES : Tree) : Orc := .call 53 ks b (.agg [ow 0 RES.nodes.length, pI RES.next]) [] [roNode RES.nodes]

abbrev c54e1 (p0 : Tree) (p1 : Int) (p2 : ByteArray) := ({ id := p0.next, parent := p1, name := p2, control := 0, kind := 0, owner := 0 } : Node)
abbrev c54e2 : Nat × Obj := (1048, bx [.p (.sl .nil 0 0 (fun _ => [])), pI 0])
abbrev c54e3 (p0 : Tree) : Nat × Obj := (1024, bx (pm (encTree p0)))
abbrev c54e4 : Nat × Obj := (1048, bx [ow 100000 0, pI 0])
theorem Add_ref5Spec (p0 : Tree) (p1 : Int) (p2 : ByteArray) (RES : Tree × Int × Int) (hm : Add_ref5 p0 p1 p2 = some RES) : Spec Try.prog 28 [.p (.agg (encTree p0)), pI p1, pS p2] [] (.tup [.agg [ow 0 RES.1.nodes.length, pI RES.1.next], pI RES.2.1, pI RES.2.2]) [] [roNode RES.1.nodes] := by
 unfold Add_ref5 at hm
 refine SO Try.func28 rfl rfl [(0, .p (.agg (encTree p0))), (1, pI p1), (2, pS p2)] [] ?_
 intro cx hnt
 refine Sq (RD hnt (nn 4 []) [0] [(3, rr 1024), (6, rr 1048)] [] [(c54e3 p0), (c54e2)] tv ?_)
 obtain ⟨r1, hr1, hm⟩ := bo hm
 refine Sq (Sq ?_)
 refine Jn (ι := Bool) (fun (y1 : Bool) => mkSt [(1, pI p1), (2, pS p2), (3, rr 1024), (6, rr 1048), (18, pB y1)] [(c54e3 p0), (c54e2)]) (fun y1 => (Add_ref5J1 p0 p1 p2) y1 = some RES) ?_ ?_
 ·intro y1 hm
  unfold Add_ref5J1 at hm
  refine condM hm ?_ ?_
  ·intro h4 hm
   refine Sq (RD hnt (nn 4 []) [1, 2, 3, 18] [(7, pI 0), (8, pI 1)] [1024] [] tv ?_)
   refine DW.cv [] [] [] [(c54e4), (100000, ob0 (roNode []))] (Conv.ads [(.o 1048 0, 100000, 6, elems encNode dNode [])]) ?_
   obtain rfl := sj hm
   exact DW.ret (retK [roNode []] [100000] (.tup [.agg [ow 0 0, pI 0], pI 0, pI 1]))
  ·intro h4 hm
   refine Sk ?_
   obtain ⟨r5, hr5, hm⟩ := bo hm
   refine Sq (Sq (RD hnt (nn 2 (o59 [] true r5 :: .no :: [])) [18] [(23, pB (!r5))] [] [] (an (Has_ref5Spec p0 p1 r5 hr5) tv) ?_))
   refine condM hm ?_ ?_
   ·intro h6 hm
    refine Sq (RD hnt (nn 4 []) [1, 2, 3, 23] [(7, pI 0), (8, pI 4)] [1024] [] tv ?_)
    refine DW.cv [] [] [] [(c54e4), (100000, ob0 (roNode []))] (Conv.ads [(.o 1048 0, 100000, 6, elems encNode dNode [])]) ?_
    obtain rfl := sj hm
    exact DW.ret (retK [roNode []] [100000] (.tup [.agg [ow 0 0, pI 0], pI 0, pI 4]))
   ·intro h6 hm
    refine Sk ?_
    refine Sq (Sq (RD hnt (.no :: []) [23] [(9, pI 0)] [] [] tv ?_))
    refine Bk ?_
    obtain ⟨hc1, hm⟩ := go1 hm
    refine DW.rangeO (fun (k1 : Nat) (s1 : Unit) => mkSt [(1, pI p1), (2, pS p2), (3, rr 1024), (6, rr 1048), (9, pI ((k1 : Nat) : Int))] [(c54e3 p0), (c54e2)]) dNode hm Conv.eqK ?_
    intro k1 s1 n1 hk1 hs1 he1
    refine Sq (Sq (RD hnt (nn 5 []) [] [(29, pB (decide (((k1 : Nat) : Int) < ((p0.nodes.length : Nat) : Int))))] [] [] tv ?_))
    refine condK (decide (((k1 : Nat) : Int) < ((p0.nodes.length : Nat) : Int))) ?_ ?_
    ·intro h29
     have hlt1 : k1 < p0.nodes.length := by have := of_decide_eq_true h29; omega
     have hm := hs1 hlt1
     unfold Add_ref5L1 at hm
     refine Sk ?_
     refine Sq (Bk ?_)
     refine Sq (DW.regJ (sl2 := [(1, pI p1), (2, pS p2), (3, rr 1024), (6, rr 1048), (9, pI ((k1 : Nat) : Int)), (49, pB (((p0.nodes.getD k1 (default : Node)).parent == p1) && (beqS (p0.nodes.getD k1 (default : Node)).name p2)))]) (ob2 := [(c54e3 p0), (c54e2)]) ?_ ?_)
     ·rcases bt ((p0.nodes.getD k1 (default : Node)).parent == p1) with h30 | h30
      ·exact RT hnt (nn 17 (pT :: [])) [(49, pB (beqS (p0.nodes.getD k1 (default : Node)).name p2))] (an (nn0 k1) (an (ltc hlt1) (an4 h30 (an (nn0 k1) (an (ltc hlt1) (an5 h30 tv)))))) (by kernel_rfl) (.cons rfl (.of_eq (by rw [h30]; try rfl)) .nil)
      ·exact RT hnt (nn 9 (sk 8 (pF :: []))) [(49, pB false)] (an (nn0 k1) (an (ltc hlt1) (an3 h30 (an6 h30 tv)))) (by kernel_rfl) (.cons rfl (.of_eq (by rw [h30]; try rfl)) .nil)
     ·refine condM hm ?_ ?_
      ·intro h31 hm
       refine Sq (RD hnt (nn 4 []) [1, 2, 3, 9, 49] [(7, pI 0), (8, pI 5)] [1024] [] tv ?_)
       refine DW.cv [] [] [] [(c54e4), (100000, ob0 (roNode []))] (Conv.ads [(.o 1048 0, 100000, 6, elems encNode dNode [])]) ?_
       obtain rfl := sj hm
       exact DW.ret (retK [roNode []] [100000] (.tup [.agg [ow 0 0, pI 0], pI 0, pI 5]))
      ·intro h31 hm
       refine Sk ?_
       refine DW.done ?_
       show DW _ _ _ _ _
       refine RD hnt (nn 3 []) [49] [(9, pI (w64 (((k1 : Nat) : Int) + 1)))] [] [] tv ?_
       exact jD () ⟨hlt1, hm⟩ (Conv.tp [(9, pI (w64 (((k1 : Nat) : Int) + 1)))] [] (by kernel_rfl) (.cons rfl (.of_eq (congrArg pI (w64_succ hlt1 hc1))) .nil) .nil)
    ·intro h29
     have hge1 : ¬ k1 < p0.nodes.length := by have := of_decide_eq_false h29; omega
     have hm := he1 hge1
     unfold Add_ref5D1 at hm
     refine DW.exit ?_
     refine joinQ_exit ?_
     refine KQ_exit ?_
     refine blockQ_exit ?_
     show DW _ _ _ _ _
     obtain ⟨r32, hr32, hm⟩ := bo hm
     refine Sq (Sq ?_)
     refine Jn (ι := Bool) (fun (y6 : Bool) => mkSt [(1, pI p1), (2, pS p2), (3, rr 1024), (6, rr 1048), (65, pB y6)] [(c54e3 p0), (c54e2)]) (fun y6 => (Add_ref5J6 p0 p1 p2) y6 = some RES) ?_ ?_
     ·intro y6 hm
      unfold Add_ref5J6 at hm
      refine condM hm ?_ ?_
      ·intro h35 hm
       refine Sq (RD hnt (nn 4 []) [1, 2, 3, 65] [(7, pI 0), (8, pI 7)] [1024] [] tv ?_)
       refine DW.cv [] [] [] [(c54e4), (100000, ob0 (roNode []))] (Conv.ads [(.o 1048 0, 100000, 6, elems encNode dNode [])]) ?_
       obtain rfl := sj hm
       exact DW.ret (retK [roNode []] [100000] (.tup [.agg [ow 0 0, pI 0], pI 0, pI 7]))
      ·intro h35 hm
       refine Sk ?_
       obtain ⟨r36, hr36, hm⟩ := bo hm
       refine Sq (RD hnt (.no :: o63 [] true r36 :: nn 2 []) [65] [(10, rr 1080)] [] [(1080, bx [ow 1544 r36.nodes.length, pI r36.next]), (1544, ob0 (roNode r36.nodes))] (an (Copy_ref5Spec p0 r36 hr36) tv) ?_)
       obtain ⟨g37, hm⟩ := go1 hm
       refine Sq (RN hnt (nn 11 []) [(3, rr 1024), (6, rr 1048), (10, rr 1080)] [(c54e3 p0), (c54e2), (1080, bx [ow 1544 (r36.nodes ++ [(c54e1 p0 p1 p2)]).length, pI r36.next]), (1544, ob0 (roNode (r36.nodes ++ [(c54e1 p0 p1 p2)])))] [] [(1080, .box [ow 1544 (r36.nodes.length + 1), pI r36.next]), (1544, .row 6 (r36.nodes.length + 1) (catF r36.nodes.length (elNode r36.nodes) (cut 6 [vi p0.next, vi p1, vs p2, vi 0, vi 0, vi 0])))] (an (by omega : (r36.nodes.length + 1) * 56 ≤ 140737488355328) tv) (by kernel_rfl) .nil (.cons rfl (.box (.cons (MLe.ownLen (enc := encNode) (d := dNode) (f := (catF r36.nodes.length (elNode r36.nodes) (cut 6 [vi p0.next, vi p1, vs p2, vi 0, vi 0, vi 0]))) (RowIs.cat RowIs.elems (RowIs.lit (enc := encNode) (d := dNode) (n := 1) (f := (cut 6 [vi p0.next, vi p1, vs p2, vi 0, vi 0, vi 0])) [(c54e1 p0 p1 p2)] rfl (fun | 0, _ => rfl | n + 1, h => absurd h (by omega))))) (.cons .rfl .nil))) (.cons rfl (BLe.typed (RowIs.cat RowIs.elems (RowIs.lit (enc := encNode) (d := dNode) (n := 1) (f := (cut 6 [vi p0.next, vi p1, vs p2, vi 0, vi 0, vi 0])) [(c54e1 p0 p1 p2)] rfl (fun | 0, _ => rfl | n + 1, h => absurd h (by omega))))) .nil)) ?_)
       refine Sq (RD hnt (nn 5 []) [] [] [] [(1080, bx [ow 1544 (r36.nodes ++ [(c54e1 p0 p1 p2)]).length, pI (w64 (r36.next + 1))])] tv ?_)
       refine Sq (RD hnt (nn 6 []) [3, 10] [(7, pI p0.next), (8, pI 0)] [1024, 1080] [(1048, bx [ow 1544 (r36.nodes ++ [(c54e1 p0 p1 p2)]).length, pI (w64 (r36.next + 1))])] tv ?_)
       obtain rfl := sj hm
       exact DW.ret (retK [roNode (r36.nodes ++ [(c54e1 p0 p1 p2)])] [1544] (.tup [.agg [ow 0 (r36.nodes ++ [(c54e1 p0 p1 p2)]).length, pI (w64 (r36.next + 1))], pI p0.next, pI 0]))
     ·rcases bt (decide (r32 ≥ 8)) with h33 | h33
      ·replace hm := if_t h33 hm
       refine RD hnt (nn 2 (o61 [] true r32 :: nn 2 (sk 4 (pT :: .no :: sk 3 (pT :: []))))) [9, 29] [(65, pB true)] [] [] (an (Depth_ref5Spec p0 p1 r32 hr32) (an5 h33 (an4 tt tv))) ?_
       exact jD true hm Conv.eqK
      ·replace hm := if_f h33 hm
       rcases bt (decide (((p0.nodes.length : Nat) : Int) ≥ 64)) with h34 | h34
       ·replace hm := if_t h34 hm
        refine RD hnt (nn 2 (o61 [] true r32 :: nn 6 (pF :: .no :: sk 3 (pT :: [])))) [9, 29] [(65, pB true)] [] [] (an (Depth_ref5Spec p0 p1 r32 hr32) (an5 h33 (an4 h34 tv))) ?_
        exact jD true hm Conv.eqK
       ·replace hm := if_f h34 hm
        refine RD hnt (nn 2 (o61 [] true r32 :: nn 6 (pF :: nn 4 (pF :: [])))) [9, 29] [(65, pB (decide (p0.next > 2147483647)))] [] [] (an (Depth_ref5Spec p0 p1 r32 hr32) (an5 h33 (an4 h34 tv))) ?_
        exact jD (decide (p0.next > 2147483647)) hm Conv.eqK
 ·rcases bt (!r1) with h2 | h2
  ·replace hm := if_t h2 hm
   refine RD hnt (.no :: o55 [] true r1 :: nn 2 (sk 3 (pT :: []))) [] [(18, pB true)] [] [] (an (Check_ref5Spec p0 r1 hr1) (an4 h2 tv)) ?_
   exact jD true hm Conv.eqK
  ·replace hm := if_f h2 hm
   obtain ⟨r3, hr3, hm⟩ := bo hm
   refine RD hnt (.no :: o55 [] true r1 :: nn 3 (o57 [] true r3 :: .no :: pF :: [])) [] [(18, pB (!r3))] [] [] (an (Check_ref5Spec p0 r1 hr1) (an2 h2 (an (Valid_ref1Spec p2 r3 hr3) (an2 h2 tv)))) ?_
   exact jD (!r3) hm Conv.eqK
abbrev o54 (ks : List Nat) (b : Bool) (RES : Tree × Int × Int) : Orc := .call 28 ks b (.tup [.agg [ow 0 RES.1.nodes.length, pI RES.1.next], pI RES.2.1, pI RES.2.2]) [] [roNode RES.1.nodes]

theorem Bool_Dice_madeSpec (p0 : Dice) (p1 : Int) (RES : Bool × Dice) (hm : Bool_Dice_made p0 p1 = some RES) : Spec Try.prog 30 [rr 0, pI p1] [.box (pm (encDice p0))] (pB RES.1) [.box (pm (encDice RES.2))] [] := by
 unfold Bool_Dice_made at hm
 refine SO Try.func30 rfl rfl [(0, rr 0), (1, pI p1)] [(0, bx (pm (encDice p0)))] ?_
 intro cx hnt
 refine Sq (RD hnt (.no :: []) [] [] [] [] tv ?_)
 obtain ⟨r1, hr1, hm⟩ := bo hm
 refine Sq (RK hnt (nn 2 (o52 [0] true r1 :: nn 4 [])) [(4, pB (r1.1 == (w64 (p1 - 1))))] [(0, bx (pm (encDice r1.2)))] (an (Next_Dice_madeSpec p0 p1 r1 hr1) (an tv tv)) ?_)
 obtain rfl := sj hm
 exact DW.ret (retK [.box (pm (encDice r1.2))] [] (pB (r1.1 == (w64 (p1 - 1)))))
abbrev o64 (ks : List Nat) (b : Bool) (RES : Bool × Dice) : Orc := .call 30 ks b (pB RES.1) [.box (pm (encDice RES.2))] []

abbrev c66e1 (p0 : Tree) (k1 : Nat) := (p0.nodes.getD k1 (default : Node))
theorem Children_ref5Spec (p0 : Tree) (p1 : Int) (RES : List Int) (hm : Children_ref5 p0 p1 = some RES) : Spec Try.prog 48 [.p (.agg (encTree p0)), pI p1] [] (ow 0 RES.length) [] [roI RES] := by
 unfold Children_ref5 at hm
 refine SO Try.func48 rfl rfl [(0, .p (.agg (encTree p0))), (1, pI p1)] [] ?_
 intro cx hnt
 refine Sq (RK hnt (nn 2 []) [(1, pI p1), (2, rr 1016)] [(1016, bx (pm (encTree p0)))] tv ?_)
 obtain ⟨r1, hr1, hm⟩ := bo hm
 refine Sq (Sq (RD hnt (nn 2 (o59 [] true r1 :: .no :: [])) [] [(10, pB (!r1))] [] [] (an (Has_ref5Spec p0 p1 r1 hr1) tv) ?_))
 refine condM hm ?_ ?_
 ·intro h2 hm
  refine Sq (RK hnt (.no :: []) [(4, .p (.sl .nil 0 0 (fun _ => [])))] [] tv ?_)
  refine DW.cv [] [(4, ow 100000 0)] [] [(100000, ob0 (roI []))] (Conv.ads [(.s 4, 100000, 1, elems encI 0 [])]) ?_
  obtain rfl := sj hm
  exact DW.ret (retK [roI []] [100000] (ow 0 0))
 ·intro h2 hm
  refine Sk ?_
  refine Sq (RD hnt (.no :: []) [10] [(5, .p (.sl .nil 0 0 (fun _ => [])))] [] [] tv ?_)
  refine Sq (Sq (RD hnt (.no :: []) [] [(6, pI 0)] [] [] tv ?_))
  refine Bk ?_
  obtain ⟨hc1, hm⟩ := go1 hm
  refine DW.rangeO (fun (k1 : Nat) (s1 : List Int) => mkSt [(1, pI p1), (2, rr 1016), (5, ow 1272 s1.length), (6, pI ((k1 : Nat) : Int))] [(1016, bx (pm (encTree p0))), (1272, ob0 (roI s1))]) dNode hm (Conv.ads [(.s 5, 1272, 1, elems encI 0 [])]) ?_
  intro k1 s1 n1 hk1 hs1 he1
  refine Sq (Sq (RD hnt (nn 5 []) [] [(15, pB (decide (((k1 : Nat) : Int) < ((p0.nodes.length : Nat) : Int))))] [] [] tv ?_))
  refine condK (decide (((k1 : Nat) : Int) < ((p0.nodes.length : Nat) : Int))) ?_ ?_
  ·intro h12
   have hlt1 : k1 < p0.nodes.length := by have := of_decide_eq_true h12; omega
   have hm := hs1 hlt1
   unfold Children_ref5L1 at hm
   refine Sk ?_
   refine Sq ?_
   refine Jn (ι := List Int) (fun (y3 : List Int) => mkSt [(1, pI p1), (2, rr 1016), (5, ow 1272 y3.length), (6, pI ((k1 : Nat) : Int))] [(1016, bx (pm (encTree p0))), (1272, ob0 (roI y3))]) (fun y3 => (Children_ref5J3 n1) y3 = some RES) ?_ ?_
   ·intro y3 hm
    unfold Children_ref5J3 at hm
    refine RD hnt (nn 3 []) [] [(6, pI (w64 (((k1 : Nat) : Int) + 1)))] [] [] tv ?_
    exact jD y3 ⟨hlt1, hm⟩ (Conv.tp [(6, pI (w64 (((k1 : Nat) : Int) + 1)))] [] (by kernel_rfl) (.cons rfl (.of_eq (congrArg pI (w64_succ hlt1 hc1))) .nil) .nil)
   ·refine Bk ?_
    refine Sq (RD hnt (nn 8 []) [15] [(25, pB ((c66e1 p0 k1).parent == p1))] [] [] (an (nn0 k1) (an (ltc hlt1) tv)) ?_)
    refine condM hm ?_ ?_
    ·intro h13 hm
     obtain ⟨g14, hm⟩ := go1 hm
     refine RN hnt (nn 10 []) [(1, pI p1), (2, rr 1016), (5, ow 1272 (s1 ++ [(c66e1 p0 k1).id]).length), (6, pI ((k1 : Nat) : Int))] [(1016, bx (pm (encTree p0))), (1272, ob0 (roI (s1 ++ [(c66e1 p0 k1).id])))] [(5, ow 1272 (s1.length + 1))] [(1272, .row 1 (s1.length + 1) (catF s1.length (elI s1) (cut 1 [vi (c66e1 p0 k1).id])))] (an (nn0 k1) (an (ltc hlt1) (an (by omega : (s1.length + 1) * 8 ≤ 140737488355328) tv))) (by kernel_rfl) (.cons rfl (MLe.ownLen (enc := encI) (d := 0) (f := (catF s1.length (elI s1) (cut 1 [vi (c66e1 p0 k1).id]))) (RowIs.cat RowIs.elems (RowIs.lit (enc := encI) (d := 0) (n := 1) (f := (cut 1 [vi (c66e1 p0 k1).id])) [(c66e1 p0 k1).id] rfl (fun | 0, _ => rfl | n + 1, h => absurd h (by omega))))) .nil) (.cons rfl (BLe.typed (RowIs.cat RowIs.elems (RowIs.lit (enc := encI) (d := 0) (n := 1) (f := (cut 1 [vi (c66e1 p0 k1).id])) [(c66e1 p0 k1).id] rfl (fun | 0, _ => rfl | n + 1, h => absurd h (by omega))))) .nil) ?_
     exact bD (s1 ++ [(c66e1 p0 k1).id]) hm .refl
    ·intro h13 hm
     refine Sk ?_
     exact bD s1 hm Conv.t0
  ·intro h12
   have hge1 : ¬ k1 < p0.nodes.length := by have := of_decide_eq_false h12; omega
   have hm := he1 hge1
   unfold Children_ref5D1 at hm
   refine DW.exit ?_
   refine joinQ_exit ?_
   refine KQ_exit ?_
   refine blockQ_exit ?_
   show DW _ _ _ _ _
   refine Sq (RK hnt (nn 2 []) [(4, ow 1272 s1.length)] [(1272, ob0 (roI s1))] tv ?_)
   obtain rfl := sj hm
   exact DW.ret (retK [roI s1] [1272] (ow 0 s1.length))
abbrev o66 (ks : List Nat) (b : Bool) (RES : List Int) : Orc := .call 48 ks b (ow 0 RES.length) [] [roI RES]

abbrev c65e1 (p0 : Tree) (k1 : Nat) := (p0.nodes.getD k1 (default : Node))
abbrev c65e2 : Nat × Obj := (1032, bx [.p (.sl .nil 0 0 (fun _ => [])), pI 0])
abbrev c65e3 : Nat × Obj := (1032, bx [ow 100000 0, pI 0])
theorem Remove_ref5Spec (p0 : Tree) (p1 : Int) (RES : Tree × Int) (hm : Remove_ref5 p0 p1 = some RES) : Spec Try.prog 31 [.p (.agg (encTree p0)), pI p1] [] (.tup [.agg [ow 0 RES.1.nodes.length, pI RES.1.next], pI RES.2]) [] [roNode RES.1.nodes] := by
 unfold Remove_ref5 at hm
 refine SO Try.func31 rfl rfl [(0, .p (.agg (encTree p0))), (1, pI p1)] [] ?_
 intro cx hnt
 refine Sq (RK hnt (nn 3 []) [(1, pI p1), (2, rr 1016), (4, rr 1032)] [(1016, bx (pm (encTree p0))), (c65e2)] tv ?_)
 refine Sq (Bk ?_)
 obtain ⟨r1, hr1, hm⟩ := bo hm
 refine Sq (RD hnt (.no :: o55 [] true r1 :: nn 2 []) [] [(8, pB (!r1))] [] [] (an (Check_ref5Spec p0 r1 hr1) tv) ?_)
 refine condM hm ?_ ?_
 ·intro h2 hm
  refine Sq (RD hnt (nn 3 []) [1, 2, 8] [(5, pI 1)] [1016] [] tv ?_)
  refine DW.cv [] [] [] [(c65e3), (100000, ob0 (roNode []))] (Conv.ads [(.o 1032 0, 100000, 6, elems encNode dNode [])]) ?_
  obtain rfl := sj hm
  exact DW.ret (retK [roNode []] [100000] (.tup [.agg [ow 0 0, pI 0], pI 1]))
 ·intro h2 hm
  obtain ⟨r3, hr3, hm⟩ := bo hm
  refine Sq (RD hnt (nn 2 (o59 [] true r3 :: nn 2 [])) [8] [(13, pB (!r3))] [] [] (an (Has_ref5Spec p0 p1 r3 hr3) tv) ?_)
  refine condM hm ?_ ?_
  ·intro h4 hm
   refine Sq (RD hnt (nn 3 []) [1, 2, 13] [(5, pI 4)] [1016] [] tv ?_)
   refine DW.cv [] [] [] [(c65e3), (100000, ob0 (roNode []))] (Conv.ads [(.o 1032 0, 100000, 6, elems encNode dNode [])]) ?_
   obtain rfl := sj hm
   exact DW.ret (retK [roNode []] [100000] (.tup [.agg [ow 0 0, pI 0], pI 4]))
  ·intro h4 hm
   refine Sq (RD hnt (nn 3 []) [13] [(19, pB (p1 == 1))] [] [] tv ?_)
   refine condM hm ?_ ?_
   ·intro h5 hm
    refine Sq (RD hnt (nn 3 []) [1, 2, 19] [(5, pI 9)] [1016] [] tv ?_)
    refine DW.cv [] [] [] [(c65e3), (100000, ob0 (roNode []))] (Conv.ads [(.o 1032 0, 100000, 6, elems encNode dNode [])]) ?_
    obtain rfl := sj hm
    exact DW.ret (retK [roNode []] [100000] (.tup [.agg [ow 0 0, pI 0], pI 9]))
   ·intro h5 hm
    obtain ⟨r6, hr6, hm⟩ := bo hm
    refine Sq (RD hnt (nn 2 (o66 [] true r6 :: nn 3 [])) [19] [(23, pB (decide (((r6.length : Nat) : Int) > 0)))] [] [] (an (Children_ref5Spec p0 p1 r6 hr6) tv) ?_)
    refine condM hm ?_ ?_
    ·intro h7 hm
     refine Sq (RD hnt (nn 3 []) [1, 2, 23] [(5, pI 6)] [1016] [] tv ?_)
     refine DW.cv [] [] [] [(c65e3), (100000, ob0 (roNode []))] (Conv.ads [(.o 1032 0, 100000, 6, elems encNode dNode [])]) ?_
     obtain rfl := sj hm
     exact DW.ret (retK [roNode []] [100000] (.tup [.agg [ow 0 0, pI 0], pI 6]))
    ·intro h7 hm
     refine Sk ?_
     refine DW.done ?_
     show DW _ _ _ _ _
     refine Sq (RD hnt (nn 5 []) [23] [(6, rr 1048)] [] [(1048, bx [.p (.sl .nil 0 0 (fun _ => [])), pI p0.next])] tv ?_)
     refine Sq (Sq (RD hnt (.no :: []) [] [(7, pI 0)] [] [] tv ?_))
     refine Bk ?_
     obtain ⟨hc1, hm⟩ := go1 hm
     refine DW.rangeO (fun (k1 : Nat) (s1 : List Node) => mkSt [(1, pI p1), (2, rr 1016), (4, rr 1032), (6, rr 1048), (7, pI ((k1 : Nat) : Int))] [(1016, bx (pm (encTree p0))), (c65e2), (1048, bx [ow 1448 s1.length, pI p0.next]), (1448, ob0 (roNode s1))]) dNode hm (Conv.ads [(.o 1048 0, 1448, 6, elems encNode dNode [])]) ?_
     intro k1 s1 n1 hk1 hs1 he1
     refine Sq (Sq (RD hnt (nn 5 []) [] [(37, pB (decide (((k1 : Nat) : Int) < ((p0.nodes.length : Nat) : Int))))] [] [] tv ?_))
     refine condK (decide (((k1 : Nat) : Int) < ((p0.nodes.length : Nat) : Int))) ?_ ?_
     ·intro h17
      have hlt1 : k1 < p0.nodes.length := by have := of_decide_eq_true h17; omega
      have hm := hs1 hlt1
      unfold Remove_ref5L1 at hm
      refine Sk ?_
      refine Sq ?_
      refine Jn (ι := List Node) (fun (y3 : List Node) => mkSt [(1, pI p1), (2, rr 1016), (4, rr 1032), (6, rr 1048), (7, pI ((k1 : Nat) : Int))] [(1016, bx (pm (encTree p0))), (c65e2), (1048, bx [ow 1448 y3.length, pI p0.next]), (1448, ob0 (roNode y3))]) (fun y3 => (Remove_ref5J3 n1) y3 = some RES) ?_ ?_
      ·intro y3 hm
       unfold Remove_ref5J3 at hm
       refine RD hnt (nn 3 []) [] [(7, pI (w64 (((k1 : Nat) : Int) + 1)))] [] [] tv ?_
       exact jD y3 ⟨hlt1, hm⟩ (Conv.tp [(7, pI (w64 (((k1 : Nat) : Int) + 1)))] [] (by kernel_rfl) (.cons rfl (.of_eq (congrArg pI (w64_succ hlt1 hc1))) .nil) .nil)
      ·refine Bk ?_
       refine Sq (RD hnt (nn 8 []) [37] [(47, pB ((c65e1 p0 k1).id != p1))] [] [] (an (nn0 k1) (an (ltc hlt1) tv)) ?_)
       refine condM hm ?_ ?_
       ·intro h18 hm
        obtain ⟨g19, hm⟩ := go1 hm
        refine RN hnt (nn 11 []) [(1, pI p1), (2, rr 1016), (4, rr 1032), (6, rr 1048), (7, pI ((k1 : Nat) : Int))] [(1016, bx (pm (encTree p0))), (c65e2), (1048, bx [ow 1448 (s1 ++ [(c65e1 p0 k1)]).length, pI p0.next]), (1448, ob0 (roNode (s1 ++ [(c65e1 p0 k1)])))] [] [(1048, .box [ow 1448 (s1.length + 1), pI p0.next]), (1448, .row 6 (s1.length + 1) (catF s1.length (elNode s1) (cut 6 [vi (c65e1 p0 k1).id, vi (c65e1 p0 k1).parent, vs (c65e1 p0 k1).name, vi (c65e1 p0 k1).control, vi (c65e1 p0 k1).kind, vi (c65e1 p0 k1).owner])))] (an (nn0 k1) (an (ltc hlt1) (an (by omega : (s1.length + 1) * 56 ≤ 140737488355328) tv))) (by kernel_rfl) .nil (.cons rfl (.box (.cons (MLe.ownLen (enc := encNode) (d := dNode) (f := (catF s1.length (elNode s1) (cut 6 [vi (c65e1 p0 k1).id, vi (c65e1 p0 k1).parent, vs (c65e1 p0 k1).name, vi (c65e1 p0 k1).control, vi (c65e1 p0 k1).kind, vi (c65e1 p0 k1).owner]))) (RowIs.cat RowIs.elems (RowIs.lit (enc := encNode) (d := dNode) (n := 1) (f := (cut 6 [vi (c65e1 p0 k1).id, vi (c65e1 p0 k1).parent, vs (c65e1 p0 k1).name, vi (c65e1 p0 k1).control, vi (c65e1 p0 k1).kind, vi (c65e1 p0 k1).owner])) [(c65e1 p0 k1)] rfl (fun | 0, _ => rfl | n + 1, h => absurd h (by omega))))) (.cons .rfl .nil))) (.cons rfl (BLe.typed (RowIs.cat RowIs.elems (RowIs.lit (enc := encNode) (d := dNode) (n := 1) (f := (cut 6 [vi (c65e1 p0 k1).id, vi (c65e1 p0 k1).parent, vs (c65e1 p0 k1).name, vi (c65e1 p0 k1).control, vi (c65e1 p0 k1).kind, vi (c65e1 p0 k1).owner])) [(c65e1 p0 k1)] rfl (fun | 0, _ => rfl | n + 1, h => absurd h (by omega))))) .nil)) ?_
        exact bD (s1 ++ [(c65e1 p0 k1)]) hm .refl
       ·intro h18 hm
        refine Sk ?_
        exact bD s1 hm Conv.t0
     ·intro h17
      have hge1 : ¬ k1 < p0.nodes.length := by have := of_decide_eq_false h17; omega
      have hm := he1 hge1
      unfold Remove_ref5D1 at hm
      refine DW.exit ?_
      refine joinQ_exit ?_
      refine KQ_exit ?_
      refine blockQ_exit ?_
      show DW _ _ _ _ _
      refine Sq (RK hnt (nn 3 []) [(4, rr 1032), (5, pI 0)] [(1032, bx [ow 1448 s1.length, pI p0.next]), (1448, ob0 (roNode s1))] tv ?_)
      obtain rfl := sj hm
      exact DW.ret (retK [roNode s1] [1448] (.tup [.agg [ow 0 s1.length, pI p0.next], pI 0]))
abbrev o65 (ks : List Nat) (b : Bool) (RES : Tree × Int) : Orc := .call 31 ks b (.tup [.agg [ow 0 RES.1.nodes.length, pI RES.1.next], pI RES.2]) [] [roNode RES.1.nodes]

abbrev c50e1 : Nat × Obj := (1032, bx [.p (.sl .nil 0 0 (fun _ => [])), pI 0])
theorem Tree_Dice_madeSpec (p0 : Dice) (p1 : Int) (RES : Tree × Dice) (hm : Tree_Dice_made p0 p1 = some RES) : Spec Try.prog 12 [rr 0, pI p1] [.box (pm (encDice p0))] (.p (.agg (encTree RES.1))) [.box (pm (encDice RES.2))] [] := by
 unfold Tree_Dice_made at hm
 refine SO Try.func12 rfl rfl [(0, rr 0), (1, pI p1)] [(0, bx (pm (encDice p0)))] ?_
 intro cx hnt
 refine Sq (RD hnt (.no :: []) [] [(4, rr 1032)] [] [(c50e1)] tv ?_)
 obtain ⟨r1, hr1, hm⟩ := bo hm
 refine Sq (RD hnt (o51 [] true r1 :: nn 2 []) [] [(5, rr 1040)] [] [(1040, bx [ow 1104 r1.nodes.length, pI r1.next]), (1104, ob0 (roNode r1.nodes))] (an (New_ref5Spec r1 hr1) tv) ?_)
 obtain ⟨r2, hr2, hm⟩ := bo hm
 refine Sq (Sq (RD hnt (nn 3 (o52 [0] true r2 :: .no :: [])) [1] [(6, pI r2.1)] [] [(0, bx (pm (encDice r2.2)))] (an (Next_Dice_madeSpec p0 (w64 (p1 + 1)) r2 hr2) (an tv tv)) ?_))
 refine Bk ?_
 refine DW.whileO (fun (s1 : Dice × Tree × Int) => mkSt [(0, rr 0), (4, rr 1032), (5, rr 1040), (6, pI s1.2.2)] [(0, bx (pm (encDice s1.1))), (c50e1), (1040, bx (pm (encTree s1.2.1)))]) hm (Conv.frz [1104]) ?_
 intro s1 n1 hm
 unfold Tree_Dice_madeL1 at hm
 refine Sq (Sq (RD hnt (nn 2 []) [] [(19, pB (decide (s1.2.2 > 0)))] [] [] tv ?_))
 refine condM hm ?_ ?_
 ·intro h18 hm
  refine Sk ?_
  refine Sq ?_
  refine Jn (ι := Dice × Tree) (fun (y3 : Dice × Tree) => mkSt [(0, rr 0), (4, rr 1032), (5, rr 1040), (6, pI s1.2.2)] [(0, bx (pm (encDice y3.1))), (c50e1), (1040, bx (pm (encTree y3.2)))]) (fun y3 => (Tree_Dice_madeJ3 s1 n1) y3 = some RES) ?_ ?_
  ·intro y3 hm
   unfold Tree_Dice_madeJ3 at hm
   refine RD hnt (nn 3 []) [] [(6, pI (w64 (s1.2.2 - 1)))] [] [] tv ?_
   exact jD (y3.1, y3.2, (w64 (s1.2.2 - 1))) hm Conv.eqK
  ·refine Bk ?_
   obtain ⟨r19, hr19, hm⟩ := bo hm
   obtain ⟨g20, hm⟩ := go1 hm
   refine Sq (RD hnt (nn 6 (o52 [0] true r19 :: nn 4 [])) [19] [(7, pI (s1.2.1.nodes.getD (Int.toNat r19.1) dNode).id)] [] [(0, bx (pm (encDice r19.2)))] (an (Next_Dice_madeSpec s1.1 ((s1.2.1.nodes.length : Nat) : Int) r19 hr19) (an tv (an g20.1 (an g20.2 tv)))) ?_)
   obtain ⟨r21, hr21, hm⟩ := bo hm
   obtain ⟨r22, hr22, hm⟩ := bo hm
   refine Sq (Sq (RD hnt (nn 3 (o53 [0] true r21 :: o54 [] true r22 :: nn 8 [])) [7] [(8, rr 1064), (10, pI r22.2.2)] [] [(0, bx (pm (encDice r21.2))), (1064, bx [ow 1296 r22.1.nodes.length, pI r22.1.next]), (1296, ob0 (roNode r22.1.nodes))] (an (Name_Dice_madeSpec r19.2 r21 hr21) (an tv (an (Add_ref5Spec s1.2.1 (s1.2.1.nodes.getD (Int.toNat r19.1) dNode).id r21.1 r22 hr22) tv))) ?_))
   refine Sq (RD hnt (nn 2 []) [10] [(42, pB (r22.2.2 == 0))] [] [] tv ?_)
   refine Jn (ι := Tree) (fun (y4 : Tree) => mkSt [(0, rr 0), (4, rr 1032), (5, rr 1040), (6, pI s1.2.2)] [(0, bx (pm (encDice r21.2))), (c50e1), (1040, bx (pm (encTree y4)))]) (fun y4 => (Tree_Dice_madeJ4 s1 n1 r21) y4 = some RES) ?_ ?_
   ·intro y4 hm
    unfold Tree_Dice_madeJ4 at hm
    obtain ⟨r24, hr24, hm⟩ := bo hm
    refine Sq (RD hnt (.no :: o64 [0] true r24 :: []) [] [(45, pB r24.1)] [] [(0, bx (pm (encDice r24.2)))] (an (Bool_Dice_madeSpec r21.2 6 r24 hr24) (an tv tv)) ?_)
    refine condM hm ?_ ?_
    ·intro h25 hm
     obtain ⟨r26, hr26, hm⟩ := bo hm
     obtain ⟨g27, hm⟩ := go1 hm
     obtain ⟨r28, hr28, hm⟩ := bo hm
     refine Sq (RD hnt (nn 7 (o52 [0] true r26 :: nn 3 (o65 [] true r28 :: nn 6 []))) [45] [(11, rr 1088), (12, pI r28.2)] [] [(0, bx (pm (encDice r26.2))), (1088, bx [ow 1464 r28.1.nodes.length, pI r28.1.next]), (1464, ob0 (roNode r28.1.nodes))] (an (Next_Dice_madeSpec r24.2 ((y4.nodes.length : Nat) : Int) r26 hr26) (an tv (an g27.1 (an g27.2 (an (Remove_ref5Spec y4 (y4.nodes.getD (Int.toNat r26.1) dNode).id r28 hr28) tv))))) ?_)
     refine Sq (RD hnt (nn 2 []) [12] [(62, pB (r28.2 == 0))] [] [] tv ?_)
     refine condM hm ?_ ?_
     ·intro h29 hm
      refine RD hnt (nn 2 []) [11, 62] [] [1088] [(1040, bx [ow 1464 r28.1.nodes.length, pI r28.1.next])] tv ?_
      exact bD (r26.2, r28.1) hm (Conv.frz [1464])
     ·intro h29 hm
      refine Sk ?_
      exact bD (r26.2, y4) hm Conv.t0
    ·intro h25 hm
     refine Sk ?_
     exact bD (r24.2, y4) hm Conv.t0
   ·refine condM hm ?_ ?_
    ·intro h23 hm
     refine RD hnt (nn 2 []) [8, 42] [] [1064] [(1040, bx [ow 1296 r22.1.nodes.length, pI r22.1.next])] tv ?_
     exact jD r22.1 hm (Conv.frz [1296])
    ·intro h23 hm
     refine Sk ?_
     exact jD s1.2.1 hm Conv.t0
 ·intro h18 hm
  refine DW.exit ?_
  refine joinQ_exit ?_
  refine KQ_exit ?_
  refine blockQ_exit ?_
  show DW _ _ _ _ _
  refine Sq (RD hnt (nn 2 []) [0, 5, 6, 19] [] [1040] [(1032, bx (pm (encTree s1.2.1)))] tv ?_)
  obtain rfl := sj hm
  exact DW.ret (retK [.box (pm (encDice s1.1))] [] (.p (.agg (encTree s1.2.1))))
abbrev o50 (ks : List Nat) (b : Bool) (RES : Tree × Dice) : Orc := .call 12 ks b (.p (.agg (encTree RES.1))) [.box (pm (encDice RES.2))] []

theorem Pick_Dice_madeSpec (p0 : Dice) (p1 : List Int) (RES : Int × Dice) (hm : Pick_Dice_made p0 p1 = some RES) : Spec Try.prog 19 [rr 0, .p (slI p1)] [.box (pm (encDice p0))] (pI RES.1) [.box (pm (encDice RES.2))] [] := by
 unfold Pick_Dice_made at hm
 refine SO Try.func19 rfl rfl [(0, rr 0), (1, .p (slI p1))] [(0, bx (pm (encDice p0)))] ?_
 intro cx hnt
 refine Sq (RD hnt (.no :: []) [] [] [] [] tv ?_)
 obtain ⟨r1, hr1, hm⟩ := bo hm
 obtain ⟨g2, hm⟩ := go1 hm
 refine Sq (RK hnt (nn 4 (o52 [0] true r1 :: nn 3 [])) [(4, pI (p1.getD (Int.toNat r1.1) 0))] [(0, bx (pm (encDice r1.2)))] (an (Next_Dice_madeSpec p0 ((p1.length : Nat) : Int) r1 hr1) (an tv (an g2.1 (an g2.2 tv)))) ?_)
 obtain rfl := sj hm
 exact DW.ret (retK [.box (pm (encDice r1.2))] [] (pI (p1.getD (Int.toNat r1.1) 0)))
abbrev o68 (ks : List Nat) (b : Bool) (RES : Int × Dice) : Orc := .call 19 ks b (pI RES.1) [.box (pm (encDice RES.2))] []

abbrev c71e1 (p1 : List Charge) (k1 : Nat) := (p1.getD k1 (default : Charge))
theorem charges_ref22Spec (p0 : Tree) (p1 : List Charge) (p2 : Int) (RES : Bool) (hm : charges_ref22 p0 p1 p2 = some RES) : Spec Try.prog 68 [.p (.agg (encTree p0)), .p (slCharge p1), pI p2] [] (pB RES) [] [] := by
 unfold charges_ref22 at hm
 refine SO Try.func68 rfl rfl [(0, .p (.agg (encTree p0))), (1, .p (slCharge p1)), (2, pI p2)] [] ?_
 intro cx hnt
 refine Sq (RD hnt (nn 2 []) [0] [(3, rr 1024)] [] [(1024, bx (pm (encTree p0)))] tv ?_)
 refine Sq (Sq (RD hnt (.no :: []) [] [(7, pI 0)] [] [] tv ?_))
 refine Bk ?_
 obtain ⟨hc1, hm⟩ := go1 hm
 refine DW.rangeO (fun (k1 : Nat) (s1 : Unit) => mkSt [(1, .p (slCharge p1)), (2, pI p2), (3, rr 1024), (7, pI ((k1 : Nat) : Int))] [(1024, bx (pm (encTree p0)))]) dCharge hm Conv.eqK ?_
 intro k1 s1 n1 hk1 hs1 he1
 refine Sq (Sq (RD hnt (nn 4 []) [] [(11, pB (decide (((k1 : Nat) : Int) < ((p1.length : Nat) : Int))))] [] [] tv ?_))
 refine condK (decide (((k1 : Nat) : Int) < ((p1.length : Nat) : Int))) ?_ ?_
 ·intro h31
  have hlt1 : k1 < p1.length := by have := of_decide_eq_true h31; omega
  have hm := hs1 hlt1
  unfold charges_ref22L1 at hm
  refine Sk ?_
  refine Sq (Bk ?_)
  obtain ⟨r32, hr32, hm⟩ := bo hm
  refine Sq ?_
  refine Jn (ι := Bool) (fun (y3 : Bool) => mkSt [(1, .p (slCharge p1)), (2, pI p2), (3, rr 1024), (7, pI ((k1 : Nat) : Int)), (56, pB y3)] [(1024, bx (pm (encTree p0)))]) (fun y3 => (charges_ref22J3 n1) y3 = some RES) ?_ ?_
  ·intro y3 hm
   unfold charges_ref22J3 at hm
   refine condM hm ?_ ?_
   ·intro h39 hm
    refine Sq (RK hnt (.no :: []) [(6, pB false)] [] tv ?_)
    obtain rfl := sj hm
    exact DW.ret (retK [] [] (pB false))
   ·intro h39 hm
    refine Sk ?_
    refine DW.done ?_
    show DW _ _ _ _ _
    refine RD hnt (nn 3 []) [56] [(7, pI (w64 (((k1 : Nat) : Int) + 1)))] [] [] tv ?_
    exact jD () ⟨hlt1, hm⟩ (Conv.tp [(7, pI (w64 (((k1 : Nat) : Int) + 1)))] [] (by kernel_rfl) (.cons rfl (.of_eq (congrArg pI (w64_succ hlt1 hc1))) .nil) .nil)
  ·rcases bt (!r32) with h33 | h33
   ·replace hm := if_t h33 hm
    refine RD hnt (nn 6 (o59 [] true r32 :: nn 2 (sk 16 (pT :: .no :: sk 7 (pT :: .no :: sk 6 (pT :: [])))))) [11] [(56, pB true)] [] [] (an (nn0 k1) (an (ltc hlt1) (an (Has_ref5Spec p0 (c71e1 p1 k1).group r32 hr32) (an5 h33 (an3 tt (an6 tt (an6 tt tv))))))) ?_
    exact jD true hm Conv.eqK
   ·replace hm := if_f h33 hm
    rcases bt (decide (((k1 : Nat) : Int) > 0)) with h34 | h34
    ·replace hm := if_t h34 hm
     obtain ⟨g35, hm⟩ := go1 hm
     rcases bt (decide ((c71e1 p1 k1).group ≤ (p1.getD (Int.toNat (w64 (((k1 : Nat) : Int) - 1))) dCharge).group)) with h36 | h36
     ·replace hm := if_t h36 hm
      refine RD hnt (nn 6 (o59 [] true r32 :: nn 17 (pT :: pF :: .no :: sk 7 (pT :: .no :: sk 6 (pT :: []))))) [11] [(56, pB true)] [] [] (an (nn0 k1) (an (ltc hlt1) (an (Has_ref5Spec p0 (c71e1 p1 k1).group r32 hr32) (an3 h33 (an3 h34 (an (nn0 k1) (an (ltc hlt1) (an6 h34 (an g35.1 (an g35.2 (an3 h34 (an h33 (an h34 (an h33 (an2 h36 (an6 h36 (an tt (an6 tt tv)))))))))))))))))) ?_
      exact jD true hm Conv.eqK
     ·replace hm := if_f h36 hm
      rcases bt (decide ((c71e1 p1 k1).own < p2)) with h37 | h37
      ·replace hm := if_t h37 hm
       refine RD hnt (nn 6 (o59 [] true r32 :: nn 17 (pT :: pF :: nn 8 (pF :: .no :: sk 6 (pT :: []))))) [11] [(56, pB true)] [] [] (an (nn0 k1) (an (ltc hlt1) (an (Has_ref5Spec p0 (c71e1 p1 k1).group r32 hr32) (an3 h33 (an3 h34 (an (nn0 k1) (an (ltc hlt1) (an6 h34 (an g35.1 (an g35.2 (an3 h34 (an h33 (an h34 (an h33 (an3 h36 (an (nn0 k1) (an (ltc hlt1) (an5 h36 (an h37 (an6 h37 tv)))))))))))))))))))) ?_
       exact jD true hm Conv.eqK
      ·replace hm := if_f h37 hm
       refine RD hnt (nn 6 (o59 [] true r32 :: nn 17 (pT :: pF :: nn 8 (pF :: nn 7 (pF :: []))))) [11] [(56, pB (decide ((c71e1 p1 k1).own > 16777216)))] [] [] (an (nn0 k1) (an (ltc hlt1) (an (Has_ref5Spec p0 (c71e1 p1 k1).group r32 hr32) (an3 h33 (an3 h34 (an (nn0 k1) (an (ltc hlt1) (an6 h34 (an g35.1 (an g35.2 (an3 h34 (an h33 (an h34 (an h33 (an3 h36 (an (nn0 k1) (an (ltc hlt1) (an5 h36 (an3 h37 (an (nn0 k1) (an (ltc hlt1) (an4 h37 tv)))))))))))))))))))))) ?_
       exact jD (decide ((c71e1 p1 k1).own > 16777216)) hm Conv.eqK
    ·replace hm := if_f h34 hm
     rcases bt (decide ((c71e1 p1 k1).own < p2)) with h38 | h38
     ·replace hm := if_t h38 hm
      refine RD hnt (nn 6 (o59 [] true r32 :: nn 5 (sk 12 (pF :: pF :: nn 8 (pF :: .no :: sk 6 (pT :: [])))))) [11] [(56, pB true)] [] [] (an (nn0 k1) (an (ltc hlt1) (an (Has_ref5Spec p0 (c71e1 p1 k1).group r32 hr32) (an3 h33 (an6 h34 (an6 h34 (an h33 (an h34 (an h33 (an3 ff (an (nn0 k1) (an (ltc hlt1) (an5 ff (an h38 (an6 h38 tv))))))))))))))) ?_
      exact jD true hm Conv.eqK
     ·replace hm := if_f h38 hm
      refine RD hnt (nn 6 (o59 [] true r32 :: nn 5 (sk 12 (pF :: pF :: nn 8 (pF :: nn 7 (pF :: [])))))) [11] [(56, pB (decide ((c71e1 p1 k1).own > 16777216)))] [] [] (an (nn0 k1) (an (ltc hlt1) (an (Has_ref5Spec p0 (c71e1 p1 k1).group r32 hr32) (an3 h33 (an6 h34 (an6 h34 (an h33 (an h34 (an h33 (an3 ff (an (nn0 k1) (an (ltc hlt1) (an5 ff (an3 h38 (an (nn0 k1) (an (ltc hlt1) (an4 h38 tv))))))))))))))))) ?_
      exact jD (decide ((c71e1 p1 k1).own > 16777216)) hm Conv.eqK
 ·intro h31
  have hge1 : ¬ k1 < p1.length := by have := of_decide_eq_false h31; omega
  have hm := he1 hge1
  unfold charges_ref22D1 at hm
  refine DW.exit ?_
  refine joinQ_exit ?_
  refine KQ_exit ?_
  refine blockQ_exit ?_
  show DW _ _ _ _ _
  refine Sq (RK hnt (.no :: []) [(6, pB true)] [] tv ?_)
  obtain rfl := sj hm
  exact DW.ret (retK [] [] (pB true))
abbrev o71 (ks : List Nat) (b : Bool) (RES : Bool) : Orc := .call 68 ks b (pB RES) [] []

theorem Valid_ref22Spec (p0 : Tree) (p1 : Counter) (RES : Bool) (hm : Valid_ref22 p0 p1 = some RES) : Spec Try.prog 54 [.p (.agg (encTree p0)), .p (.agg [slCharge p1.charges])] [] (pB RES) [] [] := by
 unfold Valid_ref22 at hm
 refine SO Try.func54 rfl rfl [(0, .p (.agg (encTree p0))), (1, .p (.agg [slCharge p1.charges]))] [] ?_
 intro cx hnt
 refine Sq (RK hnt (nn 3 []) [(2, rr 1016), (3, rr 1024)] [(1016, bx (pm (encTree p0))), (1024, bx [.p (slCharge p1.charges)])] tv ?_)
 obtain ⟨r1, hr1, hm⟩ := bo hm
 refine Sq (Sq ?_)
 refine Jn (ι := Bool) (fun (y1 : Bool) => mkSt [(3, rr 1024), (16, pB y1)] [(1024, bx [.p (slCharge p1.charges)])]) (fun y1 => (Valid_ref22J1 p1) y1 = some RES) ?_ ?_
 ·intro y1 hm
  unfold Valid_ref22J1 at hm
  refine condM hm ?_ ?_
  ·intro h4 hm
   refine Sq (RK hnt (.no :: []) [(4, pB false)] [] tv ?_)
   obtain rfl := sj hm
   exact DW.ret (retK [] [] (pB false))
  ·intro h4 hm
   refine Sk ?_
   refine Sq (RD hnt (.no :: []) [16] [(5, pI 0)] [] [] tv ?_)
   refine Sq (Sq (RD hnt (.no :: []) [] [(6, pI 0)] [] [] tv ?_))
   refine Bk ?_
   obtain ⟨hc1, hm⟩ := go1 hm
   refine DW.rangeO (fun (k1 : Nat) (s1 : Int) => mkSt [(3, rr 1024), (5, pI s1), (6, pI ((k1 : Nat) : Int))] [(1024, bx [.p (slCharge p1.charges)])]) dCharge hm Conv.eqK ?_
   intro k1 s1 n1 hk1 hs1 he1
   refine Sq (Sq (RD hnt (nn 5 []) [] [(21, pB (decide (((k1 : Nat) : Int) < ((p1.charges.length : Nat) : Int))))] [] [] tv ?_))
   refine condK (decide (((k1 : Nat) : Int) < ((p1.charges.length : Nat) : Int))) ?_ ?_
   ·intro h9
    have hlt1 : k1 < p1.charges.length := by have := of_decide_eq_true h9; omega
    have hm := hs1 hlt1
    unfold Valid_ref22L1 at hm
    refine Sk ?_
    refine Sq (Bk ?_)
    refine RD hnt (nn 9 []) [21] [(5, pI (w64 (s1 + (p1.charges.getD k1 (default : Charge)).own)))] [] [] (an (nn0 k1) (an (ltc hlt1) tv)) ?_
    refine DW.done ?_
    show DW _ _ _ _ _
    refine RD hnt (nn 3 []) [] [(6, pI (w64 (((k1 : Nat) : Int) + 1)))] [] [] tv ?_
    exact jD (w64 (s1 + (p1.charges.getD k1 (default : Charge)).own)) ⟨hlt1, hm⟩ (Conv.tp [(6, pI (w64 (((k1 : Nat) : Int) + 1)))] [] (by kernel_rfl) (.cons rfl (.of_eq (congrArg pI (w64_succ hlt1 hc1))) .nil) .nil)
   ·intro h9
    have hge1 : ¬ k1 < p1.charges.length := by have := of_decide_eq_false h9; omega
    have hm := he1 hge1
    unfold Valid_ref22D1 at hm
    refine DW.exit ?_
    refine joinQ_exit ?_
    refine KQ_exit ?_
    refine blockQ_exit ?_
    show DW _ _ _ _ _
    refine Sq (RK hnt (nn 3 []) [(4, pB (decide (s1 ≤ 16777216)))] [] tv ?_)
    obtain rfl := sj hm
    exact DW.ret (retK [] [] (pB (decide (s1 ≤ 16777216))))
 ·rcases bt (!r1) with h2 | h2
  ·replace hm := if_t h2 hm
   refine RD hnt (.no :: o55 [] true r1 :: nn 2 (sk 5 (pT :: []))) [2] [(16, pB true)] [1016] [] (an (Check_ref5Spec p0 r1 hr1) (an6 h2 tv)) ?_
   exact jD true hm Conv.eqK
  ·replace hm := if_f h2 hm
   obtain ⟨r3, hr3, hm⟩ := bo hm
   refine RD hnt (.no :: o55 [] true r1 :: nn 5 (o71 [] true r3 :: .no :: pF :: [])) [2] [(16, pB (!r3))] [1016] [] (an (Check_ref5Spec p0 r1 hr1) (an4 h2 (an (charges_ref22Spec p0 p1.charges 1 r3 hr3) (an2 h2 tv)))) ?_
   exact jD (!r3) hm Conv.eqK
abbrev o70 (ks : List Nat) (b : Bool) (RES : Bool) : Orc := .call 54 ks b (pB RES) [] []

theorem Own_ref22Spec (p0 : Counter) (p1 : Int) (RES : Int) (hm : Own_ref22 p0 p1 = some RES) : Spec Try.prog 49 [.p (.agg [slCharge p0.charges]), pI p1] [] (pI RES) [] [] := by
 unfold Own_ref22 at hm
 refine SO Try.func49 rfl rfl [(0, .p (.agg [slCharge p0.charges])), (1, pI p1)] [] ?_
 intro cx hnt
 refine Sq (RK hnt (nn 2 []) [(1, pI p1), (2, rr 1016)] [(1016, bx [.p (slCharge p0.charges)])] tv ?_)
 refine Sq (Sq (RD hnt (.no :: []) [] [(5, pI 0)] [] [] tv ?_))
 refine Bk ?_
 obtain ⟨hc1, hm⟩ := go1 hm
 refine DW.rangeO (fun (k1 : Nat) (s1 : Unit) => mkSt [(1, pI p1), (2, rr 1016), (5, pI ((k1 : Nat) : Int))] [(1016, bx [.p (slCharge p0.charges)])]) dCharge hm Conv.eqK ?_
 intro k1 s1 n1 hk1 hs1 he1
 refine Sq (Sq (RD hnt (nn 5 []) [] [(10, pB (decide (((k1 : Nat) : Int) < ((p0.charges.length : Nat) : Int))))] [] [] tv ?_))
 refine condK (decide (((k1 : Nat) : Int) < ((p0.charges.length : Nat) : Int))) ?_ ?_
 ·intro h9
  have hlt1 : k1 < p0.charges.length := by have := of_decide_eq_true h9; omega
  have hm := hs1 hlt1
  unfold Own_ref22L1 at hm
  refine Sk ?_
  refine Sq (Bk ?_)
  refine Sq (RD hnt (nn 8 []) [10] [(20, pB ((p0.charges.getD k1 (default : Charge)).group == p1))] [] [] (an (nn0 k1) (an (ltc hlt1) tv)) ?_)
  refine condM hm ?_ ?_
  ·intro h10 hm
   refine Sq (RK hnt (nn 7 []) [(4, pI (p0.charges.getD k1 (default : Charge)).own)] [] (an (nn0 k1) (an (ltc hlt1) tv)) ?_)
   obtain rfl := sj hm
   exact DW.ret (retK [] [] (pI (p0.charges.getD k1 (default : Charge)).own))
  ·intro h10 hm
   refine Sk ?_
   refine DW.done ?_
   show DW _ _ _ _ _
   refine RD hnt (nn 3 []) [20] [(5, pI (w64 (((k1 : Nat) : Int) + 1)))] [] [] tv ?_
   exact jD () ⟨hlt1, hm⟩ (Conv.tp [(5, pI (w64 (((k1 : Nat) : Int) + 1)))] [] (by kernel_rfl) (.cons rfl (.of_eq (congrArg pI (w64_succ hlt1 hc1))) .nil) .nil)
 ·intro h9
  have hge1 : ¬ k1 < p0.charges.length := by have := of_decide_eq_false h9; omega
  have hm := he1 hge1
  unfold Own_ref22D1 at hm
  refine DW.exit ?_
  refine joinQ_exit ?_
  refine KQ_exit ?_
  refine blockQ_exit ?_
  show DW _ _ _ _ _
  refine Sq (RK hnt (.no :: []) [(4, pI 0)] [] tv ?_)
  obtain rfl := sj hm
  exact DW.ret (retK [] [] (pI 0))
abbrev o72 (ks : List Nat) (b : Bool) (RES : Int) : Orc := .call 49 ks b (pI RES) [] []

theorem Subtree_ref5BSpec (rec : Tree → Int → Option (List Int)) (ih : ∀ (p0 : Tree) (p1 : Int) (RES : List Int), rec p0 p1 = some RES → Spec Try.prog 22 [.p (.agg (encTree p0)), pI p1] [] (ow 0 RES.length) [] [roI RES]) (p0 : Tree) (p1 : Int) (RES : List Int) (hm : Subtree_ref5B rec p0 p1 = some RES) : Spec Try.prog 22 [.p (.agg (encTree p0)), pI p1] [] (ow 0 RES.length) [] [roI RES] := by
 unfold Subtree_ref5B at hm
 refine SO Try.func22 rfl rfl [(0, .p (.agg (encTree p0))), (1, pI p1)] [] ?_
 intro cx hnt
 refine Sq (RK hnt (nn 2 []) [(1, pI p1), (2, rr 1016)] [(1016, bx (pm (encTree p0)))] tv ?_)
 obtain ⟨r1, hr1, hm⟩ := bo hm
 refine Sq (Sq (RD hnt (nn 2 (o59 [] true r1 :: .no :: [])) [] [(11, pB (!r1))] [] [] (an (Has_ref5Spec p0 p1 r1 hr1) tv) ?_))
 refine condM hm ?_ ?_
 ·intro h2 hm
  refine Sq (RK hnt (.no :: []) [(4, .p (.sl .nil 0 0 (fun _ => [])))] [] tv ?_)
  refine DW.cv [] [(4, ow 100000 0)] [] [(100000, ob0 (roI []))] (Conv.ads [(.s 4, 100000, 1, elems encI 0 [])]) ?_
  obtain rfl := sj hm
  exact DW.ret (retK [roI []] [100000] (ow 0 0))
 ·intro h2 hm
  refine Sk ?_
  refine Sq (RN hnt (nn 3 []) [(1, pI p1), (2, rr 1016), (5, ow 1104 [p1].length)] [(1016, bx (pm (encTree p0))), (1104, ob0 (roI [p1]))] [(5, ow 1104 1)] [(1104, .row 1 1 (cut 1 [vi p1]))] tv (by kernel_rfl) (.cons rfl (MLe.ownLen (enc := encI) (d := 0) (f := (cut 1 [vi p1])) (RowIs.lit (enc := encI) (d := 0) (n := 1) (f := (cut 1 [vi p1])) [p1] rfl (fun | 0, _ => rfl | n + 1, h => absurd h (by omega)))) .nil) (.cons rfl (BLe.typed (RowIs.lit (enc := encI) (d := 0) (n := 1) (f := (cut 1 [vi p1])) [p1] rfl (fun | 0, _ => rfl | n + 1, h => absurd h (by omega)))) .nil) ?_)
  obtain ⟨r3, hr3, hm⟩ := bo hm
  refine Sq (RD hnt (nn 2 (o66 [] true r3 :: .no :: [])) [1] [(6, ow 1128 r3.length)] [] [(1128, ob0 (roI r3))] (an (Children_ref5Spec p0 p1 r3 hr3) tv) ?_)
  refine Sq (Sq (RD hnt (.no :: []) [] [(7, pI 0)] [] [] tv ?_))
  refine Bk ?_
  obtain ⟨hc1, hm⟩ := go1 hm
  refine DW.rangeO (fun (k1 : Nat) (s1 : List Int) => mkSt [(2, rr 1016), (5, ow 1104 s1.length), (6, ow 1128 r3.length), (7, pI ((k1 : Nat) : Int))] [(1016, bx (pm (encTree p0))), (1104, ob0 (roI s1)), (1128, ob0 (roI r3))]) 0 hm Conv.eqK ?_
  intro k1 s1 n1 hk1 hs1 he1
  refine Sq (Sq (RD hnt (nn 4 []) [] [(20, pB (decide (((k1 : Nat) : Int) < ((r3.length : Nat) : Int))))] [] [] tv ?_))
  refine condK (decide (((k1 : Nat) : Int) < ((r3.length : Nat) : Int))) ?_ ?_
  ·intro h14
   have hlt1 : k1 < r3.length := by have := of_decide_eq_true h14; omega
   have hm := hs1 hlt1
   unfold Subtree_ref5L1 at hm
   refine Sk ?_
   refine Sq (Bk ?_)
   obtain ⟨r15, hr15, hm⟩ := bo hm
   obtain ⟨g16, hm⟩ := go1 hm
   refine RN hnt (nn 6 (.call 22 [] true (ow 0 r15.length) [] [roI r15] :: nn 2 [])) [(2, rr 1016), (5, ow 1104 (s1 ++ r15).length), (6, ow 1128 r3.length), (7, pI ((k1 : Nat) : Int))] [(1016, bx (pm (encTree p0))), (1104, ob0 (roI (s1 ++ r15))), (1128, ob0 (roI r3))] [(5, ow 1104 (s1.length + r15.length))] [(1104, .row 1 (s1.length + r15.length) (catF s1.length (elI s1) (elI r15)))] (an (nn0 k1) (an (ltc hlt1) (an (by omega : k1 < r3.length) (an (ih p0 (r3.getD k1 0) r15 hr15) (an (by omega : (s1.length + r15.length) * 8 ≤ 140737488355328) tv))))) (by kernel_rfl) (.cons rfl (MLe.ownLen (enc := encI) (d := 0) (f := (catF s1.length (elI s1) (elI r15))) (RowIs.cat RowIs.elems RowIs.elems)) .nil) (.cons rfl (BLe.typed (RowIs.cat RowIs.elems RowIs.elems)) .nil) ?_
   refine DW.done ?_
   show DW _ _ _ _ _
   refine RD hnt (nn 3 []) [] [(7, pI (w64 (((k1 : Nat) : Int) + 1)))] [] [] tv ?_
   exact jD (s1 ++ r15) ⟨hlt1, hm⟩ (Conv.tp [(7, pI (w64 (((k1 : Nat) : Int) + 1)))] [] (by kernel_rfl) (.cons rfl (.of_eq (congrArg pI (w64_succ hlt1 hc1))) .nil) .nil)
  ·intro h14
   have hge1 : ¬ k1 < r3.length := by have := of_decide_eq_false h14; omega
   have hm := he1 hge1
   unfold Subtree_ref5D1 at hm
   refine DW.exit ?_
   refine joinQ_exit ?_
   refine KQ_exit ?_
   refine blockQ_exit ?_
   show DW _ _ _ _ _
   refine Sq (RK hnt (nn 2 []) [(4, ow 1104 s1.length)] [(1104, ob0 (roI s1))] tv ?_)
   obtain rfl := sj hm
   exact DW.ret (retK [roI s1] [1104] (ow 0 s1.length))
theorem Subtree_ref5FSpec : ∀ (n : Nat) (p0 : Tree) (p1 : Int) (RES : List Int), Subtree_ref5F n p0 p1 = some RES → Spec Try.prog 22 [.p (.agg (encTree p0)), pI p1] [] (ow 0 RES.length) [] [roI RES]
  | 0, p0, p1, RES, hm => by simp [Subtree_ref5F] at hm
  | n + 1, p0, p1, RES, hm => Subtree_ref5BSpec (Subtree_ref5F n) (Subtree_ref5FSpec n) p0 p1 RES hm
theorem Subtree_ref5Spec (p0 : Tree) (p1 : Int) (RES : List Int) (hm : Subtree_ref5 p0 p1 = some RES) : Spec Try.prog 22 [.p (.agg (encTree p0)), pI p1] [] (ow 0 RES.length) [] [roI RES] := Subtree_ref5FSpec FUEL p0 p1 RES hm
abbrev o74 (ks : List Nat) (b : Bool) (RES : List Int) : Orc := .call 22 ks b (ow 0 RES.length) [] [roI RES]

theorem Sum_ref22Spec (p0 : Tree) (p1 : Counter) (p2 : Int) (RES : Int) (hm : Sum_ref22 p0 p1 p2 = some RES) : Spec Try.prog 23 [.p (.agg (encTree p0)), .p (.agg [slCharge p1.charges]), pI p2] [] (pI RES) [] [] := by
 unfold Sum_ref22 at hm
 refine SO Try.func23 rfl rfl [(0, .p (.agg (encTree p0))), (1, .p (.agg [slCharge p1.charges])), (2, pI p2)] [] ?_
 intro cx hnt
 refine Sq (RK hnt (nn 3 []) [(2, pI p2), (3, rr 1024), (4, rr 1032)] [(1024, bx (pm (encTree p0))), (1032, bx [.p (slCharge p1.charges)])] tv ?_)
 refine Sq (RD hnt (.no :: []) [] [(7, pI 0)] [] [] tv ?_)
 obtain ⟨r1, hr1, hm⟩ := bo hm
 refine Sq (RD hnt (nn 2 (o74 [] true r1 :: .no :: [])) [2, 3] [(8, ow 1096 r1.length)] [1024] [(1096, ob0 (roI r1))] (an (Subtree_ref5Spec p0 p2 r1 hr1) tv) ?_)
 refine Sq (Sq (RD hnt (.no :: []) [] [(9, pI 0)] [] [] tv ?_))
 refine Bk ?_
 obtain ⟨hc1, hm⟩ := go1 hm
 refine DW.rangeO (fun (k1 : Nat) (s1 : Int) => mkSt [(4, rr 1032), (7, pI s1), (8, ow 1096 r1.length), (9, pI ((k1 : Nat) : Int))] [(1032, bx [.p (slCharge p1.charges)]), (1096, ob0 (roI r1))]) 0 hm Conv.eqK ?_
 intro k1 s1 n1 hk1 hs1 he1
 refine Sq (Sq (RD hnt (nn 4 []) [] [(16, pB (decide (((k1 : Nat) : Int) < ((r1.length : Nat) : Int))))] [] [] tv ?_))
 refine condK (decide (((k1 : Nat) : Int) < ((r1.length : Nat) : Int))) ?_ ?_
 ·intro h10
  have hlt1 : k1 < r1.length := by have := of_decide_eq_true h10; omega
  have hm := hs1 hlt1
  unfold Sum_ref22L1 at hm
  refine Sk ?_
  refine Sq (Bk ?_)
  obtain ⟨r11, hr11, hm⟩ := bo hm
  refine RD hnt (nn 6 (o72 [] true r11 :: nn 2 [])) [16] [(7, pI (w64 (s1 + r11)))] [] [] (an (nn0 k1) (an (ltc hlt1) (an (by omega : k1 < r1.length) (an (Own_ref22Spec p1 (r1.getD k1 0) r11 hr11) tv)))) ?_
  refine DW.done ?_
  show DW _ _ _ _ _
  refine RD hnt (nn 3 []) [] [(9, pI (w64 (((k1 : Nat) : Int) + 1)))] [] [] tv ?_
  exact jD (w64 (s1 + r11)) ⟨hlt1, hm⟩ (Conv.tp [(9, pI (w64 (((k1 : Nat) : Int) + 1)))] [] (by kernel_rfl) (.cons rfl (.of_eq (congrArg pI (w64_succ hlt1 hc1))) .nil) .nil)
 ·intro h10
  have hge1 : ¬ k1 < r1.length := by have := of_decide_eq_false h10; omega
  have hm := he1 hge1
  unfold Sum_ref22D1 at hm
  refine DW.exit ?_
  refine joinQ_exit ?_
  refine KQ_exit ?_
  refine blockQ_exit ?_
  show DW _ _ _ _ _
  refine Sq (RK hnt (nn 2 []) [(6, pI s1)] [] tv ?_)
  obtain rfl := sj hm
  exact DW.ret (retK [] [] (pI s1))
abbrev o73 (ks : List Nat) (b : Bool) (RES : Int) : Orc := .call 23 ks b (pI RES) [] []

abbrev c75e1 (p0 : Counter) (k1 : Nat) := (p0.charges.getD k1 (default : Charge))
abbrev c75e2 : Nat × Obj := (1048, bx [.p (.sl .nil 0 0 (fun _ => []))])
abbrev c75e3 (p1 : Int) (p2 : Int) := ({ group := p1, own := p2 } : Charge)
abbrev c75e4 (p0 : Counter) : Nat × Obj := (1024, bx [.p (slCharge p0.charges)])
abbrev c75e5 (k1 : Nat) : Nat × MV := (9, pI ((k1 : Nat) : Int))
theorem put_ref22Spec (p0 : Counter) (p1 : Int) (p2 : Int) (RES : Counter) (hm : put_ref22 p0 p1 p2 = some RES) : Spec Try.prog 55 [.p (.agg [slCharge p0.charges]), pI p1, pI p2] [] (.agg [ow 0 RES.charges.length]) [] [roCharge RES.charges] := by
 unfold put_ref22 at hm
 refine SO Try.func55 rfl rfl [(0, .p (.agg [slCharge p0.charges])), (1, pI p1), (2, pI p2)] [] ?_
 intro cx hnt
 refine Sq (RD hnt (nn 2 []) [0] [(3, rr 1024), (6, rr 1048)] [] [(c75e4 p0), (c75e2)] tv ?_)
 refine Sq (RD hnt (.no :: []) [] [(7, .p (.sl .nil 0 0 (fun _ => [])))] [] [] tv ?_)
 refine Sq (RD hnt (nn 3 []) [] [(8, pB (p2 == 0))] [] [] tv ?_)
 refine Sq (Sq (RD hnt (.no :: []) [] [(9, pI 0)] [] [] tv ?_))
 refine Bk ?_
 obtain ⟨hc1, hm⟩ := go1 hm
 refine DW.rangeO (fun (k1 : Nat) (s1 : (List Charge) × Bool) => mkSt [(1, pI p1), (2, pI p2), (3, rr 1024), (6, rr 1048), (7, ow 1304 s1.1.length), (8, pB s1.2), (c75e5 k1)] [(c75e4 p0), (c75e2), (1304, ob0 (roCharge s1.1))]) dCharge hm (Conv.ads [(.s 7, 1304, 2, elems encCharge dCharge [])]) ?_
 intro k1 s1 n1 hk1 hs1 he1
 refine Sq (Sq (RD hnt (nn 5 []) [] [(17, pB (decide (((k1 : Nat) : Int) < ((p0.charges.length : Nat) : Int))))] [] [] tv ?_))
 refine condK (decide (((k1 : Nat) : Int) < ((p0.charges.length : Nat) : Int))) ?_ ?_
 ·intro h17
  have hlt1 : k1 < p0.charges.length := by have := of_decide_eq_true h17; omega
  have hm := hs1 hlt1
  unfold put_ref22L1 at hm
  refine Sk ?_
  refine Sq ?_
  refine Jn (ι := (List Charge) × Bool) (fun (y7 : (List Charge) × Bool) => mkSt [(1, pI p1), (2, pI p2), (3, rr 1024), (6, rr 1048), (7, ow 1304 y7.1.length), (8, pB y7.2), (c75e5 k1)] [(c75e4 p0), (c75e2), (1304, ob0 (roCharge y7.1))]) (fun y7 => (put_ref22J7 n1) y7 = some RES) ?_ ?_
  ·intro y7 hm
   unfold put_ref22J7 at hm
   refine RD hnt (nn 3 []) [] [(9, pI (w64 (((k1 : Nat) : Int) + 1)))] [] [] tv ?_
   exact jD (y7.1, y7.2) ⟨hlt1, hm⟩ (Conv.tp [(9, pI (w64 (((k1 : Nat) : Int) + 1)))] [] (by kernel_rfl) (.cons rfl (.of_eq (congrArg pI (w64_succ hlt1 hc1))) .nil) .nil)
  ·refine Bk ?_
   refine Sq (RD hnt (nn 7 []) [17] [(10, rr 1080)] [] [(1080, bx (pm (encCharge (c75e1 p0 k1))))] (an (nn0 k1) (an (ltc hlt1) tv)) ?_)
   refine Sq (Sq (DW.regJ (sl2 := [(1, pI p1), (2, pI p2), (3, rr 1024), (6, rr 1048), (7, ow 1304 s1.1.length), (8, pB s1.2), (c75e5 k1), (10, rr 1080), (32, pB ((!s1.2) && (decide ((c75e1 p0 k1).group ≥ p1))))]) (ob2 := [(c75e4 p0), (c75e2), (1080, bx (pm (encCharge (c75e1 p0 k1)))), (1304, ob0 (roCharge s1.1))]) ?_ ?_))
   ·rcases bt (!s1.2) with h18 | h18
    ·exact RT hnt (nn 7 (pT :: [])) [(32, pB (decide ((c75e1 p0 k1).group ≥ p1)))] (an5 h18 tv) (by kernel_rfl) (.cons rfl (.of_eq (by rw [h18]; try rfl)) .nil)
    ·exact RT hnt (nn 3 (sk 4 (pF :: []))) [(32, pB false)] (an5 h18 tv) (by kernel_rfl) (.cons rfl (.of_eq (by rw [h18]; try rfl)) .nil)
   ·refine Jn (ι := (List Charge) × Bool) (fun (y8 : (List Charge) × Bool) => mkSt [(1, pI p1), (2, pI p2), (3, rr 1024), (6, rr 1048), (7, ow 1304 y8.1.length), (8, pB y8.2), (c75e5 k1), (10, rr 1080)] [(c75e4 p0), (c75e2), (1080, bx (pm (encCharge (c75e1 p0 k1)))), (1304, ob0 (roCharge y8.1))]) (fun y8 => (put_ref22J8 p1 (c75e1 p0 k1) n1) y8 = some RES) ?_ ?_
    ·intro y8 hm
     unfold put_ref22J8 at hm
     refine Sq (RD hnt (nn 4 []) [] [(42, pB ((c75e1 p0 k1).group != p1))] [] [] tv ?_)
     refine condM hm ?_ ?_
     ·intro h21 hm
      obtain ⟨g22, hm⟩ := go1 hm
      refine RN hnt (nn 5 []) [(1, pI p1), (2, pI p2), (3, rr 1024), (6, rr 1048), (7, ow 1304 (y8.1 ++ [(c75e1 p0 k1)]).length), (8, pB y8.2), (c75e5 k1)] [(c75e4 p0), (c75e2), (1304, ob0 (roCharge (y8.1 ++ [(c75e1 p0 k1)])))] [(7, ow 1304 (y8.1.length + 1))] [(1304, .row 2 (y8.1.length + 1) (catF y8.1.length (elCharge y8.1) (cut 2 [vi (c75e1 p0 k1).group, vi (c75e1 p0 k1).own])))] (an (by omega : (y8.1.length + 1) * 16 ≤ 140737488355328) tv) (by kernel_rfl) (.cons rfl (MLe.ownLen (enc := encCharge) (d := dCharge) (f := (catF y8.1.length (elCharge y8.1) (cut 2 [vi (c75e1 p0 k1).group, vi (c75e1 p0 k1).own]))) (RowIs.cat RowIs.elems (RowIs.lit (enc := encCharge) (d := dCharge) (n := 1) (f := (cut 2 [vi (c75e1 p0 k1).group, vi (c75e1 p0 k1).own])) [(c75e1 p0 k1)] rfl (fun | 0, _ => rfl | n + 1, h => absurd h (by omega))))) .nil) (.cons rfl (BLe.typed (RowIs.cat RowIs.elems (RowIs.lit (enc := encCharge) (d := dCharge) (n := 1) (f := (cut 2 [vi (c75e1 p0 k1).group, vi (c75e1 p0 k1).own])) [(c75e1 p0 k1)] rfl (fun | 0, _ => rfl | n + 1, h => absurd h (by omega))))) .nil) ?_
      exact bD ((y8.1 ++ [(c75e1 p0 k1)]), y8.2) hm .refl
     ·intro h21 hm
      refine Sk ?_
      exact bD (y8.1, y8.2) hm Conv.t0
    ·refine condM hm ?_ ?_
     ·intro h19 hm
      obtain ⟨g20, hm⟩ := go1 hm
      refine RN hnt (nn 8 []) [(1, pI p1), (2, pI p2), (3, rr 1024), (6, rr 1048), (7, ow 1304 (s1.1 ++ [(c75e3 p1 p2)]).length), (8, pB true), (c75e5 k1), (10, rr 1080)] [(c75e4 p0), (c75e2), (1080, bx (pm (encCharge (c75e1 p0 k1)))), (1304, ob0 (roCharge (s1.1 ++ [(c75e3 p1 p2)])))] [(7, ow 1304 (s1.1.length + 1))] [(1304, .row 2 (s1.1.length + 1) (catF s1.1.length (elCharge s1.1) (cut 2 [vi p1, vi p2])))] (an (by omega : (s1.1.length + 1) * 16 ≤ 140737488355328) tv) (by kernel_rfl) (.cons rfl (MLe.ownLen (enc := encCharge) (d := dCharge) (f := (catF s1.1.length (elCharge s1.1) (cut 2 [vi p1, vi p2]))) (RowIs.cat RowIs.elems (RowIs.lit (enc := encCharge) (d := dCharge) (n := 1) (f := (cut 2 [vi p1, vi p2])) [(c75e3 p1 p2)] rfl (fun | 0, _ => rfl | n + 1, h => absurd h (by omega))))) .nil) (.cons rfl (BLe.typed (RowIs.cat RowIs.elems (RowIs.lit (enc := encCharge) (d := dCharge) (n := 1) (f := (cut 2 [vi p1, vi p2])) [(c75e3 p1 p2)] rfl (fun | 0, _ => rfl | n + 1, h => absurd h (by omega))))) .nil) ?_
      exact jD ((s1.1 ++ [(c75e3 p1 p2)]), true) hm .refl
     ·intro h19 hm
      refine Sk ?_
      exact jD (s1.1, s1.2) hm Conv.t0
 ·intro h17
  have hge1 : ¬ k1 < p0.charges.length := by have := of_decide_eq_false h17; omega
  have hm := he1 hge1
  unfold put_ref22D1 at hm
  refine DW.exit ?_
  refine joinQ_exit ?_
  refine KQ_exit ?_
  refine blockQ_exit ?_
  show DW _ _ _ _ _
  refine Sq (Sq (RD hnt (nn 2 []) [3, 8, 9, 17] [(48, pB (!s1.2))] [1024] [] tv ?_))
  refine Jn (ι := List Charge) (fun (y9 : List Charge) => mkSt [(6, rr 1048), (7, ow 1304 y9.length)] [(c75e2), (1304, ob0 (roCharge y9))]) (fun y9 => put_ref22J9 y9 = some RES) ?_ ?_
  ·intro y9 hm
   unfold put_ref22J9 at hm
   refine Sq (RD hnt (nn 3 []) [7] [] [] [(1048, bx [ow 1304 y9.length])] tv ?_)
   obtain rfl := sj hm
   exact DW.ret (retK [roCharge y9] [1304] (.agg [ow 0 y9.length]))
  ·refine condM hm ?_ ?_
   ·intro h23 hm
    obtain ⟨g24, hm⟩ := go1 hm
    refine RN hnt (nn 7 []) [(6, rr 1048), (7, ow 1304 (s1.1 ++ [(c75e3 p1 p2)]).length)] [(c75e2), (1304, ob0 (roCharge (s1.1 ++ [(c75e3 p1 p2)])))] [(7, ow 1304 (s1.1.length + 1))] [(1304, .row 2 (s1.1.length + 1) (catF s1.1.length (elCharge s1.1) (cut 2 [vi p1, vi p2])))] (an (by omega : (s1.1.length + 1) * 16 ≤ 140737488355328) tv) (by kernel_rfl) (.cons rfl (MLe.ownLen (enc := encCharge) (d := dCharge) (f := (catF s1.1.length (elCharge s1.1) (cut 2 [vi p1, vi p2]))) (RowIs.cat RowIs.elems (RowIs.lit (enc := encCharge) (d := dCharge) (n := 1) (f := (cut 2 [vi p1, vi p2])) [(c75e3 p1 p2)] rfl (fun | 0, _ => rfl | n + 1, h => absurd h (by omega))))) .nil) (.cons rfl (BLe.typed (RowIs.cat RowIs.elems (RowIs.lit (enc := encCharge) (d := dCharge) (n := 1) (f := (cut 2 [vi p1, vi p2])) [(c75e3 p1 p2)] rfl (fun | 0, _ => rfl | n + 1, h => absurd h (by omega))))) .nil) ?_
    exact jD (s1.1 ++ [(c75e3 p1 p2)]) hm .refl
   ·intro h23 hm
    refine Sk ?_
    exact jD s1.1 hm Conv.t0
abbrev o75 (ks : List Nat) (b : Bool) (RES : Counter) : Orc := .call 55 ks b (.agg [ow 0 RES.charges.length]) [] [roCharge RES.charges]

abbrev c69e1 : Nat × Obj := (100000, ob0 (roCharge []))
theorem Add_ref22Spec (p0 : Tree) (p1 : Counter) (p2 : Int) (p3 : Int) (RES : Counter × Int) (hm : Add_ref22 p0 p1 p2 p3 = some RES) : Spec Try.prog 32 [.p (.agg (encTree p0)), .p (.agg [slCharge p1.charges]), pI p2, pI p3] [] (.tup [.agg [ow 0 RES.1.charges.length], pI RES.2]) [] [roCharge RES.1.charges] := by
 unfold Add_ref22 at hm
 refine SO Try.func32 rfl rfl [(0, .p (.agg (encTree p0))), (1, .p (.agg [slCharge p1.charges])), (2, pI p2), (3, pI p3)] [] ?_
 intro cx hnt
 refine Sq (RD hnt (nn 4 []) [0, 1] [(4, rr 1032), (5, rr 1040), (8, rr 1064)] [] [(1032, bx (pm (encTree p0))), (1040, bx [.p (slCharge p1.charges)]), (1064, bx [.p (.sl .nil 0 0 (fun _ => []))])] tv ?_)
 refine Sq (Bk ?_)
 obtain ⟨r1, hr1, hm⟩ := bo hm
 refine Sq (RD hnt (nn 2 (o70 [] true r1 :: nn 2 [])) [] [(10, pB (!r1))] [] [] (an (Valid_ref22Spec p0 p1 r1 hr1) tv) ?_)
 refine condM hm ?_ ?_
 ·intro h2 hm
  refine Sq (RD hnt (nn 3 []) [2, 3, 4, 5, 10] [(9, pI 1)] [1032, 1040] [] tv ?_)
  refine DW.cv [] [] [] [(1064, bx [ow 100000 0]), (c69e1)] (Conv.ads [(.o 1064 0, 100000, 2, elems encCharge dCharge [])]) ?_
  obtain rfl := sj hm
  exact DW.ret (retK [roCharge []] [100000] (.tup [.agg [ow 0 0], pI 1]))
 ·intro h2 hm
  obtain ⟨r3, hr3, hm⟩ := bo hm
  refine Sq (RD hnt (nn 2 (o59 [] true r3 :: nn 2 [])) [10] [(16, pB (!r3))] [] [] (an (Has_ref5Spec p0 p2 r3 hr3) tv) ?_)
  refine condM hm ?_ ?_
  ·intro h4 hm
   refine Sq (RD hnt (nn 3 []) [2, 3, 4, 5, 16] [(9, pI 4)] [1032, 1040] [] tv ?_)
   refine DW.cv [] [] [] [(1064, bx [ow 100000 0]), (c69e1)] (Conv.ads [(.o 1064 0, 100000, 2, elems encCharge dCharge [])]) ?_
   obtain rfl := sj hm
   exact DW.ret (retK [roCharge []] [100000] (.tup [.agg [ow 0 0], pI 4]))
  ·intro h4 hm
   refine Sq ?_
   refine Jn (ι := Bool) (fun (y1 : Bool) => mkSt [(2, pI p2), (3, pI p3), (4, rr 1032), (5, rr 1040), (8, rr 1064), (22, pB y1)] [(1032, bx (pm (encTree p0))), (1040, bx [.p (slCharge p1.charges)]), (1064, bx [.p (.sl .nil 0 0 (fun _ => []))])]) (fun y1 => (Add_ref22J1 p0 p1 p2 p3) y1 = some RES) ?_ ?_
   ·intro y1 hm
    unfold Add_ref22J1 at hm
    refine condM hm ?_ ?_
    ·intro h8 hm
     refine Sq (RD hnt (nn 3 []) [2, 3, 4, 5, 22] [(9, pI 3)] [1032, 1040] [] tv ?_)
     refine DW.cv [] [] [] [(1064, bx [ow 100000 0]), (c69e1)] (Conv.ads [(.o 1064 0, 100000, 2, elems encCharge dCharge [])]) ?_
     obtain rfl := sj hm
     exact DW.ret (retK [roCharge []] [100000] (.tup [.agg [ow 0 0], pI 3]))
    ·intro h8 hm
     obtain ⟨r9, hr9, hm⟩ := bo hm
     refine Sq (RD hnt (nn 2 (o73 [] true r9 :: nn 4 [])) [4, 22] [(38, pB (decide ((w64 (r9 + p3)) > 16777216)))] [1032] [] (an (Sum_ref22Spec p0 p1 1 r9 hr9) tv) ?_)
     refine condM hm ?_ ?_
     ·intro h10 hm
      refine Sq (RD hnt (nn 3 []) [2, 3, 5, 38] [(9, pI 7)] [1040] [] tv ?_)
      refine DW.cv [] [] [] [(1064, bx [ow 100000 0]), (c69e1)] (Conv.ads [(.o 1064 0, 100000, 2, elems encCharge dCharge [])]) ?_
      obtain rfl := sj hm
      exact DW.ret (retK [roCharge []] [100000] (.tup [.agg [ow 0 0], pI 7]))
     ·intro h10 hm
      refine Sk ?_
      refine DW.done ?_
      show DW _ _ _ _ _
      obtain ⟨r11, hr11, hm⟩ := bo hm
      obtain ⟨r12, hr12, hm⟩ := bo hm
      refine Sq (RK hnt (nn 4 (o72 [] true r11 :: nn 2 (o75 [] true r12 :: nn 2 []))) [(8, rr 1064), (9, pI 0)] [(1064, bx [ow 1424 r12.charges.length]), (1424, ob0 (roCharge r12.charges))] (an (Own_ref22Spec p1 p2 r11 hr11) (an (put_ref22Spec p1 p2 (w64 (r11 + p3)) r12 hr12) tv)) ?_)
      obtain rfl := sj hm
      exact DW.ret (retK [roCharge r12.charges] [1424] (.tup [.agg [ow 0 r12.charges.length], pI 0]))
   ·rcases bt (decide (p3 < (-16777216))) with h5 | h5
    ·replace hm := if_t h5 hm
     refine RD hnt (nn 3 (sk 2 (pT :: .no :: sk 6 (pT :: .no :: [])))) [16] [(22, pB true)] [] [] (an3 h5 (an tt (an6 tt tv))) ?_
     exact jD true hm Conv.eqK
    ·replace hm := if_f h5 hm
     rcases bt (decide (p3 > 16777216)) with h6 | h6
     ·replace hm := if_t h6 hm
      refine RD hnt (nn 5 (pF :: .no :: sk 6 (pT :: .no :: []))) [16] [(22, pB true)] [] [] (an3 h5 (an h6 (an6 h6 tv))) ?_
      exact jD true hm Conv.eqK
     ·replace hm := if_f h6 hm
      obtain ⟨r7, hr7, hm⟩ := bo hm
      refine RD hnt (nn 5 (pF :: nn 3 (o72 [] true r7 :: nn 3 (pF :: .no :: [])))) [16] [(22, pB (decide ((w64 (r7 + p3)) < 0)))] [] [] (an3 h5 (an3 h6 (an (Own_ref22Spec p1 p2 r7 hr7) (an4 h6 tv)))) ?_
      exact jD (decide ((w64 (r7 + p3)) < 0)) hm Conv.eqK
abbrev o69 (ks : List Nat) (b : Bool) (RES : Counter × Int) : Orc := .call 32 ks b (.tup [.agg [ow 0 RES.1.charges.length], pI RES.2]) [] [roCharge RES.1.charges]

abbrev c67e1 : Nat × Obj := (1032, bx [.p (.sl .nil 0 0 (fun _ => []))])
theorem Counter_Dice_madeSpec (p0 : Dice) (p1 : Tree) (RES : Counter × Dice) (hm : Counter_Dice_made p0 p1 = some RES) : Spec Try.prog 13 [rr 0, .p (.agg (encTree p1))] [.box (pm (encDice p0))] (.p (.agg [slCharge RES.1.charges])) [.box (pm (encDice RES.2))] [] := by
 unfold Counter_Dice_made at hm
 refine SO Try.func13 rfl rfl [(0, rr 0), (1, .p (.agg (encTree p1)))] [(0, bx (pm (encDice p0)))] ?_
 intro cx hnt
 refine Sq (RD hnt (nn 2 []) [1] [(3, rr 1024), (4, rr 1032)] [] [(1024, bx (pm (encTree p1))), (c67e1)] tv ?_)
 refine Sq (RD hnt (.no :: []) [] [(5, rr 1040)] [] [(1040, bx [.p (.sl .nil 0 0 (fun _ => []))])] tv ?_)
 refine Sq (Sq (RD hnt (.no :: []) [] [(6, pI 0)] [] [] tv ?_))
 refine Bk ?_
 obtain ⟨hc1, hm⟩ := go1 hm
 refine DW.rangeO (fun (k1 : Nat) (s1 : Dice × Counter) => mkSt [(0, rr 0), (3, rr 1024), (4, rr 1032), (5, rr 1040), (6, pI ((k1 : Nat) : Int))] [(0, bx (pm (encDice s1.1))), (1024, bx (pm (encTree p1))), (c67e1), (1040, bx [.p (slCharge s1.2.charges)])]) dNode hm (Conv.tp [] [(1040, .box [.p (.sl .nil 0 0 (fun _ => []))])] (by kernel_rfl) .nil (.cons rfl (.box (.cons MLe.nilL .nil)) .nil)) ?_
 intro k1 s1 n1 hk1 hs1 he1
 refine Sq (Sq (RD hnt (nn 5 []) [] [(13, pB (decide (((k1 : Nat) : Int) < ((p1.nodes.length : Nat) : Int))))] [] [] tv ?_))
 refine condK (decide (((k1 : Nat) : Int) < ((p1.nodes.length : Nat) : Int))) ?_ ?_
 ·intro h19
  have hlt1 : k1 < p1.nodes.length := by have := of_decide_eq_true h19; omega
  have hm := hs1 hlt1
  unfold Counter_Dice_madeL1 at hm
  refine Sk ?_
  refine Sq ?_
  refine Jn (ι := Dice × Counter) (fun (y4 : Dice × Counter) => mkSt [(0, rr 0), (3, rr 1024), (4, rr 1032), (5, rr 1040), (6, pI ((k1 : Nat) : Int))] [(0, bx (pm (encDice y4.1))), (1024, bx (pm (encTree p1))), (c67e1), (1040, bx [.p (slCharge y4.2.charges)])]) (fun y4 => (Counter_Dice_madeJ4 n1) y4 = some RES) ?_ ?_
  ·intro y4 hm
   unfold Counter_Dice_madeJ4 at hm
   refine RD hnt (nn 3 []) [] [(6, pI (w64 (((k1 : Nat) : Int) + 1)))] [] [] tv ?_
   exact jD (y4.1, y4.2) ⟨hlt1, hm⟩ (Conv.tp [(6, pI (w64 (((k1 : Nat) : Int) + 1)))] [] (by kernel_rfl) (.cons rfl (.of_eq (congrArg pI (w64_succ hlt1 hc1))) .nil) .nil)
  ·refine Bk ?_
   obtain ⟨r20, hr20, hm⟩ := bo hm
   obtain ⟨r21, hr21, hm⟩ := bo hm
   refine Sq (RD hnt (nn 10 (o68 [0] false r20 :: o69 [] true r21 :: nn 6 [])) [13] [(7, rr 1056), (8, pI r21.2)] [] [(0, bx (pm (encDice r20.2))), (1056, bx [ow 1224 r21.1.charges.length]), (1224, ob0 (roCharge r21.1.charges))] (an (nn0 k1) (an (ltc hlt1) (an (Spec.args (xs := [rr 0, .p (.sl .unk 1 6 (cut 1 [vi 0, vi 1, vi 5, vi 40, vi 100, vi 1000]))]) (Pick_Dice_madeSpec s1.1 [0, 1, 5, 40, 100, 1000] r20 hr20) (.cons .rfl (.cons (.p (PLe.typed (RowIs.lit (enc := encI) (d := 0) (n := 6) (f := (cut 1 [vi 0, vi 1, vi 5, vi 40, vi 100, vi 1000])) [0, 1, 5, 40, 100, 1000] rfl (fun | 0, _ => rfl | 1, _ => rfl | 2, _ => rfl | 3, _ => rfl | 4, _ => rfl | 5, _ => rfl | n + 6, h => absurd h (by omega))))) .nil))) (an tv (an (Add_ref22Spec p1 s1.2 (p1.nodes.getD k1 (default : Node)).id r20.1 r21 hr21) tv))))) ?_)
   refine Sq (RD hnt (nn 2 []) [8] [(32, pB (r21.2 == 0))] [] [] tv ?_)
   refine condM hm ?_ ?_
   ·intro h22 hm
    refine RD hnt (nn 2 []) [7, 32] [] [1056] [(1040, bx [ow 1224 r21.1.charges.length])] tv ?_
    exact bD (r20.2, r21.1) hm (Conv.frz [1224])
   ·intro h22 hm
    refine Sk ?_
    exact bD (r20.2, s1.2) hm Conv.t0
 ·intro h19
  have hge1 : ¬ k1 < p1.nodes.length := by have := of_decide_eq_false h19; omega
  have hm := he1 hge1
  unfold Counter_Dice_madeD1 at hm
  refine DW.exit ?_
  refine joinQ_exit ?_
  refine KQ_exit ?_
  refine blockQ_exit ?_
  show DW _ _ _ _ _
  refine Sq (RD hnt (nn 2 []) [0, 3, 5, 6, 13] [] [1024, 1040] [(1032, bx [.p (slCharge s1.2.charges)])] tv ?_)
  obtain rfl := sj hm
  exact DW.ret (retK [.box (pm (encDice s1.1))] [] (.p (.agg [slCharge s1.2.charges])))
abbrev o67 (ks : List Nat) (b : Bool) (RES : Counter × Dice) : Orc := .call 13 ks b (.p (.agg [slCharge RES.1.charges])) [.box (pm (encDice RES.2))] []

abbrev c76e1 (p1 : Tree) (k1 : Nat) (r17 : Int × Dice) (r18 : Int × Dice) := ({ group := (p1.nodes.getD k1 (default : Node)).id, min := r17.1, low := r18.1 } : Protection)
theorem Protections_Dice_madeSpec (p0 : Dice) (p1 : Tree) (RES : (List Protection) × Dice) (hm : Protections_Dice_made p0 p1 = some RES) : Spec Try.prog 14 [rr 0, .p (.agg (encTree p1))] [.box (pm (encDice p0))] (ow 1 RES.1.length) [.box (pm (encDice RES.2))] [roProtection RES.1] := by
 unfold Protections_Dice_made at hm
 refine SO Try.func14 rfl rfl [(0, rr 0), (1, .p (.agg (encTree p1)))] [(0, bx (pm (encDice p0)))] ?_
 intro cx hnt
 refine Sq (RD hnt (nn 2 []) [1] [(3, rr 1024)] [] [(1024, bx (pm (encTree p1)))] tv ?_)
 refine Sq (RD hnt (.no :: []) [] [(5, .p (.sl .nil 0 0 (fun _ => [])))] [] [] tv ?_)
 refine Sq (Sq (RD hnt (.no :: []) [] [(6, pI 0)] [] [] tv ?_))
 refine Bk ?_
 obtain ⟨hc1, hm⟩ := go1 hm
 refine DW.rangeO (fun (k1 : Nat) (s1 : Dice × (List Protection)) => mkSt [(0, rr 0), (3, rr 1024), (5, ow 1256 s1.2.length), (6, pI ((k1 : Nat) : Int))] [(0, bx (pm (encDice s1.1))), (1024, bx (pm (encTree p1))), (1256, ob0 (roProtection s1.2))]) dNode hm (Conv.ads [(.s 5, 1256, 3, elems encProtection dProtection [])]) ?_
 intro k1 s1 n1 hk1 hs1 he1
 refine Sq (Sq (RD hnt (nn 5 []) [] [(11, pB (decide (((k1 : Nat) : Int) < ((p1.nodes.length : Nat) : Int))))] [] [] tv ?_))
 refine condK (decide (((k1 : Nat) : Int) < ((p1.nodes.length : Nat) : Int))) ?_ ?_
 ·intro h14
  have hlt1 : k1 < p1.nodes.length := by have := of_decide_eq_true h14; omega
  have hm := hs1 hlt1
  unfold Protections_Dice_madeL1 at hm
  refine Sk ?_
  refine Sq ?_
  refine Jn (ι := Dice × (List Protection)) (fun (y3 : Dice × (List Protection)) => mkSt [(0, rr 0), (3, rr 1024), (5, ow 1256 y3.2.length), (6, pI ((k1 : Nat) : Int))] [(0, bx (pm (encDice y3.1))), (1024, bx (pm (encTree p1))), (1256, ob0 (roProtection y3.2))]) (fun y3 => (Protections_Dice_madeJ3 n1) y3 = some RES) ?_ ?_
  ·intro y3 hm
   unfold Protections_Dice_madeJ3 at hm
   refine RD hnt (nn 3 []) [] [(6, pI (w64 (((k1 : Nat) : Int) + 1)))] [] [] tv ?_
   exact jD (y3.1, y3.2) ⟨hlt1, hm⟩ (Conv.tp [(6, pI (w64 (((k1 : Nat) : Int) + 1)))] [] (by kernel_rfl) (.cons rfl (.of_eq (congrArg pI (w64_succ hlt1 hc1))) .nil) .nil)
  ·refine Bk ?_
   obtain ⟨r15, hr15, hm⟩ := bo hm
   refine Sq (RD hnt (.no :: o52 [0] true r15 :: .no :: []) [11] [(16, pB (decide (r15.1 > 0)))] [] [(0, bx (pm (encDice r15.2)))] (an (Next_Dice_madeSpec s1.1 3 r15 hr15) (an tv tv)) ?_)
   refine condM hm ?_ ?_
   ·intro h16 hm
    obtain ⟨r17, hr17, hm⟩ := bo hm
    obtain ⟨r18, hr18, hm⟩ := bo hm
    obtain ⟨g19, hm⟩ := go1 hm
    refine RN hnt (nn 9 (o68 [0] false r17 :: nn 2 (o68 [0] false r18 :: nn 4 []))) [(0, rr 0), (3, rr 1024), (5, ow 1256 (s1.2 ++ [(c76e1 p1 k1 r17 r18)]).length), (6, pI ((k1 : Nat) : Int))] [(0, bx (pm (encDice r18.2))), (1024, bx (pm (encTree p1))), (1256, ob0 (roProtection (s1.2 ++ [(c76e1 p1 k1 r17 r18)])))] [(5, ow 1256 (s1.2.length + 1))] [(1256, .row 3 (s1.2.length + 1) (catF s1.2.length (elProtection s1.2) (cut 3 [vi (p1.nodes.getD k1 (default : Node)).id, vi r17.1, vi r18.1])))] (an (nn0 k1) (an (ltc hlt1) (an (Spec.args (xs := [rr 0, .p (.sl .unk 1 7 (cut 1 [vi 0, vi 0, vi 3, vi 50, vi 100, vi 1000, vi 4611686018427387904]))]) (Pick_Dice_madeSpec r15.2 [0, 0, 3, 50, 100, 1000, 4611686018427387904] r17 hr17) (.cons .rfl (.cons (.p (PLe.typed (RowIs.lit (enc := encI) (d := 0) (n := 7) (f := (cut 1 [vi 0, vi 0, vi 3, vi 50, vi 100, vi 1000, vi 4611686018427387904])) [0, 0, 3, 50, 100, 1000, 4611686018427387904] rfl (fun | 0, _ => rfl | 1, _ => rfl | 2, _ => rfl | 3, _ => rfl | 4, _ => rfl | 5, _ => rfl | 6, _ => rfl | n + 7, h => absurd h (by omega))))) .nil))) (an tv (an (Spec.args (xs := [rr 0, .p (.sl .unk 1 7 (cut 1 [vi 0, vi 3, vi 30, vi 100, vi 150, vi 1099511627776, vi 4611686018427387904]))]) (Pick_Dice_madeSpec r17.2 [0, 3, 30, 100, 150, 1099511627776, 4611686018427387904] r18 hr18) (.cons .rfl (.cons (.p (PLe.typed (RowIs.lit (enc := encI) (d := 0) (n := 7) (f := (cut 1 [vi 0, vi 3, vi 30, vi 100, vi 150, vi 1099511627776, vi 4611686018427387904])) [0, 3, 30, 100, 150, 1099511627776, 4611686018427387904] rfl (fun | 0, _ => rfl | 1, _ => rfl | 2, _ => rfl | 3, _ => rfl | 4, _ => rfl | 5, _ => rfl | 6, _ => rfl | n + 7, h => absurd h (by omega))))) .nil))) (an tv (an (by omega : (s1.2.length + 1) * 24 ≤ 140737488355328) tv))))))) (by kernel_rfl) (.cons rfl (MLe.ownLen (enc := encProtection) (d := dProtection) (f := (catF s1.2.length (elProtection s1.2) (cut 3 [vi (p1.nodes.getD k1 (default : Node)).id, vi r17.1, vi r18.1]))) (RowIs.cat RowIs.elems (RowIs.lit (enc := encProtection) (d := dProtection) (n := 1) (f := (cut 3 [vi (p1.nodes.getD k1 (default : Node)).id, vi r17.1, vi r18.1])) [(c76e1 p1 k1 r17 r18)] rfl (fun | 0, _ => rfl | n + 1, h => absurd h (by omega))))) .nil) (.cons rfl (BLe.typed (RowIs.cat RowIs.elems (RowIs.lit (enc := encProtection) (d := dProtection) (n := 1) (f := (cut 3 [vi (p1.nodes.getD k1 (default : Node)).id, vi r17.1, vi r18.1])) [(c76e1 p1 k1 r17 r18)] rfl (fun | 0, _ => rfl | n + 1, h => absurd h (by omega))))) .nil) ?_
    exact bD (r18.2, (s1.2 ++ [(c76e1 p1 k1 r17 r18)])) hm .refl
   ·intro h16 hm
    refine Sk ?_
    exact bD (r15.2, s1.2) hm Conv.t0
 ·intro h14
  have hge1 : ¬ k1 < p1.nodes.length := by have := of_decide_eq_false h14; omega
  have hm := he1 hge1
  unfold Protections_Dice_madeD1 at hm
  refine DW.exit ?_
  refine joinQ_exit ?_
  refine KQ_exit ?_
  refine blockQ_exit ?_
  show DW _ _ _ _ _
  refine Sq (RD hnt (nn 2 []) [0, 3, 5, 6, 11] [(4, ow 1256 s1.2.length)] [1024] [] tv ?_)
  obtain rfl := sj hm
  exact DW.ret (retK [.box (pm (encDice s1.1)), roProtection s1.2] [1256] (ow 1 s1.2.length))
abbrev o76 (ks : List Nat) (b : Bool) (RES : (List Protection) × Dice) : Orc := .call 14 ks b (ow 1 RES.1.length) [.box (pm (encDice RES.2))] [roProtection RES.1]

abbrev c1e1 (r7 : (List Protection) × Dice) (r10 : Int × Dice) (r15 : Int × Dice) := ({ group := (r7.1.getD (Int.toNat r10.1) dProtection).group, min := (minI 4611686018427387904 (w64 ((r7.1.getD (Int.toNat r10.1) dProtection).min + r15.1))), low := (r7.1.getD (Int.toNat r10.1) dProtection).low } : Protection)
abbrev c1e2 (r19 : (List Protection) × Int) (k1 : Nat) := (r19.1.getD k1 (default : Protection))
abbrev c1e3 (r7 : (List Protection) × Dice) (r10 : Int × Dice) := (r7.1.getD (Int.toNat r10.1) dProtection)
abbrev c1e4 (r5 : Tree × Dice) : Nat × Obj := (1048, bx (pm (encTree r5.1)))
abbrev c1e5 (r7 : (List Protection) × Dice) (r10 : Int × Dice) (r15 : Int × Dice) := (updF (elProtection r7.1) (Int.toNat r10.1) [vi (c1e3 r7 r10).group, vi (minI 4611686018427387904 (w64 ((c1e3 r7 r10).min + r15.1))), vi (c1e3 r7 r10).low])
theorem ProtectRaises_law23Spec (p0 : List Int) (p1 : Int) (RES : Bool) (hm : ProtectRaises_law23 p0 p1 = some RES) : Spec Try.prog 7 [.p (slI p0), pI p1] [] (pB RES) [] [] := by
 unfold ProtectRaises_law23 at hm
 refine SO Try.func7 rfl rfl [(0, .p (slI p0)), (1, pI p1)] [] ?_
 intro cx hnt
 refine Sq (RD hnt (.no :: []) [] [] [] [] tv ?_)
 obtain ⟨r1, hr1, hm⟩ := bo hm
 refine Sq (Sq (RD hnt (.no :: o2 [] true r1 :: .no :: []) [] [(22, pB (!r1))] [] [] (an (Light_madeSpec p0 r1 hr1) tv) ?_))
 refine condM hm ?_ ?_
 ·intro h2 hm
  obtain ⟨r3, hr3, hm⟩ := bo hm
  refine Sq (RK hnt (o3 [] true r3 :: .no :: []) [(4, pB r3)] [] (an (sane_law23Spec r3 hr3) tv) ?_)
  obtain rfl := sj hm
  exact DW.ret (retK [] [] (pB r3))
 ·intro h2 hm
  refine Sk ?_
  obtain ⟨r4, hr4, hm⟩ := bo hm
  refine Sq (RK hnt (.no :: o49 [] true r4 :: .no :: []) [(1, pI p1), (5, rr 1200)] [(1200, bx (pm (encDice r4)))] (an (Roll_madeSpec p0 r4 hr4) tv) ?_)
  obtain ⟨r5, hr5, hm⟩ := bo hm
  refine Sq (RD hnt (.no :: o50 [1200] true r5 :: nn 2 []) [] [(6, rr 1048)] [] [(c1e4 r5), (1200, bx (pm (encDice r5.2)))] (an (Tree_Dice_madeSpec r4 7 r5 hr5) (an tv tv)) ?_)
  obtain ⟨r6, hr6, hm⟩ := bo hm
  obtain ⟨r7, hr7, hm⟩ := bo hm
  refine Sq (RD hnt (nn 2 (o67 [1200] true r6 :: nn 2 (o76 [1200] true r7 :: nn 3 []))) [] [(7, rr 1056), (8, ow 1264 r7.1.length)] [] [(1056, bx [.p (slCharge r6.1.charges)]), (1200, bx (pm (encDice r7.2))), (1264, ob0 (roProtection r7.1))] (an (Counter_Dice_madeSpec r5.2 r5.1 r6 hr6) (an tv (an (Protections_Dice_madeSpec r6.2 r5.1 r7 hr7) (an tv tv)))) ?_)
  refine Sq (Sq (RD hnt (nn 3 []) [] [(36, pB (((r7.1.length : Nat) : Int) == 0))] [] [] tv ?_))
  refine condM hm ?_ ?_
  ·intro h8 hm
   obtain ⟨r9, hr9, hm⟩ := bo hm
   refine Sq (RK hnt (o3 [] true r9 :: .no :: []) [(4, pB r9)] [] (an (sane_law23Spec r9 hr9) tv) ?_)
   obtain rfl := sj hm
   exact DW.ret (retK [] [] (pB r9))
  ·intro h8 hm
   refine Sk ?_
   obtain ⟨r10, hr10, hm⟩ := bo hm
   refine Sq (RD hnt (nn 3 (o52 [1200] true r10 :: .no :: [])) [5, 36] [(9, pI r10.1)] [1200] [] (an (Next_Dice_madeSpec r7.2 ((r7.1.length : Nat) : Int) r10 hr10) (an tv tv)) ?_)
   obtain ⟨g11, hm⟩ := go1 hm
   refine Sq (RN hnt (nn 3 []) [(1, pI p1), (6, rr 1048), (7, rr 1056), (8, ow 1264 r7.1.length), (9, pI r10.1), (10, ow 1344 r7.1.length)] [(c1e4 r5), (1056, bx [.p (slCharge r6.1.charges)]), (1264, ob0 (roProtection r7.1)), (1344, ob0 (roProtection r7.1))] [] [(1344, .row 3 r7.1.length (elProtection r7.1))] (an (by omega : r7.1.length * 24 ≤ 140737488355328) tv) (by kernel_rfl) .nil (.cons rfl (BLe.typed RowIs.elems) .nil) ?_)
   obtain ⟨g12, g13, hm⟩ := go2 hm
   obtain ⟨r14, hr14, hm⟩ := bo hm
   obtain ⟨r15, hr15, hm⟩ := bo hm
   obtain ⟨g16, g17, hm⟩ := go2 hm
   refine Sq (RN hnt (nn 9 (o49 [] false r14 :: o52 [1424] true r15 :: nn 5 [])) [(6, rr 1048), (7, rr 1056), (8, ow 1264 r7.1.length), (9, pI r10.1), (10, ow 1344 (r7.1.set (Int.toNat r10.1) (c1e1 r7 r10 r15)).length)] [(c1e4 r5), (1056, bx [.p (slCharge r6.1.charges)]), (1264, ob0 (roProtection r7.1)), (1344, ob0 (roProtection (r7.1.set (Int.toNat r10.1) (c1e1 r7 r10 r15))))] [(10, ow 1344 r7.1.length)] [(1344, .row 3 r7.1.length (c1e5 r7 r10 r15))] (an g12.1 (an g12.2 (an g13 (an (Spec.args (xs := [.p (.sl .unk 1 1 (cut 1 [vi p1]))]) (Roll_madeSpec [p1] r14 hr14) (.cons (.p (PLe.typed (RowIs.lit (enc := encI) (d := 0) (n := 1) (f := (cut 1 [vi p1])) [p1] rfl (fun | 0, _ => rfl | n + 1, h => absurd h (by omega))))) .nil)) (an (Next_Dice_madeSpec r14 500 r15 hr15) (an tv (an g16.1 (an g16.2 (an g17 tv))))))))) (by kernel_rfl) (.cons rfl (MLe.ownLen (enc := encProtection) (d := dProtection) (f := (c1e5 r7 r10 r15)) (RowIs.upd RowIs.elems (c1e1 r7 r10 r15) rfl)) .nil) (.cons rfl (BLe.typed (RowIs.upd RowIs.elems (c1e1 r7 r10 r15) rfl)) .nil) ?_)
   refine Sq (DW.cv [] [(8, .p (slProtection r7.1))] [1264] [] (Conv.frz [1264]) ?_)
   obtain ⟨r19, hr19, hm⟩ := bo hm
   refine RD hnt (nn 3 (o5 [] true r19 :: nn 5 [])) [] [(11, ow 1504 r19.1.length), (12, pI r19.2)] [] [(1504, ob0 (roProtection r19.1))] (an (Effective_protectSpec r5.1 r6.1 r7.1 1 r19 hr19) tv) ?_
   refine Sq (DW.cv [] [(10, .p (slProtection (r7.1.set (Int.toNat r10.1) (c1e1 r7 r10 r15))))] [1344] [] (Conv.frz [1344]) ?_)
   obtain ⟨r21, hr21, hm⟩ := bo hm
   refine RD hnt (nn 3 (o5 [] true r21 :: nn 5 [])) [7, 10] [(13, ow 1560 r21.1.length), (14, pI r21.2)] [1056] [(1560, ob0 (roProtection r21.1))] (an (Effective_protectSpec r5.1 r6.1 (r7.1.set (Int.toNat r10.1) (c1e1 r7 r10 r15)) 1 r21 hr21) tv) ?_
   refine Sq (Sq (DW.regJ (sl2 := [(6, rr 1048), (8, .p (slProtection r7.1)), (9, pI r10.1), (11, ow 1504 r19.1.length), (13, ow 1560 r21.1.length), (85, pB (((r19.2 != 0) || (r21.2 != 0)) || (((r19.1.length : Nat) : Int) != ((r21.1.length : Nat) : Int))))]) (ob2 := [(c1e4 r5), (1504, ob0 (roProtection r19.1)), (1560, ob0 (roProtection r21.1))]) ?_ ?_))
   ·rcases bt (r19.2 != 0) with h22 | h22
    ·exact RT hnt (nn 3 (sk 2 (pT :: .no :: sk 5 (pT :: [])))) [(85, pB true)] (an3 h22 (an6 tt tv)) (by kernel_rfl) (.cons rfl (.of_eq (by rw [h22]; try rfl)) .nil)
    ·rcases bt (r21.2 != 0) with h23 | h23
     ·exact RT hnt (nn 5 (pF :: .no :: sk 5 (pT :: []))) [(85, pB true)] (an3 h22 (an6 h23 tv)) (by kernel_rfl) (.cons rfl (.of_eq (by rw [h22, h23]; try rfl)) .nil)
     ·exact RT hnt (nn 5 (pF :: nn 6 (pF :: []))) [(85, pB (((r19.1.length : Nat) : Int) != ((r21.1.length : Nat) : Int)))] (an3 h22 (an6 h23 tv)) (by kernel_rfl) (.cons rfl (.of_eq (by rw [h22, h23]; try rfl)) .nil)
   ·refine condM hm ?_ ?_
    ·intro h24 hm
     refine Sq (RK hnt (.no :: []) [(4, pB false)] [] tv ?_)
     obtain rfl := sj hm
     exact DW.ret (retK [] [] (pB false))
    ·intro h24 hm
     refine Sk ?_
     obtain ⟨g25, hm⟩ := go1 hm
     obtain ⟨r26, hr26, hm⟩ := bo hm
     refine Sq (RD hnt (nn 6 (o60 [] true r26 :: nn 6 [])) [85] [(15, rr 1120)] [] [(1120, bx (pm (encNode r26.1)))] (an g25.1 (an g25.2 (an (Find_ref5Spec r5.1 (c1e3 r7 r10).group r26 hr26) tv))) ?_)
     refine Sq (Sq (RD hnt (.no :: []) [] [(17, pI 0)] [] [] tv ?_))
     refine Bk ?_
     obtain ⟨hc1, hm⟩ := go1 hm
     refine DW.rangeO (fun (k1 : Nat) (s1 : Unit) => mkSt [(6, rr 1048), (8, .p (slProtection r7.1)), (9, pI r10.1), (11, ow 1504 r19.1.length), (13, ow 1560 r21.1.length), (15, rr 1120), (17, pI ((k1 : Nat) : Int))] [(c1e4 r5), (1120, bx (pm (encNode r26.1))), (1504, ob0 (roProtection r19.1)), (1560, ob0 (roProtection r21.1))]) dProtection hm Conv.eqK ?_
     intro k1 s1 n1 hk1 hs1 he1
     refine Sq (Sq (RD hnt (nn 4 []) [] [(99, pB (decide (((k1 : Nat) : Int) < ((r19.1.length : Nat) : Int))))] [] [] tv ?_))
     refine condK (decide (((k1 : Nat) : Int) < ((r19.1.length : Nat) : Int))) ?_ ?_
     ·intro h113
      have hlt1 : k1 < r19.1.length := by have := of_decide_eq_true h113; omega
      have hm := hs1 hlt1
      unfold ProtectRaises_law23L1 at hm
      refine Sk ?_
      refine Sq (Bk ?_)
      obtain ⟨r114, hr114, hm⟩ := bo hm
      refine Sq (RD hnt (nn 6 (o60 [] true r114 :: nn 6 [])) [99] [(18, rr 1144)] [] [(1144, bx (pm (encNode r114.1)))] (an (nn0 k1) (an (ltc hlt1) (an (by omega : k1 < r19.1.length) (an (Find_ref5Spec r5.1 (c1e2 r19 k1).group r114 hr114) tv)))) ?_)
      obtain ⟨g115, g116, hm⟩ := go2 hm
      refine Sq ?_
      refine Jn (ι := Bool) (fun (y3 : Bool) => mkSt [(6, rr 1048), (8, .p (slProtection r7.1)), (9, pI r10.1), (11, ow 1504 r19.1.length), (13, ow 1560 r21.1.length), (15, rr 1120), (17, pI ((k1 : Nat) : Int)), (194, pB y3)] [(c1e4 r5), (1120, bx (pm (encNode r26.1))), (1504, ob0 (roProtection r19.1)), (1560, ob0 (roProtection r21.1))]) (fun y3 => (ProtectRaises_law23J3 n1) y3 = some RES) ?_ ?_
      ·intro y3 hm
       unfold ProtectRaises_law23J3 at hm
       refine condM hm ?_ ?_
       ·intro h136 hm
        refine Sq (RK hnt (.no :: []) [(4, pB false)] [] tv ?_)
        obtain rfl := sj hm
        exact DW.ret (retK [] [] (pB false))
       ·intro h136 hm
        refine Sk ?_
        refine DW.done ?_
        show DW _ _ _ _ _
        refine RD hnt (nn 3 []) [194] [(17, pI (w64 (((k1 : Nat) : Int) + 1)))] [] [] tv ?_
        exact jD () ⟨hlt1, hm⟩ (Conv.tp [(17, pI (w64 (((k1 : Nat) : Int) + 1)))] [] (by kernel_rfl) (.cons rfl (.of_eq (congrArg pI (w64_succ hlt1 hc1))) .nil) .nil)
      ·rcases bt ((c1e2 r19 k1).group != (r21.1.getD k1 dProtection).group) with h117 | h117
       ·replace hm := if_t h117 hm
        refine RD hnt (nn 12 (sk 11 (pT :: .no :: sk 24 (pT :: .no :: sk 31 (pT :: []))))) [18] [(194, pB true)] [1144] [] (an (nn0 k1) (an (ltc hlt1) (an (by omega : k1 < r19.1.length) (an (nn0 k1) (an (ltc g115) (an g116 (an6 h117 (an6 h117 (an6 tt (an6 tt (an6 tt (an6 tt (an6 tt tv))))))))))))) ?_
        exact jD true hm Conv.eqK
       ·replace hm := if_f h117 hm
        obtain ⟨g118, g119, hm⟩ := go2 hm
        rcases bt ((c1e2 r19 k1).low != (r21.1.getD k1 dProtection).low) with h120 | h120
        ·replace hm := if_t h120 hm
         refine RD hnt (nn 23 (pF :: .no :: sk 24 (pT :: .no :: sk 31 (pT :: [])))) [18] [(194, pB true)] [1144] [] (an (nn0 k1) (an (ltc hlt1) (an (by omega : k1 < r19.1.length) (an (nn0 k1) (an (ltc g115) (an g116 (an3 h117 (an (nn0 k1) (an (ltc hlt1) (an2 h117 (an (by omega : k1 < r19.1.length) (an3 h117 (an (nn0 k1) (an (ltc g118) (an2 h117 (an g119 (an2 h117 (an2 h120 (an6 h120 (an6 h120 (an4 tt (an6 tt (an6 tt tv))))))))))))))))))))))) ?_
         exact jD true hm Conv.eqK
        ·replace hm := if_f h120 hm
         obtain ⟨g121, hm⟩ := go1 hm
         rcases bt ((c1e2 r19 k1).group == (c1e3 r7 r10).group) with h122 | h122
         ·replace hm := if_t h122 hm
          obtain ⟨g123, g124, hm⟩ := go2 hm
          rcases bt (decide ((r21.1.getD k1 dProtection).min < (c1e2 r19 k1).min)) with h125 | h125
          ·replace hm := if_t h125 hm
           refine RD hnt (nn 23 (pF :: nn 24 (pT :: pF :: .no :: sk 31 (pT :: [])))) [18] [(194, pB true)] [1144] [] (an (nn0 k1) (an (ltc hlt1) (an (by omega : k1 < r19.1.length) (an (nn0 k1) (an (ltc g115) (an g116 (an3 h117 (an (nn0 k1) (an (ltc hlt1) (an2 h117 (an (by omega : k1 < r19.1.length) (an3 h117 (an (nn0 k1) (an (ltc g118) (an2 h117 (an g119 (an2 h117 (an3 h120 (an (nn0 k1) (an (ltc hlt1) (an2 h120 (an (by omega : k1 < r19.1.length) (an3 h120 (an g121.1 (an g121.2 (an4 h120 (an3 h122 (an (nn0 k1) (an (ltc g123) (an2 h122 (an g124 (an3 h122 (an (nn0 k1) (an (ltc hlt1) (an2 h122 (an (by omega : k1 < r19.1.length) (an h122 (an h120 (an h122 (an h120 (an4 h125 (an6 h125 (an6 h125 tv))))))))))))))))))))))))))))))))))))))))))) ?_
           exact jD true hm Conv.eqK
          ·replace hm := if_f h125 hm
           obtain ⟨g126, hm⟩ := go1 hm
           rcases bt ((c1e2 r19 k1).group != (c1e3 r7 r10).group) with h127 | h127
           ·replace hm := if_t h127 hm
            rcases bt (r114.1.parent == r26.1.parent) with h128 | h128
            ·replace hm := if_t h128 hm
             obtain ⟨g129, g130, hm⟩ := go2 hm
             refine RD hnt (nn 23 (pF :: nn 24 (pT :: pF :: nn 18 (pT :: nn 12 (pT :: pF :: []))))) [18] [(194, pB (decide ((r21.1.getD k1 dProtection).min > (c1e2 r19 k1).min)))] [1144] [] (an (nn0 k1) (an (ltc hlt1) (an (by omega : k1 < r19.1.length) (an (nn0 k1) (an (ltc g115) (an g116 (an3 h117 (an (nn0 k1) (an (ltc hlt1) (an2 h117 (an (by omega : k1 < r19.1.length) (an3 h117 (an (nn0 k1) (an (ltc g118) (an2 h117 (an g119 (an2 h117 (an3 h120 (an (nn0 k1) (an (ltc hlt1) (an2 h120 (an (by omega : k1 < r19.1.length) (an3 h120 (an g121.1 (an g121.2 (an4 h120 (an3 h122 (an (nn0 k1) (an (ltc g123) (an2 h122 (an g124 (an3 h122 (an (nn0 k1) (an (ltc hlt1) (an2 h122 (an (by omega : k1 < r19.1.length) (an h122 (an h120 (an h122 (an h120 (an3 h125 (an (nn0 k1) (an (ltc hlt1) (an2 h125 (an (by omega : k1 < r19.1.length) (an3 h125 (an g126.1 (an g126.2 (an4 h125 (an5 h127 (an h125 (an h127 (an h125 (an3 h128 (an (nn0 k1) (an (ltc g129) (an2 h128 (an g130 (an3 h128 (an (nn0 k1) (an (ltc hlt1) (an2 h128 (an (by omega : k1 < r19.1.length) (an h128 (an h125 (an h128 (an h125 tv))))))))))))))))))))))))))))))))))))))))))))))))))))))))))))))))))) ?_
             exact jD (decide ((r21.1.getD k1 dProtection).min > (c1e2 r19 k1).min)) hm Conv.eqK
            ·replace hm := if_f h128 hm
             refine RD hnt (nn 23 (pF :: nn 24 (pT :: pF :: nn 18 (pT :: .no :: sk 11 (pF :: pF :: []))))) [18] [(194, pB false)] [1144] [] (an (nn0 k1) (an (ltc hlt1) (an (by omega : k1 < r19.1.length) (an (nn0 k1) (an (ltc g115) (an g116 (an3 h117 (an (nn0 k1) (an (ltc hlt1) (an2 h117 (an (by omega : k1 < r19.1.length) (an3 h117 (an (nn0 k1) (an (ltc g118) (an2 h117 (an g119 (an2 h117 (an3 h120 (an (nn0 k1) (an (ltc hlt1) (an2 h120 (an (by omega : k1 < r19.1.length) (an3 h120 (an g121.1 (an g121.2 (an4 h120 (an3 h122 (an (nn0 k1) (an (ltc g123) (an2 h122 (an g124 (an3 h122 (an (nn0 k1) (an (ltc hlt1) (an2 h122 (an (by omega : k1 < r19.1.length) (an h122 (an h120 (an h122 (an h120 (an3 h125 (an (nn0 k1) (an (ltc hlt1) (an2 h125 (an (by omega : k1 < r19.1.length) (an3 h125 (an g126.1 (an g126.2 (an4 h125 (an5 h127 (an h125 (an h127 (an h125 (an5 h128 (an6 h128 (an h125 (an h128 (an h125 tv)))))))))))))))))))))))))))))))))))))))))))))))))))))))))) ?_
             exact jD false hm Conv.eqK
           ·replace hm := if_f h127 hm
            refine RD hnt (nn 23 (pF :: nn 24 (pT :: pF :: nn 13 (sk 5 (pF :: .no :: sk 11 (pF :: pF :: [])))))) [18] [(194, pB false)] [1144] [] (an (nn0 k1) (an (ltc hlt1) (an (by omega : k1 < r19.1.length) (an (nn0 k1) (an (ltc g115) (an g116 (an3 h117 (an (nn0 k1) (an (ltc hlt1) (an2 h117 (an (by omega : k1 < r19.1.length) (an3 h117 (an (nn0 k1) (an (ltc g118) (an2 h117 (an g119 (an2 h117 (an3 h120 (an (nn0 k1) (an (ltc hlt1) (an2 h120 (an (by omega : k1 < r19.1.length) (an3 h120 (an g121.1 (an g121.2 (an4 h120 (an3 h122 (an (nn0 k1) (an (ltc g123) (an2 h122 (an g124 (an3 h122 (an (nn0 k1) (an (ltc hlt1) (an2 h122 (an (by omega : k1 < r19.1.length) (an h122 (an h120 (an h122 (an h120 (an3 h125 (an (nn0 k1) (an (ltc hlt1) (an2 h125 (an (by omega : k1 < r19.1.length) (an3 h125 (an g126.1 (an g126.2 (an4 h125 (an5 h127 (an h125 (an h127 (an h125 (an5 ff (an6 ff (an h125 (an ff (an h125 tv)))))))))))))))))))))))))))))))))))))))))))))))))))))))))) ?_
            exact jD false hm Conv.eqK
         ·replace hm := if_f h122 hm
          obtain ⟨g131, hm⟩ := go1 hm
          rcases bt ((c1e2 r19 k1).group != (c1e3 r7 r10).group) with h132 | h132
          ·replace hm := if_t h132 hm
           rcases bt (r114.1.parent == r26.1.parent) with h133 | h133
           ·replace hm := if_t h133 hm
            obtain ⟨g134, g135, hm⟩ := go2 hm
            refine RD hnt (nn 23 (pF :: nn 13 (sk 11 (pF :: pF :: nn 18 (pT :: nn 12 (pT :: pF :: [])))))) [18] [(194, pB (decide ((r21.1.getD k1 dProtection).min > (c1e2 r19 k1).min)))] [1144] [] (an (nn0 k1) (an (ltc hlt1) (an (by omega : k1 < r19.1.length) (an (nn0 k1) (an (ltc g115) (an g116 (an3 h117 (an (nn0 k1) (an (ltc hlt1) (an2 h117 (an (by omega : k1 < r19.1.length) (an3 h117 (an (nn0 k1) (an (ltc g118) (an2 h117 (an g119 (an2 h117 (an3 h120 (an (nn0 k1) (an (ltc hlt1) (an2 h120 (an (by omega : k1 < r19.1.length) (an3 h120 (an g121.1 (an g121.2 (an4 h120 (an5 h122 (an6 h122 (an h120 (an h122 (an h120 (an3 ff (an (nn0 k1) (an (ltc hlt1) (an2 ff (an (by omega : k1 < r19.1.length) (an3 ff (an g131.1 (an g131.2 (an4 ff (an5 h132 (an ff (an h132 (an ff (an3 h133 (an (nn0 k1) (an (ltc g134) (an2 h133 (an g135 (an3 h133 (an (nn0 k1) (an (ltc hlt1) (an2 h133 (an (by omega : k1 < r19.1.length) (an h133 (an ff (an h133 (an ff tv)))))))))))))))))))))))))))))))))))))))))))))))))))))))))) ?_
            exact jD (decide ((r21.1.getD k1 dProtection).min > (c1e2 r19 k1).min)) hm Conv.eqK
           ·replace hm := if_f h133 hm
            refine RD hnt (nn 23 (pF :: nn 13 (sk 11 (pF :: pF :: nn 18 (pT :: .no :: sk 11 (pF :: pF :: [])))))) [18] [(194, pB false)] [1144] [] (an (nn0 k1) (an (ltc hlt1) (an (by omega : k1 < r19.1.length) (an (nn0 k1) (an (ltc g115) (an g116 (an3 h117 (an (nn0 k1) (an (ltc hlt1) (an2 h117 (an (by omega : k1 < r19.1.length) (an3 h117 (an (nn0 k1) (an (ltc g118) (an2 h117 (an g119 (an2 h117 (an3 h120 (an (nn0 k1) (an (ltc hlt1) (an2 h120 (an (by omega : k1 < r19.1.length) (an3 h120 (an g121.1 (an g121.2 (an4 h120 (an5 h122 (an6 h122 (an h120 (an h122 (an h120 (an3 ff (an (nn0 k1) (an (ltc hlt1) (an2 ff (an (by omega : k1 < r19.1.length) (an3 ff (an g131.1 (an g131.2 (an4 ff (an5 h132 (an ff (an h132 (an ff (an5 h133 (an6 h133 (an ff (an h133 (an ff tv))))))))))))))))))))))))))))))))))))))))))))))))) ?_
            exact jD false hm Conv.eqK
          ·replace hm := if_f h132 hm
           refine RD hnt (nn 23 (pF :: nn 13 (sk 11 (pF :: pF :: nn 13 (sk 5 (pF :: .no :: sk 11 (pF :: pF :: []))))))) [18] [(194, pB false)] [1144] [] (an (nn0 k1) (an (ltc hlt1) (an (by omega : k1 < r19.1.length) (an (nn0 k1) (an (ltc g115) (an g116 (an3 h117 (an (nn0 k1) (an (ltc hlt1) (an2 h117 (an (by omega : k1 < r19.1.length) (an3 h117 (an (nn0 k1) (an (ltc g118) (an2 h117 (an g119 (an2 h117 (an3 h120 (an (nn0 k1) (an (ltc hlt1) (an2 h120 (an (by omega : k1 < r19.1.length) (an3 h120 (an g121.1 (an g121.2 (an4 h120 (an5 h122 (an6 h122 (an h120 (an h122 (an h120 (an3 ff (an (nn0 k1) (an (ltc hlt1) (an2 ff (an (by omega : k1 < r19.1.length) (an3 ff (an g131.1 (an g131.2 (an4 ff (an5 h132 (an ff (an h132 (an3 ff (an6 ff (an6 ff tv)))))))))))))))))))))))))))))))))))))))))))))) ?_
           exact jD false hm Conv.eqK
     ·intro h113
      have hge1 : ¬ k1 < r19.1.length := by have := of_decide_eq_false h113; omega
      have hm := he1 hge1
      unfold ProtectRaises_law23D1 at hm
      refine DW.exit ?_
      refine joinQ_exit ?_
      refine KQ_exit ?_
      refine blockQ_exit ?_
      show DW _ _ _ _ _
      obtain ⟨r137, hr137, hm⟩ := bo hm
      refine Sq (RK hnt (o3 [] true r137 :: .no :: []) [(4, pB r137)] [] (an (sane_law23Spec r137 hr137) tv) ?_)
      obtain rfl := sj hm
      exact DW.ret (retK [] [] (pB r137))
abbrev o1 (ks : List Nat) (b : Bool) (RES : Bool) : Orc := .call 7 ks b (pB RES) [] []
end Go.Dm

