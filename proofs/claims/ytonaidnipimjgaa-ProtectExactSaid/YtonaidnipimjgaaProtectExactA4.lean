/- Texts of the proof of ProtectExact: the data machine, the models of the Go functions, their contracts. -/
import Derived.Test.YtonaidnipimjgaaProtectExactA3
set_option linter.unusedVariables false
set_option linter.unusedSimpArgs false
/- Go functions compute their models, printed by a program. -/
namespace Go.Dm
open Go.Proofs
set_option linter.unusedVariables false
abbrev Dt (p0 : Aa) (p1 : Int) := (p0.nodes.getD (Int.toNat p1) Br)
abbrev AaE (p0 : Aa) (p1 : Int) : Nat × Obj := (1040,bx (pm (Ax (Dt p0 p1))))
abbrev AaJ (p0 : Aa) : Nat × Obj := (1016,bx (pm (Ab p0)))
abbrev c56e4 (p0 : Aa) (k1 : Int) := (p0.nodes.getD (Int.toNat k1) Br)
theorem Adp (p0 : Aa) (p1 : Int) (RES : Bool) (hm : Sm p0 p1 = some RES) : Spec Try.prog 79 [.p (.agg (Ab p0)),pI p1] [] (pB RES) [] [] := by
 unfold Sm at hm
 refine SO Try.func79 rfl rfl [(0,.p (.agg (Ab p0))),(1,pI p1)] [] ?_
 intro cx hnt
 refine Sq (RK hnt (nn 2 []) [(1,pI p1),(2,rr 1016)] [(AaJ p0)] tv ?_)
 obtain ⟨g1,hm⟩ := go1 hm
 refine Sq (RD hnt (nn 7 []) [] [(5,rr 1040)] [] [(AaE p0 p1)] (an g1.1 (an g1.2 tv)) ?_)
 refine Sq (Sq (DW.regJ (sl2 := [(1,pI p1),(2,rr 1016),(5,rr 1040),(40,pB (((((((Dt p0 p1).kind != 0) && ((Dt p0 p1).kind != 1)) || (decide ((Dt p0 p1).control < 0))) || (decide ((Dt p0 p1).control > 31))) || (decide ((Dt p0 p1).owner < 0))) || (decide ((Dt p0 p1).owner > 1048576))))]) (ob2 := [(AaJ p0),(AaE p0 p1)]) ?_ ?_))
 ·rcases bt ((Dt p0 p1).kind != 0) with h2 | h2
  ·rcases bt ((Dt p0 p1).kind != 1) with h3 | h3
   ·exact RT hnt (nn 7 (pT :: .no :: sk 3 (pT :: .no :: sk 3 (pT :: .no :: sk 3 (pT :: .no :: sk 3 (pT :: [])))))) [(40,pB true)] (an4 h2 (an4 h3 (an6 tt (an6 tt tv)))) (by kernel_rfl) (.cons rfl (.of_eq (by rw [h2,h3]; try rfl)) .nil)
   ·rcases bt (decide ((Dt p0 p1).control < 0)) with h4 | h4
    ·exact RT hnt (nn 7 (pT :: nn 4 (pF :: .no :: sk 3 (pT :: .no :: sk 3 (pT :: .no :: sk 3 (pT :: [])))))) [(40,pB true)] (an4 h2 (an4 h3 (an4 h4 (an2 tt (an6 tt tv))))) (by kernel_rfl) (.cons rfl (.of_eq (by rw [h2,h3,h4]; try rfl)) .nil)
    ·rcases bt (decide ((Dt p0 p1).control > 31)) with h5 | h5
     ·exact RT hnt (nn 7 (pT :: nn 4 (pF :: nn 4 (pF :: .no :: sk 3 (pT :: .no :: sk 3 (pT :: [])))))) [(40,pB true)] (an4 h2 (an4 h3 (an4 h4 (an4 h5 (an4 tt tv))))) (by kernel_rfl) (.cons rfl (.of_eq (by rw [h2,h3,h4,h5]; try rfl)) .nil)
     ·rcases bt (decide ((Dt p0 p1).owner < 0)) with h6 | h6
      ·exact RT hnt (nn 7 (pT :: nn 4 (pF :: nn 4 (pF :: nn 4 (pF :: .no :: sk 3 (pT :: [])))))) [(40,pB true)] (an4 h2 (an4 h3 (an4 h4 (an4 h5 (an4 h6 tv))))) (by kernel_rfl) (.cons rfl (.of_eq (by rw [h2,h3,h4,h5,h6]; try rfl)) .nil)
      ·exact RT hnt (nn 7 (pT :: nn 4 (pF :: nn 4 (pF :: nn 4 (pF :: nn 4 (pF :: [])))))) [(40,pB (decide ((Dt p0 p1).owner > 1048576)))] (an4 h2 (an4 h3 (an4 h4 (an4 h5 (an4 h6 tv))))) (by kernel_rfl) (.cons rfl (.of_eq (by rw [h2,h3,h4,h5,h6]; try rfl)) .nil)
  ·rcases bt (decide ((Dt p0 p1).control < 0)) with h7 | h7
   ·exact RT hnt (nn 4 (sk 3 (pF :: nn 4 (pF :: .no :: sk 3 (pT :: .no :: sk 3 (pT :: .no :: sk 3 (pT :: []))))))) [(40,pB true)] (an4 h2 (an4 ff (an4 h7 (an2 tt (an6 tt tv))))) (by kernel_rfl) (.cons rfl (.of_eq (by rw [h2,h7]; try rfl)) .nil)
   ·rcases bt (decide ((Dt p0 p1).control > 31)) with h8 | h8
    ·exact RT hnt (nn 4 (sk 3 (pF :: nn 4 (pF :: nn 4 (pF :: .no :: sk 3 (pT :: .no :: sk 3 (pT :: []))))))) [(40,pB true)] (an4 h2 (an4 ff (an4 h7 (an4 h8 (an4 tt tv))))) (by kernel_rfl) (.cons rfl (.of_eq (by rw [h2,h7,h8]; try rfl)) .nil)
    ·rcases bt (decide ((Dt p0 p1).owner < 0)) with h9 | h9
     ·exact RT hnt (nn 4 (sk 3 (pF :: nn 4 (pF :: nn 4 (pF :: nn 4 (pF :: .no :: sk 3 (pT :: []))))))) [(40,pB true)] (an4 h2 (an4 ff (an4 h7 (an4 h8 (an4 h9 tv))))) (by kernel_rfl) (.cons rfl (.of_eq (by rw [h2,h7,h8,h9]; try rfl)) .nil)
     ·exact RT hnt (nn 4 (sk 3 (pF :: nn 4 (pF :: nn 4 (pF :: nn 4 (pF :: nn 4 (pF :: []))))))) [(40,pB (decide ((Dt p0 p1).owner > 1048576)))] (an4 h2 (an4 ff (an4 h7 (an4 h8 (an4 h9 tv))))) (by kernel_rfl) (.cons rfl (.of_eq (by rw [h2,h7,h8,h9]; try rfl)) .nil)
 ·refine Ak hm ?_ ?_
  ·intro h10 hm
   refine Sq (RK hnt (.no :: []) [(4,pB false)] [] tv ?_)
   obtain rfl := sj hm
   exact DW.ret (Am [] [] (pB false))
  ·intro h10 hm
   refine Sk ?_
   refine Sq (Sq (RD hnt (nn 2 []) [40] [(42,pB (p1 == 0))] [] [] tv ?_))
   refine Ak hm ?_ ?_
   ·intro h11 hm
    refine Sq (DW.regJ (sl2 := [(4,pB (((((Dt p0 p1).id == 1) && ((Dt p0 p1).parent == 0)) && (Dl (Dt p0 p1).name ByteArray.empty)) && ((Dt p0 p1).kind == 0)))]) (ob2 := []) ?_ ?_)
    ·rcases bt ((Dt p0 p1).id == 1) with h12 | h12
     ·rcases bt ((Dt p0 p1).parent == 0) with h13 | h13
      ·rcases bt (Dl (Dt p0 p1).name ByteArray.empty) with h14 | h14
       ·exact RT hnt (nn 7 (pT :: nn 4 (pT :: nn 4 (pT :: .no :: [])))) [(4,pB ((Dt p0 p1).kind == 0))] (an4 h12 (an4 h13 (an4 h14 tv))) (by kernel_rfl) (.cons rfl (.of_eq (by rw [h12,h13,h14]; try rfl)) .nil)
       ·exact RT hnt (nn 7 (pT :: nn 4 (pT :: .no :: sk 3 (pF :: .no :: [])))) [(4,pB false)] (an4 h12 (an4 h13 (an4 h14 tv))) (by kernel_rfl) (.cons rfl (.of_eq (by rw [h12,h13,h14]; try rfl)) .nil)
      ·exact RT hnt (nn 7 (pT :: .no :: sk 3 (pF :: .no :: sk 3 (pF :: .no :: [])))) [(4,pB false)] (an4 h12 (an4 h13 (an4 ff tv))) (by kernel_rfl) (.cons rfl (.of_eq (by rw [h12,h13]; try rfl)) .nil)
     ·exact RT hnt (nn 4 (sk 3 (pF :: .no :: sk 3 (pF :: .no :: sk 3 (pF :: .no :: []))))) [(4,pB false)] (an4 h12 (an2 ff (an6 ff tv))) (by kernel_rfl) (.cons rfl (.of_eq (by rw [h12]; try rfl)) .nil)
    ·refine DW.ret ?_
     obtain rfl := sj hm
     exact Am [] [] (pB (((((Dt p0 p1).id == 1) && ((Dt p0 p1).parent == 0)) && (Dl (Dt p0 p1).name ByteArray.empty)) && ((Dt p0 p1).kind == 0)))
   ·intro h11 hm
    refine Sk ?_
    obtain ⟨g15,hm⟩ := go1 hm
    refine Sq (Sq ?_)
    refine Jn (ι := Bool) (fun (y1 : Bool) => Ai [(1,pI p1),(2,rr 1016),(5,rr 1040),(76,pB y1)] [(AaJ p0),(AaE p0 p1)]) (fun y1 => (Pf p0 p1) y1 = some RES) ?_ ?_
    ·intro y1 hm
     unfold Pf at hm
     refine Ak hm ?_ ?_
     ·intro h18 hm
      refine Sq (RK hnt (.no :: []) [(4,pB false)] [] tv ?_)
      obtain rfl := sj hm
      exact DW.ret (Am [] [] (pB false))
     ·intro h18 hm
      refine Sk ?_
      refine Sq (RD hnt (.no :: []) [76] [(6,pB false)] [] [] tv ?_)
      refine Sq (Sq (RD hnt (.no :: []) [] [(7,pI 0)] [] [] tv ?_))
      refine Bk ?_
      obtain ⟨hc1,hm⟩ := go1 hm
      refine DW.forO (fun (k1 : Int) (s1 : Bool) => Ai [(1,pI p1),(2,rr 1016),(5,rr 1040),(6,pB s1),(7,pI k1)] [(AaJ p0),(AaE p0 p1)]) (lo := 0) (hi := p1) hm Conv.eqK ?_
      intro k1 s1 n1 hk1 hs1 he1
      refine Sq (Sq (RD hnt (nn 3 []) [] [(79,pB (decide (k1 < p1)))] [] [] tv ?_))
      refine Ch (decide (k1 < p1)) ?_ ?_
      ·intro h32
       have hlt1 : k1 < p1 := by have := of_decide_eq_true h32; omega
       have hm := hs1 hlt1
       unfold Xa at hm
       refine Sk ?_
       refine Sq (Bk ?_)
       refine Sq ?_
       refine Jn (ι := Bool) (fun (y5 : Bool) => Ai [(1,pI p1),(2,rr 1016),(5,rr 1040),(6,pB y5),(7,pI k1)] [(AaJ p0),(AaE p0 p1)]) (fun y5 => (Mi p0 p1 k1 n1) y5 = some RES) ?_ ?_
       ·intro y5 hm
        unfold Mi at hm
        obtain ⟨g35,hm⟩ := go1 hm
        refine Sq ?_
        refine Jn (ι := Bool) (fun (y6 : Bool) => Ai [(1,pI p1),(2,rr 1016),(5,rr 1040),(6,pB y5),(7,pI k1),(113,pB y6)] [(AaJ p0),(AaE p0 p1)]) (fun y6 => (Mf n1 y5) y6 = some RES) ?_ ?_
        ·intro y6 hm
         unfold Mf at hm
         refine Ak hm ?_ ?_
         ·intro h38 hm
          refine Sq (RK hnt (.no :: []) [(4,pB false)] [] tv ?_)
          obtain rfl := sj hm
          exact DW.ret (Am [] [] (pB false))
         ·intro h38 hm
          refine Sk ?_
          refine DW.done ?_
          show DW _ _ _ _ _
          refine RD hnt (nn 3 []) [113] [(7,pI (w64 (k1 + 1)))] [] [] tv ?_
          exact jD y5 ⟨hlt1,hm⟩ (Conv.tp [(7,pI (w64 (k1 + 1)))] [] (by kernel_rfl) (.cons rfl (.of_eq (congrArg pI (Uk (lo := 0) (hi := p1) (by omega) hk1 hlt1 (by omega)))) .nil) .nil)
        ·rcases bt ((c56e4 p0 k1).parent == (Dt p0 p1).parent) with h36 | h36
         ·replace hm := Az h36 hm
          obtain ⟨g37,hm⟩ := go1 hm
          refine RD hnt (nn 19 (pT :: [])) [] [(113,pB (Dl (c56e4 p0 k1).name (Dt p0 p1).name))] [] [] (an g35.1 (an g35.2 (an4 h36 (an g37.1 (an g37.2 (an6 h36 tv)))))) ?_
          exact jD (Dl (c56e4 p0 k1).name (Dt p0 p1).name) hm Conv.eqK
         ·replace hm := Ba h36 hm
          refine RD hnt (nn 10 (sk 9 (pF :: []))) [] [(113,pB false)] [] [] (an g35.1 (an g35.2 (an4 h36 (an6 h36 tv)))) ?_
          exact jD false hm Conv.eqK
       ·rcases bt s1 with h33 | h33
        ·replace hm := Az h33 hm
         refine RD hnt (nn 2 (sk 9 (pT :: .no :: []))) [79] [(6,pB true)] [] [] (an4 h33 (an6 h33 tv)) ?_
         exact jD true hm Conv.eqK
        ·replace hm := Ba h33 hm
         obtain ⟨g34,hm⟩ := go1 hm
         refine RD hnt (nn 11 (pF :: .no :: [])) [79] [(6,pB ((c56e4 p0 k1).id == (Dt p0 p1).parent))] [] [] (an4 h33 (an g34.1 (an g34.2 (an6 h33 tv)))) ?_
         exact jD ((c56e4 p0 k1).id == (Dt p0 p1).parent) hm Conv.eqK
      ·intro h32
       have hge1 : ¬ k1 < p1 := by have := of_decide_eq_false h32; omega
       have hm := he1 hge1
       unfold Abk at hm
       refine DW.exit ?_
       refine Aj ?_
       refine Aq ?_
       refine Af ?_
       show DW _ _ _ _ _
       refine Sq (RK hnt (nn 2 []) [(4,pB s1)] [] tv ?_)
       obtain rfl := sj hm
       exact DW.ret (Am [] [] (pB s1))
    ·rcases bt (decide ((Dt p0 p1).id ≤ (p0.nodes.getD (Int.toNat (w64 (p1 - 1))) Br).id)) with h16 | h16
     ·replace hm := Az h16 hm
      refine RD hnt (nn 11 (sk 4 (pT :: []))) [42] [(76,pB true)] [] [] (an g15.1 (an g15.2 (an5 h16 tv))) ?_
      exact jD true hm Conv.eqK
     ·replace hm := Ba h16 hm
      obtain ⟨r17,hr17,hm⟩ := bo hm
      refine RD hnt (nn 13 (o57 [] true r17 :: .no :: pF :: [])) [42] [(76,pB (!r17))] [] [] (an g15.1 (an g15.2 (an3 h16 (an (Xm (Dt p0 p1).name r17 hr17) (an2 h16 tv))))) ?_
      exact jD (!r17) hm Conv.eqK
abbrev o56 (ks : List Nat) (b : Bool) (RES : Bool) : Orc := .call 79 ks b (pB RES) [] []

theorem Abg (p0 : Aa) (p1 : Int) (RES : List Int) (hm : Ul p0 p1 = some RES) : Spec Try.prog 80 [.p (.agg (Ab p0)),pI p1] [] (ow 0 RES.length) [] [roI RES] := by
 unfold Ul at hm
 refine SO Try.func80 rfl rfl [(0,.p (.agg (Ab p0))),(1,pI p1)] [] ?_
 intro cx hnt
 refine Sq (RK hnt (nn 2 []) [(1,pI p1),(2,rr 1016)] [(1016,bx (pm (Ab p0)))] tv ?_)
 refine Sq (RD hnt (.no :: []) [] [(5,.p (.sl .nil 0 0 (fun _ => [])))] [] [] tv ?_)
 refine Sq (Sq (RD hnt (nn 5 []) [] [(6,pI (w64 (((p0.nodes.length : Nat) : Int) - 1)))] [] [] tv ?_))
 refine Bk ?_
 refine DW.whileO (fun (s1 : (List Int) × Int × Int) => Ai [(1,pI s1.2.1),(2,rr 1016),(5,ow 1208 s1.1.length),(6,pI s1.2.2)] [(1016,bx (pm (Ab p0))),(1208,ob0 (roI s1.1))]) hm (Conv.ads [(.s 5,1208,1,elems Bm 0 [])]) ?_
 intro s1 n1 hm
 unfold Aah at hm
 refine Sq (Sq (RD hnt (nn 2 []) [] [(12,pB (decide (s1.2.2 ≥ 0)))] [] [] tv ?_))
 refine Ak hm ?_ ?_
 ·intro h5 hm
  refine Sk ?_
  refine Sq ?_
  refine Jn (ι := (List Int) × Int) (fun (y2 : (List Int) × Int) => Ai [(1,pI y2.2),(2,rr 1016),(5,ow 1208 y2.1.length),(6,pI s1.2.2)] [(1016,bx (pm (Ab p0))),(1208,ob0 (roI y2.1))]) (fun y2 => (Px s1 n1) y2 = some RES) ?_ ?_
  ·intro y2 hm
   unfold Px at hm
   refine RD hnt (nn 3 []) [] [(6,pI (w64 (s1.2.2 - 1)))] [] [] tv ?_
   exact jD (y2.1,y2.2,(w64 (s1.2.2 - 1))) hm Conv.eqK
  ·refine Bk ?_
   obtain ⟨g6,hm⟩ := go1 hm
   refine Sq (RD hnt (nn 8 []) [12] [(22,pB ((p0.nodes.getD (Int.toNat s1.2.2) Br).id == s1.2.1))] [] [] (an g6.1 (an g6.2 tv)) ?_)
   refine Ak hm ?_ ?_
   ·intro h7 hm
    obtain ⟨g8,hm⟩ := go1 hm
    refine Sq (RN hnt (nn 5 []) [(2,rr 1016),(5,ow 1208 (s1.1 ++ [s1.2.1]).length),(6,pI s1.2.2)] [(1016,bx (pm (Ab p0))),(1208,ob0 (roI (s1.1 ++ [s1.2.1])))] [(5,ow 1208 (s1.1.length + 1))] [(1208,.row 1 (s1.1.length + 1) (Da s1.1.length (elI s1.1) (cut 1 [vi s1.2.1])))] (an (by omega : (s1.1.length + 1) * 8 ≤ 140737488355328) tv) (by kernel_rfl) (.cons rfl (MLe.ownLen (enc := Bm) (d := 0) (f := (Da s1.1.length (elI s1.1) (cut 1 [vi s1.2.1]))) (RowIs.cat RowIs.elems (RowIs.lit (enc := Bm) (d := 0) (n := 1) (f := (cut 1 [vi s1.2.1])) [s1.2.1] rfl (fun | 0,_ => rfl | n + 1,h => absurd h (by omega))))) .nil) (.cons rfl (BLe.typed (RowIs.cat RowIs.elems (RowIs.lit (enc := Bm) (d := 0) (n := 1) (f := (cut 1 [vi s1.2.1])) [s1.2.1] rfl (fun | 0,_ => rfl | n + 1,h => absurd h (by omega))))) .nil) ?_)
    obtain ⟨g9,hm⟩ := go1 hm
    refine RD hnt (nn 7 []) [] [(1,pI (p0.nodes.getD (Int.toNat s1.2.2) Br).parent)] [] [] (an g9.1 (an g9.2 tv)) ?_
    exact bD ((s1.1 ++ [s1.2.1]),(p0.nodes.getD (Int.toNat s1.2.2) Br).parent) hm Conv.eqK
   ·intro h7 hm
    refine Sk ?_
    exact bD (s1.1,s1.2.1) hm Conv.t0
 ·intro h5 hm
  refine DW.exit ?_
  refine Aj ?_
  refine Aq ?_
  refine Af ?_
  show DW _ _ _ _ _
  refine Sq (RK hnt (nn 2 []) [(4,ow 1208 s1.1.length)] [(1208,ob0 (roI s1.1))] tv ?_)
  obtain rfl := sj hm
  exact DW.ret (Am [roI s1.1] [1208] (ow 0 s1.1.length))
abbrev o58 (ks : List Nat) (b : Bool) (RES : List Int) : Orc := .call 80 ks b (ow 0 RES.length) [] [roI RES]

abbrev c55e1 (p0 : Aa) : Nat × MV := (3,pI ((p0.nodes.length : Nat) : Int))
theorem Hv (p0 : Aa) (RES : Bool) (hm : He p0 = some RES) : Spec Try.prog 54 [.p (.agg (Ab p0))] [] (pB RES) [] [] := by
 unfold He at hm
 refine SO Try.func54 rfl rfl [(0,.p (.agg (Ab p0)))] [] ?_
 intro cx hnt
 refine Sq (RK hnt (nn 2 []) [(1,rr 1008)] [(1008,bx (pm (Ab p0)))] tv ?_)
 refine Sq (RD hnt (nn 4 []) [] [(c55e1 p0)] [] [] tv ?_)
 refine Sq (Sq (DW.regJ (sl2 := [(1,rr 1008),(c55e1 p0),(14,pB ((decide (((p0.nodes.length : Nat) : Int) < 1)) || (decide (((p0.nodes.length : Nat) : Int) > 64))))]) (ob2 := [(1008,bx (pm (Ab p0)))]) ?_ ?_))
 ·rcases bt (decide (((p0.nodes.length : Nat) : Int) < 1)) with h1 | h1
  ·exact RT hnt (nn 3 (sk 2 (pT :: []))) [(14,pB true)] (an3 h1 tv) (by kernel_rfl) (.cons rfl (.of_eq (by rw [h1]; try rfl)) .nil)
  ·exact RT hnt (nn 5 (pF :: [])) [(14,pB (decide (((p0.nodes.length : Nat) : Int) > 64)))] (an3 h1 tv) (by kernel_rfl) (.cons rfl (.of_eq (by rw [h1]; try rfl)) .nil)
 ·refine Ak hm ?_ ?_
  ·intro h2 hm
   refine Sq (RK hnt (.no :: []) [(2,pB false)] [] tv ?_)
   obtain rfl := sj hm
   exact DW.ret (Am [] [] (pB false))
  ·intro h2 hm
   refine Sk ?_
   refine Sq (Sq (RD hnt (.no :: []) [14] [(4,pI 0)] [] [] tv ?_))
   refine Bk ?_
   obtain ⟨hc1,hm⟩ := go1 hm
   refine DW.rangeO (fun (k1 : Nat) (s1 : Unit) => Ai [(1,rr 1008),(c55e1 p0),(4,pI ((k1 : Nat) : Int))] [(1008,bx (pm (Ab p0)))]) Br hm Conv.eqK ?_
   intro k1 s1 n1 hk1 hs1 he1
   refine Sq (Sq (RD hnt (nn 3 []) [] [(17,pB (decide (((k1 : Nat) : Int) < ((p0.nodes.length : Nat) : Int))))] [] [] tv ?_))
   refine Ch (decide (((k1 : Nat) : Int) < ((p0.nodes.length : Nat) : Int))) ?_ ?_
   ·intro h32
    have hlt1 : k1 < p0.nodes.length := by have := of_decide_eq_true h32; omega
    have hm := hs1 hlt1
    unfold Vf at hm
    refine Sk ?_
    refine Sq (Bk ?_)
    obtain ⟨r33,hr33,hm⟩ := bo hm
    refine Sq (RD hnt (nn 2 (o56 [] true r33 :: .no :: [])) [17] [(23,pB (!r33))] [] [] (an (Adp p0 ((k1 : Nat) : Int) r33 hr33) tv) ?_)
    refine Ak hm ?_ ?_
    ·intro h34 hm
     refine Sq (RK hnt (.no :: []) [(2,pB false)] [] tv ?_)
     obtain rfl := sj hm
     exact DW.ret (Am [] [] (pB false))
    ·intro h34 hm
     refine Sk ?_
     refine DW.done ?_
     show DW _ _ _ _ _
     refine RD hnt (nn 3 []) [23] [(4,pI (w64 (((k1 : Nat) : Int) + 1)))] [] [] tv ?_
     exact jD () ⟨hlt1,hm⟩ (Conv.tp [(4,pI (w64 (((k1 : Nat) : Int) + 1)))] [] (by kernel_rfl) (.cons rfl (.of_eq (congrArg pI (Bj hlt1 hc1))) .nil) .nil)
   ·intro h32
    have hge1 : ¬ k1 < p0.nodes.length := by have := of_decide_eq_false h32; omega
    have hm := he1 hge1
    unfold Ur at hm
    refine DW.exit ?_
    refine Aj ?_
    refine Aq ?_
    refine Af ?_
    show DW _ _ _ _ _
    refine Sq (Sq (RD hnt (.no :: []) [4,17] [(5,pI 0)] [] [] tv ?_))
    refine Bk ?_
    obtain ⟨hc4,hm⟩ := go1 hm
    refine DW.rangeO (fun (k4 : Nat) (s4 : Unit) => Ai [(1,rr 1008),(c55e1 p0),(5,pI ((k4 : Nat) : Int))] [(1008,bx (pm (Ab p0)))]) Br hm Conv.eqK ?_
    intro k4 s4 n4 hk4 hs4 he4
    refine Sq (Sq (RD hnt (nn 3 []) [] [(26,pB (decide (((k4 : Nat) : Int) < ((p0.nodes.length : Nat) : Int))))] [] [] tv ?_))
    refine Ch (decide (((k4 : Nat) : Int) < ((p0.nodes.length : Nat) : Int))) ?_ ?_
    ·intro h49
     have hlt4 : k4 < p0.nodes.length := by have := of_decide_eq_true h49; omega
     have hm := hs4 hlt4
     unfold Ux at hm
     refine Sk ?_
     refine Sq (Bk ?_)
     obtain ⟨r50,hr50,hm⟩ := bo hm
     refine Sq (RD hnt (nn 7 (o58 [] true r50 :: nn 2 [])) [26] [(38,pB (decide (((r50.length : Nat) : Int) > 9)))] [] [] (an (nn0 k4) (an (ltc hlt4) (an (Abg p0 (p0.nodes.getD k4 (default : Ac)).id r50 hr50) tv))) ?_)
     refine Ak hm ?_ ?_
     ·intro h51 hm
      refine Sq (RK hnt (.no :: []) [(2,pB false)] [] tv ?_)
      obtain rfl := sj hm
      exact DW.ret (Am [] [] (pB false))
     ·intro h51 hm
      refine Sk ?_
      refine DW.done ?_
      show DW _ _ _ _ _
      refine RD hnt (nn 3 []) [38] [(5,pI (w64 (((k4 : Nat) : Int) + 1)))] [] [] tv ?_
      exact jD () ⟨hlt4,hm⟩ (Conv.tp [(5,pI (w64 (((k4 : Nat) : Int) + 1)))] [] (by kernel_rfl) (.cons rfl (.of_eq (congrArg pI (Bj hlt4 hc4))) .nil) .nil)
    ·intro h49
     have hge4 : ¬ k4 < p0.nodes.length := by have := of_decide_eq_false h49; omega
     have hm := he4 hge4
     unfold Uq at hm
     refine DW.exit ?_
     refine Aj ?_
     refine Aq ?_
     refine Af ?_
     show DW _ _ _ _ _
     obtain ⟨g52,hm⟩ := go1 hm
     refine Sq ?_
     refine Jn (ι := Bool) (fun (y7 : Bool) => Ai [(2,pB y7)] []) (fun y7 => Nk y7 = some RES) ?_ ?_
     ·intro y7 hm
      unfold Nk at hm
      obtain rfl := sj hm
      exact DW.ret (Am [] [] (pB y7))
     ·rcases bt (decide (p0.next > (p0.nodes.getD (Int.toNat (w64 (((p0.nodes.length : Nat) : Int) - 1))) Br).id)) with h53 | h53
      ·replace hm := Az h53 hm
       refine RK hnt (nn 14 (pT :: .no :: [])) [(2,pB (decide (p0.next ≤ 2147483648)))] [] (an g52.1 (an g52.2 (an4 h53 tv))) ?_
       exact jD (decide (p0.next ≤ 2147483648)) hm .refl
      ·replace hm := Ba h53 hm
       refine RK hnt (nn 11 (sk 3 (pF :: .no :: []))) [(2,pB false)] [] (an g52.1 (an g52.2 (an4 h53 tv))) ?_
       exact jD false hm .refl
abbrev o55 (ks : List Nat) (b : Bool) (RES : Bool) : Orc := .call 54 ks b (pB RES) [] []

theorem Za (p0 : Aa) (p1 : Int) (RES : Ac × Bool) (hm : Jd p0 p1 = some RES) : Spec Try.prog 81 [.p (.agg (Ab p0)),pI p1] [] (.p (.tup [.agg (Ax RES.1),vb RES.2])) [] [] := by
 unfold Jd at hm
 refine SO Try.func81 rfl rfl [(0,.p (.agg (Ab p0))),(1,pI p1)] [] ?_
 intro cx hnt
 refine Sq (RK hnt (nn 3 []) [(1,pI p1),(2,rr 1016),(4,rr 1032)] [(1016,bx (pm (Ab p0))),(1032,bx [pI 0,pI 0,pS ByteArray.empty,pI 0,pI 0,pI 0])] tv ?_)
 obtain ⟨r1,hr1,hm⟩ := bo hm
 refine Sq (Sq (RD hnt (.no :: o55 [] true r1 :: .no :: []) [] [(9,pB (!r1))] [] [] (an (Hv p0 r1 hr1) tv) ?_))
 refine Ak hm ?_ ?_
 ·intro h2 hm
  refine Sq (RD hnt (nn 3 []) [1,2,9] [(5,pB false)] [1016] [] tv ?_)
  obtain rfl := sj hm
  exact DW.ret (Am [] [] (.p (.tup [.agg [vi 0,vi 0,vs ByteArray.empty,vi 0,vi 0,vi 0],vb false])))
 ·intro h2 hm
  refine Sk ?_
  refine Sq (Sq (RD hnt (.no :: []) [9] [(6,pI 0)] [] [] tv ?_))
  refine Bk ?_
  obtain ⟨hc1,hm⟩ := go1 hm
  refine DW.rangeO (fun (k1 : Nat) (s1 : Unit) => Ai [(1,pI p1),(2,rr 1016),(4,rr 1032),(6,pI ((k1 : Nat) : Int))] [(1016,bx (pm (Ab p0))),(1032,bx [pI 0,pI 0,pS ByteArray.empty,pI 0,pI 0,pI 0])]) Br hm Conv.eqK ?_
  intro k1 s1 n1 hk1 hs1 he1
  refine Sq (Sq (RD hnt (nn 5 []) [] [(15,pB (decide (((k1 : Nat) : Int) < ((p0.nodes.length : Nat) : Int))))] [] [] tv ?_))
  refine Ch (decide (((k1 : Nat) : Int) < ((p0.nodes.length : Nat) : Int))) ?_ ?_
  ·intro h11
   have hlt1 : k1 < p0.nodes.length := by have := of_decide_eq_true h11; omega
   have hm := hs1 hlt1
   unfold Abu at hm
   refine Sk ?_
   refine Sq (Bk ?_)
   refine Sq (RD hnt (nn 8 []) [15] [(25,pB ((p0.nodes.getD k1 (default : Ac)).id == p1))] [] [] (an (nn0 k1) (an (ltc hlt1) tv)) ?_)
   refine Ak hm ?_ ?_
   ·intro h12 hm
    refine Sq (RK hnt (nn 7 []) [(4,rr 1032),(5,pB true)] [(1032,bx (pm (Ax (p0.nodes.getD k1 (default : Ac)))))] (an (nn0 k1) (an (ltc hlt1) tv)) ?_)
    obtain rfl := sj hm
    exact DW.ret (Am [] [] (.p (.tup [.agg (Ax (p0.nodes.getD k1 (default : Ac))),vb true])))
   ·intro h12 hm
    refine Sk ?_
    refine DW.done ?_
    show DW _ _ _ _ _
    refine RD hnt (nn 3 []) [25] [(6,pI (w64 (((k1 : Nat) : Int) + 1)))] [] [] tv ?_
    exact jD () ⟨hlt1,hm⟩ (Conv.tp [(6,pI (w64 (((k1 : Nat) : Int) + 1)))] [] (by kernel_rfl) (.cons rfl (.of_eq (congrArg pI (Bj hlt1 hc1))) .nil) .nil)
  ·intro h11
   have hge1 : ¬ k1 < p0.nodes.length := by have := of_decide_eq_false h11; omega
   have hm := he1 hge1
   unfold Abs at hm
   refine DW.exit ?_
   refine Aj ?_
   refine Aq ?_
   refine Af ?_
   show DW _ _ _ _ _
   refine Sq (RD hnt (nn 3 []) [1,2,6,15] [(5,pB false)] [1016] [] tv ?_)
   obtain rfl := sj hm
   exact DW.ret (Am [] [] (.p (.tup [.agg [vi 0,vi 0,vs ByteArray.empty,vi 0,vi 0,vi 0],vb false])))
abbrev o60 (ks : List Nat) (b : Bool) (RES : Ac × Bool) : Orc := .call 81 ks b (.p (.tup [.agg (Ax RES.1),vb RES.2])) [] []

theorem Bq (p0 : Aa) (p1 : Int) (RES : Bool) (hm : Hg p0 p1 = some RES) : Spec Try.prog 56 [.p (.agg (Ab p0)),pI p1] [] (pB RES) [] [] := by
 unfold Hg at hm
 refine SO Try.func56 rfl rfl [(0,.p (.agg (Ab p0))),(1,pI p1)] [] ?_
 intro cx hnt
 refine Sq (RK hnt (nn 2 []) [(1,pI p1),(2,rr 1016)] [(1016,bx (pm (Ab p0)))] tv ?_)
 obtain ⟨r1,hr1,hm⟩ := bo hm
 refine Sq (RK hnt (nn 2 (o60 [] true r1 :: nn 6 [])) [(6,pB r1.2)] [] (an (Za p0 p1 r1 hr1) tv) ?_)
 refine Sq (RK hnt (nn 2 []) [(4,pB r1.2)] [] tv ?_)
 obtain rfl := sj hm
 exact DW.ret (Am [] [] (pB r1.2))
abbrev o59 (ks : List Nat) (b : Bool) (RES : Bool) : Orc := .call 56 ks b (pB RES) [] []

theorem Sf (p0 : Aa) (p1 : Int) (RES : List Int) (hm : Ji p0 p1 = some RES) : Spec Try.prog 82 [.p (.agg (Ab p0)),pI p1] [] (ow 0 RES.length) [] [roI RES] := by
 unfold Ji at hm
 refine SO Try.func82 rfl rfl [(0,.p (.agg (Ab p0))),(1,pI p1)] [] ?_
 intro cx hnt
 refine Sq (RK hnt (nn 2 []) [(1,pI p1),(2,rr 1016)] [(1016,bx (pm (Ab p0)))] tv ?_)
 obtain ⟨r1,hr1,hm⟩ := bo hm
 refine Sq (Sq (RD hnt (nn 2 (o59 [] true r1 :: .no :: [])) [] [(8,pB (!r1))] [] [] (an (Bq p0 p1 r1 hr1) tv) ?_))
 refine Ak hm ?_ ?_
 ·intro h2 hm
  refine Sq (RK hnt (.no :: []) [(4,.p (.sl .nil 0 0 (fun _ => [])))] [] tv ?_)
  refine DW.cv [] [(4,ow 100000 0)] [] [(100000,ob0 (roI []))] (Conv.ads [(.s 4,100000,1,elems Bm 0 [])]) ?_
  obtain rfl := sj hm
  exact DW.ret (Am [roI []] [100000] (ow 0 0))
 ·intro h2 hm
  refine Sk ?_
  obtain ⟨r3,hr3,hm⟩ := bo hm
  refine Sq (RK hnt (nn 2 (o58 [] true r3 :: .no :: [])) [(4,ow 1088 r3.length)] [(1088,ob0 (roI r3))] (an (Abg p0 p1 r3 hr3) tv) ?_)
  obtain rfl := sj hm
  exact DW.ret (Am [roI r3] [1088] (ow 0 r3.length))
abbrev o62 (ks : List Nat) (b : Bool) (RES : List Int) : Orc := .call 82 ks b (ow 0 RES.length) [] [roI RES]

theorem Ro (p0 : Aa) (p1 : Int) (RES : Int) (hm : Qp p0 p1 = some RES) : Spec Try.prog 57 [.p (.agg (Ab p0)),pI p1] [] (pI RES) [] [] := by
 unfold Qp at hm
 refine SO Try.func57 rfl rfl [(0,.p (.agg (Ab p0))),(1,pI p1)] [] ?_
 intro cx hnt
 refine Sq (RK hnt (nn 2 []) [(1,pI p1),(2,rr 1016)] [(1016,bx (pm (Ab p0)))] tv ?_)
 obtain ⟨r1,hr1,hm⟩ := bo hm
 refine Sq (RK hnt (nn 2 (o62 [] true r1 :: nn 3 [])) [(4,pI (w64 (((r1.length : Nat) : Int) - 1)))] [] (an (Sf p0 p1 r1 hr1) tv) ?_)
 obtain rfl := sj hm
 exact DW.ret (Am [] [] (pI (w64 (((r1.length : Nat) : Int) - 1))))
abbrev o61 (ks : List Nat) (b : Bool) (RES : Int) : Orc := .call 57 ks b (pI RES) [] []

theorem Ada (p0 : Aa) (RES : Aa) (hm : Sh p0 = some RES) : Spec Try.prog 58 [.p (.agg (Ab p0))] [] (.agg [ow 0 RES.nodes.length,pI RES.next]) [] [Bs RES.nodes] := by
 unfold Sh at hm
 refine SO Try.func58 rfl rfl [(0,.p (.agg (Ab p0)))] [] ?_
 intro cx hnt
 refine Sq (RK hnt (nn 2 []) [(1,rr 1008),(2,rr 1016)] [(1008,bx (pm (Ab p0))),(1016,bx [.p (.sl .nil 0 0 (fun _ => [])),pI 0])] tv ?_)
 obtain ⟨g1,hm⟩ := go1 hm
 refine Sq (RN hnt (nn 7 []) [(2,rr 1016)] [(1016,bx [ow 1040 p0.nodes.length,pI p0.next]),(1040,ob0 (Bs p0.nodes))] [] [(1040,.row 6 p0.nodes.length (Xo p0.nodes))] (an (by omega : p0.nodes.length * 56 ≤ 140737488355328) tv) (by kernel_rfl) .nil (.cons rfl (BLe.typed RowIs.elems) .nil) ?_)
 obtain rfl := sj hm
 exact DW.ret (Am [Bs p0.nodes] [1040] (.agg [ow 0 p0.nodes.length,pI p0.next]))
abbrev o63 (ks : List Nat) (b : Bool) (RES : Aa) : Orc := .call 58 ks b (.agg [ow 0 RES.nodes.length,pI RES.next]) [] [Bs RES.nodes]

abbrev Wm (p0 : Aa) (p1 : Int) (p2 : ByteArray) := ({ id := p0.next,parent := p1,name := p2,control := 0,kind := 0,owner := 0 } : Ac)
abbrev Aaz : Nat × Obj := (1048,bx [.p (.sl .nil 0 0 (fun _ => [])),pI 0])
abbrev Aay (p0 : Aa) : Nat × Obj := (1024,bx (pm (Ab p0)))
abbrev c54e4 : Nat × Obj := (1048,bx [ow 100000 0,pI 0])
theorem AdC (p0 : Aa) (p1 : Int) (p2 : ByteArray) (RES : Aa × Int × Int) (hm : Vk p0 p1 p2 = some RES) : Spec Try.prog 28 [.p (.agg (Ab p0)),pI p1,pS p2] [] (.tup [.agg [ow 0 RES.1.nodes.length,pI RES.1.next],pI RES.2.1,pI RES.2.2]) [] [Bs RES.1.nodes] := by
 unfold Vk at hm
 refine SO Try.func28 rfl rfl [(0,.p (.agg (Ab p0))),(1,pI p1),(2,pS p2)] [] ?_
 intro cx hnt
 refine Sq (RD hnt (nn 4 []) [0] [(3,rr 1024),(6,rr 1048)] [] [(Aay p0),(Aaz)] tv ?_)
 obtain ⟨r1,hr1,hm⟩ := bo hm
 refine Sq (Sq ?_)
 refine Jn (ι := Bool) (fun (y1 : Bool) => Ai [(1,pI p1),(2,pS p2),(3,rr 1024),(6,rr 1048),(18,pB y1)] [(Aay p0),(Aaz)]) (fun y1 => (Qh p0 p1 p2) y1 = some RES) ?_ ?_
 ·intro y1 hm
  unfold Qh at hm
  refine Ak hm ?_ ?_
  ·intro h4 hm
   refine Sq (RD hnt (nn 4 []) [1,2,3,18] [(7,pI 0),(8,pI 1)] [1024] [] tv ?_)
   refine DW.cv [] [] [] [(c54e4),(100000,ob0 (Bs []))] (Conv.ads [(.o 1048 0,100000,6,elems Ax Br [])]) ?_
   obtain rfl := sj hm
   exact DW.ret (Am [Bs []] [100000] (.tup [.agg [ow 0 0,pI 0],pI 0,pI 1]))
  ·intro h4 hm
   refine Sk ?_
   obtain ⟨r5,hr5,hm⟩ := bo hm
   refine Sq (Sq (RD hnt (nn 2 (o59 [] true r5 :: .no :: [])) [18] [(23,pB (!r5))] [] [] (an (Bq p0 p1 r5 hr5) tv) ?_))
   refine Ak hm ?_ ?_
   ·intro h6 hm
    refine Sq (RD hnt (nn 4 []) [1,2,3,23] [(7,pI 0),(8,pI 4)] [1024] [] tv ?_)
    refine DW.cv [] [] [] [(c54e4),(100000,ob0 (Bs []))] (Conv.ads [(.o 1048 0,100000,6,elems Ax Br [])]) ?_
    obtain rfl := sj hm
    exact DW.ret (Am [Bs []] [100000] (.tup [.agg [ow 0 0,pI 0],pI 0,pI 4]))
   ·intro h6 hm
    refine Sk ?_
    refine Sq (Sq (RD hnt (.no :: []) [23] [(9,pI 0)] [] [] tv ?_))
    refine Bk ?_
    obtain ⟨hc1,hm⟩ := go1 hm
    refine DW.rangeO (fun (k1 : Nat) (s1 : Unit) => Ai [(1,pI p1),(2,pS p2),(3,rr 1024),(6,rr 1048),(9,pI ((k1 : Nat) : Int))] [(Aay p0),(Aaz)]) Br hm Conv.eqK ?_
    intro k1 s1 n1 hk1 hs1 he1
    refine Sq (Sq (RD hnt (nn 5 []) [] [(29,pB (decide (((k1 : Nat) : Int) < ((p0.nodes.length : Nat) : Int))))] [] [] tv ?_))
    refine Ch (decide (((k1 : Nat) : Int) < ((p0.nodes.length : Nat) : Int))) ?_ ?_
    ·intro h29
     have hlt1 : k1 < p0.nodes.length := by have := of_decide_eq_true h29; omega
     have hm := hs1 hlt1
     unfold Ya at hm
     refine Sk ?_
     refine Sq (Bk ?_)
     refine Sq (DW.regJ (sl2 := [(1,pI p1),(2,pS p2),(3,rr 1024),(6,rr 1048),(9,pI ((k1 : Nat) : Int)),(49,pB (((p0.nodes.getD k1 (default : Ac)).parent == p1) && (Dl (p0.nodes.getD k1 (default : Ac)).name p2)))]) (ob2 := [(Aay p0),(Aaz)]) ?_ ?_)
     ·rcases bt ((p0.nodes.getD k1 (default : Ac)).parent == p1) with h30 | h30
      ·exact RT hnt (nn 17 (pT :: [])) [(49,pB (Dl (p0.nodes.getD k1 (default : Ac)).name p2))] (an (nn0 k1) (an (ltc hlt1) (an4 h30 (an (nn0 k1) (an (ltc hlt1) (an5 h30 tv)))))) (by kernel_rfl) (.cons rfl (.of_eq (by rw [h30]; try rfl)) .nil)
      ·exact RT hnt (nn 9 (sk 8 (pF :: []))) [(49,pB false)] (an (nn0 k1) (an (ltc hlt1) (an3 h30 (an6 h30 tv)))) (by kernel_rfl) (.cons rfl (.of_eq (by rw [h30]; try rfl)) .nil)
     ·refine Ak hm ?_ ?_
      ·intro h31 hm
       refine Sq (RD hnt (nn 4 []) [1,2,3,9,49] [(7,pI 0),(8,pI 5)] [1024] [] tv ?_)
       refine DW.cv [] [] [] [(c54e4),(100000,ob0 (Bs []))] (Conv.ads [(.o 1048 0,100000,6,elems Ax Br [])]) ?_
       obtain rfl := sj hm
       exact DW.ret (Am [Bs []] [100000] (.tup [.agg [ow 0 0,pI 0],pI 0,pI 5]))
      ·intro h31 hm
       refine Sk ?_
       refine DW.done ?_
       show DW _ _ _ _ _
       refine RD hnt (nn 3 []) [49] [(9,pI (w64 (((k1 : Nat) : Int) + 1)))] [] [] tv ?_
       exact jD () ⟨hlt1,hm⟩ (Conv.tp [(9,pI (w64 (((k1 : Nat) : Int) + 1)))] [] (by kernel_rfl) (.cons rfl (.of_eq (congrArg pI (Bj hlt1 hc1))) .nil) .nil)
    ·intro h29
     have hge1 : ¬ k1 < p0.nodes.length := by have := of_decide_eq_false h29; omega
     have hm := he1 hge1
     unfold Yt at hm
     refine DW.exit ?_
     refine Aj ?_
     refine Aq ?_
     refine Af ?_
     show DW _ _ _ _ _
     obtain ⟨r32,hr32,hm⟩ := bo hm
     refine Sq (Sq ?_)
     refine Jn (ι := Bool) (fun (y6 : Bool) => Ai [(1,pI p1),(2,pS p2),(3,rr 1024),(6,rr 1048),(65,pB y6)] [(Aay p0),(Aaz)]) (fun y6 => (Lm p0 p1 p2) y6 = some RES) ?_ ?_
     ·intro y6 hm
      unfold Lm at hm
      refine Ak hm ?_ ?_
      ·intro h35 hm
       refine Sq (RD hnt (nn 4 []) [1,2,3,65] [(7,pI 0),(8,pI 7)] [1024] [] tv ?_)
       refine DW.cv [] [] [] [(c54e4),(100000,ob0 (Bs []))] (Conv.ads [(.o 1048 0,100000,6,elems Ax Br [])]) ?_
       obtain rfl := sj hm
       exact DW.ret (Am [Bs []] [100000] (.tup [.agg [ow 0 0,pI 0],pI 0,pI 7]))
      ·intro h35 hm
       refine Sk ?_
       obtain ⟨r36,hr36,hm⟩ := bo hm
       refine Sq (RD hnt (.no :: o63 [] true r36 :: nn 2 []) [65] [(10,rr 1080)] [] [(1080,bx [ow 1544 r36.nodes.length,pI r36.next]),(1544,ob0 (Bs r36.nodes))] (an (Ada p0 r36 hr36) tv) ?_)
       obtain ⟨g37,hm⟩ := go1 hm
       refine Sq (RN hnt (nn 11 []) [(3,rr 1024),(6,rr 1048),(10,rr 1080)] [(Aay p0),(Aaz),(1080,bx [ow 1544 (r36.nodes ++ [(Wm p0 p1 p2)]).length,pI r36.next]),(1544,ob0 (Bs (r36.nodes ++ [(Wm p0 p1 p2)])))] [] [(1080,.box [ow 1544 (r36.nodes.length + 1),pI r36.next]),(1544,.row 6 (r36.nodes.length + 1) (Da r36.nodes.length (Xo r36.nodes) (cut 6 [vi p0.next,vi p1,vs p2,vi 0,vi 0,vi 0])))] (an (by omega : (r36.nodes.length + 1) * 56 ≤ 140737488355328) tv) (by kernel_rfl) .nil (.cons rfl (.box (.cons (MLe.ownLen (enc := Ax) (d := Br) (f := (Da r36.nodes.length (Xo r36.nodes) (cut 6 [vi p0.next,vi p1,vs p2,vi 0,vi 0,vi 0]))) (RowIs.cat RowIs.elems (RowIs.lit (enc := Ax) (d := Br) (n := 1) (f := (cut 6 [vi p0.next,vi p1,vs p2,vi 0,vi 0,vi 0])) [(Wm p0 p1 p2)] rfl (fun | 0,_ => rfl | n + 1,h => absurd h (by omega))))) (.cons .rfl .nil))) (.cons rfl (BLe.typed (RowIs.cat RowIs.elems (RowIs.lit (enc := Ax) (d := Br) (n := 1) (f := (cut 6 [vi p0.next,vi p1,vs p2,vi 0,vi 0,vi 0])) [(Wm p0 p1 p2)] rfl (fun | 0,_ => rfl | n + 1,h => absurd h (by omega))))) .nil)) ?_)
       refine Sq (RD hnt (nn 5 []) [] [] [] [(1080,bx [ow 1544 (r36.nodes ++ [(Wm p0 p1 p2)]).length,pI (w64 (r36.next + 1))])] tv ?_)
       refine Sq (RD hnt (nn 6 []) [3,10] [(7,pI p0.next),(8,pI 0)] [1024,1080] [(1048,bx [ow 1544 (r36.nodes ++ [(Wm p0 p1 p2)]).length,pI (w64 (r36.next + 1))])] tv ?_)
       obtain rfl := sj hm
       exact DW.ret (Am [Bs (r36.nodes ++ [(Wm p0 p1 p2)])] [1544] (.tup [.agg [ow 0 (r36.nodes ++ [(Wm p0 p1 p2)]).length,pI (w64 (r36.next + 1))],pI p0.next,pI 0]))
     ·rcases bt (decide (r32 ≥ 8)) with h33 | h33
      ·replace hm := Az h33 hm
       refine RD hnt (nn 2 (o61 [] true r32 :: nn 2 (sk 4 (pT :: .no :: sk 3 (pT :: []))))) [9,29] [(65,pB true)] [] [] (an (Ro p0 p1 r32 hr32) (an5 h33 (an4 tt tv))) ?_
       exact jD true hm Conv.eqK
      ·replace hm := Ba h33 hm
       rcases bt (decide (((p0.nodes.length : Nat) : Int) ≥ 64)) with h34 | h34
       ·replace hm := Az h34 hm
        refine RD hnt (nn 2 (o61 [] true r32 :: nn 6 (pF :: .no :: sk 3 (pT :: [])))) [9,29] [(65,pB true)] [] [] (an (Ro p0 p1 r32 hr32) (an5 h33 (an4 h34 tv))) ?_
        exact jD true hm Conv.eqK
       ·replace hm := Ba h34 hm
        refine RD hnt (nn 2 (o61 [] true r32 :: nn 6 (pF :: nn 4 (pF :: [])))) [9,29] [(65,pB (decide (p0.next > 2147483647)))] [] [] (an (Ro p0 p1 r32 hr32) (an5 h33 (an4 h34 tv))) ?_
        exact jD (decide (p0.next > 2147483647)) hm Conv.eqK
 ·rcases bt (!r1) with h2 | h2
  ·replace hm := Az h2 hm
   refine RD hnt (.no :: o55 [] true r1 :: nn 2 (sk 3 (pT :: []))) [] [(18,pB true)] [] [] (an (Hv p0 r1 hr1) (an4 h2 tv)) ?_
   exact jD true hm Conv.eqK
  ·replace hm := Ba h2 hm
   obtain ⟨r3,hr3,hm⟩ := bo hm
   refine RD hnt (.no :: o55 [] true r1 :: nn 3 (o57 [] true r3 :: .no :: pF :: [])) [] [(18,pB (!r3))] [] [] (an (Hv p0 r1 hr1) (an2 h2 (an (Xm p2 r3 hr3) (an2 h2 tv)))) ?_
   exact jD (!r3) hm Conv.eqK
abbrev o54 (ks : List Nat) (b : Bool) (RES : Aa × Int × Int) : Orc := .call 28 ks b (.tup [.agg [ow 0 RES.1.nodes.length,pI RES.1.next],pI RES.2.1,pI RES.2.2]) [] [Bs RES.1.nodes]

theorem Nm (p0 : Ao) (p1 : Int) (RES : Bool × Ao) (hm : Jg p0 p1 = some RES) : Spec Try.prog 20 [rr 0,pI p1] [.box (pm (Ap p0))] (pB RES.1) [.box (pm (Ap RES.2))] [] := by
 unfold Jg at hm
 refine SO Try.func20 rfl rfl [(0,rr 0),(1,pI p1)] [(0,bx (pm (Ap p0)))] ?_
 intro cx hnt
 refine Sq (RD hnt (.no :: []) [] [] [] [] tv ?_)
 obtain ⟨r1,hr1,hm⟩ := bo hm
 refine Sq (RK hnt (nn 2 (o52 [0] true r1 :: nn 4 [])) [(4,pB (r1.1 == (w64 (p1 - 1))))] [(0,bx (pm (Ap r1.2)))] (an (Db p0 p1 r1 hr1) (an tv tv)) ?_)
 obtain rfl := sj hm
 exact DW.ret (Am [.box (pm (Ap r1.2))] [] (pB (r1.1 == (w64 (p1 - 1)))))
abbrev o64 (ks : List Nat) (b : Bool) (RES : Bool × Ao) : Orc := .call 20 ks b (pB RES.1) [.box (pm (Ap RES.2))] []

abbrev Rw (p0 : Aa) (k1 : Nat) := (p0.nodes.getD k1 (default : Ac))
theorem Ko (p0 : Aa) (p1 : Int) (RES : List Int) (hm : Gj p0 p1 = some RES) : Spec Try.prog 59 [.p (.agg (Ab p0)),pI p1] [] (ow 0 RES.length) [] [roI RES] := by
 unfold Gj at hm
 refine SO Try.func59 rfl rfl [(0,.p (.agg (Ab p0))),(1,pI p1)] [] ?_
 intro cx hnt
 refine Sq (RK hnt (nn 2 []) [(1,pI p1),(2,rr 1016)] [(1016,bx (pm (Ab p0)))] tv ?_)
 obtain ⟨r1,hr1,hm⟩ := bo hm
 refine Sq (Sq (RD hnt (nn 2 (o59 [] true r1 :: .no :: [])) [] [(10,pB (!r1))] [] [] (an (Bq p0 p1 r1 hr1) tv) ?_))
 refine Ak hm ?_ ?_
 ·intro h2 hm
  refine Sq (RK hnt (.no :: []) [(4,.p (.sl .nil 0 0 (fun _ => [])))] [] tv ?_)
  refine DW.cv [] [(4,ow 100000 0)] [] [(100000,ob0 (roI []))] (Conv.ads [(.s 4,100000,1,elems Bm 0 [])]) ?_
  obtain rfl := sj hm
  exact DW.ret (Am [roI []] [100000] (ow 0 0))
 ·intro h2 hm
  refine Sk ?_
  refine Sq (RD hnt (.no :: []) [10] [(5,.p (.sl .nil 0 0 (fun _ => [])))] [] [] tv ?_)
  refine Sq (Sq (RD hnt (.no :: []) [] [(6,pI 0)] [] [] tv ?_))
  refine Bk ?_
  obtain ⟨hc1,hm⟩ := go1 hm
  refine DW.rangeO (fun (k1 : Nat) (s1 : List Int) => Ai [(1,pI p1),(2,rr 1016),(5,ow 1272 s1.length),(6,pI ((k1 : Nat) : Int))] [(1016,bx (pm (Ab p0))),(1272,ob0 (roI s1))]) Br hm (Conv.ads [(.s 5,1272,1,elems Bm 0 [])]) ?_
  intro k1 s1 n1 hk1 hs1 he1
  refine Sq (Sq (RD hnt (nn 5 []) [] [(15,pB (decide (((k1 : Nat) : Int) < ((p0.nodes.length : Nat) : Int))))] [] [] tv ?_))
  refine Ch (decide (((k1 : Nat) : Int) < ((p0.nodes.length : Nat) : Int))) ?_ ?_
  ·intro h12
   have hlt1 : k1 < p0.nodes.length := by have := of_decide_eq_true h12; omega
   have hm := hs1 hlt1
   unfold Ql at hm
   refine Sk ?_
   refine Sq ?_
   refine Jn (ι := List Int) (fun (y3 : List Int) => Ai [(1,pI p1),(2,rr 1016),(5,ow 1272 y3.length),(6,pI ((k1 : Nat) : Int))] [(1016,bx (pm (Ab p0))),(1272,ob0 (roI y3))]) (fun y3 => (Ke n1) y3 = some RES) ?_ ?_
   ·intro y3 hm
    unfold Ke at hm
    refine RD hnt (nn 3 []) [] [(6,pI (w64 (((k1 : Nat) : Int) + 1)))] [] [] tv ?_
    exact jD y3 ⟨hlt1,hm⟩ (Conv.tp [(6,pI (w64 (((k1 : Nat) : Int) + 1)))] [] (by kernel_rfl) (.cons rfl (.of_eq (congrArg pI (Bj hlt1 hc1))) .nil) .nil)
   ·refine Bk ?_
    refine Sq (RD hnt (nn 8 []) [15] [(25,pB ((Rw p0 k1).parent == p1))] [] [] (an (nn0 k1) (an (ltc hlt1) tv)) ?_)
    refine Ak hm ?_ ?_
    ·intro h13 hm
     obtain ⟨g14,hm⟩ := go1 hm
     refine RN hnt (nn 10 []) [(1,pI p1),(2,rr 1016),(5,ow 1272 (s1 ++ [(Rw p0 k1).id]).length),(6,pI ((k1 : Nat) : Int))] [(1016,bx (pm (Ab p0))),(1272,ob0 (roI (s1 ++ [(Rw p0 k1).id])))] [(5,ow 1272 (s1.length + 1))] [(1272,.row 1 (s1.length + 1) (Da s1.length (elI s1) (cut 1 [vi (Rw p0 k1).id])))] (an (nn0 k1) (an (ltc hlt1) (an (by omega : (s1.length + 1) * 8 ≤ 140737488355328) tv))) (by kernel_rfl) (.cons rfl (MLe.ownLen (enc := Bm) (d := 0) (f := (Da s1.length (elI s1) (cut 1 [vi (Rw p0 k1).id]))) (RowIs.cat RowIs.elems (RowIs.lit (enc := Bm) (d := 0) (n := 1) (f := (cut 1 [vi (Rw p0 k1).id])) [(Rw p0 k1).id] rfl (fun | 0,_ => rfl | n + 1,h => absurd h (by omega))))) .nil) (.cons rfl (BLe.typed (RowIs.cat RowIs.elems (RowIs.lit (enc := Bm) (d := 0) (n := 1) (f := (cut 1 [vi (Rw p0 k1).id])) [(Rw p0 k1).id] rfl (fun | 0,_ => rfl | n + 1,h => absurd h (by omega))))) .nil) ?_
     exact bD (s1 ++ [(Rw p0 k1).id]) hm .refl
    ·intro h13 hm
     refine Sk ?_
     exact bD s1 hm Conv.t0
  ·intro h12
   have hge1 : ¬ k1 < p0.nodes.length := by have := of_decide_eq_false h12; omega
   have hm := he1 hge1
   unfold Wr at hm
   refine DW.exit ?_
   refine Aj ?_
   refine Aq ?_
   refine Af ?_
   show DW _ _ _ _ _
   refine Sq (RK hnt (nn 2 []) [(4,ow 1272 s1.length)] [(1272,ob0 (roI s1))] tv ?_)
   obtain rfl := sj hm
   exact DW.ret (Am [roI s1] [1272] (ow 0 s1.length))
abbrev o66 (ks : List Nat) (b : Bool) (RES : List Int) : Orc := .call 59 ks b (ow 0 RES.length) [] [roI RES]

abbrev Fi (p0 : Aa) (k1 : Nat) := (p0.nodes.getD k1 (default : Ac))
abbrev c65e2 : Nat × Obj := (1032,bx [.p (.sl .nil 0 0 (fun _ => [])),pI 0])
abbrev c65e3 : Nat × Obj := (1032,bx [ow 100000 0,pI 0])
theorem Acb (p0 : Aa) (p1 : Int) (RES : Aa × Int) (hm : Ox p0 p1 = some RES) : Spec Try.prog 30 [.p (.agg (Ab p0)),pI p1] [] (.tup [.agg [ow 0 RES.1.nodes.length,pI RES.1.next],pI RES.2]) [] [Bs RES.1.nodes] := by
 unfold Ox at hm
 refine SO Try.func30 rfl rfl [(0,.p (.agg (Ab p0))),(1,pI p1)] [] ?_
 intro cx hnt
 refine Sq (RK hnt (nn 3 []) [(1,pI p1),(2,rr 1016),(4,rr 1032)] [(1016,bx (pm (Ab p0))),(c65e2)] tv ?_)
 refine Sq (Bk ?_)
 obtain ⟨r1,hr1,hm⟩ := bo hm
 refine Sq (RD hnt (.no :: o55 [] true r1 :: nn 2 []) [] [(8,pB (!r1))] [] [] (an (Hv p0 r1 hr1) tv) ?_)
 refine Ak hm ?_ ?_
 ·intro h2 hm
  refine Sq (RD hnt (nn 3 []) [1,2,8] [(5,pI 1)] [1016] [] tv ?_)
  refine DW.cv [] [] [] [(c65e3),(100000,ob0 (Bs []))] (Conv.ads [(.o 1032 0,100000,6,elems Ax Br [])]) ?_
  obtain rfl := sj hm
  exact DW.ret (Am [Bs []] [100000] (.tup [.agg [ow 0 0,pI 0],pI 1]))
 ·intro h2 hm
  obtain ⟨r3,hr3,hm⟩ := bo hm
  refine Sq (RD hnt (nn 2 (o59 [] true r3 :: nn 2 [])) [8] [(13,pB (!r3))] [] [] (an (Bq p0 p1 r3 hr3) tv) ?_)
  refine Ak hm ?_ ?_
  ·intro h4 hm
   refine Sq (RD hnt (nn 3 []) [1,2,13] [(5,pI 4)] [1016] [] tv ?_)
   refine DW.cv [] [] [] [(c65e3),(100000,ob0 (Bs []))] (Conv.ads [(.o 1032 0,100000,6,elems Ax Br [])]) ?_
   obtain rfl := sj hm
   exact DW.ret (Am [Bs []] [100000] (.tup [.agg [ow 0 0,pI 0],pI 4]))
  ·intro h4 hm
   refine Sq (RD hnt (nn 3 []) [13] [(19,pB (p1 == 1))] [] [] tv ?_)
   refine Ak hm ?_ ?_
   ·intro h5 hm
    refine Sq (RD hnt (nn 3 []) [1,2,19] [(5,pI 9)] [1016] [] tv ?_)
    refine DW.cv [] [] [] [(c65e3),(100000,ob0 (Bs []))] (Conv.ads [(.o 1032 0,100000,6,elems Ax Br [])]) ?_
    obtain rfl := sj hm
    exact DW.ret (Am [Bs []] [100000] (.tup [.agg [ow 0 0,pI 0],pI 9]))
   ·intro h5 hm
    obtain ⟨r6,hr6,hm⟩ := bo hm
    refine Sq (RD hnt (nn 2 (o66 [] true r6 :: nn 3 [])) [19] [(23,pB (decide (((r6.length : Nat) : Int) > 0)))] [] [] (an (Ko p0 p1 r6 hr6) tv) ?_)
    refine Ak hm ?_ ?_
    ·intro h7 hm
     refine Sq (RD hnt (nn 3 []) [1,2,23] [(5,pI 6)] [1016] [] tv ?_)
     refine DW.cv [] [] [] [(c65e3),(100000,ob0 (Bs []))] (Conv.ads [(.o 1032 0,100000,6,elems Ax Br [])]) ?_
     obtain rfl := sj hm
     exact DW.ret (Am [Bs []] [100000] (.tup [.agg [ow 0 0,pI 0],pI 6]))
    ·intro h7 hm
     refine Sk ?_
     refine DW.done ?_
     show DW _ _ _ _ _
     refine Sq (RD hnt (nn 5 []) [23] [(6,rr 1048)] [] [(1048,bx [.p (.sl .nil 0 0 (fun _ => [])),pI p0.next])] tv ?_)
     refine Sq (Sq (RD hnt (.no :: []) [] [(7,pI 0)] [] [] tv ?_))
     refine Bk ?_
     obtain ⟨hc1,hm⟩ := go1 hm
     refine DW.rangeO (fun (k1 : Nat) (s1 : List Ac) => Ai [(1,pI p1),(2,rr 1016),(4,rr 1032),(6,rr 1048),(7,pI ((k1 : Nat) : Int))] [(1016,bx (pm (Ab p0))),(c65e2),(1048,bx [ow 1448 s1.length,pI p0.next]),(1448,ob0 (Bs s1))]) Br hm (Conv.ads [(.o 1048 0,1448,6,elems Ax Br [])]) ?_
     intro k1 s1 n1 hk1 hs1 he1
     refine Sq (Sq (RD hnt (nn 5 []) [] [(37,pB (decide (((k1 : Nat) : Int) < ((p0.nodes.length : Nat) : Int))))] [] [] tv ?_))
     refine Ch (decide (((k1 : Nat) : Int) < ((p0.nodes.length : Nat) : Int))) ?_ ?_
     ·intro h17
      have hlt1 : k1 < p0.nodes.length := by have := of_decide_eq_true h17; omega
      have hm := hs1 hlt1
      unfold Pk at hm
      refine Sk ?_
      refine Sq ?_
      refine Jn (ι := List Ac) (fun (y3 : List Ac) => Ai [(1,pI p1),(2,rr 1016),(4,rr 1032),(6,rr 1048),(7,pI ((k1 : Nat) : Int))] [(1016,bx (pm (Ab p0))),(c65e2),(1048,bx [ow 1448 y3.length,pI p0.next]),(1448,ob0 (Bs y3))]) (fun y3 => (Lx n1) y3 = some RES) ?_ ?_
      ·intro y3 hm
       unfold Lx at hm
       refine RD hnt (nn 3 []) [] [(7,pI (w64 (((k1 : Nat) : Int) + 1)))] [] [] tv ?_
       exact jD y3 ⟨hlt1,hm⟩ (Conv.tp [(7,pI (w64 (((k1 : Nat) : Int) + 1)))] [] (by kernel_rfl) (.cons rfl (.of_eq (congrArg pI (Bj hlt1 hc1))) .nil) .nil)
      ·refine Bk ?_
       refine Sq (RD hnt (nn 8 []) [37] [(47,pB ((Fi p0 k1).id != p1))] [] [] (an (nn0 k1) (an (ltc hlt1) tv)) ?_)
       refine Ak hm ?_ ?_
       ·intro h18 hm
        obtain ⟨g19,hm⟩ := go1 hm
        refine RN hnt (nn 11 []) [(1,pI p1),(2,rr 1016),(4,rr 1032),(6,rr 1048),(7,pI ((k1 : Nat) : Int))] [(1016,bx (pm (Ab p0))),(c65e2),(1048,bx [ow 1448 (s1 ++ [(Fi p0 k1)]).length,pI p0.next]),(1448,ob0 (Bs (s1 ++ [(Fi p0 k1)])))] [] [(1048,.box [ow 1448 (s1.length + 1),pI p0.next]),(1448,.row 6 (s1.length + 1) (Da s1.length (Xo s1) (cut 6 [vi (Fi p0 k1).id,vi (Fi p0 k1).parent,vs (Fi p0 k1).name,vi (Fi p0 k1).control,vi (Fi p0 k1).kind,vi (Fi p0 k1).owner])))] (an (nn0 k1) (an (ltc hlt1) (an (by omega : (s1.length + 1) * 56 ≤ 140737488355328) tv))) (by kernel_rfl) .nil (.cons rfl (.box (.cons (MLe.ownLen (enc := Ax) (d := Br) (f := (Da s1.length (Xo s1) (cut 6 [vi (Fi p0 k1).id,vi (Fi p0 k1).parent,vs (Fi p0 k1).name,vi (Fi p0 k1).control,vi (Fi p0 k1).kind,vi (Fi p0 k1).owner]))) (RowIs.cat RowIs.elems (RowIs.lit (enc := Ax) (d := Br) (n := 1) (f := (cut 6 [vi (Fi p0 k1).id,vi (Fi p0 k1).parent,vs (Fi p0 k1).name,vi (Fi p0 k1).control,vi (Fi p0 k1).kind,vi (Fi p0 k1).owner])) [(Fi p0 k1)] rfl (fun | 0,_ => rfl | n + 1,h => absurd h (by omega))))) (.cons .rfl .nil))) (.cons rfl (BLe.typed (RowIs.cat RowIs.elems (RowIs.lit (enc := Ax) (d := Br) (n := 1) (f := (cut 6 [vi (Fi p0 k1).id,vi (Fi p0 k1).parent,vs (Fi p0 k1).name,vi (Fi p0 k1).control,vi (Fi p0 k1).kind,vi (Fi p0 k1).owner])) [(Fi p0 k1)] rfl (fun | 0,_ => rfl | n + 1,h => absurd h (by omega))))) .nil)) ?_
        exact bD (s1 ++ [(Fi p0 k1)]) hm .refl
       ·intro h18 hm
        refine Sk ?_
        exact bD s1 hm Conv.t0
     ·intro h17
      have hge1 : ¬ k1 < p0.nodes.length := by have := of_decide_eq_false h17; omega
      have hm := he1 hge1
      unfold Pj at hm
      refine DW.exit ?_
      refine Aj ?_
      refine Aq ?_
      refine Af ?_
      show DW _ _ _ _ _
      refine Sq (RK hnt (nn 3 []) [(4,rr 1032),(5,pI 0)] [(1032,bx [ow 1448 s1.length,pI p0.next]),(1448,ob0 (Bs s1))] tv ?_)
      obtain rfl := sj hm
      exact DW.ret (Am [Bs s1] [1448] (.tup [.agg [ow 0 s1.length,pI p0.next],pI 0]))
abbrev o65 (ks : List Nat) (b : Bool) (RES : Aa × Int) : Orc := .call 30 ks b (.tup [.agg [ow 0 RES.1.nodes.length,pI RES.1.next],pI RES.2]) [] [Bs RES.1.nodes]

abbrev c50e1 : Nat × Obj := (1032,bx [.p (.sl .nil 0 0 (fun _ => [])),pI 0])
theorem Aab (p0 : Ao) (p1 : Int) (RES : Aa × Ao) (hm : Lc p0 p1 = some RES) : Spec Try.prog 8 [rr 0,pI p1] [.box (pm (Ap p0))] (.p (.agg (Ab RES.1))) [.box (pm (Ap RES.2))] [] := by
 unfold Lc at hm
 refine SO Try.func8 rfl rfl [(0,rr 0),(1,pI p1)] [(0,bx (pm (Ap p0)))] ?_
 intro cx hnt
 refine Sq (RD hnt (.no :: []) [] [(4,rr 1032)] [] [(c50e1)] tv ?_)
 obtain ⟨r1,hr1,hm⟩ := bo hm
 refine Sq (RD hnt (o51 [] true r1 :: nn 2 []) [] [(5,rr 1040)] [] [(1040,bx [ow 1104 r1.nodes.length,pI r1.next]),(1104,ob0 (Bs r1.nodes))] (an (AdE r1 hr1) tv) ?_)
 obtain ⟨r2,hr2,hm⟩ := bo hm
 refine Sq (Sq (RD hnt (nn 3 (o52 [0] true r2 :: .no :: [])) [1] [(6,pI r2.1)] [] [(0,bx (pm (Ap r2.2)))] (an (Db p0 (w64 (p1 + 1)) r2 hr2) (an tv tv)) ?_))
 refine Bk ?_
 refine DW.whileO (fun (s1 : Ao × Aa × Int) => Ai [(0,rr 0),(4,rr 1032),(5,rr 1040),(6,pI s1.2.2)] [(0,bx (pm (Ap s1.1))),(c50e1),(1040,bx (pm (Ab s1.2.1)))]) hm (Conv.frz [1104]) ?_
 intro s1 n1 hm
 unfold Ps at hm
 refine Sq (Sq (RD hnt (nn 2 []) [] [(19,pB (decide (s1.2.2 > 0)))] [] [] tv ?_))
 refine Ak hm ?_ ?_
 ·intro h18 hm
  refine Sk ?_
  refine Sq ?_
  refine Jn (ι := Ao × Aa) (fun (y3 : Ao × Aa) => Ai [(0,rr 0),(4,rr 1032),(5,rr 1040),(6,pI s1.2.2)] [(0,bx (pm (Ap y3.1))),(c50e1),(1040,bx (pm (Ab y3.2)))]) (fun y3 => (Gp s1 n1) y3 = some RES) ?_ ?_
  ·intro y3 hm
   unfold Gp at hm
   refine RD hnt (nn 3 []) [] [(6,pI (w64 (s1.2.2 - 1)))] [] [] tv ?_
   exact jD (y3.1,y3.2,(w64 (s1.2.2 - 1))) hm Conv.eqK
  ·refine Bk ?_
   obtain ⟨r19,hr19,hm⟩ := bo hm
   obtain ⟨g20,hm⟩ := go1 hm
   refine Sq (RD hnt (nn 6 (o52 [0] true r19 :: nn 4 [])) [19] [(7,pI (s1.2.1.nodes.getD (Int.toNat r19.1) Br).id)] [] [(0,bx (pm (Ap r19.2)))] (an (Db s1.1 ((s1.2.1.nodes.length : Nat) : Int) r19 hr19) (an tv (an g20.1 (an g20.2 tv)))) ?_)
   obtain ⟨r21,hr21,hm⟩ := bo hm
   obtain ⟨r22,hr22,hm⟩ := bo hm
   refine Sq (Sq (RD hnt (nn 3 (o53 [0] true r21 :: o54 [] true r22 :: nn 8 [])) [7] [(8,rr 1064),(10,pI r22.2.2)] [] [(0,bx (pm (Ap r21.2))),(1064,bx [ow 1296 r22.1.nodes.length,pI r22.1.next]),(1296,ob0 (Bs r22.1.nodes))] (an (Aad r19.2 r21 hr21) (an tv (an (AdC s1.2.1 (s1.2.1.nodes.getD (Int.toNat r19.1) Br).id r21.1 r22 hr22) tv))) ?_))
   refine Sq (RD hnt (nn 2 []) [10] [(42,pB (r22.2.2 == 0))] [] [] tv ?_)
   refine Jn (ι := Aa) (fun (y4 : Aa) => Ai [(0,rr 0),(4,rr 1032),(5,rr 1040),(6,pI s1.2.2)] [(0,bx (pm (Ap r21.2))),(c50e1),(1040,bx (pm (Ab y4)))]) (fun y4 => (Hr s1 n1 r21) y4 = some RES) ?_ ?_
   ·intro y4 hm
    unfold Hr at hm
    obtain ⟨r24,hr24,hm⟩ := bo hm
    refine Sq (RD hnt (.no :: o64 [0] true r24 :: []) [] [(45,pB r24.1)] [] [(0,bx (pm (Ap r24.2)))] (an (Nm r21.2 6 r24 hr24) (an tv tv)) ?_)
    refine Ak hm ?_ ?_
    ·intro h25 hm
     obtain ⟨r26,hr26,hm⟩ := bo hm
     obtain ⟨g27,hm⟩ := go1 hm
     obtain ⟨r28,hr28,hm⟩ := bo hm
     refine Sq (RD hnt (nn 7 (o52 [0] true r26 :: nn 3 (o65 [] true r28 :: nn 6 []))) [45] [(11,rr 1088),(12,pI r28.2)] [] [(0,bx (pm (Ap r26.2))),(1088,bx [ow 1464 r28.1.nodes.length,pI r28.1.next]),(1464,ob0 (Bs r28.1.nodes))] (an (Db r24.2 ((y4.nodes.length : Nat) : Int) r26 hr26) (an tv (an g27.1 (an g27.2 (an (Acb y4 (y4.nodes.getD (Int.toNat r26.1) Br).id r28 hr28) tv))))) ?_)
     refine Sq (RD hnt (nn 2 []) [12] [(62,pB (r28.2 == 0))] [] [] tv ?_)
     refine Ak hm ?_ ?_
     ·intro h29 hm
      refine RD hnt (nn 2 []) [11,62] [] [1088] [(1040,bx [ow 1464 r28.1.nodes.length,pI r28.1.next])] tv ?_
      exact bD (r26.2,r28.1) hm (Conv.frz [1464])
     ·intro h29 hm
      refine Sk ?_
      exact bD (r26.2,y4) hm Conv.t0
    ·intro h25 hm
     refine Sk ?_
     exact bD (r24.2,y4) hm Conv.t0
   ·refine Ak hm ?_ ?_
    ·intro h23 hm
     refine RD hnt (nn 2 []) [8,42] [] [1064] [(1040,bx [ow 1296 r22.1.nodes.length,pI r22.1.next])] tv ?_
     exact jD r22.1 hm (Conv.frz [1296])
    ·intro h23 hm
     refine Sk ?_
     exact jD s1.2.1 hm Conv.t0
 ·intro h18 hm
  refine DW.exit ?_
  refine Aj ?_
  refine Aq ?_
  refine Af ?_
  show DW _ _ _ _ _
  refine Sq (RD hnt (nn 2 []) [0,5,6,19] [] [1040] [(1032,bx (pm (Ab s1.2.1)))] tv ?_)
  obtain rfl := sj hm
  exact DW.ret (Am [.box (pm (Ap s1.1))] [] (.p (.agg (Ab s1.2.1))))
abbrev o50 (ks : List Nat) (b : Bool) (RES : Aa × Ao) : Orc := .call 8 ks b (.p (.agg (Ab RES.1))) [.box (pm (Ap RES.2))] []

theorem Fb (p0 : Ao) (p1 : List Int) (RES : Int × Ao) (hm : Ep p0 p1 = some RES) : Spec Try.prog 12 [rr 0,.p (slI p1)] [.box (pm (Ap p0))] (pI RES.1) [.box (pm (Ap RES.2))] [] := by
 unfold Ep at hm
 refine SO Try.func12 rfl rfl [(0,rr 0),(1,.p (slI p1))] [(0,bx (pm (Ap p0)))] ?_
 intro cx hnt
 refine Sq (RD hnt (.no :: []) [] [] [] [] tv ?_)
 obtain ⟨r1,hr1,hm⟩ := bo hm
 obtain ⟨g2,hm⟩ := go1 hm
 refine Sq (RK hnt (nn 4 (o52 [0] true r1 :: nn 3 [])) [(4,pI (p1.getD (Int.toNat r1.1) 0))] [(0,bx (pm (Ap r1.2)))] (an (Db p0 ((p1.length : Nat) : Int) r1 hr1) (an tv (an g2.1 (an g2.2 tv)))) ?_)
 obtain rfl := sj hm
 exact DW.ret (Am [.box (pm (Ap r1.2))] [] (pI (p1.getD (Int.toNat r1.1) 0)))
abbrev o68 (ks : List Nat) (b : Bool) (RES : Int × Ao) : Orc := .call 12 ks b (pI RES.1) [.box (pm (Ap RES.2))] []

abbrev Ob (p1 : List Ah) (k1 : Nat) := (p1.getD k1 (default : Ah))
theorem Aba (p0 : Aa) (p1 : List Ah) (p2 : Int) (RES : Bool) (hm : Ir p0 p1 p2 = some RES) : Spec Try.prog 83 [.p (.agg (Ab p0)),.p (An p1),pI p2] [] (pB RES) [] [] := by
 unfold Ir at hm
 refine SO Try.func83 rfl rfl [(0,.p (.agg (Ab p0))),(1,.p (An p1)),(2,pI p2)] [] ?_
 intro cx hnt
 refine Sq (RD hnt (nn 2 []) [0] [(3,rr 1024)] [] [(1024,bx (pm (Ab p0)))] tv ?_)
 refine Sq (Sq (RD hnt (.no :: []) [] [(7,pI 0)] [] [] tv ?_))
 refine Bk ?_
 obtain ⟨hc1,hm⟩ := go1 hm
 refine DW.rangeO (fun (k1 : Nat) (s1 : Unit) => Ai [(1,.p (An p1)),(2,pI p2),(3,rr 1024),(7,pI ((k1 : Nat) : Int))] [(1024,bx (pm (Ab p0)))]) Cv hm Conv.eqK ?_
 intro k1 s1 n1 hk1 hs1 he1
 refine Sq (Sq (RD hnt (nn 4 []) [] [(11,pB (decide (((k1 : Nat) : Int) < ((p1.length : Nat) : Int))))] [] [] tv ?_))
 refine Ch (decide (((k1 : Nat) : Int) < ((p1.length : Nat) : Int))) ?_ ?_
 ·intro h31
  have hlt1 : k1 < p1.length := by have := of_decide_eq_true h31; omega
  have hm := hs1 hlt1
  unfold Mz at hm
  refine Sk ?_
  refine Sq (Bk ?_)
  obtain ⟨r32,hr32,hm⟩ := bo hm
  refine Sq ?_
  refine Jn (ι := Bool) (fun (y3 : Bool) => Ai [(1,.p (An p1)),(2,pI p2),(3,rr 1024),(7,pI ((k1 : Nat) : Int)),(56,pB y3)] [(1024,bx (pm (Ab p0)))]) (fun y3 => (Cp n1) y3 = some RES) ?_ ?_
  ·intro y3 hm
   unfold Cp at hm
   refine Ak hm ?_ ?_
   ·intro h39 hm
    refine Sq (RK hnt (.no :: []) [(6,pB false)] [] tv ?_)
    obtain rfl := sj hm
    exact DW.ret (Am [] [] (pB false))
   ·intro h39 hm
    refine Sk ?_
    refine DW.done ?_
    show DW _ _ _ _ _
    refine RD hnt (nn 3 []) [56] [(7,pI (w64 (((k1 : Nat) : Int) + 1)))] [] [] tv ?_
    exact jD () ⟨hlt1,hm⟩ (Conv.tp [(7,pI (w64 (((k1 : Nat) : Int) + 1)))] [] (by kernel_rfl) (.cons rfl (.of_eq (congrArg pI (Bj hlt1 hc1))) .nil) .nil)
  ·rcases bt (!r32) with h33 | h33
   ·replace hm := Az h33 hm
    refine RD hnt (nn 6 (o59 [] true r32 :: nn 2 (sk 16 (pT :: .no :: sk 7 (pT :: .no :: sk 6 (pT :: [])))))) [11] [(56,pB true)] [] [] (an (nn0 k1) (an (ltc hlt1) (an (Bq p0 (Ob p1 k1).group r32 hr32) (an5 h33 (an3 tt (an6 tt (an6 tt tv))))))) ?_
    exact jD true hm Conv.eqK
   ·replace hm := Ba h33 hm
    rcases bt (decide (((k1 : Nat) : Int) > 0)) with h34 | h34
    ·replace hm := Az h34 hm
     obtain ⟨g35,hm⟩ := go1 hm
     rcases bt (decide ((Ob p1 k1).group ≤ (p1.getD (Int.toNat (w64 (((k1 : Nat) : Int) - 1))) Cv).group)) with h36 | h36
     ·replace hm := Az h36 hm
      refine RD hnt (nn 6 (o59 [] true r32 :: nn 17 (pT :: pF :: .no :: sk 7 (pT :: .no :: sk 6 (pT :: []))))) [11] [(56,pB true)] [] [] (an (nn0 k1) (an (ltc hlt1) (an (Bq p0 (Ob p1 k1).group r32 hr32) (an3 h33 (an3 h34 (an (nn0 k1) (an (ltc hlt1) (an6 h34 (an g35.1 (an g35.2 (an3 h34 (an h33 (an h34 (an h33 (an2 h36 (an6 h36 (an tt (an6 tt tv)))))))))))))))))) ?_
      exact jD true hm Conv.eqK
     ·replace hm := Ba h36 hm
      rcases bt (decide ((Ob p1 k1).own < p2)) with h37 | h37
      ·replace hm := Az h37 hm
       refine RD hnt (nn 6 (o59 [] true r32 :: nn 17 (pT :: pF :: nn 8 (pF :: .no :: sk 6 (pT :: []))))) [11] [(56,pB true)] [] [] (an (nn0 k1) (an (ltc hlt1) (an (Bq p0 (Ob p1 k1).group r32 hr32) (an3 h33 (an3 h34 (an (nn0 k1) (an (ltc hlt1) (an6 h34 (an g35.1 (an g35.2 (an3 h34 (an h33 (an h34 (an h33 (an3 h36 (an (nn0 k1) (an (ltc hlt1) (an5 h36 (an h37 (an6 h37 tv)))))))))))))))))))) ?_
       exact jD true hm Conv.eqK
      ·replace hm := Ba h37 hm
       refine RD hnt (nn 6 (o59 [] true r32 :: nn 17 (pT :: pF :: nn 8 (pF :: nn 7 (pF :: []))))) [11] [(56,pB (decide ((Ob p1 k1).own > 16777216)))] [] [] (an (nn0 k1) (an (ltc hlt1) (an (Bq p0 (Ob p1 k1).group r32 hr32) (an3 h33 (an3 h34 (an (nn0 k1) (an (ltc hlt1) (an6 h34 (an g35.1 (an g35.2 (an3 h34 (an h33 (an h34 (an h33 (an3 h36 (an (nn0 k1) (an (ltc hlt1) (an5 h36 (an3 h37 (an (nn0 k1) (an (ltc hlt1) (an4 h37 tv)))))))))))))))))))))) ?_
       exact jD (decide ((Ob p1 k1).own > 16777216)) hm Conv.eqK
    ·replace hm := Ba h34 hm
     rcases bt (decide ((Ob p1 k1).own < p2)) with h38 | h38
     ·replace hm := Az h38 hm
      refine RD hnt (nn 6 (o59 [] true r32 :: nn 5 (sk 12 (pF :: pF :: nn 8 (pF :: .no :: sk 6 (pT :: [])))))) [11] [(56,pB true)] [] [] (an (nn0 k1) (an (ltc hlt1) (an (Bq p0 (Ob p1 k1).group r32 hr32) (an3 h33 (an6 h34 (an6 h34 (an h33 (an h34 (an h33 (an3 ff (an (nn0 k1) (an (ltc hlt1) (an5 ff (an h38 (an6 h38 tv))))))))))))))) ?_
      exact jD true hm Conv.eqK
     ·replace hm := Ba h38 hm
      refine RD hnt (nn 6 (o59 [] true r32 :: nn 5 (sk 12 (pF :: pF :: nn 8 (pF :: nn 7 (pF :: [])))))) [11] [(56,pB (decide ((Ob p1 k1).own > 16777216)))] [] [] (an (nn0 k1) (an (ltc hlt1) (an (Bq p0 (Ob p1 k1).group r32 hr32) (an3 h33 (an6 h34 (an6 h34 (an h33 (an h34 (an h33 (an3 ff (an (nn0 k1) (an (ltc hlt1) (an5 ff (an3 h38 (an (nn0 k1) (an (ltc hlt1) (an4 h38 tv))))))))))))))))) ?_
      exact jD (decide ((Ob p1 k1).own > 16777216)) hm Conv.eqK
 ·intro h31
  have hge1 : ¬ k1 < p1.length := by have := of_decide_eq_false h31; omega
  have hm := he1 hge1
  unfold Wq at hm
  refine DW.exit ?_
  refine Aj ?_
  refine Aq ?_
  refine Af ?_
  show DW _ _ _ _ _
  refine Sq (RK hnt (.no :: []) [(6,pB true)] [] tv ?_)
  obtain rfl := sj hm
  exact DW.ret (Am [] [] (pB true))
abbrev o71 (ks : List Nat) (b : Bool) (RES : Bool) : Orc := .call 83 ks b (pB RES) [] []

theorem Qa (p0 : Aa) (p1 : Ag) (RES : Bool) (hm : Hy p0 p1 = some RES) : Spec Try.prog 60 [.p (.agg (Ab p0)),.p (.agg [An p1.charges])] [] (pB RES) [] [] := by
 unfold Hy at hm
 refine SO Try.func60 rfl rfl [(0,.p (.agg (Ab p0))),(1,.p (.agg [An p1.charges]))] [] ?_
 intro cx hnt
 refine Sq (RK hnt (nn 3 []) [(2,rr 1016),(3,rr 1024)] [(1016,bx (pm (Ab p0))),(1024,bx [.p (An p1.charges)])] tv ?_)
 obtain ⟨r1,hr1,hm⟩ := bo hm
 refine Sq (Sq ?_)
 refine Jn (ι := Bool) (fun (y1 : Bool) => Ai [(3,rr 1024),(16,pB y1)] [(1024,bx [.p (An p1.charges)])]) (fun y1 => (Iq p1) y1 = some RES) ?_ ?_
 ·intro y1 hm
  unfold Iq at hm
  refine Ak hm ?_ ?_
  ·intro h4 hm
   refine Sq (RK hnt (.no :: []) [(4,pB false)] [] tv ?_)
   obtain rfl := sj hm
   exact DW.ret (Am [] [] (pB false))
  ·intro h4 hm
   refine Sk ?_
   refine Sq (RD hnt (.no :: []) [16] [(5,pI 0)] [] [] tv ?_)
   refine Sq (Sq (RD hnt (.no :: []) [] [(6,pI 0)] [] [] tv ?_))
   refine Bk ?_
   obtain ⟨hc1,hm⟩ := go1 hm
   refine DW.rangeO (fun (k1 : Nat) (s1 : Int) => Ai [(3,rr 1024),(5,pI s1),(6,pI ((k1 : Nat) : Int))] [(1024,bx [.p (An p1.charges)])]) Cv hm Conv.eqK ?_
   intro k1 s1 n1 hk1 hs1 he1
   refine Sq (Sq (RD hnt (nn 5 []) [] [(21,pB (decide (((k1 : Nat) : Int) < ((p1.charges.length : Nat) : Int))))] [] [] tv ?_))
   refine Ch (decide (((k1 : Nat) : Int) < ((p1.charges.length : Nat) : Int))) ?_ ?_
   ·intro h9
    have hlt1 : k1 < p1.charges.length := by have := of_decide_eq_true h9; omega
    have hm := hs1 hlt1
    unfold Pg at hm
    refine Sk ?_
    refine Sq (Bk ?_)
    refine RD hnt (nn 9 []) [21] [(5,pI (w64 (s1 + (p1.charges.getD k1 (default : Ah)).own)))] [] [] (an (nn0 k1) (an (ltc hlt1) tv)) ?_
    refine DW.done ?_
    show DW _ _ _ _ _
    refine RD hnt (nn 3 []) [] [(6,pI (w64 (((k1 : Nat) : Int) + 1)))] [] [] tv ?_
    exact jD (w64 (s1 + (p1.charges.getD k1 (default : Ah)).own)) ⟨hlt1,hm⟩ (Conv.tp [(6,pI (w64 (((k1 : Nat) : Int) + 1)))] [] (by kernel_rfl) (.cons rfl (.of_eq (congrArg pI (Bj hlt1 hc1))) .nil) .nil)
   ·intro h9
    have hge1 : ¬ k1 < p1.charges.length := by have := of_decide_eq_false h9; omega
    have hm := he1 hge1
    unfold Ta at hm
    refine DW.exit ?_
    refine Aj ?_
    refine Aq ?_
    refine Af ?_
    show DW _ _ _ _ _
    refine Sq (RK hnt (nn 3 []) [(4,pB (decide (s1 ≤ 16777216)))] [] tv ?_)
    obtain rfl := sj hm
    exact DW.ret (Am [] [] (pB (decide (s1 ≤ 16777216))))
 ·rcases bt (!r1) with h2 | h2
  ·replace hm := Az h2 hm
   refine RD hnt (.no :: o55 [] true r1 :: nn 2 (sk 5 (pT :: []))) [2] [(16,pB true)] [1016] [] (an (Hv p0 r1 hr1) (an6 h2 tv)) ?_
   exact jD true hm Conv.eqK
  ·replace hm := Ba h2 hm
   obtain ⟨r3,hr3,hm⟩ := bo hm
   refine RD hnt (.no :: o55 [] true r1 :: nn 5 (o71 [] true r3 :: .no :: pF :: [])) [2] [(16,pB (!r3))] [1016] [] (an (Hv p0 r1 hr1) (an4 h2 (an (Aba p0 p1.charges 1 r3 hr3) (an2 h2 tv)))) ?_
   exact jD (!r3) hm Conv.eqK
abbrev o70 (ks : List Nat) (b : Bool) (RES : Bool) : Orc := .call 60 ks b (pB RES) [] []

theorem Tb (p0 : Ag) (p1 : Int) (RES : Int) (hm : Nt p0 p1 = some RES) : Spec Try.prog 61 [.p (.agg [An p0.charges]),pI p1] [] (pI RES) [] [] := by
 unfold Nt at hm
 refine SO Try.func61 rfl rfl [(0,.p (.agg [An p0.charges])),(1,pI p1)] [] ?_
 intro cx hnt
 refine Sq (RK hnt (nn 2 []) [(1,pI p1),(2,rr 1016)] [(1016,bx [.p (An p0.charges)])] tv ?_)
 refine Sq (Sq (RD hnt (.no :: []) [] [(5,pI 0)] [] [] tv ?_))
 refine Bk ?_
 obtain ⟨hc1,hm⟩ := go1 hm
 refine DW.rangeO (fun (k1 : Nat) (s1 : Unit) => Ai [(1,pI p1),(2,rr 1016),(5,pI ((k1 : Nat) : Int))] [(1016,bx [.p (An p0.charges)])]) Cv hm Conv.eqK ?_
 intro k1 s1 n1 hk1 hs1 he1
 refine Sq (Sq (RD hnt (nn 5 []) [] [(10,pB (decide (((k1 : Nat) : Int) < ((p0.charges.length : Nat) : Int))))] [] [] tv ?_))
 refine Ch (decide (((k1 : Nat) : Int) < ((p0.charges.length : Nat) : Int))) ?_ ?_
 ·intro h9
  have hlt1 : k1 < p0.charges.length := by have := of_decide_eq_true h9; omega
  have hm := hs1 hlt1
  unfold Abq at hm
  refine Sk ?_
  refine Sq (Bk ?_)
  refine Sq (RD hnt (nn 8 []) [10] [(20,pB ((p0.charges.getD k1 (default : Ah)).group == p1))] [] [] (an (nn0 k1) (an (ltc hlt1) tv)) ?_)
  refine Ak hm ?_ ?_
  ·intro h10 hm
   refine Sq (RK hnt (nn 7 []) [(4,pI (p0.charges.getD k1 (default : Ah)).own)] [] (an (nn0 k1) (an (ltc hlt1) tv)) ?_)
   obtain rfl := sj hm
   exact DW.ret (Am [] [] (pI (p0.charges.getD k1 (default : Ah)).own))
  ·intro h10 hm
   refine Sk ?_
   refine DW.done ?_
   show DW _ _ _ _ _
   refine RD hnt (nn 3 []) [20] [(5,pI (w64 (((k1 : Nat) : Int) + 1)))] [] [] tv ?_
   exact jD () ⟨hlt1,hm⟩ (Conv.tp [(5,pI (w64 (((k1 : Nat) : Int) + 1)))] [] (by kernel_rfl) (.cons rfl (.of_eq (congrArg pI (Bj hlt1 hc1))) .nil) .nil)
 ·intro h9
  have hge1 : ¬ k1 < p0.charges.length := by have := of_decide_eq_false h9; omega
  have hm := he1 hge1
  unfold Abe at hm
  refine DW.exit ?_
  refine Aj ?_
  refine Aq ?_
  refine Af ?_
  show DW _ _ _ _ _
  refine Sq (RK hnt (.no :: []) [(4,pI 0)] [] tv ?_)
  obtain rfl := sj hm
  exact DW.ret (Am [] [] (pI 0))
abbrev o72 (ks : List Nat) (b : Bool) (RES : Int) : Orc := .call 61 ks b (pI RES) [] []

theorem Abd (rec : Aa → Int → Option (List Int)) (ih : ∀ (p0 : Aa) (p1 : Int) (RES : List Int),rec p0 p1 = some RES → Spec Try.prog 64 [.p (.agg (Ab p0)),pI p1] [] (ow 0 RES.length) [] [roI RES]) (p0 : Aa) (p1 : Int) (RES : List Int) (hm : Lv rec p0 p1 = some RES) : Spec Try.prog 64 [.p (.agg (Ab p0)),pI p1] [] (ow 0 RES.length) [] [roI RES] := by
 unfold Lv at hm
 refine SO Try.func64 rfl rfl [(0,.p (.agg (Ab p0))),(1,pI p1)] [] ?_
 intro cx hnt
 refine Sq (RK hnt (nn 2 []) [(1,pI p1),(2,rr 1016)] [(1016,bx (pm (Ab p0)))] tv ?_)
 obtain ⟨r1,hr1,hm⟩ := bo hm
 refine Sq (Sq (RD hnt (nn 2 (o59 [] true r1 :: .no :: [])) [] [(11,pB (!r1))] [] [] (an (Bq p0 p1 r1 hr1) tv) ?_))
 refine Ak hm ?_ ?_
 ·intro h2 hm
  refine Sq (RK hnt (.no :: []) [(4,.p (.sl .nil 0 0 (fun _ => [])))] [] tv ?_)
  refine DW.cv [] [(4,ow 100000 0)] [] [(100000,ob0 (roI []))] (Conv.ads [(.s 4,100000,1,elems Bm 0 [])]) ?_
  obtain rfl := sj hm
  exact DW.ret (Am [roI []] [100000] (ow 0 0))
 ·intro h2 hm
  refine Sk ?_
  refine Sq (RN hnt (nn 3 []) [(1,pI p1),(2,rr 1016),(5,ow 1104 [p1].length)] [(1016,bx (pm (Ab p0))),(1104,ob0 (roI [p1]))] [(5,ow 1104 1)] [(1104,.row 1 1 (cut 1 [vi p1]))] tv (by kernel_rfl) (.cons rfl (MLe.ownLen (enc := Bm) (d := 0) (f := (cut 1 [vi p1])) (RowIs.lit (enc := Bm) (d := 0) (n := 1) (f := (cut 1 [vi p1])) [p1] rfl (fun | 0,_ => rfl | n + 1,h => absurd h (by omega)))) .nil) (.cons rfl (BLe.typed (RowIs.lit (enc := Bm) (d := 0) (n := 1) (f := (cut 1 [vi p1])) [p1] rfl (fun | 0,_ => rfl | n + 1,h => absurd h (by omega)))) .nil) ?_)
  obtain ⟨r3,hr3,hm⟩ := bo hm
  refine Sq (RD hnt (nn 2 (o66 [] true r3 :: .no :: [])) [1] [(6,ow 1128 r3.length)] [] [(1128,ob0 (roI r3))] (an (Ko p0 p1 r3 hr3) tv) ?_)
  refine Sq (Sq (RD hnt (.no :: []) [] [(7,pI 0)] [] [] tv ?_))
  refine Bk ?_
  obtain ⟨hc1,hm⟩ := go1 hm
  refine DW.rangeO (fun (k1 : Nat) (s1 : List Int) => Ai [(2,rr 1016),(5,ow 1104 s1.length),(6,ow 1128 r3.length),(7,pI ((k1 : Nat) : Int))] [(1016,bx (pm (Ab p0))),(1104,ob0 (roI s1)),(1128,ob0 (roI r3))]) 0 hm Conv.eqK ?_
  intro k1 s1 n1 hk1 hs1 he1
  refine Sq (Sq (RD hnt (nn 4 []) [] [(20,pB (decide (((k1 : Nat) : Int) < ((r3.length : Nat) : Int))))] [] [] tv ?_))
  refine Ch (decide (((k1 : Nat) : Int) < ((r3.length : Nat) : Int))) ?_ ?_
  ·intro h14
   have hlt1 : k1 < r3.length := by have := of_decide_eq_true h14; omega
   have hm := hs1 hlt1
   unfold Ri at hm
   refine Sk ?_
   refine Sq (Bk ?_)
   obtain ⟨r15,hr15,hm⟩ := bo hm
   obtain ⟨g16,hm⟩ := go1 hm
   refine RN hnt (nn 6 (.call 64 [] true (ow 0 r15.length) [] [roI r15] :: nn 2 [])) [(2,rr 1016),(5,ow 1104 (s1 ++ r15).length),(6,ow 1128 r3.length),(7,pI ((k1 : Nat) : Int))] [(1016,bx (pm (Ab p0))),(1104,ob0 (roI (s1 ++ r15))),(1128,ob0 (roI r3))] [(5,ow 1104 (s1.length + r15.length))] [(1104,.row 1 (s1.length + r15.length) (Da s1.length (elI s1) (elI r15)))] (an (nn0 k1) (an (ltc hlt1) (an (by omega : k1 < r3.length) (an (ih p0 (r3.getD k1 0) r15 hr15) (an (by omega : (s1.length + r15.length) * 8 ≤ 140737488355328) tv))))) (by kernel_rfl) (.cons rfl (MLe.ownLen (enc := Bm) (d := 0) (f := (Da s1.length (elI s1) (elI r15))) (RowIs.cat RowIs.elems RowIs.elems)) .nil) (.cons rfl (BLe.typed (RowIs.cat RowIs.elems RowIs.elems)) .nil) ?_
   refine DW.done ?_
   show DW _ _ _ _ _
   refine RD hnt (nn 3 []) [] [(7,pI (w64 (((k1 : Nat) : Int) + 1)))] [] [] tv ?_
   exact jD (s1 ++ r15) ⟨hlt1,hm⟩ (Conv.tp [(7,pI (w64 (((k1 : Nat) : Int) + 1)))] [] (by kernel_rfl) (.cons rfl (.of_eq (congrArg pI (Bj hlt1 hc1))) .nil) .nil)
  ·intro h14
   have hge1 : ¬ k1 < r3.length := by have := of_decide_eq_false h14; omega
   have hm := he1 hge1
   unfold Xu at hm
   refine DW.exit ?_
   refine Aj ?_
   refine Aq ?_
   refine Af ?_
   show DW _ _ _ _ _
   refine Sq (RK hnt (nn 2 []) [(4,ow 1104 s1.length)] [(1104,ob0 (roI s1))] tv ?_)
   obtain rfl := sj hm
   exact DW.ret (Am [roI s1] [1104] (ow 0 s1.length))
theorem Ti : ∀ (n : Nat) (p0 : Aa) (p1 : Int) (RES : List Int),Hm n p0 p1 = some RES → Spec Try.prog 64 [.p (.agg (Ab p0)),pI p1] [] (ow 0 RES.length) [] [roI RES]
  | 0,p0,p1,RES,hm => by simp [Hm] at hm
  | n + 1,p0,p1,RES,hm => Abd (Hm n) (Ti n) p0 p1 RES hm
theorem Vl (p0 : Aa) (p1 : Int) (RES : List Int) (hm : Ni p0 p1 = some RES) : Spec Try.prog 64 [.p (.agg (Ab p0)),pI p1] [] (ow 0 RES.length) [] [roI RES] := Ti Ei p0 p1 RES hm
abbrev o74 (ks : List Nat) (b : Bool) (RES : List Int) : Orc := .call 64 ks b (ow 0 RES.length) [] [roI RES]

theorem Zb (p0 : Aa) (p1 : Ag) (p2 : Int) (RES : Int) (hm : Pw p0 p1 p2 = some RES) : Spec Try.prog 62 [.p (.agg (Ab p0)),.p (.agg [An p1.charges]),pI p2] [] (pI RES) [] [] := by
 unfold Pw at hm
 refine SO Try.func62 rfl rfl [(0,.p (.agg (Ab p0))),(1,.p (.agg [An p1.charges])),(2,pI p2)] [] ?_
 intro cx hnt
 refine Sq (RK hnt (nn 3 []) [(2,pI p2),(3,rr 1024),(4,rr 1032)] [(1024,bx (pm (Ab p0))),(1032,bx [.p (An p1.charges)])] tv ?_)
 refine Sq (RD hnt (.no :: []) [] [(7,pI 0)] [] [] tv ?_)
 obtain ⟨r1,hr1,hm⟩ := bo hm
 refine Sq (RD hnt (nn 2 (o74 [] true r1 :: .no :: [])) [2,3] [(8,ow 1096 r1.length)] [1024] [(1096,ob0 (roI r1))] (an (Vl p0 p2 r1 hr1) tv) ?_)
 refine Sq (Sq (RD hnt (.no :: []) [] [(9,pI 0)] [] [] tv ?_))
 refine Bk ?_
 obtain ⟨hc1,hm⟩ := go1 hm
 refine DW.rangeO (fun (k1 : Nat) (s1 : Int) => Ai [(4,rr 1032),(7,pI s1),(8,ow 1096 r1.length),(9,pI ((k1 : Nat) : Int))] [(1032,bx [.p (An p1.charges)]),(1096,ob0 (roI r1))]) 0 hm Conv.eqK ?_
 intro k1 s1 n1 hk1 hs1 he1
 refine Sq (Sq (RD hnt (nn 4 []) [] [(16,pB (decide (((k1 : Nat) : Int) < ((r1.length : Nat) : Int))))] [] [] tv ?_))
 refine Ch (decide (((k1 : Nat) : Int) < ((r1.length : Nat) : Int))) ?_ ?_
 ·intro h10
  have hlt1 : k1 < r1.length := by have := of_decide_eq_true h10; omega
  have hm := hs1 hlt1
  unfold Ww at hm
  refine Sk ?_
  refine Sq (Bk ?_)
  obtain ⟨r11,hr11,hm⟩ := bo hm
  refine RD hnt (nn 6 (o72 [] true r11 :: nn 2 [])) [16] [(7,pI (w64 (s1 + r11)))] [] [] (an (nn0 k1) (an (ltc hlt1) (an (by omega : k1 < r1.length) (an (Tb p1 (r1.getD k1 0) r11 hr11) tv)))) ?_
  refine DW.done ?_
  show DW _ _ _ _ _
  refine RD hnt (nn 3 []) [] [(9,pI (w64 (((k1 : Nat) : Int) + 1)))] [] [] tv ?_
  exact jD (w64 (s1 + r11)) ⟨hlt1,hm⟩ (Conv.tp [(9,pI (w64 (((k1 : Nat) : Int) + 1)))] [] (by kernel_rfl) (.cons rfl (.of_eq (congrArg pI (Bj hlt1 hc1))) .nil) .nil)
 ·intro h10
  have hge1 : ¬ k1 < r1.length := by have := of_decide_eq_false h10; omega
  have hm := he1 hge1
  unfold Abv at hm
  refine DW.exit ?_
  refine Aj ?_
  refine Aq ?_
  refine Af ?_
  show DW _ _ _ _ _
  refine Sq (RK hnt (nn 2 []) [(6,pI s1)] [] tv ?_)
  obtain rfl := sj hm
  exact DW.ret (Am [] [] (pI s1))
abbrev o73 (ks : List Nat) (b : Bool) (RES : Int) : Orc := .call 62 ks b (pI RES) [] []

abbrev Hx (p0 : Ag) (k1 : Nat) := (p0.charges.getD k1 (default : Ah))
abbrev Ub : Nat × Obj := (1048,bx [.p (.sl .nil 0 0 (fun _ => []))])
abbrev Rv (p1 : Int) (p2 : Int) := ({ group := p1,own := p2 } : Ah)
abbrev Yn (p0 : Ag) : Nat × Obj := (1024,bx [.p (An p0.charges)])
abbrev AaB (k1 : Nat) : Nat × MV := (9,pI ((k1 : Nat) : Int))
theorem Adq (p0 : Ag) (p1 : Int) (p2 : Int) (RES : Ag) (hm : Si p0 p1 p2 = some RES) : Spec Try.prog 63 [.p (.agg [An p0.charges]),pI p1,pI p2] [] (.agg [ow 0 RES.charges.length]) [] [Bx RES.charges] := by
 unfold Si at hm
 refine SO Try.func63 rfl rfl [(0,.p (.agg [An p0.charges])),(1,pI p1),(2,pI p2)] [] ?_
 intro cx hnt
 refine Sq (RD hnt (nn 2 []) [0] [(3,rr 1024),(6,rr 1048)] [] [(Yn p0),(Ub)] tv ?_)
 refine Sq (RD hnt (.no :: []) [] [(7,.p (.sl .nil 0 0 (fun _ => [])))] [] [] tv ?_)
 refine Sq (RD hnt (nn 3 []) [] [(8,pB (p2 == 0))] [] [] tv ?_)
 refine Sq (Sq (RD hnt (.no :: []) [] [(9,pI 0)] [] [] tv ?_))
 refine Bk ?_
 obtain ⟨hc1,hm⟩ := go1 hm
 refine DW.rangeO (fun (k1 : Nat) (s1 : (List Ah) × Bool) => Ai [(1,pI p1),(2,pI p2),(3,rr 1024),(6,rr 1048),(7,ow 1304 s1.1.length),(8,pB s1.2),(AaB k1)] [(Yn p0),(Ub),(1304,ob0 (Bx s1.1))]) Cv hm (Conv.ads [(.s 7,1304,2,elems Bg Cv [])]) ?_
 intro k1 s1 n1 hk1 hs1 he1
 refine Sq (Sq (RD hnt (nn 5 []) [] [(17,pB (decide (((k1 : Nat) : Int) < ((p0.charges.length : Nat) : Int))))] [] [] tv ?_))
 refine Ch (decide (((k1 : Nat) : Int) < ((p0.charges.length : Nat) : Int))) ?_ ?_
 ·intro h17
  have hlt1 : k1 < p0.charges.length := by have := of_decide_eq_true h17; omega
  have hm := hs1 hlt1
  unfold Wx at hm
  refine Sk ?_
  refine Sq ?_
  refine Jn (ι := (List Ah) × Bool) (fun (y7 : (List Ah) × Bool) => Ai [(1,pI p1),(2,pI p2),(3,rr 1024),(6,rr 1048),(7,ow 1304 y7.1.length),(8,pB y7.2),(AaB k1)] [(Yn p0),(Ub),(1304,ob0 (Bx y7.1))]) (fun y7 => (Pb n1) y7 = some RES) ?_ ?_
  ·intro y7 hm
   unfold Pb at hm
   refine RD hnt (nn 3 []) [] [(9,pI (w64 (((k1 : Nat) : Int) + 1)))] [] [] tv ?_
   exact jD (y7.1,y7.2) ⟨hlt1,hm⟩ (Conv.tp [(9,pI (w64 (((k1 : Nat) : Int) + 1)))] [] (by kernel_rfl) (.cons rfl (.of_eq (congrArg pI (Bj hlt1 hc1))) .nil) .nil)
  ·refine Bk ?_
   refine Sq (RD hnt (nn 7 []) [17] [(10,rr 1080)] [] [(1080,bx (pm (Bg (Hx p0 k1))))] (an (nn0 k1) (an (ltc hlt1) tv)) ?_)
   refine Sq (Sq (DW.regJ (sl2 := [(1,pI p1),(2,pI p2),(3,rr 1024),(6,rr 1048),(7,ow 1304 s1.1.length),(8,pB s1.2),(AaB k1),(10,rr 1080),(32,pB ((!s1.2) && (decide ((Hx p0 k1).group ≥ p1))))]) (ob2 := [(Yn p0),(Ub),(1080,bx (pm (Bg (Hx p0 k1)))),(1304,ob0 (Bx s1.1))]) ?_ ?_))
   ·rcases bt (!s1.2) with h18 | h18
    ·exact RT hnt (nn 7 (pT :: [])) [(32,pB (decide ((Hx p0 k1).group ≥ p1)))] (an5 h18 tv) (by kernel_rfl) (.cons rfl (.of_eq (by rw [h18]; try rfl)) .nil)
    ·exact RT hnt (nn 3 (sk 4 (pF :: []))) [(32,pB false)] (an5 h18 tv) (by kernel_rfl) (.cons rfl (.of_eq (by rw [h18]; try rfl)) .nil)
   ·refine Jn (ι := (List Ah) × Bool) (fun (y8 : (List Ah) × Bool) => Ai [(1,pI p1),(2,pI p2),(3,rr 1024),(6,rr 1048),(7,ow 1304 y8.1.length),(8,pB y8.2),(AaB k1),(10,rr 1080)] [(Yn p0),(Ub),(1080,bx (pm (Bg (Hx p0 k1)))),(1304,ob0 (Bx y8.1))]) (fun y8 => (Oz p1 (Hx p0 k1) n1) y8 = some RES) ?_ ?_
    ·intro y8 hm
     unfold Oz at hm
     refine Sq (RD hnt (nn 4 []) [] [(42,pB ((Hx p0 k1).group != p1))] [] [] tv ?_)
     refine Ak hm ?_ ?_
     ·intro h21 hm
      obtain ⟨g22,hm⟩ := go1 hm
      refine RN hnt (nn 5 []) [(1,pI p1),(2,pI p2),(3,rr 1024),(6,rr 1048),(7,ow 1304 (y8.1 ++ [(Hx p0 k1)]).length),(8,pB y8.2),(AaB k1)] [(Yn p0),(Ub),(1304,ob0 (Bx (y8.1 ++ [(Hx p0 k1)])))] [(7,ow 1304 (y8.1.length + 1))] [(1304,.row 2 (y8.1.length + 1) (Da y8.1.length (Nn y8.1) (cut 2 [vi (Hx p0 k1).group,vi (Hx p0 k1).own])))] (an (by omega : (y8.1.length + 1) * 16 ≤ 140737488355328) tv) (by kernel_rfl) (.cons rfl (MLe.ownLen (enc := Bg) (d := Cv) (f := (Da y8.1.length (Nn y8.1) (cut 2 [vi (Hx p0 k1).group,vi (Hx p0 k1).own]))) (RowIs.cat RowIs.elems (RowIs.lit (enc := Bg) (d := Cv) (n := 1) (f := (cut 2 [vi (Hx p0 k1).group,vi (Hx p0 k1).own])) [(Hx p0 k1)] rfl (fun | 0,_ => rfl | n + 1,h => absurd h (by omega))))) .nil) (.cons rfl (BLe.typed (RowIs.cat RowIs.elems (RowIs.lit (enc := Bg) (d := Cv) (n := 1) (f := (cut 2 [vi (Hx p0 k1).group,vi (Hx p0 k1).own])) [(Hx p0 k1)] rfl (fun | 0,_ => rfl | n + 1,h => absurd h (by omega))))) .nil) ?_
      exact bD ((y8.1 ++ [(Hx p0 k1)]),y8.2) hm .refl
     ·intro h21 hm
      refine Sk ?_
      exact bD (y8.1,y8.2) hm Conv.t0
    ·refine Ak hm ?_ ?_
     ·intro h19 hm
      obtain ⟨g20,hm⟩ := go1 hm
      refine RN hnt (nn 8 []) [(1,pI p1),(2,pI p2),(3,rr 1024),(6,rr 1048),(7,ow 1304 (s1.1 ++ [(Rv p1 p2)]).length),(8,pB true),(AaB k1),(10,rr 1080)] [(Yn p0),(Ub),(1080,bx (pm (Bg (Hx p0 k1)))),(1304,ob0 (Bx (s1.1 ++ [(Rv p1 p2)])))] [(7,ow 1304 (s1.1.length + 1))] [(1304,.row 2 (s1.1.length + 1) (Da s1.1.length (Nn s1.1) (cut 2 [vi p1,vi p2])))] (an (by omega : (s1.1.length + 1) * 16 ≤ 140737488355328) tv) (by kernel_rfl) (.cons rfl (MLe.ownLen (enc := Bg) (d := Cv) (f := (Da s1.1.length (Nn s1.1) (cut 2 [vi p1,vi p2]))) (RowIs.cat RowIs.elems (RowIs.lit (enc := Bg) (d := Cv) (n := 1) (f := (cut 2 [vi p1,vi p2])) [(Rv p1 p2)] rfl (fun | 0,_ => rfl | n + 1,h => absurd h (by omega))))) .nil) (.cons rfl (BLe.typed (RowIs.cat RowIs.elems (RowIs.lit (enc := Bg) (d := Cv) (n := 1) (f := (cut 2 [vi p1,vi p2])) [(Rv p1 p2)] rfl (fun | 0,_ => rfl | n + 1,h => absurd h (by omega))))) .nil) ?_
      exact jD ((s1.1 ++ [(Rv p1 p2)]),true) hm .refl
     ·intro h19 hm
      refine Sk ?_
      exact jD (s1.1,s1.2) hm Conv.t0
 ·intro h17
  have hge1 : ¬ k1 < p0.charges.length := by have := of_decide_eq_false h17; omega
  have hm := he1 hge1
  unfold Xb at hm
  refine DW.exit ?_
  refine Aj ?_
  refine Aq ?_
  refine Af ?_
  show DW _ _ _ _ _
  refine Sq (Sq (RD hnt (nn 2 []) [3,8,9,17] [(48,pB (!s1.2))] [1024] [] tv ?_))
  refine Jn (ι := List Ah) (fun (y9 : List Ah) => Ai [(6,rr 1048),(7,ow 1304 y9.length)] [(Ub),(1304,ob0 (Bx y9))]) (fun y9 => Pd y9 = some RES) ?_ ?_
  ·intro y9 hm
   unfold Pd at hm
   refine Sq (RD hnt (nn 3 []) [7] [] [] [(1048,bx [ow 1304 y9.length])] tv ?_)
   obtain rfl := sj hm
   exact DW.ret (Am [Bx y9] [1304] (.agg [ow 0 y9.length]))
  ·refine Ak hm ?_ ?_
   ·intro h23 hm
    obtain ⟨g24,hm⟩ := go1 hm
    refine RN hnt (nn 7 []) [(6,rr 1048),(7,ow 1304 (s1.1 ++ [(Rv p1 p2)]).length)] [(Ub),(1304,ob0 (Bx (s1.1 ++ [(Rv p1 p2)])))] [(7,ow 1304 (s1.1.length + 1))] [(1304,.row 2 (s1.1.length + 1) (Da s1.1.length (Nn s1.1) (cut 2 [vi p1,vi p2])))] (an (by omega : (s1.1.length + 1) * 16 ≤ 140737488355328) tv) (by kernel_rfl) (.cons rfl (MLe.ownLen (enc := Bg) (d := Cv) (f := (Da s1.1.length (Nn s1.1) (cut 2 [vi p1,vi p2]))) (RowIs.cat RowIs.elems (RowIs.lit (enc := Bg) (d := Cv) (n := 1) (f := (cut 2 [vi p1,vi p2])) [(Rv p1 p2)] rfl (fun | 0,_ => rfl | n + 1,h => absurd h (by omega))))) .nil) (.cons rfl (BLe.typed (RowIs.cat RowIs.elems (RowIs.lit (enc := Bg) (d := Cv) (n := 1) (f := (cut 2 [vi p1,vi p2])) [(Rv p1 p2)] rfl (fun | 0,_ => rfl | n + 1,h => absurd h (by omega))))) .nil) ?_
    exact jD (s1.1 ++ [(Rv p1 p2)]) hm .refl
   ·intro h23 hm
    refine Sk ?_
    exact jD s1.1 hm Conv.t0
abbrev o75 (ks : List Nat) (b : Bool) (RES : Ag) : Orc := .call 63 ks b (.agg [ow 0 RES.charges.length]) [] [Bx RES.charges]

abbrev c69e1 : Nat × Obj := (100000,ob0 (Bx []))
theorem Adf (p0 : Aa) (p1 : Ag) (p2 : Int) (p3 : Int) (RES : Ag × Int) (hm : Se p0 p1 p2 p3 = some RES) : Spec Try.prog 31 [.p (.agg (Ab p0)),.p (.agg [An p1.charges]),pI p2,pI p3] [] (.tup [.agg [ow 0 RES.1.charges.length],pI RES.2]) [] [Bx RES.1.charges] := by
 unfold Se at hm
 refine SO Try.func31 rfl rfl [(0,.p (.agg (Ab p0))),(1,.p (.agg [An p1.charges])),(2,pI p2),(3,pI p3)] [] ?_
 intro cx hnt
 refine Sq (RD hnt (nn 4 []) [0,1] [(4,rr 1032),(5,rr 1040),(8,rr 1064)] [] [(1032,bx (pm (Ab p0))),(1040,bx [.p (An p1.charges)]),(1064,bx [.p (.sl .nil 0 0 (fun _ => []))])] tv ?_)
 refine Sq (Bk ?_)
 obtain ⟨r1,hr1,hm⟩ := bo hm
 refine Sq (RD hnt (nn 2 (o70 [] true r1 :: nn 2 [])) [] [(10,pB (!r1))] [] [] (an (Qa p0 p1 r1 hr1) tv) ?_)
 refine Ak hm ?_ ?_
 ·intro h2 hm
  refine Sq (RD hnt (nn 3 []) [2,3,4,5,10] [(9,pI 1)] [1032,1040] [] tv ?_)
  refine DW.cv [] [] [] [(1064,bx [ow 100000 0]),(c69e1)] (Conv.ads [(.o 1064 0,100000,2,elems Bg Cv [])]) ?_
  obtain rfl := sj hm
  exact DW.ret (Am [Bx []] [100000] (.tup [.agg [ow 0 0],pI 1]))
 ·intro h2 hm
  obtain ⟨r3,hr3,hm⟩ := bo hm
  refine Sq (RD hnt (nn 2 (o59 [] true r3 :: nn 2 [])) [10] [(16,pB (!r3))] [] [] (an (Bq p0 p2 r3 hr3) tv) ?_)
  refine Ak hm ?_ ?_
  ·intro h4 hm
   refine Sq (RD hnt (nn 3 []) [2,3,4,5,16] [(9,pI 4)] [1032,1040] [] tv ?_)
   refine DW.cv [] [] [] [(1064,bx [ow 100000 0]),(c69e1)] (Conv.ads [(.o 1064 0,100000,2,elems Bg Cv [])]) ?_
   obtain rfl := sj hm
   exact DW.ret (Am [Bx []] [100000] (.tup [.agg [ow 0 0],pI 4]))
  ·intro h4 hm
   refine Sq ?_
   refine Jn (ι := Bool) (fun (y1 : Bool) => Ai [(2,pI p2),(3,pI p3),(4,rr 1032),(5,rr 1040),(8,rr 1064),(22,pB y1)] [(1032,bx (pm (Ab p0))),(1040,bx [.p (An p1.charges)]),(1064,bx [.p (.sl .nil 0 0 (fun _ => []))])]) (fun y1 => (Md p0 p1 p2 p3) y1 = some RES) ?_ ?_
   ·intro y1 hm
    unfold Md at hm
    refine Ak hm ?_ ?_
    ·intro h8 hm
     refine Sq (RD hnt (nn 3 []) [2,3,4,5,22] [(9,pI 3)] [1032,1040] [] tv ?_)
     refine DW.cv [] [] [] [(1064,bx [ow 100000 0]),(c69e1)] (Conv.ads [(.o 1064 0,100000,2,elems Bg Cv [])]) ?_
     obtain rfl := sj hm
     exact DW.ret (Am [Bx []] [100000] (.tup [.agg [ow 0 0],pI 3]))
    ·intro h8 hm
     obtain ⟨r9,hr9,hm⟩ := bo hm
     refine Sq (RD hnt (nn 2 (o73 [] true r9 :: nn 4 [])) [4,22] [(38,pB (decide ((w64 (r9 + p3)) > 16777216)))] [1032] [] (an (Zb p0 p1 1 r9 hr9) tv) ?_)
     refine Ak hm ?_ ?_
     ·intro h10 hm
      refine Sq (RD hnt (nn 3 []) [2,3,5,38] [(9,pI 7)] [1040] [] tv ?_)
      refine DW.cv [] [] [] [(1064,bx [ow 100000 0]),(c69e1)] (Conv.ads [(.o 1064 0,100000,2,elems Bg Cv [])]) ?_
      obtain rfl := sj hm
      exact DW.ret (Am [Bx []] [100000] (.tup [.agg [ow 0 0],pI 7]))
     ·intro h10 hm
      refine Sk ?_
      refine DW.done ?_
      show DW _ _ _ _ _
      obtain ⟨r11,hr11,hm⟩ := bo hm
      obtain ⟨r12,hr12,hm⟩ := bo hm
      refine Sq (RK hnt (nn 4 (o72 [] true r11 :: nn 2 (o75 [] true r12 :: nn 2 []))) [(8,rr 1064),(9,pI 0)] [(1064,bx [ow 1424 r12.charges.length]),(1424,ob0 (Bx r12.charges))] (an (Tb p1 p2 r11 hr11) (an (Adq p1 p2 (w64 (r11 + p3)) r12 hr12) tv)) ?_)
      obtain rfl := sj hm
      exact DW.ret (Am [Bx r12.charges] [1424] (.tup [.agg [ow 0 r12.charges.length],pI 0]))
   ·rcases bt (decide (p3 < (-16777216))) with h5 | h5
    ·replace hm := Az h5 hm
     refine RD hnt (nn 3 (sk 2 (pT :: .no :: sk 6 (pT :: .no :: [])))) [16] [(22,pB true)] [] [] (an3 h5 (an tt (an6 tt tv))) ?_
     exact jD true hm Conv.eqK
    ·replace hm := Ba h5 hm
     rcases bt (decide (p3 > 16777216)) with h6 | h6
     ·replace hm := Az h6 hm
      refine RD hnt (nn 5 (pF :: .no :: sk 6 (pT :: .no :: []))) [16] [(22,pB true)] [] [] (an3 h5 (an h6 (an6 h6 tv))) ?_
      exact jD true hm Conv.eqK
     ·replace hm := Ba h6 hm
      obtain ⟨r7,hr7,hm⟩ := bo hm
      refine RD hnt (nn 5 (pF :: nn 3 (o72 [] true r7 :: nn 3 (pF :: .no :: [])))) [16] [(22,pB (decide ((w64 (r7 + p3)) < 0)))] [] [] (an3 h5 (an3 h6 (an (Tb p1 p2 r7 hr7) (an4 h6 tv)))) ?_
      exact jD (decide ((w64 (r7 + p3)) < 0)) hm Conv.eqK
abbrev o69 (ks : List Nat) (b : Bool) (RES : Ag × Int) : Orc := .call 31 ks b (.tup [.agg [ow 0 RES.1.charges.length],pI RES.2]) [] [Bx RES.1.charges]

abbrev c67e1 : Nat × Obj := (1032,bx [.p (.sl .nil 0 0 (fun _ => []))])
theorem Xr (p0 : Ao) (p1 : Aa) (RES : Ag × Ao) (hm : Iv p0 p1 = some RES) : Spec Try.prog 9 [rr 0,.p (.agg (Ab p1))] [.box (pm (Ap p0))] (.p (.agg [An RES.1.charges])) [.box (pm (Ap RES.2))] [] := by
 unfold Iv at hm
 refine SO Try.func9 rfl rfl [(0,rr 0),(1,.p (.agg (Ab p1)))] [(0,bx (pm (Ap p0)))] ?_
 intro cx hnt
 refine Sq (RD hnt (nn 2 []) [1] [(3,rr 1024),(4,rr 1032)] [] [(1024,bx (pm (Ab p1))),(c67e1)] tv ?_)
 refine Sq (RD hnt (.no :: []) [] [(5,rr 1040)] [] [(1040,bx [.p (.sl .nil 0 0 (fun _ => []))])] tv ?_)
 refine Sq (Sq (RD hnt (.no :: []) [] [(6,pI 0)] [] [] tv ?_))
 refine Bk ?_
 obtain ⟨hc1,hm⟩ := go1 hm
 refine DW.rangeO (fun (k1 : Nat) (s1 : Ao × Ag) => Ai [(0,rr 0),(3,rr 1024),(4,rr 1032),(5,rr 1040),(6,pI ((k1 : Nat) : Int))] [(0,bx (pm (Ap s1.1))),(1024,bx (pm (Ab p1))),(c67e1),(1040,bx [.p (An s1.2.charges)])]) Br hm (Conv.tp [] [(1040,.box [.p (.sl .nil 0 0 (fun _ => []))])] (by kernel_rfl) .nil (.cons rfl (.box (.cons MLe.nilL .nil)) .nil)) ?_
 intro k1 s1 n1 hk1 hs1 he1
 refine Sq (Sq (RD hnt (nn 5 []) [] [(13,pB (decide (((k1 : Nat) : Int) < ((p1.nodes.length : Nat) : Int))))] [] [] tv ?_))
 refine Ch (decide (((k1 : Nat) : Int) < ((p1.nodes.length : Nat) : Int))) ?_ ?_
 ·intro h19
  have hlt1 : k1 < p1.nodes.length := by have := of_decide_eq_true h19; omega
  have hm := hs1 hlt1
  unfold Mj at hm
  refine Sk ?_
  refine Sq ?_
  refine Jn (ι := Ao × Ag) (fun (y4 : Ao × Ag) => Ai [(0,rr 0),(3,rr 1024),(4,rr 1032),(5,rr 1040),(6,pI ((k1 : Nat) : Int))] [(0,bx (pm (Ap y4.1))),(1024,bx (pm (Ab p1))),(c67e1),(1040,bx [.p (An y4.2.charges)])]) (fun y4 => (Hp n1) y4 = some RES) ?_ ?_
  ·intro y4 hm
   unfold Hp at hm
   refine RD hnt (nn 3 []) [] [(6,pI (w64 (((k1 : Nat) : Int) + 1)))] [] [] tv ?_
   exact jD (y4.1,y4.2) ⟨hlt1,hm⟩ (Conv.tp [(6,pI (w64 (((k1 : Nat) : Int) + 1)))] [] (by kernel_rfl) (.cons rfl (.of_eq (congrArg pI (Bj hlt1 hc1))) .nil) .nil)
  ·refine Bk ?_
   obtain ⟨r20,hr20,hm⟩ := bo hm
   obtain ⟨r21,hr21,hm⟩ := bo hm
   refine Sq (RD hnt (nn 10 (o68 [0] false r20 :: o69 [] true r21 :: nn 6 [])) [13] [(7,rr 1056),(8,pI r21.2)] [] [(0,bx (pm (Ap r20.2))),(1056,bx [ow 1224 r21.1.charges.length]),(1224,ob0 (Bx r21.1.charges))] (an (nn0 k1) (an (ltc hlt1) (an (Spec.args (xs := [rr 0,.p (.sl .unk 1 6 (cut 1 [vi 0,vi 1,vi 5,vi 40,vi 100,vi 1000]))]) (Fb s1.1 [0,1,5,40,100,1000] r20 hr20) (.cons .rfl (.cons (.p (PLe.typed (RowIs.lit (enc := Bm) (d := 0) (n := 6) (f := (cut 1 [vi 0,vi 1,vi 5,vi 40,vi 100,vi 1000])) [0,1,5,40,100,1000] rfl (fun | 0,_ => rfl | 1,_ => rfl | 2,_ => rfl | 3,_ => rfl | 4,_ => rfl | 5,_ => rfl | n + 6,h => absurd h (by omega))))) .nil))) (an tv (an (Adf p1 s1.2 (p1.nodes.getD k1 (default : Ac)).id r20.1 r21 hr21) tv))))) ?_)
   refine Sq (RD hnt (nn 2 []) [8] [(32,pB (r21.2 == 0))] [] [] tv ?_)
   refine Ak hm ?_ ?_
   ·intro h22 hm
    refine RD hnt (nn 2 []) [7,32] [] [1056] [(1040,bx [ow 1224 r21.1.charges.length])] tv ?_
    exact bD (r20.2,r21.1) hm (Conv.frz [1224])
   ·intro h22 hm
    refine Sk ?_
    exact bD (r20.2,s1.2) hm Conv.t0
 ·intro h19
  have hge1 : ¬ k1 < p1.nodes.length := by have := of_decide_eq_false h19; omega
  have hm := he1 hge1
  unfold Ra at hm
  refine DW.exit ?_
  refine Aj ?_
  refine Aq ?_
  refine Af ?_
  show DW _ _ _ _ _
  refine Sq (RD hnt (nn 2 []) [0,3,5,6,13] [] [1024,1040] [(1032,bx [.p (An s1.2.charges)])] tv ?_)
  obtain rfl := sj hm
  exact DW.ret (Am [.box (pm (Ap s1.1))] [] (.p (.agg [An s1.2.charges])))
abbrev o67 (ks : List Nat) (b : Bool) (RES : Ag × Ao) : Orc := .call 9 ks b (.p (.agg [An RES.1.charges])) [.box (pm (Ap RES.2))] []

abbrev c76e1 (p1 : Aa) (k1 : Nat) (r17 : Int × Ao) (r18 : Int × Ao) := ({ group := (p1.nodes.getD k1 (default : Ac)).id,min := r17.1,low := r18.1 } : Protection)
theorem Uc (p0 : Ao) (p1 : Aa) (RES : (List Protection) × Ao) (hm : Gs p0 p1 = some RES) : Spec Try.prog 10 [rr 0,.p (.agg (Ab p1))] [.box (pm (Ap p0))] (ow 1 RES.1.length) [.box (pm (Ap RES.2))] [Aw RES.1] := by
 unfold Gs at hm
 refine SO Try.func10 rfl rfl [(0,rr 0),(1,.p (.agg (Ab p1)))] [(0,bx (pm (Ap p0)))] ?_
 intro cx hnt
 refine Sq (RD hnt (nn 2 []) [1] [(3,rr 1024)] [] [(1024,bx (pm (Ab p1)))] tv ?_)
 refine Sq (RD hnt (.no :: []) [] [(5,.p (.sl .nil 0 0 (fun _ => [])))] [] [] tv ?_)
 refine Sq (Sq (RD hnt (.no :: []) [] [(6,pI 0)] [] [] tv ?_))
 refine Bk ?_
 obtain ⟨hc1,hm⟩ := go1 hm
 refine DW.rangeO (fun (k1 : Nat) (s1 : Ao × (List Protection)) => Ai [(0,rr 0),(3,rr 1024),(5,ow 1256 s1.2.length),(6,pI ((k1 : Nat) : Int))] [(0,bx (pm (Ap s1.1))),(1024,bx (pm (Ab p1))),(1256,ob0 (Aw s1.2))]) Br hm (Conv.ads [(.s 5,1256,3,elems As Ar [])]) ?_
 intro k1 s1 n1 hk1 hs1 he1
 refine Sq (Sq (RD hnt (nn 5 []) [] [(11,pB (decide (((k1 : Nat) : Int) < ((p1.nodes.length : Nat) : Int))))] [] [] tv ?_))
 refine Ch (decide (((k1 : Nat) : Int) < ((p1.nodes.length : Nat) : Int))) ?_ ?_
 ·intro h14
  have hlt1 : k1 < p1.nodes.length := by have := of_decide_eq_true h14; omega
  have hm := hs1 hlt1
  unfold Jy at hm
  refine Sk ?_
  refine Sq ?_
  refine Jn (ι := Ao × (List Protection)) (fun (y3 : Ao × (List Protection)) => Ai [(0,rr 0),(3,rr 1024),(5,ow 1256 y3.2.length),(6,pI ((k1 : Nat) : Int))] [(0,bx (pm (Ap y3.1))),(1024,bx (pm (Ab p1))),(1256,ob0 (Aw y3.2))]) (fun y3 => (Fy n1) y3 = some RES) ?_ ?_
  ·intro y3 hm
   unfold Fy at hm
   refine RD hnt (nn 3 []) [] [(6,pI (w64 (((k1 : Nat) : Int) + 1)))] [] [] tv ?_
   exact jD (y3.1,y3.2) ⟨hlt1,hm⟩ (Conv.tp [(6,pI (w64 (((k1 : Nat) : Int) + 1)))] [] (by kernel_rfl) (.cons rfl (.of_eq (congrArg pI (Bj hlt1 hc1))) .nil) .nil)
  ·refine Bk ?_
   obtain ⟨r15,hr15,hm⟩ := bo hm
   refine Sq (RD hnt (.no :: o52 [0] true r15 :: .no :: []) [11] [(16,pB (decide (r15.1 > 0)))] [] [(0,bx (pm (Ap r15.2)))] (an (Db s1.1 3 r15 hr15) (an tv tv)) ?_)
   refine Ak hm ?_ ?_
   ·intro h16 hm
    obtain ⟨r17,hr17,hm⟩ := bo hm
    obtain ⟨r18,hr18,hm⟩ := bo hm
    obtain ⟨g19,hm⟩ := go1 hm
    refine RN hnt (nn 9 (o68 [0] false r17 :: nn 2 (o68 [0] false r18 :: nn 4 []))) [(0,rr 0),(3,rr 1024),(5,ow 1256 (s1.2 ++ [(c76e1 p1 k1 r17 r18)]).length),(6,pI ((k1 : Nat) : Int))] [(0,bx (pm (Ap r18.2))),(1024,bx (pm (Ab p1))),(1256,ob0 (Aw (s1.2 ++ [(c76e1 p1 k1 r17 r18)])))] [(5,ow 1256 (s1.2.length + 1))] [(1256,.row 3 (s1.2.length + 1) (Da s1.2.length (Ih s1.2) (cut 3 [vi (p1.nodes.getD k1 (default : Ac)).id,vi r17.1,vi r18.1])))] (an (nn0 k1) (an (ltc hlt1) (an (Spec.args (xs := [rr 0,.p (.sl .unk 1 7 (cut 1 [vi 0,vi 0,vi 3,vi 50,vi 100,vi 1000,vi 4611686018427387904]))]) (Fb r15.2 [0,0,3,50,100,1000,4611686018427387904] r17 hr17) (.cons .rfl (.cons (.p (PLe.typed (RowIs.lit (enc := Bm) (d := 0) (n := 7) (f := (cut 1 [vi 0,vi 0,vi 3,vi 50,vi 100,vi 1000,vi 4611686018427387904])) [0,0,3,50,100,1000,4611686018427387904] rfl (fun | 0,_ => rfl | 1,_ => rfl | 2,_ => rfl | 3,_ => rfl | 4,_ => rfl | 5,_ => rfl | 6,_ => rfl | n + 7,h => absurd h (by omega))))) .nil))) (an tv (an (Spec.args (xs := [rr 0,.p (.sl .unk 1 7 (cut 1 [vi 0,vi 3,vi 30,vi 100,vi 150,vi 1099511627776,vi 4611686018427387904]))]) (Fb r17.2 [0,3,30,100,150,1099511627776,4611686018427387904] r18 hr18) (.cons .rfl (.cons (.p (PLe.typed (RowIs.lit (enc := Bm) (d := 0) (n := 7) (f := (cut 1 [vi 0,vi 3,vi 30,vi 100,vi 150,vi 1099511627776,vi 4611686018427387904])) [0,3,30,100,150,1099511627776,4611686018427387904] rfl (fun | 0,_ => rfl | 1,_ => rfl | 2,_ => rfl | 3,_ => rfl | 4,_ => rfl | 5,_ => rfl | 6,_ => rfl | n + 7,h => absurd h (by omega))))) .nil))) (an tv (an (by omega : (s1.2.length + 1) * 24 ≤ 140737488355328) tv))))))) (by kernel_rfl) (.cons rfl (MLe.ownLen (enc := As) (d := Ar) (f := (Da s1.2.length (Ih s1.2) (cut 3 [vi (p1.nodes.getD k1 (default : Ac)).id,vi r17.1,vi r18.1]))) (RowIs.cat RowIs.elems (RowIs.lit (enc := As) (d := Ar) (n := 1) (f := (cut 3 [vi (p1.nodes.getD k1 (default : Ac)).id,vi r17.1,vi r18.1])) [(c76e1 p1 k1 r17 r18)] rfl (fun | 0,_ => rfl | n + 1,h => absurd h (by omega))))) .nil) (.cons rfl (BLe.typed (RowIs.cat RowIs.elems (RowIs.lit (enc := As) (d := Ar) (n := 1) (f := (cut 3 [vi (p1.nodes.getD k1 (default : Ac)).id,vi r17.1,vi r18.1])) [(c76e1 p1 k1 r17 r18)] rfl (fun | 0,_ => rfl | n + 1,h => absurd h (by omega))))) .nil) ?_
    exact bD (r18.2,(s1.2 ++ [(c76e1 p1 k1 r17 r18)])) hm .refl
   ·intro h16 hm
    refine Sk ?_
    exact bD (r15.2,s1.2) hm Conv.t0
 ·intro h14
  have hge1 : ¬ k1 < p1.nodes.length := by have := of_decide_eq_false h14; omega
  have hm := he1 hge1
  unfold Oh at hm
  refine DW.exit ?_
  refine Aj ?_
  refine Aq ?_
  refine Af ?_
  show DW _ _ _ _ _
  refine Sq (RD hnt (nn 2 []) [0,3,5,6,11] [(4,ow 1256 s1.2.length)] [1024] [] tv ?_)
  obtain rfl := sj hm
  exact DW.ret (Am [.box (pm (Ap s1.1)),Aw s1.2] [1256] (ow 1 s1.2.length))
abbrev o76 (ks : List Nat) (b : Bool) (RES : (List Protection) × Ao) : Orc := .call 10 ks b (ow 1 RES.1.length) [.box (pm (Ap RES.2))] [Aw RES.1]

theorem Mp (p0 : Ao) (p1 : Aa) (RES : Int × Ao) (hm : Im p0 p1 = some RES) : Spec Try.prog 14 [rr 0,.p (.agg (Ab p1))] [.box (pm (Ap p0))] (pI RES.1) [.box (pm (Ap RES.2))] [] := by
 unfold Im at hm
 refine SO Try.func14 rfl rfl [(0,rr 0),(1,.p (.agg (Ab p1)))] [(0,bx (pm (Ap p0)))] ?_
 intro cx hnt
 refine Sq (RD hnt (nn 2 []) [1] [(3,rr 1024)] [] [(1024,bx (pm (Ab p1)))] tv ?_)
 obtain ⟨r1,hr1,hm⟩ := bo hm
 refine Sq (Sq ?_)
 refine Jn (ι := Bool) (fun (y1 : Bool) => Ai [(0,rr 0),(3,rr 1024),(12,pB y1)] [(0,bx (pm (Ap r1.2))),(1024,bx (pm (Ab p1)))]) (fun y1 => (Hi p1 r1) y1 = some RES) ?_ ?_
 ·intro y1 hm
  unfold Hi at hm
  refine Ak hm ?_ ?_
  ·intro h3 hm
   obtain ⟨r4,hr4,hm⟩ := bo hm
   refine Sq (RK hnt (.no :: o52 [0] true r4 :: nn 2 []) [(4,pI (w64 (r4.1 - 1)))] [(0,bx (pm (Ap r4.2)))] (an (Db r1.2 9 r4 hr4) (an tv tv)) ?_)
   obtain rfl := sj hm
   exact DW.ret (Am [.box (pm (Ap r4.2))] [] (pI (w64 (r4.1 - 1))))
  ·intro h3 hm
   refine Sk ?_
   obtain ⟨r5,hr5,hm⟩ := bo hm
   obtain ⟨g6,hm⟩ := go1 hm
   refine Sq (RK hnt (nn 6 (o52 [0] true r5 :: nn 4 [])) [(4,pI (p1.nodes.getD (Int.toNat r5.1) Br).id)] [(0,bx (pm (Ap r5.2)))] (an (Db r1.2 ((p1.nodes.length : Nat) : Int) r5 hr5) (an tv (an g6.1 (an g6.2 tv)))) ?_)
   obtain rfl := sj hm
   exact DW.ret (Am [.box (pm (Ap r5.2))] [] (pI (p1.nodes.getD (Int.toNat r5.1) Br).id))
 ·rcases bt r1.1 with h2 | h2
  ·replace hm := Az h2 hm
   refine RD hnt (.no :: o64 [0] true r1 :: .no :: sk 4 (pT :: [])) [] [(12,pB true)] [] [(0,bx (pm (Ap r1.2)))] (an (Nm p0 15 r1 hr1) (an tv (an5 h2 tv))) ?_
   exact jD true hm Conv.eqK
  ·replace hm := Ba h2 hm
   refine RD hnt (.no :: o64 [0] true r1 :: nn 5 (pF :: [])) [] [(12,pB (((p1.nodes.length : Nat) : Int) == 0))] [] [(0,bx (pm (Ap r1.2)))] (an (Nm p0 15 r1 hr1) (an tv (an5 h2 tv))) ?_
   exact jD (((p1.nodes.length : Nat) : Int) == 0) hm Conv.eqK
abbrev o77 (ks : List Nat) (b : Bool) (RES : Int × Ao) : Orc := .call 14 ks b (pI RES.1) [.box (pm (Ap RES.2))] []

abbrev Ho (p1 : List Protection) (k1 : Nat) := (p1.getD k1 (default : Protection))
theorem Gb (p0 : Aa) (p1 : List Protection) (RES : Bool) (hm : Gw p0 p1 = some RES) : Spec Try.prog 35 [.p (.agg (Ab p0)),.p (Ae p1)] [] (pB RES) [] [] := by
 unfold Gw at hm
 refine SO Try.func35 rfl rfl [(0,.p (.agg (Ab p0))),(1,.p (Ae p1))] [] ?_
 intro cx hnt
 refine Sq (RD hnt (nn 2 []) [0] [(2,rr 1016)] [] [(1016,bx (pm (Ab p0)))] tv ?_)
 obtain ⟨r1,hr1,hm⟩ := bo hm
 refine Sq (Sq (RD hnt (.no :: o55 [] true r1 :: .no :: []) [] [(9,pB (!r1))] [] [] (an (Hv p0 r1 hr1) tv) ?_))
 refine Ak hm ?_ ?_
 ·intro h2 hm
  refine Sq (RK hnt (.no :: []) [(4,pB false)] [] tv ?_)
  obtain rfl := sj hm
  exact DW.ret (Am [] [] (pB false))
 ·intro h2 hm
  refine Sk ?_
  refine Sq (Sq (RD hnt (.no :: []) [9] [(5,pI 0)] [] [] tv ?_))
  refine Bk ?_
  obtain ⟨hc1,hm⟩ := go1 hm
  refine DW.rangeO (fun (k1 : Nat) (s1 : Unit) => Ai [(1,.p (Ae p1)),(2,rr 1016),(5,pI ((k1 : Nat) : Int))] [(1016,bx (pm (Ab p0)))]) Ar hm Conv.eqK ?_
  intro k1 s1 n1 hk1 hs1 he1
  refine Sq (Sq (RD hnt (nn 4 []) [] [(13,pB (decide (((k1 : Nat) : Int) < ((p1.length : Nat) : Int))))] [] [] tv ?_))
  refine Ch (decide (((k1 : Nat) : Int) < ((p1.length : Nat) : Int))) ?_ ?_
  ·intro h31
   have hlt1 : k1 < p1.length := by have := of_decide_eq_true h31; omega
   have hm := hs1 hlt1
   unfold Sy at hm
   refine Sk ?_
   refine Sq (Bk ?_)
   refine Sq (RD hnt (nn 6 []) [13] [(6,rr 1048)] [] [(1048,bx (pm (As (Ho p1 k1))))] (an (nn0 k1) (an (ltc hlt1) tv)) ?_)
   obtain ⟨r32,hr32,hm⟩ := bo hm
   refine Sq ?_
   refine Jn (ι := Bool) (fun (y3 : Bool) => Ai [(1,.p (Ae p1)),(2,rr 1016),(5,pI ((k1 : Nat) : Int)),(59,pB y3)] [(1016,bx (pm (Ab p0)))]) (fun y3 => (Cc n1) y3 = some RES) ?_ ?_
   ·intro y3 hm
    unfold Cc at hm
    refine Ak hm ?_ ?_
    ·intro h43 hm
     refine Sq (RK hnt (.no :: []) [(4,pB false)] [] tv ?_)
     obtain rfl := sj hm
     exact DW.ret (Am [] [] (pB false))
    ·intro h43 hm
     refine Sk ?_
     refine DW.done ?_
     show DW _ _ _ _ _
     refine RD hnt (nn 3 []) [59] [(5,pI (w64 (((k1 : Nat) : Int) + 1)))] [] [] tv ?_
     exact jD () ⟨hlt1,hm⟩ (Conv.tp [(5,pI (w64 (((k1 : Nat) : Int) + 1)))] [] (by kernel_rfl) (.cons rfl (.of_eq (congrArg pI (Bj hlt1 hc1))) .nil) .nil)
   ·rcases bt (!r32) with h33 | h33
    ·replace hm := Az h33 hm
     refine RD hnt (nn 3 (o59 [] true r32 :: nn 2 (sk 13 (pT :: .no :: sk 3 (pT :: .no :: sk 3 (pT :: .no :: sk 3 (pT :: .no :: sk 3 (pT :: [])))))))) [6] [(59,pB true)] [1048] [] (an (Bq p0 (Ho p1 k1).group r32 hr32) (an5 h33 (an4 tt (an6 tt (an6 tt tv))))) ?_
     exact jD true hm Conv.eqK
    ·replace hm := Ba h33 hm
     rcases bt (decide (((k1 : Nat) : Int) > 0)) with h34 | h34
     ·replace hm := Az h34 hm
      obtain ⟨g35,hm⟩ := go1 hm
      rcases bt (decide ((Ho p1 k1).group ≤ (p1.getD (Int.toNat (w64 (((k1 : Nat) : Int) - 1))) Ar).group)) with h36 | h36
      ·replace hm := Az h36 hm
       refine RD hnt (nn 3 (o59 [] true r32 :: nn 14 (pT :: pF :: .no :: sk 3 (pT :: .no :: sk 3 (pT :: .no :: sk 3 (pT :: .no :: sk 3 (pT :: []))))))) [6] [(59,pB true)] [1048] [] (an (Bq p0 (Ho p1 k1).group r32 hr32) (an3 h33 (an6 h34 (an g35.1 (an g35.2 (an3 h34 (an h33 (an h34 (an h33 (an4 h36 (an6 tt (an6 tt tv)))))))))))) ?_
       exact jD true hm Conv.eqK
      ·replace hm := Ba h36 hm
       rcases bt (decide ((Ho p1 k1).min < 0)) with h37 | h37
       ·replace hm := Az h37 hm
        refine RD hnt (nn 3 (o59 [] true r32 :: nn 14 (pT :: pF :: nn 4 (pF :: .no :: sk 3 (pT :: .no :: sk 3 (pT :: .no :: sk 3 (pT :: []))))))) [6] [(59,pB true)] [1048] [] (an (Bq p0 (Ho p1 k1).group r32 hr32) (an3 h33 (an6 h34 (an g35.1 (an g35.2 (an3 h34 (an h33 (an h34 (an h33 (an4 h36 (an4 h37 (an2 tt (an6 tt tv))))))))))))) ?_
        exact jD true hm Conv.eqK
       ·replace hm := Ba h37 hm
        rcases bt (decide ((Ho p1 k1).min > 4611686018427387904)) with h38 | h38
        ·replace hm := Az h38 hm
         refine RD hnt (nn 3 (o59 [] true r32 :: nn 14 (pT :: pF :: nn 4 (pF :: nn 4 (pF :: .no :: sk 3 (pT :: .no :: sk 3 (pT :: []))))))) [6] [(59,pB true)] [1048] [] (an (Bq p0 (Ho p1 k1).group r32 hr32) (an3 h33 (an6 h34 (an g35.1 (an g35.2 (an3 h34 (an h33 (an h34 (an h33 (an4 h36 (an4 h37 (an4 h38 (an4 tt tv))))))))))))) ?_
         exact jD true hm Conv.eqK
        ·replace hm := Ba h38 hm
         rcases bt (decide ((Ho p1 k1).low < 0)) with h39 | h39
         ·replace hm := Az h39 hm
          refine RD hnt (nn 3 (o59 [] true r32 :: nn 14 (pT :: pF :: nn 4 (pF :: nn 4 (pF :: nn 4 (pF :: .no :: sk 3 (pT :: []))))))) [6] [(59,pB true)] [1048] [] (an (Bq p0 (Ho p1 k1).group r32 hr32) (an3 h33 (an6 h34 (an g35.1 (an g35.2 (an3 h34 (an h33 (an h34 (an h33 (an4 h36 (an4 h37 (an4 h38 (an4 h39 tv))))))))))))) ?_
          exact jD true hm Conv.eqK
         ·replace hm := Ba h39 hm
          refine RD hnt (nn 3 (o59 [] true r32 :: nn 14 (pT :: pF :: nn 4 (pF :: nn 4 (pF :: nn 4 (pF :: nn 4 (pF :: []))))))) [6] [(59,pB (decide ((Ho p1 k1).low > 4611686018427387904)))] [1048] [] (an (Bq p0 (Ho p1 k1).group r32 hr32) (an3 h33 (an6 h34 (an g35.1 (an g35.2 (an3 h34 (an h33 (an h34 (an h33 (an4 h36 (an4 h37 (an4 h38 (an4 h39 tv))))))))))))) ?_
          exact jD (decide ((Ho p1 k1).low > 4611686018427387904)) hm Conv.eqK
     ·replace hm := Ba h34 hm
      rcases bt (decide ((Ho p1 k1).min < 0)) with h40 | h40
      ·replace hm := Az h40 hm
       refine RD hnt (nn 3 (o59 [] true r32 :: nn 5 (sk 9 (pF :: pF :: nn 4 (pF :: .no :: sk 3 (pT :: .no :: sk 3 (pT :: .no :: sk 3 (pT :: [])))))))) [6] [(59,pB true)] [1048] [] (an (Bq p0 (Ho p1 k1).group r32 hr32) (an3 h33 (an3 h34 (an6 h34 (an h33 (an h34 (an h33 (an4 ff (an4 h40 (an2 tt (an6 tt tv))))))))))) ?_
       exact jD true hm Conv.eqK
      ·replace hm := Ba h40 hm
       rcases bt (decide ((Ho p1 k1).min > 4611686018427387904)) with h41 | h41
       ·replace hm := Az h41 hm
        refine RD hnt (nn 3 (o59 [] true r32 :: nn 5 (sk 9 (pF :: pF :: nn 4 (pF :: nn 4 (pF :: .no :: sk 3 (pT :: .no :: sk 3 (pT :: [])))))))) [6] [(59,pB true)] [1048] [] (an (Bq p0 (Ho p1 k1).group r32 hr32) (an3 h33 (an3 h34 (an6 h34 (an h33 (an h34 (an h33 (an4 ff (an4 h40 (an4 h41 (an4 tt tv))))))))))) ?_
        exact jD true hm Conv.eqK
       ·replace hm := Ba h41 hm
        rcases bt (decide ((Ho p1 k1).low < 0)) with h42 | h42
        ·replace hm := Az h42 hm
         refine RD hnt (nn 3 (o59 [] true r32 :: nn 5 (sk 9 (pF :: pF :: nn 4 (pF :: nn 4 (pF :: nn 4 (pF :: .no :: sk 3 (pT :: [])))))))) [6] [(59,pB true)] [1048] [] (an (Bq p0 (Ho p1 k1).group r32 hr32) (an3 h33 (an3 h34 (an6 h34 (an h33 (an h34 (an h33 (an4 ff (an4 h40 (an4 h41 (an4 h42 tv))))))))))) ?_
         exact jD true hm Conv.eqK
        ·replace hm := Ba h42 hm
         refine RD hnt (nn 3 (o59 [] true r32 :: nn 5 (sk 9 (pF :: pF :: nn 4 (pF :: nn 4 (pF :: nn 4 (pF :: nn 4 (pF :: [])))))))) [6] [(59,pB (decide ((Ho p1 k1).low > 4611686018427387904)))] [1048] [] (an (Bq p0 (Ho p1 k1).group r32 hr32) (an3 h33 (an3 h34 (an6 h34 (an h33 (an h34 (an h33 (an4 ff (an4 h40 (an4 h41 (an4 h42 tv))))))))))) ?_
         exact jD (decide ((Ho p1 k1).low > 4611686018427387904)) hm Conv.eqK
  ·intro h31
   have hge1 : ¬ k1 < p1.length := by have := of_decide_eq_false h31; omega
   have hm := he1 hge1
   unfold Zf at hm
   refine DW.exit ?_
   refine Aj ?_
   refine Aq ?_
   refine Af ?_
   show DW _ _ _ _ _
   refine Sq (RK hnt (.no :: []) [(4,pB true)] [] tv ?_)
   obtain rfl := sj hm
   exact DW.ret (Am [] [] (pB true))
abbrev o80 (ks : List Nat) (b : Bool) (RES : Bool) : Orc := .call 35 ks b (pB RES) [] []

abbrev Wg (k1 : Nat) : Nat × MV := (4,pI ((k1 : Nat) : Int))
theorem AbQ (p0 : List Int) (RES : List Int) (hm : Ou p0 = some RES) : Spec Try.prog 43 [.p (slI p0)] [] (ow 0 RES.length) [] [roI RES] := by
 unfold Ou at hm
 refine SO Try.func43 rfl rfl [(0,.p (slI p0))] [] ?_
 intro cx hnt
 refine Sq (RK hnt (.no :: []) [(0,.p (slI p0))] [] tv ?_)
 refine Sq (RD hnt (.no :: []) [] [(3,.p (.sl .nil 0 0 (fun _ => [])))] [] [] tv ?_)
 refine Sq (Sq (RD hnt (.no :: []) [] [(4,pI 0)] [] [] tv ?_))
 refine Bk ?_
 obtain ⟨hc1,hm⟩ := go1 hm
 refine DW.rangeO (fun (k1 : Nat) (s1 : List Int) => Ai [(0,.p (slI p0)),(3,ow 1368 s1.length),(Wg k1)] [(1368,ob0 (roI s1))]) 0 hm (Conv.ads [(.s 3,1368,1,elems Bm 0 [])]) ?_
 intro k1 s1 n1 hk1 hs1 he1
 refine Sq (Sq (RD hnt (nn 4 []) [] [(9,pB (decide (((k1 : Nat) : Int) < ((p0.length : Nat) : Int))))] [] [] tv ?_))
 refine Ch (decide (((k1 : Nat) : Int) < ((p0.length : Nat) : Int))) ?_ ?_
 ·intro h72
  have hlt1 : k1 < p0.length := by have := of_decide_eq_true h72; omega
  have hm := hs1 hlt1
  unfold Td at hm
  refine Sk ?_
  refine Sq ?_
  refine Jn (ι := List Int) (fun (y11 : List Int) => Ai [(0,.p (slI p0)),(3,ow 1368 y11.length),(Wg k1)] [(1368,ob0 (roI y11))]) (fun y11 => (Kt n1) y11 = some RES) ?_ ?_
  ·intro y11 hm
   unfold Kt at hm
   refine RD hnt (nn 3 []) [] [(4,pI (w64 (((k1 : Nat) : Int) + 1)))] [] [] tv ?_
   exact jD y11 ⟨hlt1,hm⟩ (Conv.tp [(4,pI (w64 (((k1 : Nat) : Int) + 1)))] [] (by kernel_rfl) (.cons rfl (.of_eq (congrArg pI (Bj hlt1 hc1))) .nil) .nil)
  ·refine Bk ?_
   refine Sq (RD hnt (nn 3 []) [9] [(5,pI ((s1.length : Nat) : Int))] [] [] tv ?_)
   refine Sq (Bk ?_)
   refine DW.whileO (fun (s4 : Int) => Ai [(0,.p (slI p0)),(3,ow 1368 s1.length),(Wg k1),(5,pI s4)] [(1368,ob0 (roI s1))]) hm Conv.eqK ?_
   intro s4 n4 hm
   unfold Ph at hm
   refine Sq (Sq ?_)
   refine Jn (ι := Bool) (fun (y14 : Bool) => Ai [(0,.p (slI p0)),(3,ow 1368 s1.length),(Wg k1),(5,pI s4),(27,pB y14)] [(1368,ob0 (roI s1))]) (fun y14 => (Jj (p0.getD k1 0) s1 n1 s4 n4) y14 = some RES) ?_ ?_
   ·intro y14 hm
    unfold Jj at hm
    refine Ak hm ?_ ?_
    ·intro h90 hm
     refine Sk ?_
     refine Bk ?_
     refine RD hnt (nn 3 []) [27] [(5,pI (w64 (s4 - 1)))] [] [] tv ?_
     refine DW.done ?_
     show DW _ _ _ _ _
     exact jD (w64 (s4 - 1)) hm Conv.eqK
    ·intro h90 hm
     refine DW.exit ?_
     refine Aj ?_
     refine Aq ?_
     refine Af ?_
     show DW _ _ _ _ _
     refine Sq (Sq ?_)
     refine Jn (ι := Bool) (fun (y15 : Bool) => Ai [(0,.p (slI p0)),(3,ow 1368 s1.length),(Wg k1),(5,pI s4),(43,pB y15)] [(1368,ob0 (roI s1))]) (fun y15 => (Jk (p0.getD k1 0) s1 n1 s4) y15 = some RES) ?_ ?_
     ·intro y15 hm
      unfold Jk at hm
      refine Ak hm ?_ ?_
      ·intro h94 hm
       refine DW.exit ?_
       exact Af (Acd s1 hm Conv.t0)
      ·intro h94 hm
       refine Sk ?_
       obtain ⟨g95,hm⟩ := go1 hm
       refine Sq (RN hnt (nn 4 []) [(0,.p (slI p0)),(3,ow 1368 (s1 ++ [0]).length),(Wg k1),(5,pI s4)] [(1368,ob0 (roI (s1 ++ [0])))] [(3,ow 1368 (s1.length + 1))] [(1368,.row 1 (s1.length + 1) (Da s1.length (elI s1) (cut 1 [vi 0])))] (an (by omega : (s1.length + 1) * 8 ≤ 140737488355328) tv) (by kernel_rfl) (.cons rfl (MLe.ownLen (enc := Bm) (d := 0) (f := (Da s1.length (elI s1) (cut 1 [vi 0]))) (RowIs.cat RowIs.elems (RowIs.lit (enc := Bm) (d := 0) (n := 1) (f := (cut 1 [vi 0])) [0] rfl (fun | 0,_ => rfl | n + 1,h => absurd h (by omega))))) .nil) (.cons rfl (BLe.typed (RowIs.cat RowIs.elems (RowIs.lit (enc := Bm) (d := 0) (n := 1) (f := (cut 1 [vi 0])) [0] rfl (fun | 0,_ => rfl | n + 1,h => absurd h (by omega))))) .nil) ?_)
       obtain ⟨g96,g97,g98,hm⟩ := go3 hm
       refine Sq (RN hnt (nn 8 []) [(0,.p (slI p0)),(3,ow 1368 (Lh (s1 ++ [0]) (Int.toNat (w64 (s4 + 1))) (Fr (Ef (s1 ++ [0]).length (Int.toNat s4)) (Ef (s1 ++ [0]).length (Int.toNat (w64 (s4 + 1))))) (((s1 ++ [0]).drop (Int.toNat s4)).take (Ef (s1 ++ [0]).length (Int.toNat s4)))).length),(Wg k1),(5,pI s4)] [(1368,ob0 (roI (Lh (s1 ++ [0]) (Int.toNat (w64 (s4 + 1))) (Fr (Ef (s1 ++ [0]).length (Int.toNat s4)) (Ef (s1 ++ [0]).length (Int.toNat (w64 (s4 + 1))))) (((s1 ++ [0]).drop (Int.toNat s4)).take (Ef (s1 ++ [0]).length (Int.toNat s4))))))] [(3,ow 1368 (s1 ++ [0]).length)] [(1368,.row 1 (s1 ++ [0]).length (Mv (elI (s1 ++ [0])) (Int.toNat (w64 (s4 + 1))) (Fr (Ef (s1 ++ [0]).length (Int.toNat s4)) (Ef (s1 ++ [0]).length (Int.toNat (w64 (s4 + 1))))) (shF (Int.toNat s4) (elI (s1 ++ [0])))))] (an (by omega : (0 : Int) ≤ (w64 (s4 + 1))) (an (by omega : (w64 (s4 + 1)) ≤ (((s1 ++ [0]).length : Nat) : Int)) (an (by omega : (((s1 ++ [0]).length : Nat) : Int) ≤ (((s1 ++ [0]).length : Nat) : Int)) (an (by omega : (0 : Int) ≤ s4) (an (by omega : s4 ≤ (((s1 ++ [0]).length : Nat) : Int)) (an (by omega : (((s1 ++ [0]).length : Nat) : Int) ≤ (((s1 ++ [0]).length : Nat) : Int)) (an g98 tv))))))) (by kernel_rfl) (.cons rfl (MLe.ownLen (enc := Bm) (d := 0) (f := (Mv (elI (s1 ++ [0])) (Int.toNat (w64 (s4 + 1))) (Fr (Ef (s1 ++ [0]).length (Int.toNat s4)) (Ef (s1 ++ [0]).length (Int.toNat (w64 (s4 + 1))))) (shF (Int.toNat s4) (elI (s1 ++ [0]))))) (RowIs.over RowIs.elems (RowIs.sub RowIs.elems (by first | omega | (simp only [Ip,Ug] at *; omega))) (AaN _ _).1 (by have := (AaN (Ef (s1 ++ [0]).length (Int.toNat s4)) (Ef (s1 ++ [0]).length (Int.toNat (w64 (s4 + 1))))).2; omega))) .nil) (.cons rfl (BLe.typed (RowIs.over RowIs.elems (RowIs.sub RowIs.elems (by first | omega | (simp only [Ip,Ug] at *; omega))) (AaN _ _).1 (by have := (AaN (Ef (s1 ++ [0]).length (Int.toNat s4)) (Ef (s1 ++ [0]).length (Int.toNat (w64 (s4 + 1))))).2; omega))) .nil) ?_)
       generalize (Lh (s1 ++ [0]) (Int.toNat (w64 (s4 + 1))) (Fr (Ef (s1 ++ [0]).length (Int.toNat s4)) (Ef (s1 ++ [0]).length (Int.toNat (w64 (s4 + 1))))) (((s1 ++ [0]).drop (Int.toNat s4)).take (Ef (s1 ++ [0]).length (Int.toNat s4)))) = G1 at hm ⊢
       obtain ⟨g99,g100,hm⟩ := go2 hm
       refine RN hnt (nn 8 []) [(0,.p (slI p0)),(3,ow 1368 (G1.set (Int.toNat s4) (p0.getD k1 0)).length),(Wg k1)] [(1368,ob0 (roI (G1.set (Int.toNat s4) (p0.getD k1 0))))] [(3,ow 1368 G1.length)] [(1368,.row 1 G1.length (Bt (elI G1) (Int.toNat s4) [vi (p0.getD k1 0)]))] (an (nn0 k1) (an (ltc hlt1) (an g99.1 (an g99.2 (an g100 tv))))) (by kernel_rfl) (.cons rfl (MLe.ownLen (enc := Bm) (d := 0) (f := (Bt (elI G1) (Int.toNat s4) [vi (p0.getD k1 0)])) (RowIs.upd RowIs.elems (p0.getD k1 0) rfl)) .nil) (.cons rfl (BLe.typed (RowIs.upd RowIs.elems (p0.getD k1 0) rfl)) .nil) ?_
       exact bD (G1.set (Int.toNat s4) (p0.getD k1 0)) hm .refl
     ·rcases bt (decide (s4 > 0)) with h91 | h91
      ·replace hm := Az h91 hm
       obtain ⟨g92,g93,hm⟩ := go2 hm
       refine RD hnt (nn 13 (pT :: [])) [27] [(43,pB ((s1.getD (Int.toNat (w64 (s4 - 1))) 0) == (p0.getD k1 0)))] [] [] (an4 h91 (an g92.1 (an g92.2 (an h91 (an g93 (an3 h91 (an (nn0 k1) (an (ltc hlt1) (an3 h91 tv))))))))) ?_
       exact jD ((s1.getD (Int.toNat (w64 (s4 - 1))) 0) == (p0.getD k1 0)) hm Conv.eqK
      ·replace hm := Ba h91 hm
       refine RD hnt (nn 3 (sk 10 (pF :: []))) [27] [(43,pB false)] [] [] (an5 h91 (an6 h91 tv)) ?_
       exact jD false hm Conv.eqK
   ·rcases bt (decide (s4 > 0)) with h87 | h87
    ·replace hm := Az h87 hm
     obtain ⟨g88,g89,hm⟩ := go2 hm
     refine RD hnt (nn 13 (pT :: [])) [] [(27,pB (decide ((p0.getD k1 0) < (s1.getD (Int.toNat (w64 (s4 - 1))) 0))))] [] [] (an3 h87 (an (nn0 k1) (an (ltc hlt1) (an5 h87 (an g88.1 (an g88.2 (an h87 (an g89 (an2 h87 tv))))))))) ?_
     exact jD (decide ((p0.getD k1 0) < (s1.getD (Int.toNat (w64 (s4 - 1))) 0))) hm Conv.eqK
    ·replace hm := Ba h87 hm
     refine RD hnt (nn 3 (sk 10 (pF :: []))) [] [(27,pB false)] [] [] (an5 h87 (an6 h87 tv)) ?_
     exact jD false hm Conv.eqK
 ·intro h72
  have hge1 : ¬ k1 < p0.length := by have := of_decide_eq_false h72; omega
  have hm := he1 hge1
  unfold Zj at hm
  refine DW.exit ?_
  refine Aj ?_
  refine Aq ?_
  refine Af ?_
  show DW _ _ _ _ _
  refine Sq (RK hnt (nn 2 []) [(2,ow 1368 s1.length)] [(1368,ob0 (roI s1))] tv ?_)
  obtain rfl := sj hm
  exact DW.ret (Am [roI s1] [1368] (ow 0 s1.length))
abbrev o81 (ks : List Nat) (b : Bool) (RES : List Int) : Orc := .call 43 ks b (ow 0 RES.length) [] [roI RES]

theorem Kp (p0 : List Protection) (p1 : Int) (p2 : Bool) (RES : Int) (hm : Hl p0 p1 p2 = some RES) : Spec Try.prog 85 [.p (Ae p0),pI p1,pB p2] [] (pI RES) [] [] := by
 unfold Hl at hm
 refine SO Try.func85 rfl rfl [(0,.p (Ae p0)),(1,pI p1),(2,pB p2)] [] ?_
 intro cx hnt
 refine Sq (RD hnt (.no :: []) [] [] [] [] tv ?_)
 refine Sq (Sq (RD hnt (.no :: []) [] [(7,pI 0)] [] [] tv ?_))
 refine Bk ?_
 obtain ⟨hc1,hm⟩ := go1 hm
 refine DW.rangeO (fun (k1 : Nat) (s1 : Unit) => Ai [(0,.p (Ae p0)),(1,pI p1),(2,pB p2),(7,pI ((k1 : Nat) : Int))] []) Ar hm Conv.eqK ?_
 intro k1 s1 n1 hk1 hs1 he1
 refine Sq (Sq (RD hnt (nn 4 []) [] [(11,pB (decide (((k1 : Nat) : Int) < ((p0.length : Nat) : Int))))] [] [] tv ?_))
 refine Ch (decide (((k1 : Nat) : Int) < ((p0.length : Nat) : Int))) ?_ ?_
 ·intro h13
  have hlt1 : k1 < p0.length := by have := of_decide_eq_true h13; omega
  have hm := hs1 hlt1
  unfold Qd at hm
  refine Sk ?_
  refine Sq (Bk ?_)
  refine Sq (RD hnt (nn 7 []) [11] [(20,pB ((p0.getD k1 (default : Protection)).group == p1))] [] [] (an (nn0 k1) (an (ltc hlt1) tv)) ?_)
  refine Ak hm ?_ ?_
  ·intro h14 hm
   refine Sq (Sq (RD hnt (.no :: []) [1,2,20] [(21,pB p2)] [] [] tv ?_))
   refine Ak hm ?_ ?_
   ·intro h15 hm
    refine Sq (RK hnt (nn 7 []) [(6,pI (Ck (p0.getD k1 (default : Protection)).low 16777216))] [] (an (nn0 k1) (an (ltc hlt1) tv)) ?_)
    obtain rfl := sj hm
    exact DW.ret (Am [] [] (pI (Ck (p0.getD k1 (default : Protection)).low 16777216)))
   ·intro h15 hm
    refine Sk ?_
    refine Sq (RK hnt (nn 7 []) [(6,pI (Ck (p0.getD k1 (default : Protection)).min 16777216))] [] (an (nn0 k1) (an (ltc hlt1) tv)) ?_)
    obtain rfl := sj hm
    exact DW.ret (Am [] [] (pI (Ck (p0.getD k1 (default : Protection)).min 16777216)))
  ·intro h14 hm
   refine Sk ?_
   refine DW.done ?_
   show DW _ _ _ _ _
   refine RD hnt (nn 3 []) [20] [(7,pI (w64 (((k1 : Nat) : Int) + 1)))] [] [] tv ?_
   exact jD () ⟨hlt1,hm⟩ (Conv.tp [(7,pI (w64 (((k1 : Nat) : Int) + 1)))] [] (by kernel_rfl) (.cons rfl (.of_eq (congrArg pI (Bj hlt1 hc1))) .nil) .nil)
 ·intro h13
  have hge1 : ¬ k1 < p0.length := by have := of_decide_eq_false h13; omega
  have hm := he1 hge1
  unfold Wb at hm
  refine DW.exit ?_
  refine Aj ?_
  refine Aq ?_
  refine Af ?_
  show DW _ _ _ _ _
  refine Sq (RK hnt (.no :: []) [(6,pI 0)] [] tv ?_)
  obtain rfl := sj hm
  exact DW.ret (Am [] [] (pI 0))
abbrev o84 (ks : List Nat) (b : Bool) (RES : Int) : Orc := .call 85 ks b (pI RES) [] []

theorem Vn (p0 : Aa) (p1 : Ag) (p2 : List Protection) (p3 : Int) (p4 : Bool) (RES : Int) (hm : Mg p0 p1 p2 p3 p4 = some RES) : Spec Try.prog 84 [.p (.agg (Ab p0)),.p (.agg [An p1.charges]),.p (Ae p2),pI p3,pB p4] [] (pI RES) [] [] := by
 unfold Mg at hm
 refine SO Try.func84 rfl rfl [(0,.p (.agg (Ab p0))),(1,.p (.agg [An p1.charges])),(2,.p (Ae p2)),(3,pI p3),(4,pB p4)] [] ?_
 intro cx hnt
 refine Sq (RD hnt (nn 3 []) [0,1] [(5,rr 1040),(6,rr 1048)] [] [(1040,bx (pm (Ab p0))),(1048,bx [.p (An p1.charges)])] tv ?_)
 obtain ⟨r1,hr1,hm⟩ := bo hm
 obtain ⟨r2,hr2,hm⟩ := bo hm
 refine Sq (RK hnt (nn 3 (o73 [] true r1 :: nn 3 (o84 [] true r2 :: nn 2 []))) [(10,pI (Ck r1 r2))] [] (an (Zb p0 p1 p3 r1 hr1) (an (Kp p2 p3 p4 r2 hr2) tv)) ?_)
 obtain rfl := sj hm
 exact DW.ret (Am [] [] (pI (Ck r1 r2)))
abbrev o83 (ks : List Nat) (b : Bool) (RES : Int) : Orc := .call 84 ks b (pI RES) [] []
end Go.Dm


/- Go functions compute their models, printed by a program. -/
namespace Go.Dm
open Go.Proofs
set_option linter.unusedVariables false
theorem Yj (rec : Aa → Ag → (List Protection) → Int → Int → Bool → Option Int) (ih : ∀ (p0 : Aa) (p1 : Ag) (p2 : List Protection) (p3 : Int) (p4 : Int) (p5 : Bool) (RES : Int),rec p0 p1 p2 p3 p4 p5 = some RES → Spec Try.prog 65 [.p (.agg (Ab p0)),.p (.agg [An p1.charges]),.p (Ae p2),pI p3,pI p4,pB p5] [] (pI RES) [] []) (p0 : Aa) (p1 : Ag) (p2 : List Protection) (p3 : Int) (p4 : Int) (p5 : Bool) (RES : Int) (hm : Jq rec p0 p1 p2 p3 p4 p5 = some RES) : Spec Try.prog 65 [.p (.agg (Ab p0)),.p (.agg [An p1.charges]),.p (Ae p2),pI p3,pI p4,pB p5] [] (pI RES) [] [] := by
 unfold Jq at hm
 refine SO Try.func65 rfl rfl [(0,.p (.agg (Ab p0))),(1,.p (.agg [An p1.charges])),(2,.p (Ae p2)),(3,pI p3),(4,pI p4),(5,pB p5)] [] ?_
 intro cx hnt
 refine Sq (RD hnt (nn 3 []) [0,1] [(6,rr 1048),(7,rr 1056)] [] [(1048,bx (pm (Ab p0))),(1056,bx [.p (An p1.charges)])] tv ?_)
 refine Sq (Sq (RD hnt (nn 3 []) [] [(22,pB (p4 == p3))] [] [] tv ?_))
 refine Ak hm ?_ ?_
 ·intro h1 hm
  refine Sq (RK hnt (.no :: []) [(12,pI 0)] [] tv ?_)
  obtain rfl := sj hm
  exact DW.ret (Am [] [] (pI 0))
 ·intro h1 hm
  refine Sk ?_
  obtain ⟨r2,hr2,hm⟩ := bo hm
  refine Sq (RD hnt (nn 2 (o60 [] true r2 :: nn 6 [])) [22] [(13,rr 1104)] [] [(1104,bx (pm (Ax r2.1)))] (an (Za p0 p4 r2 hr2) tv) ?_)
  obtain ⟨r3,hr3,hm⟩ := bo hm
  refine Sq (RD hnt (nn 5 (o83 [] true r3 :: .no :: [])) [4] [(15,pI r3)] [] [] (an (Vn p0 p1 p2 p4 p5 r3 hr3) tv) ?_)
  refine Sq (Sq (RD hnt (nn 4 []) [] [(38,pB (r2.1.parent == p3))] [] [] tv ?_))
  refine Ak hm ?_ ?_
  ·intro h4 hm
   refine Sq (RK hnt (nn 2 []) [(12,pI r3)] [] tv ?_)
   obtain rfl := sj hm
   exact DW.ret (Am [] [] (pI r3))
  ·intro h4 hm
   refine Sk ?_
   obtain ⟨r5,hr5,hm⟩ := bo hm
   refine Sq (RD hnt (nn 7 (.call 65 [] true (pI r5) [] [] :: .no :: [])) [3,38] [(16,pI r5)] [] [] (an (ih p0 p1 p2 p3 r2.1.parent p5 r5 hr5) tv) ?_)
   refine Sq (RD hnt (.no :: []) [] [(17,pI 0)] [] [] tv ?_)
   obtain ⟨r6,hr6,hm⟩ := bo hm
   refine Sq (RD hnt (nn 3 (o66 [] true r6 :: .no :: [])) [13] [(18,ow 1408 r6.length)] [1104] [(1408,ob0 (roI r6))] (an (Ko p0 r2.1.parent r6 hr6) tv) ?_)
   refine Sq (Sq (RK hnt (.no :: []) [(2,.p (Ae p2)),(5,pB p5),(6,rr 1048),(7,rr 1056),(15,pI r3),(16,pI r5),(17,pI 0),(18,ow 1408 r6.length),(19,pI 0)] [(1048,bx (pm (Ab p0))),(1056,bx [.p (An p1.charges)]),(1408,ob0 (roI r6))] tv ?_))
   refine Bk ?_
   obtain ⟨hc1,hm⟩ := go1 hm
   refine DW.rangeO (fun (k1 : Nat) (s1 : Int) => Ai [(2,.p (Ae p2)),(5,pB p5),(6,rr 1048),(7,rr 1056),(15,pI r3),(16,pI r5),(17,pI s1),(18,ow 1408 r6.length),(19,pI ((k1 : Nat) : Int))] [(1048,bx (pm (Ab p0))),(1056,bx [.p (An p1.charges)]),(1408,ob0 (roI r6))]) 0 hm .refl ?_
   intro k1 s1 n1 hk1 hs1 he1
   refine Sq (Sq (RD hnt (nn 4 []) [] [(55,pB (decide (((k1 : Nat) : Int) < ((r6.length : Nat) : Int))))] [] [] tv ?_))
   refine Ch (decide (((k1 : Nat) : Int) < ((r6.length : Nat) : Int))) ?_ ?_
   ·intro h18
    have hlt1 : k1 < r6.length := by have := of_decide_eq_true h18; omega
    have hm := hs1 hlt1
    unfold Ol at hm
    refine Sk ?_
    refine Sq (Bk ?_)
    obtain ⟨r19,hr19,hm⟩ := bo hm
    refine RD hnt (nn 9 (o83 [] true r19 :: nn 2 [])) [55] [(17,pI (w64 (s1 + r19)))] [] [] (an (nn0 k1) (an (ltc hlt1) (an (by omega : k1 < r6.length) (an (Vn p0 p1 p2 (r6.getD k1 0) p5 r19 hr19) tv)))) ?_
    refine DW.done ?_
    show DW _ _ _ _ _
    refine RD hnt (nn 3 []) [] [(19,pI (w64 (((k1 : Nat) : Int) + 1)))] [] [] tv ?_
    exact jD (w64 (s1 + r19)) ⟨hlt1,hm⟩ (Conv.tp [(19,pI (w64 (((k1 : Nat) : Int) + 1)))] [] (by kernel_rfl) (.cons rfl (.of_eq (congrArg pI (Bj hlt1 hc1))) .nil) .nil)
   ·intro h18
    have hge1 : ¬ k1 < r6.length := by have := of_decide_eq_false h18; omega
    have hm := he1 hge1
    unfold Oi at hm
    refine DW.exit ?_
    refine Aj ?_
    refine Aq ?_
    refine Af ?_
    show DW _ _ _ _ _
    refine Sq (Sq (RK hnt (nn 3 []) [(15,pI r3),(16,pI r5),(17,pI s1),(71,pB (decide (s1 ≤ r5)))] [] tv ?_))
    refine Ak hm ?_ ?_
    ·intro h20 hm
     refine Sq (RK hnt (nn 2 []) [(12,pI r3)] [] tv ?_)
     obtain rfl := sj hm
     exact DW.ret (Am [] [] (pI r3))
    ·intro h20 hm
     refine Sk ?_
     obtain ⟨g21,hm⟩ := go1 hm
     refine Sq (RK hnt (nn 6 []) [(12,pI (w64 (Int.tdiv (w64 (r3 * r5)) s1)))] [] (an g21 tv) ?_)
     obtain rfl := sj hm
     exact DW.ret (Am [] [] (pI (w64 (Int.tdiv (w64 (r3 * r5)) s1))))
theorem Qg : ∀ (n : Nat) (p0 : Aa) (p1 : Ag) (p2 : List Protection) (p3 : Int) (p4 : Int) (p5 : Bool) (RES : Int),Gm n p0 p1 p2 p3 p4 p5 = some RES → Spec Try.prog 65 [.p (.agg (Ab p0)),.p (.agg [An p1.charges]),.p (Ae p2),pI p3,pI p4,pB p5] [] (pI RES) [] []
  | 0,p0,p1,p2,p3,p4,p5,RES,hm => by simp [Gm] at hm
  | n + 1,p0,p1,p2,p3,p4,p5,RES,hm => Yj (Gm n) (Qg n) p0 p1 p2 p3 p4 p5 RES hm
theorem Rb (p0 : Aa) (p1 : Ag) (p2 : List Protection) (p3 : Int) (p4 : Int) (p5 : Bool) (RES : Int) (hm : Mt p0 p1 p2 p3 p4 p5 = some RES) : Spec Try.prog 65 [.p (.agg (Ab p0)),.p (.agg [An p1.charges]),.p (Ae p2),pI p3,pI p4,pB p5] [] (pI RES) [] [] := Qg Ei p0 p1 p2 p3 p4 p5 RES hm
abbrev o82 (ks : List Nat) (b : Bool) (RES : Int) : Orc := .call 65 ks b (pI RES) [] []

abbrev c79e1 (r8 : List Int) (k1 : Nat) (r29 : Int) (r30 : Int) := ({ group := (r8.getD k1 0),min := r29,low := r30 } : Protection)
abbrev c79e2 (p1 : Ag) : Nat × Obj := (1040,bx [.p (An p1.charges)])
theorem Zo (p0 : Aa) (p1 : Ag) (p2 : List Protection) (p3 : Int) (RES : (List Protection) × Int) (hm : Ew p0 p1 p2 p3 = some RES) : Spec Try.prog 32 [.p (.agg (Ab p0)),.p (.agg [An p1.charges]),.p (Ae p2),pI p3] [] (.tup [ow 0 RES.1.length,pI RES.2]) [] [Aw RES.1] := by
 unfold Ew at hm
 refine SO Try.func32 rfl rfl [(0,.p (.agg (Ab p0))),(1,.p (.agg [An p1.charges])),(2,.p (Ae p2)),(3,pI p3)] [] ?_
 intro cx hnt
 refine Sq (RD hnt (nn 4 []) [0,1] [(4,rr 1032),(5,rr 1040)] [] [(1032,bx (pm (Ab p0))),(c79e2 p1)] tv ?_)
 obtain ⟨r1,hr1,hm⟩ := bo hm
 refine Sq (Sq ?_)
 refine Jn (ι := Bool) (fun (y1 : Bool) => Ai [(2,.p (Ae p2)),(3,pI p3),(4,rr 1032),(5,rr 1040),(22,pB y1)] [(1032,bx (pm (Ab p0))),(c79e2 p1)]) (fun y1 => (El p0 p1 p2 p3) y1 = some RES) ?_ ?_
 ·intro y1 hm
  unfold El at hm
  refine Ak hm ?_ ?_
  ·intro h4 hm
   refine Sq (RK hnt (nn 2 []) [(8,.p (.sl .nil 0 0 (fun _ => []))),(9,pI 1)] [] tv ?_)
   refine DW.cv [] [(8,ow 100000 0)] [] [(100000,ob0 (Aw []))] (Conv.ads [(.s 8,100000,3,elems As Ar [])]) ?_
   obtain rfl := sj hm
   exact DW.ret (Am [Aw []] [100000] (.tup [ow 0 0,pI 1]))
  ·intro h4 hm
   refine Sk ?_
   obtain ⟨r5,hr5,hm⟩ := bo hm
   refine Sq (Sq (RD hnt (nn 2 (o59 [] true r5 :: .no :: [])) [22] [(26,pB (!r5))] [] [] (an (Bq p0 p3 r5 hr5) tv) ?_))
   refine Ak hm ?_ ?_
   ·intro h6 hm
    refine Sq (RK hnt (nn 2 []) [(8,.p (.sl .nil 0 0 (fun _ => []))),(9,pI 4)] [] tv ?_)
    refine DW.cv [] [(8,ow 100000 0)] [] [(100000,ob0 (Aw []))] (Conv.ads [(.s 8,100000,3,elems As Ar [])]) ?_
    obtain rfl := sj hm
    exact DW.ret (Am [Aw []] [100000] (.tup [ow 0 0,pI 4]))
   ·intro h6 hm
    refine Sk ?_
    refine Sq (RD hnt (.no :: []) [26] [(10,.p (.sl .nil 0 0 (fun _ => [])))] [] [] tv ?_)
    obtain ⟨r7,hr7,hm⟩ := bo hm
    obtain ⟨r8,hr8,hm⟩ := bo hm
    refine Sq (RD hnt (nn 2 (o74 [] true r7 :: o81 [] false r8 :: .no :: [])) [] [(11,ow 1240 r8.length)] [] [(1240,ob0 (roI r8))] (an (Vl p0 p3 r7 hr7) (an (AbQ r7 r8 hr8) tv)) ?_)
    refine Sq (Sq (RD hnt (.no :: []) [] [(12,pI 0)] [] [] tv ?_))
    refine Bk ?_
    obtain ⟨hc1,hm⟩ := go1 hm
    refine DW.rangeO (fun (k1 : Nat) (s1 : List Protection) => Ai [(2,.p (Ae p2)),(3,pI p3),(4,rr 1032),(5,rr 1040),(10,ow 1496 s1.length),(11,ow 1240 r8.length),(12,pI ((k1 : Nat) : Int))] [(1032,bx (pm (Ab p0))),(c79e2 p1),(1240,ob0 (roI r8)),(1496,ob0 (Aw s1))]) 0 hm (Conv.ads [(.s 10,1496,3,elems As Ar [])]) ?_
    intro k1 s1 n1 hk1 hs1 he1
    refine Sq (Sq (RD hnt (nn 4 []) [] [(34,pB (decide (((k1 : Nat) : Int) < ((r8.length : Nat) : Int))))] [] [] tv ?_))
    refine Ch (decide (((k1 : Nat) : Int) < ((r8.length : Nat) : Int))) ?_ ?_
    ·intro h28
     have hlt1 : k1 < r8.length := by have := of_decide_eq_true h28; omega
     have hm := hs1 hlt1
     unfold Oq at hm
     refine Sk ?_
     refine Sq (Bk ?_)
     obtain ⟨r29,hr29,hm⟩ := bo hm
     obtain ⟨r30,hr30,hm⟩ := bo hm
     obtain ⟨g31,hm⟩ := go1 hm
     refine RN hnt (nn 13 (o82 [] true r29 :: nn 8 (o82 [] true r30 :: nn 4 []))) [(2,.p (Ae p2)),(3,pI p3),(4,rr 1032),(5,rr 1040),(10,ow 1496 (s1 ++ [(c79e1 r8 k1 r29 r30)]).length),(11,ow 1240 r8.length),(12,pI ((k1 : Nat) : Int))] [(1032,bx (pm (Ab p0))),(c79e2 p1),(1240,ob0 (roI r8)),(1496,ob0 (Aw (s1 ++ [(c79e1 r8 k1 r29 r30)])))] [(10,ow 1496 (s1.length + 1))] [(1496,.row 3 (s1.length + 1) (Da s1.length (Ih s1) (cut 3 [vi (r8.getD k1 0),vi r29,vi r30])))] (an (nn0 k1) (an (ltc hlt1) (an (by omega : k1 < r8.length) (an (nn0 k1) (an (ltc hlt1) (an (by omega : k1 < r8.length) (an (Rb p0 p1 p2 p3 (r8.getD k1 0) false r29 hr29) (an (nn0 k1) (an (ltc hlt1) (an (by omega : k1 < r8.length) (an (Rb p0 p1 p2 p3 (r8.getD k1 0) true r30 hr30) (an (by omega : (s1.length + 1) * 24 ≤ 140737488355328) tv)))))))))))) (by kernel_rfl) (.cons rfl (MLe.ownLen (enc := As) (d := Ar) (f := (Da s1.length (Ih s1) (cut 3 [vi (r8.getD k1 0),vi r29,vi r30]))) (RowIs.cat RowIs.elems (RowIs.lit (enc := As) (d := Ar) (n := 1) (f := (cut 3 [vi (r8.getD k1 0),vi r29,vi r30])) [(c79e1 r8 k1 r29 r30)] rfl (fun | 0,_ => rfl | n + 1,h => absurd h (by omega))))) .nil) (.cons rfl (BLe.typed (RowIs.cat RowIs.elems (RowIs.lit (enc := As) (d := Ar) (n := 1) (f := (cut 3 [vi (r8.getD k1 0),vi r29,vi r30])) [(c79e1 r8 k1 r29 r30)] rfl (fun | 0,_ => rfl | n + 1,h => absurd h (by omega))))) .nil) ?_
     refine DW.done ?_
     show DW _ _ _ _ _
     refine RD hnt (nn 3 []) [] [(12,pI (w64 (((k1 : Nat) : Int) + 1)))] [] [] tv ?_
     exact jD (s1 ++ [(c79e1 r8 k1 r29 r30)]) ⟨hlt1,hm⟩ (Conv.tp [(12,pI (w64 (((k1 : Nat) : Int) + 1)))] [] (by kernel_rfl) (.cons rfl (.of_eq (congrArg pI (Bj hlt1 hc1))) .nil) .nil)
    ·intro h28
     have hge1 : ¬ k1 < r8.length := by have := of_decide_eq_false h28; omega
     have hm := he1 hge1
     unfold Tl at hm
     refine DW.exit ?_
     refine Aj ?_
     refine Aq ?_
     refine Af ?_
     show DW _ _ _ _ _
     refine Sq (RK hnt (nn 3 []) [(8,ow 1496 s1.length),(9,pI 0)] [(1496,ob0 (Aw s1))] tv ?_)
     obtain rfl := sj hm
     exact DW.ret (Am [Aw s1] [1496] (.tup [ow 0 s1.length,pI 0]))
 ·rcases bt (!r1) with h2 | h2
  ·replace hm := Az h2 hm
   refine RD hnt (nn 2 (o70 [] true r1 :: nn 2 (sk 4 (pT :: [])))) [] [(22,pB true)] [] [] (an (Qa p0 p1 r1 hr1) (an5 h2 tv)) ?_
   exact jD true hm Conv.eqK
  ·replace hm := Ba h2 hm
   obtain ⟨r3,hr3,hm⟩ := bo hm
   refine RD hnt (nn 2 (o70 [] true r1 :: nn 4 (o80 [] true r3 :: .no :: pF :: []))) [] [(22,pB (!r3))] [] [] (an (Qa p0 p1 r1 hr1) (an3 h2 (an (Gb p0 p2 r3 hr3) (an2 h2 tv)))) ?_
   exact jD (!r3) hm Conv.eqK
abbrev o79 (ks : List Nat) (b : Bool) (RES : (List Protection) × Int) : Orc := .call 32 ks b (.tup [ow 0 RES.1.length,pI RES.2]) [] [Aw RES.1]

theorem Vu (p0 : Aa) (p1 : List Protection) (p2 : Int) (p3 : Int) (p4 : Bool) (RES : Int) (hm : Me p0 p1 p2 p3 p4 = some RES) : Spec Try.prog 66 [.p (.agg (Ab p0)),.p (Ae p1),pI p2,pI p3,pB p4] [] (pI RES) [] [] := by
 unfold Me at hm
 refine SO Try.func66 rfl rfl [(0,.p (.agg (Ab p0))),(1,.p (Ae p1)),(2,pI p2),(3,pI p3),(4,pB p4)] [] ?_
 intro cx hnt
 refine Sq (RD hnt (nn 2 []) [0] [(5,rr 1040)] [] [(1040,bx (pm (Ab p0)))] tv ?_)
 obtain ⟨r1,hr1,hm⟩ := bo hm
 refine Sq (RD hnt (nn 4 (o84 [] true r1 :: nn 2 [])) [3] [(11,pI (Ck p3 r1))] [] [] (an (Kp p1 p2 p4 r1 hr1) tv) ?_)
 obtain ⟨r2,hr2,hm⟩ := bo hm
 refine Sq (RD hnt (nn 2 (o62 [] true r2 :: .no :: [])) [2] [(12,ow 1208 r2.length)] [] [(1208,ob0 (roI r2))] (an (Sf p0 p2 r2 hr2) tv) ?_)
 refine Sq (Sq (RD hnt (.no :: []) [] [(13,pI 0)] [] [] tv ?_))
 refine Bk ?_
 refine DW.whileO (fun (s1 : Int × Int) => Ai [(1,.p (Ae p1)),(4,pB p4),(5,rr 1040),(11,pI s1.1),(12,ow 1208 r2.length),(13,pI s1.2)] [(1040,bx (pm (Ab p0))),(1208,ob0 (roI r2))]) hm Conv.eqK ?_
 intro s1 n1 hm
 unfold Sz at hm
 refine Sq (Sq (RD hnt (nn 5 []) [] [(31,pB (decide ((w64 (s1.2 + 2)) < ((r2.length : Nat) : Int))))] [] [] tv ?_))
 refine Ak hm ?_ ?_
 ·intro h25 hm
  refine Sk ?_
  refine Sq ?_
  refine Jn (ι := Int) (fun (y2 : Int) => Ai [(1,.p (Ae p1)),(4,pB p4),(5,rr 1040),(11,pI y2),(12,ow 1208 r2.length),(13,pI s1.2)] [(1040,bx (pm (Ab p0))),(1208,ob0 (roI r2))]) (fun y2 => (Ma s1 n1) y2 = some RES) ?_ ?_
  ·intro y2 hm
   unfold Ma at hm
   refine RD hnt (nn 3 []) [] [(13,pI (w64 (s1.2 + 1)))] [] [] tv ?_
   exact jD (y2,(w64 (s1.2 + 1))) hm Conv.eqK
  ·refine Bk ?_
   obtain ⟨g26,g27,hm⟩ := go2 hm
   obtain ⟨r28,hr28,hm⟩ := bo hm
   refine Sq (RD hnt (nn 7 (o84 [] true r28 :: nn 2 [])) [31] [(14,pI r28),(15,pI 0)] [] [] (an g26.1 (an g26.2 (an g27 (an (Kp p1 (r2.getD (Int.toNat (w64 (s1.2 + 1))) 0) p4 r28 hr28) tv)))) ?_)
   obtain ⟨g29,g30,hm⟩ := go2 hm
   obtain ⟨r31,hr31,hm⟩ := bo hm
   refine Sq (RD hnt (nn 6 (o66 [] true r31 :: .no :: [])) [] [(16,ow 1384 r31.length)] [] [(1384,ob0 (roI r31))] (an g29.1 (an g29.2 (an g30 (an (Ko p0 (r2.getD (Int.toNat (w64 (s1.2 + 1))) 0) r31 hr31) tv)))) ?_)
   refine Sq (Sq (RD hnt (.no :: []) [] [(17,pI 0)] [] [] tv ?_))
   refine Bk ?_
   obtain ⟨hc3,hm⟩ := go1 hm
   refine DW.rangeO (fun (k3 : Nat) (s3 : Int) => Ai [(1,.p (Ae p1)),(4,pB p4),(5,rr 1040),(11,pI s1.1),(12,ow 1208 r2.length),(13,pI s1.2),(14,pI r28),(15,pI s3),(16,ow 1384 r31.length),(17,pI ((k3 : Nat) : Int))] [(1040,bx (pm (Ab p0))),(1208,ob0 (roI r2)),(1384,ob0 (roI r31))]) 0 hm Conv.eqK ?_
   intro k3 s3 n3 hk3 hs3 he3
   refine Sq (Sq (RD hnt (nn 4 []) [] [(52,pB (decide (((k3 : Nat) : Int) < ((r31.length : Nat) : Int))))] [] [] tv ?_))
   refine Ch (decide (((k3 : Nat) : Int) < ((r31.length : Nat) : Int))) ?_ ?_
   ·intro h43
    have hlt3 : k3 < r31.length := by have := of_decide_eq_true h43; omega
    have hm := hs3 hlt3
    unfold Tc at hm
    refine Sk ?_
    refine Sq (Bk ?_)
    obtain ⟨r44,hr44,hm⟩ := bo hm
    refine RD hnt (nn 7 (o84 [] true r44 :: nn 2 [])) [52] [(15,pI (w64 (s3 + r44)))] [] [] (an (nn0 k3) (an (ltc hlt3) (an (by omega : k3 < r31.length) (an (Kp p1 (r31.getD k3 0) p4 r44 hr44) tv)))) ?_
    refine DW.done ?_
    show DW _ _ _ _ _
    refine RD hnt (nn 3 []) [] [(17,pI (w64 (((k3 : Nat) : Int) + 1)))] [] [] tv ?_
    exact jD (w64 (s3 + r44)) ⟨hlt3,hm⟩ (Conv.tp [(17,pI (w64 (((k3 : Nat) : Int) + 1)))] [] (by kernel_rfl) (.cons rfl (.of_eq (congrArg pI (Bj hlt3 hc3))) .nil) .nil)
   ·intro h43
    have hge3 : ¬ k3 < r31.length := by have := of_decide_eq_false h43; omega
    have hm := he3 hge3
    unfold Sx at hm
    refine DW.exit ?_
    refine Aj ?_
    refine Aq ?_
    refine Af ?_
    show DW _ _ _ _ _
    refine Sq (RD hnt (nn 3 []) [16,17,52] [(66,pB (decide (s3 > r28)))] [1384] [] tv ?_)
    refine Ak hm ?_ ?_
    ·intro h45 hm
     obtain ⟨g46,hm⟩ := go1 hm
     refine RD hnt (nn 6 []) [14,15,66] [(11,pI (w64 (Int.tdiv (w64 (s1.1 * r28)) s3)))] [] [] (an g46 tv) ?_
     exact bD (w64 (Int.tdiv (w64 (s1.1 * r28)) s3)) hm Conv.eqK
    ·intro h45 hm
     refine Sk ?_
     exact bD s1.1 hm Conv.t0
 ·intro h25 hm
  refine DW.exit ?_
  refine Aj ?_
  refine Aq ?_
  refine Af ?_
  show DW _ _ _ _ _
  refine Sq (RK hnt (nn 2 []) [(10,pI s1.1)] [] tv ?_)
  obtain rfl := sj hm
  exact DW.ret (Am [] [] (pI s1.1))
abbrev o86 (ks : List Nat) (b : Bool) (RES : Int) : Orc := .call 66 ks b (pI RES) [] []

theorem AbU (p0 : Aa) (p1 : List Protection) (p2 : Int) (p3 : Int) (RES : Int × Int × Int) (hm : Gx p0 p1 p2 p3 = some RES) : Spec Try.prog 33 [.p (.agg (Ab p0)),.p (Ae p1),pI p2,pI p3] [] (.p (.tup [vi RES.1,vi RES.2.1,vi RES.2.2])) [] [] := by
 unfold Gx at hm
 refine SO Try.func33 rfl rfl [(0,.p (.agg (Ab p0))),(1,.p (Ae p1)),(2,pI p2),(3,pI p3)] [] ?_
 intro cx hnt
 refine Sq (RD hnt (nn 4 []) [0] [(4,rr 1032)] [] [(1032,bx (pm (Ab p0)))] tv ?_)
 refine Sq (Bk ?_)
 obtain ⟨r1,hr1,hm⟩ := bo hm
 refine Sq (RD hnt (nn 2 (o80 [] true r1 :: nn 2 [])) [] [(11,pB (!r1))] [] [] (an (Gb p0 p1 r1 hr1) tv) ?_)
 refine Ak hm ?_ ?_
 ·intro h2 hm
  refine Sq (RK hnt (nn 3 []) [(8,pI 0),(9,pI 0),(10,pI 1)] [] tv ?_)
  obtain rfl := sj hm
  exact DW.ret (Am [] [] (.p (.tup [vi 0,vi 0,vi 1])))
 ·intro h2 hm
  obtain ⟨r3,hr3,hm⟩ := bo hm
  refine Sq (RD hnt (nn 2 (o59 [] true r3 :: nn 2 [])) [11] [(16,pB (!r3))] [] [] (an (Bq p0 p2 r3 hr3) tv) ?_)
  refine Ak hm ?_ ?_
  ·intro h4 hm
   refine Sq (RK hnt (nn 3 []) [(8,pI 0),(9,pI 0),(10,pI 4)] [] tv ?_)
   obtain rfl := sj hm
   exact DW.ret (Am [] [] (.p (.tup [vi 0,vi 0,vi 4])))
  ·intro h4 hm
   refine Sq (DW.regJ (sl2 := [(1,.p (Ae p1)),(2,pI p2),(3,pI p3),(4,rr 1032),(21,pB ((decide (p3 < 0)) || (decide (p3 > 16777216))))]) (ob2 := [(1032,bx (pm (Ab p0)))]) ?_ ?_)
   ·rcases bt (decide (p3 < 0)) with h5 | h5
    ·exact RT hnt (nn 3 (sk 2 (pT :: .no :: []))) [(21,pB true)] (an3 h5 tv) (by kernel_rfl) (.cons rfl (.of_eq (by rw [h5]; try rfl)) .nil)
    ·exact RT hnt (nn 5 (pF :: .no :: [])) [(21,pB (decide (p3 > 16777216)))] (an3 h5 tv) (by kernel_rfl) (.cons rfl (.of_eq (by rw [h5]; try rfl)) .nil)
   ·refine Ak hm ?_ ?_
    ·intro h6 hm
     refine Sq (RK hnt (nn 3 []) [(8,pI 0),(9,pI 0),(10,pI 3)] [] tv ?_)
     obtain rfl := sj hm
     exact DW.ret (Am [] [] (.p (.tup [vi 0,vi 0,vi 3])))
    ·intro h6 hm
     refine Sk ?_
     refine DW.done ?_
     show DW _ _ _ _ _
     obtain ⟨r7,hr7,hm⟩ := bo hm
     obtain ⟨r8,hr8,hm⟩ := bo hm
     refine Sq (RK hnt (nn 4 (o86 [] true r7 :: nn 4 (o86 [] true r8 :: nn 3 []))) [(8,pI r7),(9,pI r8),(10,pI 0)] [] (an (Vu p0 p1 p2 p3 false r7 hr7) (an (Vu p0 p1 p2 p3 true r8 hr8) tv)) ?_)
     obtain rfl := sj hm
     exact DW.ret (Am [] [] (.p (.tup [vi r7,vi r8,vi 0])))
abbrev o85 (ks : List Nat) (b : Bool) (RES : Int × Int × Int) : Orc := .call 33 ks b (.p (.tup [vi RES.1,vi RES.2.1,vi RES.2.2])) [] []

theorem Ic (p0 : List Protection) (p1 : List Protection) (RES : Bool) (hm : Kx p0 p1 = some RES) : Spec Try.prog 36 [.p (Ae p0),.p (Ae p1)] [] (pB RES) [] [] := by
 unfold Kx at hm
 refine SO Try.func36 rfl rfl [(0,.p (Ae p0)),(1,.p (Ae p1))] [] ?_
 intro cx hnt
 refine Sq (RD hnt (.no :: []) [] [] [] [] tv ?_)
 refine Sq (Sq (RD hnt (nn 5 []) [] [(10,pB (((p0.length : Nat) : Int) != ((p1.length : Nat) : Int)))] [] [] tv ?_))
 refine Ak hm ?_ ?_
 ·intro h1 hm
  refine Sq (RK hnt (.no :: []) [(4,pB false)] [] tv ?_)
  obtain rfl := sj hm
  exact DW.ret (Am [] [] (pB false))
 ·intro h1 hm
  refine Sk ?_
  refine Sq (Sq (RD hnt (.no :: []) [10] [(5,pI 0)] [] [] tv ?_))
  refine Bk ?_
  obtain ⟨hc1,hm⟩ := go1 hm
  refine DW.rangeO (fun (k1 : Nat) (s1 : Unit) => Ai [(0,.p (Ae p0)),(1,.p (Ae p1)),(5,pI ((k1 : Nat) : Int))] []) Ar hm Conv.eqK ?_
  intro k1 s1 n1 hk1 hs1 he1
  refine Sq (Sq (RD hnt (nn 4 []) [] [(14,pB (decide (((k1 : Nat) : Int) < ((p0.length : Nat) : Int))))] [] [] tv ?_))
  refine Ch (decide (((k1 : Nat) : Int) < ((p0.length : Nat) : Int))) ?_ ?_
  ·intro h10
   have hlt1 : k1 < p0.length := by have := of_decide_eq_true h10; omega
   have hm := hs1 hlt1
   unfold Pp at hm
   refine Sk ?_
   refine Sq (Bk ?_)
   obtain ⟨g11,hm⟩ := go1 hm
   refine Sq (RD hnt (nn 9 []) [14] [(25,pB (!(Qi (p0.getD k1 (default : Protection)) (p1.getD k1 Ar))))] [] [] (an (nn0 k1) (an (ltc hlt1) (an (nn0 k1) (an (ltc g11) tv)))) ?_)
   refine Ak hm ?_ ?_
   ·intro h12 hm
    refine Sq (RK hnt (.no :: []) [(4,pB false)] [] tv ?_)
    obtain rfl := sj hm
    exact DW.ret (Am [] [] (pB false))
   ·intro h12 hm
    refine Sk ?_
    refine DW.done ?_
    show DW _ _ _ _ _
    refine RD hnt (nn 3 []) [25] [(5,pI (w64 (((k1 : Nat) : Int) + 1)))] [] [] tv ?_
    exact jD () ⟨hlt1,hm⟩ (Conv.tp [(5,pI (w64 (((k1 : Nat) : Int) + 1)))] [] (by kernel_rfl) (.cons rfl (.of_eq (congrArg pI (Bj hlt1 hc1))) .nil) .nil)
  ·intro h10
   have hge1 : ¬ k1 < p0.length := by have := of_decide_eq_false h10; omega
   have hm := he1 hge1
   unfold Uo at hm
   refine DW.exit ?_
   refine Aj ?_
   refine Aq ?_
   refine Af ?_
   show DW _ _ _ _ _
   refine Sq (RK hnt (.no :: []) [(4,pB true)] [] tv ?_)
   obtain rfl := sj hm
   exact DW.ret (Am [] [] (pB true))
abbrev o87 (ks : List Nat) (b : Bool) (RES : Bool) : Orc := .call 36 ks b (pB RES) [] []

theorem Kg (p0 : Aa) (p1 : Ag) (p2 : List Protection) (p3 : Int) (p4 : Int) (RES : Bool) (hm : Jb p0 p1 p2 p3 p4 = some RES) : Spec Try.prog 13 [.p (.agg (Ab p0)),.p (.agg [An p1.charges]),.p (Ae p2),pI p3,pI p4] [] (pB RES) [] [] := by
 unfold Jb at hm
 refine SO Try.func13 rfl rfl [(0,.p (.agg (Ab p0))),(1,.p (.agg [An p1.charges])),(2,.p (Ae p2)),(3,pI p3),(4,pI p4)] [] ?_
 intro cx hnt
 refine Sq (RD hnt (nn 3 []) [0,1] [(5,rr 1040),(6,rr 1048)] [] [(1040,bx (pm (Ab p0))),(1048,bx [.p (An p1.charges)])] tv ?_)
 obtain ⟨r1,hr1,hm⟩ := bo hm
 refine Sq (RD hnt (nn 4 (o5 [] true r1 :: nn 5 [])) [] [(11,ow 1208 r1.1.length),(12,pI r1.2)] [] [(1208,ob0 (Aw r1.1))] (an (Ky p0 p1 p2 p3 r1 hr1) tv) ?_)
 obtain ⟨r2,hr2,hm⟩ := bo hm
 refine Sq (RD hnt (nn 4 (o79 [] true r2 :: nn 5 [])) [6] [(13,ow 1272 r2.1.length),(14,pI r2.2)] [1048] [(1272,ob0 (Aw r2.1))] (an (Zo p0 p1 p2 p3 r2 hr2) tv) ?_)
 obtain ⟨r3,hr3,hm⟩ := bo hm
 refine Sq (RD hnt (nn 4 (o46 [] true r3 :: nn 7 [])) [] [(15,pI r3.1),(16,pI r3.2.1),(17,pI r3.2.2)] [] [] (an (Tj p0 p2 p3 p4 r3 hr3) tv) ?_)
 obtain ⟨r4,hr4,hm⟩ := bo hm
 refine Sq (RD hnt (nn 4 (o85 [] true r4 :: nn 7 [])) [3,4] [(18,pI r4.1),(19,pI r4.2.1),(20,pI r4.2.2)] [] [] (an (AbU p0 p2 p3 p4 r4 hr4) tv) ?_)
 obtain ⟨r5,hr5,hm⟩ := bo hm
 obtain ⟨r6,hr6,hm⟩ := bo hm
 refine Sq ?_
 refine Jn (ι := Bool) (fun (y1 : Bool) => Ai [(10,pB y1)] []) (fun y1 => Gk y1 = some RES) ?_ ?_
 ·intro y1 hm
  unfold Gk at hm
  obtain rfl := sj hm
  exact DW.ret (Am [] [] (pB y1))
 ·rcases bt (r5 == r6) with h7 | h7
  ·replace hm := Az h7 hm
   obtain ⟨r8,hr8,hm⟩ := bo hm
   rcases bt r8 with h9 | h9
   ·replace hm := Az h9 hm
    rcases bt (r1.2 == r2.2) with h10 | h10
    ·replace hm := Az h10 hm
     rcases bt (r3.1 == r4.1) with h11 | h11
     ·replace hm := Az h11 hm
      rcases bt (r3.2.1 == r4.2.1) with h12 | h12
      ·replace hm := Az h12 hm
       refine RK hnt (nn 2 (o16 [] true r5 :: nn 2 (o80 [] true r6 :: nn 4 (o87 [] true r8 :: pT :: nn 4 (pT :: nn 4 (pT :: nn 4 (pT :: nn 4 (pT :: .no :: [])))))))) [(10,pB (r3.2.2 == r4.2.2))] [] (an (Fn p0 p2 r5 hr5) (an (Gb p0 p2 r6 hr6) (an3 h7 (an (Ic r1.1 r2.1 r8 hr8) (an h7 (an4 h9 (an4 h10 (an4 h11 (an4 h12 tv))))))))) ?_
       exact jD (r3.2.2 == r4.2.2) hm .refl
      ·replace hm := Ba h12 hm
       refine RK hnt (nn 2 (o16 [] true r5 :: nn 2 (o80 [] true r6 :: nn 4 (o87 [] true r8 :: pT :: nn 4 (pT :: nn 4 (pT :: nn 4 (pT :: .no :: sk 3 (pF :: .no :: [])))))))) [(10,pB false)] [] (an (Fn p0 p2 r5 hr5) (an (Gb p0 p2 r6 hr6) (an3 h7 (an (Ic r1.1 r2.1 r8 hr8) (an h7 (an4 h9 (an4 h10 (an4 h11 (an4 h12 tv))))))))) ?_
       exact jD false hm .refl
     ·replace hm := Ba h11 hm
      refine RK hnt (nn 2 (o16 [] true r5 :: nn 2 (o80 [] true r6 :: nn 4 (o87 [] true r8 :: pT :: nn 4 (pT :: nn 4 (pT :: .no :: sk 3 (pF :: .no :: sk 3 (pF :: .no :: [])))))))) [(10,pB false)] [] (an (Fn p0 p2 r5 hr5) (an (Gb p0 p2 r6 hr6) (an3 h7 (an (Ic r1.1 r2.1 r8 hr8) (an h7 (an4 h9 (an4 h10 (an4 h11 (an4 ff tv))))))))) ?_
      exact jD false hm .refl
    ·replace hm := Ba h10 hm
     refine RK hnt (nn 2 (o16 [] true r5 :: nn 2 (o80 [] true r6 :: nn 4 (o87 [] true r8 :: pT :: nn 4 (pT :: .no :: sk 3 (pF :: .no :: sk 3 (pF :: .no :: sk 3 (pF :: .no :: [])))))))) [(10,pB false)] [] (an (Fn p0 p2 r5 hr5) (an (Gb p0 p2 r6 hr6) (an3 h7 (an (Ic r1.1 r2.1 r8 hr8) (an h7 (an4 h9 (an4 h10 (an2 ff (an6 ff tv))))))))) ?_
     exact jD false hm .refl
   ·replace hm := Ba h9 hm
    refine RK hnt (nn 2 (o16 [] true r5 :: nn 2 (o80 [] true r6 :: nn 4 (o87 [] true r8 :: pT :: .no :: sk 3 (pF :: .no :: sk 3 (pF :: .no :: sk 3 (pF :: .no :: sk 3 (pF :: .no :: [])))))))) [(10,pB false)] [] (an (Fn p0 p2 r5 hr5) (an (Gb p0 p2 r6 hr6) (an3 h7 (an (Ic r1.1 r2.1 r8 hr8) (an h7 (an4 h9 (an6 ff (an6 ff tv)))))))) ?_
    exact jD false hm .refl
  ·replace hm := Ba h7 hm
   refine RK hnt (nn 2 (o16 [] true r5 :: nn 2 (o80 [] true r6 :: nn 2 (sk 3 (pF :: .no :: sk 3 (pF :: .no :: sk 3 (pF :: .no :: sk 3 (pF :: .no :: sk 3 (pF :: .no :: []))))))))) [(10,pB false)] [] (an (Fn p0 p2 r5 hr5) (an (Gb p0 p2 r6 hr6) (an4 h7 (an4 ff (an6 ff (an6 ff tv)))))) ?_
   exact jD false hm .refl
abbrev o78 (ks : List Nat) (b : Bool) (RES : Bool) : Orc := .call 13 ks b (pB RES) [] []

abbrev c1e1 (r68 : (List Protection) × Ao) (r71 : Int × Ao) (r74 : Int × Ao) (r76 : Int × Ao) := ((r68.1.set (Int.toNat r71.1) ({ group := r74.1,min := (r68.1.getD (Int.toNat r71.1) Ar).min,low := (r68.1.getD (Int.toNat r71.1) Ar).low } : Protection)).set (Int.toNat r71.1) ({ group := ((r68.1.set (Int.toNat r71.1) ({ group := r74.1,min := (r68.1.getD (Int.toNat r71.1) Ar).min,low := (r68.1.getD (Int.toNat r71.1) Ar).low } : Protection)).getD (Int.toNat r71.1) Ar).group,min := r76.1,low := ((r68.1.set (Int.toNat r71.1) ({ group := r74.1,min := (r68.1.getD (Int.toNat r71.1) Ar).min,low := (r68.1.getD (Int.toNat r71.1) Ar).low } : Protection)).getD (Int.toNat r71.1) Ar).low } : Protection))
abbrev Jx (r68 : (List Protection) × Ao) (r71 : Int × Ao) := (r68.1.getD (Int.toNat r71.1) Ar)
abbrev c1e3 (r68 : (List Protection) × Ao) (r71 : Int × Ao) (r74 : Int × Ao) (r76 : Int × Ao) := (Bt (Bt (Ih r68.1) (Int.toNat r71.1) [vi r74.1,vi (Jx r68 r71).min,vi (Jx r68 r71).low]) (Int.toNat r71.1) (setRange ((Bt (Ih r68.1) (Int.toNat r71.1) [vi r74.1,vi (Jx r68 r71).min,vi (Jx r68 r71).low]) (Int.toNat r71.1)) 1 [vi r76.1]))
abbrev c1e4 (r68 : (List Protection) × Ao) (r71 : Int × Ao) (r74 : Int × Ao) (r76 : Int × Ao) (r78 : Int × Ao) := ({ group := ((c1e1 r68 r71 r74 r76).getD (Int.toNat r71.1) Ar).group,min := ((c1e1 r68 r71 r74 r76).getD (Int.toNat r71.1) Ar).min,low := r78.1 } : Protection)
abbrev c1e5 (r68 : (List Protection) × Ao) (r71 : Int × Ao) (r74 : Int × Ao) := ((r68.1.set (Int.toNat r71.1) ({ group := r74.1,min := (Jx r68 r71).min,low := (Jx r68 r71).low } : Protection)).getD (Int.toNat r71.1) Ar)
abbrev c1e6 (p2 : Ag) : Nat × Obj := (1064,bx [.p (An p2.charges)])
abbrev c1e7 (p1 : Aa) : Nat × Obj := (1056,bx (pm (Ab p1)))
abbrev c1e8 (r67 : Ag × Ao) : Nat × Obj := (1128,bx [.p (An r67.1.charges)])
theorem Xd (p0 : List Int) (p1 : Aa) (p2 : Ag) (p3 : List Protection) (p4 : Int) (p5 : Int) (RES : Bool) (hm : Ie p0 p1 p2 p3 p4 p5 = some RES) : Spec Try.prog 3 [.p (slI p0),.p (.agg (Ab p1)),.p (.agg [An p2.charges]),.p (Ae p3),pI p4,pI p5] [] (pB RES) [] [] := by
 unfold Ie at hm
 refine SO Try.func3 rfl rfl [(0,.p (slI p0)),(1,.p (.agg (Ab p1))),(2,.p (.agg [An p2.charges])),(3,.p (Ae p3)),(4,pI p4),(5,pI p5)] [] ?_
 intro cx hnt
 refine Sq (RD hnt (nn 3 []) [1,2] [(7,rr 1056),(8,rr 1064)] [] [(c1e7 p1),(c1e6 p2)] tv ?_)
 obtain ⟨r1,hr1,hm⟩ := bo hm
 refine Sq (Sq (RD hnt (.no :: o2 [] true r1 :: .no :: []) [] [(21,pB (!r1))] [] [] (an (AcC p0 r1 hr1) tv) ?_))
 refine Ak hm ?_ ?_
 ·intro h2 hm
  obtain ⟨r3,hr3,hm⟩ := bo hm
  refine Sq (RK hnt (o3 [] true r3 :: .no :: []) [(12,pB r3)] [] (an (Xs r3 hr3) tv) ?_)
  obtain rfl := sj hm
  exact DW.ret (Am [] [] (pB r3))
 ·intro h2 hm
  refine Sk ?_
  obtain ⟨r4,hr4,hm⟩ := bo hm
  refine Sq (RD hnt (.no :: o49 [] true r4 :: .no :: []) [0,21] [(13,rr 1192)] [] [(1192,bx (pm (Ap r4)))] (an (Adi p0 r4 hr4) tv) ?_)
  refine Sq (Sq (RD hnt (.no :: []) [] [(14,pI 0)] [] [] tv ?_))
  refine Bk ?_
  refine DW.forO (fun (k1 : Int) (s1 : Ao) => Ai [(3,.p (Ae p3)),(4,pI p4),(5,pI p5),(7,rr 1056),(8,rr 1064),(13,rr 1192),(14,pI k1)] [(c1e7 p1),(c1e6 p2),(1192,bx (pm (Ap s1)))]) (lo := 0) (hi := 3) hm Conv.eqK ?_
  intro k1 s1 n1 hk1 hs1 he1
  refine Sq (Sq (RD hnt (nn 2 []) [] [(26,pB (decide (k1 < 3)))] [] [] tv ?_))
  refine Ch (decide (k1 < 3)) ?_ ?_
  ·intro h65
   have hlt1 : k1 < 3 := by have := of_decide_eq_true h65; omega
   have hm := hs1 hlt1
   unfold Ln at hm
   refine Sk ?_
   refine Sq (Bk ?_)
   obtain ⟨r66,hr66,hm⟩ := bo hm
   refine Sq (RD hnt (.no :: o50 [1192] true r66 :: nn 2 []) [26] [(15,rr 1120)] [] [(1120,bx (pm (Ab r66.1))),(1192,bx (pm (Ap r66.2)))] (an (Aab s1 7 r66 hr66) (an tv tv)) ?_)
   obtain ⟨r67,hr67,hm⟩ := bo hm
   obtain ⟨r68,hr68,hm⟩ := bo hm
   refine Sq (RD hnt (nn 2 (o67 [1192] true r67 :: nn 2 (o76 [1192] true r68 :: nn 3 []))) [] [(16,rr 1128),(17,ow 1288 r68.1.length)] [] [(c1e8 r67),(1192,bx (pm (Ap r68.2))),(1288,ob0 (Aw r68.1))] (an (Xr r66.2 r66.1 r67 hr67) (an tv (an (Uc r67.2 r66.1 r68 hr68) (an tv tv)))) ?_)
   refine Sq (Sq (DW.regJ (sl2 := [(3,.p (Ae p3)),(4,pI p4),(5,pI p5),(7,rr 1056),(8,rr 1064),(13,rr 1192),(14,pI k1),(15,rr 1120),(16,rr 1128),(17,ow 1288 r68.1.length),(43,pB ((k1 == 2) && (decide (((r68.1.length : Nat) : Int) > 0))))]) (ob2 := [(c1e7 p1),(c1e6 p2),(1120,bx (pm (Ab r66.1))),(c1e8 r67),(1192,bx (pm (Ap r68.2))),(1288,ob0 (Aw r68.1))]) ?_ ?_))
   ·rcases bt (k1 == 2) with h69 | h69
    ·exact RT hnt (nn 6 (pT :: [])) [(43,pB (decide (((r68.1.length : Nat) : Int) > 0)))] (an4 h69 tv) (by kernel_rfl) (.cons rfl (.of_eq (by rw [h69]; try rfl)) .nil)
    ·exact RT hnt (nn 3 (sk 3 (pF :: []))) [(43,pB false)] (an4 h69 tv) (by kernel_rfl) (.cons rfl (.of_eq (by rw [h69]; try rfl)) .nil)
   ·refine Jn (ι := Ao × (List Protection)) (fun (y7 : Ao × (List Protection)) => Ai [(3,.p (Ae p3)),(4,pI p4),(5,pI p5),(7,rr 1056),(8,rr 1064),(13,rr 1192),(14,pI k1),(15,rr 1120),(16,rr 1128),(17,ow 1288 y7.2.length)] [(c1e7 p1),(c1e6 p2),(1120,bx (pm (Ab r66.1))),(c1e8 r67),(1192,bx (pm (Ap y7.1))),(1288,ob0 (Aw y7.2))]) (fun y7 => (Fw p5 n1 r66 r67) y7 = some RES) ?_ ?_
    ·intro y7 hm
     unfold Fw at hm
     obtain ⟨r82,hr82,hm⟩ := bo hm
     obtain ⟨r83,hr83,hm⟩ := bo hm
     obtain ⟨r84,hr84,hm⟩ := bo hm
     refine Sq ?_
     refine Jn (ι := Ao × Bool) (fun (y8 : Ao × Bool) => Ai [(3,.p (Ae p3)),(4,pI p4),(5,pI p5),(7,rr 1056),(8,rr 1064),(13,rr 1192),(14,pI k1),(101,pB y8.2)] [(c1e7 p1),(c1e6 p2),(1192,bx (pm (Ap y8.1)))]) (fun y8 => (Iy n1) y8 = some RES) ?_ ?_
     ·intro y8 hm
      unfold Iy at hm
      refine Ak hm ?_ ?_
      ·intro h88 hm
       refine Sq (RK hnt (.no :: []) [(12,pB false)] [] tv ?_)
       obtain rfl := sj hm
       exact DW.ret (Am [] [] (pB false))
      ·intro h88 hm
       refine Sk ?_
       refine DW.done ?_
       show DW _ _ _ _ _
       refine RD hnt (nn 3 []) [101] [(14,pI (w64 (k1 + 1)))] [] [] tv ?_
       exact jD y8.1 ⟨hlt1,hm⟩ (Conv.tp [(14,pI (w64 (k1 + 1)))] [] (by kernel_rfl) (.cons rfl (.of_eq (congrArg pI (Uk (lo := 0) (hi := 3) (by omega) hk1 hlt1 (by omega)))) .nil) .nil)
     ·rcases bt (!r84) with h85 | h85
      ·replace hm := Az h85 hm
       refine RD hnt (nn 5 (o77 [1192] true r82 :: nn 2 (o68 [1192] false r83 :: o78 [] true r84 :: nn 2 (sk 9 (pT :: []))))) [15,16,17] [(101,pB true)] [1120,1128,1288] [(1192,bx (pm (Ap r83.2)))] (an (Mp y7.1 r66.1 r82 hr82) (an tv (an (Spec.args (xs := [rr 0,.p (.sl .unk 1 7 (cut 1 [vi 0,vi 1,vi 60,vi 1000,vi (-1),vi 16777216,vi 16777217]))]) (Fb r82.2 [0,1,60,1000,(-1),16777216,16777217] r83 hr83) (.cons .rfl (.cons (.p (PLe.typed (RowIs.lit (enc := Bm) (d := 0) (n := 7) (f := (cut 1 [vi 0,vi 1,vi 60,vi 1000,vi (-1),vi 16777216,vi 16777217])) [0,1,60,1000,(-1),16777216,16777217] rfl (fun | 0,_ => rfl | 1,_ => rfl | 2,_ => rfl | 3,_ => rfl | 4,_ => rfl | 5,_ => rfl | 6,_ => rfl | n + 7,h => absurd h (by omega))))) .nil))) (an tv (an (Kg r66.1 r67.1 y7.2 r82.1 r83.1 r84 hr84) (an4 h85 (an6 h85 tv))))))) ?_
       exact jD (r83.2,true) hm Conv.eqK
      ·replace hm := Ba h85 hm
       obtain ⟨r86,hr86,hm⟩ := bo hm
       obtain ⟨r87,hr87,hm⟩ := bo hm
       refine RD hnt (nn 5 (o77 [1192] true r82 :: nn 2 (o68 [1192] false r83 :: o78 [] true r84 :: nn 7 (o77 [1192] true r86 :: .no :: o78 [] true r87 :: .no :: pF :: [])))) [15,16,17] [(101,pB (!r87))] [1120,1128,1288] [(1192,bx (pm (Ap r86.2)))] (an (Mp y7.1 r66.1 r82 hr82) (an tv (an (Spec.args (xs := [rr 0,.p (.sl .unk 1 7 (cut 1 [vi 0,vi 1,vi 60,vi 1000,vi (-1),vi 16777216,vi 16777217]))]) (Fb r82.2 [0,1,60,1000,(-1),16777216,16777217] r83 hr83) (.cons .rfl (.cons (.p (PLe.typed (RowIs.lit (enc := Bm) (d := 0) (n := 7) (f := (cut 1 [vi 0,vi 1,vi 60,vi 1000,vi (-1),vi 16777216,vi 16777217])) [0,1,60,1000,(-1),16777216,16777217] rfl (fun | 0,_ => rfl | 1,_ => rfl | 2,_ => rfl | 3,_ => rfl | 4,_ => rfl | 5,_ => rfl | 6,_ => rfl | n + 7,h => absurd h (by omega))))) .nil))) (an tv (an (Kg r66.1 r67.1 y7.2 r82.1 r83.1 r84 hr84) (an6 h85 (an (Mp r83.2 r66.1 r86 hr86) (an tv (an2 h85 (an (Kg r66.1 r67.1 y7.2 r86.1 p5 r87 hr87) (an2 h85 tv))))))))))) ?_
       exact jD (r86.2,(!r87)) hm Conv.eqK
    ·refine Ak hm ?_ ?_
     ·intro h70 hm
      obtain ⟨r71,hr71,hm⟩ := bo hm
      obtain ⟨g72,hm⟩ := go1 hm
      refine Sq (RD hnt (nn 4 (o52 [1192] true r71 :: nn 2 [])) [43] [(18,.eref 1288 0 (Int.toNat r71.1) 0)] [] [(1192,bx (pm (Ap r71.2)))] (an (Db r68.2 ((r68.1.length : Nat) : Int) r71 hr71) (an tv (an g72.1 (an g72.2 tv)))) ?_)
      obtain ⟨g73,hm⟩ := go1 hm
      obtain ⟨r74,hr74,hm⟩ := bo hm
      obtain ⟨g75,hm⟩ := go1 hm
      obtain ⟨r76,hr76,hm⟩ := bo hm
      obtain ⟨g77,hm⟩ := go1 hm
      obtain ⟨r78,hr78,hm⟩ := bo hm
      obtain ⟨g79,g80,g81,hm⟩ := go3 hm
      refine RN hnt (nn 9 (o68 [1192] false r74 :: nn 6 (o68 [1192] false r76 :: nn 6 (o68 [1192] false r78 :: nn 9 [])))) [(3,.p (Ae p3)),(4,pI p4),(5,pI p5),(7,rr 1056),(8,rr 1064),(13,rr 1192),(14,pI k1),(15,rr 1120),(16,rr 1128),(17,ow 1288 ((c1e1 r68 r71 r74 r76).set (Int.toNat r71.1) (c1e4 r68 r71 r74 r76 r78)).length)] [(c1e7 p1),(c1e6 p2),(1120,bx (pm (Ab r66.1))),(c1e8 r67),(1192,bx (pm (Ap r78.2))),(1288,ob0 (Aw ((c1e1 r68 r71 r74 r76).set (Int.toNat r71.1) (c1e4 r68 r71 r74 r76 r78))))] [(17,ow 1288 r68.1.length)] [(1288,.row 3 r68.1.length (Bt (c1e3 r68 r71 r74 r76) (Int.toNat r71.1) (setRange ((c1e3 r68 r71 r74 r76) (Int.toNat r71.1)) 2 [vi r78.1])))] (an g73 (an (Spec.args (xs := [rr 0,.p (.sl .unk 1 3 (cut 1 [vi (Jx r68 r71).group,vi 1,vi 9]))]) (Fb r71.2 [(Jx r68 r71).group,1,9] r74 hr74) (.cons .rfl (.cons (.p (PLe.typed (RowIs.lit (enc := Bm) (d := 0) (n := 3) (f := (cut 1 [vi (Jx r68 r71).group,vi 1,vi 9])) [(Jx r68 r71).group,1,9] rfl (fun | 0,_ => rfl | 1,_ => rfl | 2,_ => rfl | n + 3,h => absurd h (by omega))))) .nil))) (an tv (an g75 (an (Spec.args (xs := [rr 0,.p (.sl .unk 1 4 (cut 1 [vi (Jx r68 r71).min,vi (-1),vi 4611686018427387904,vi 4611686018427387905]))]) (Fb r74.2 [(Jx r68 r71).min,(-1),4611686018427387904,4611686018427387905] r76 hr76) (.cons .rfl (.cons (.p (PLe.typed (RowIs.lit (enc := Bm) (d := 0) (n := 4) (f := (cut 1 [vi (Jx r68 r71).min,vi (-1),vi 4611686018427387904,vi 4611686018427387905])) [(Jx r68 r71).min,(-1),4611686018427387904,4611686018427387905] rfl (fun | 0,_ => rfl | 1,_ => rfl | 2,_ => rfl | 3,_ => rfl | n + 4,h => absurd h (by omega))))) .nil))) (an tv (an g77 (an (Spec.args (xs := [rr 0,.p (.sl .unk 1 3 (cut 1 [vi (Jx r68 r71).low,vi (-1),vi 16777217]))]) (Fb r76.2 [(Jx r68 r71).low,(-1),16777217] r78 hr78) (.cons .rfl (.cons (.p (PLe.typed (RowIs.lit (enc := Bm) (d := 0) (n := 3) (f := (cut 1 [vi (Jx r68 r71).low,vi (-1),vi 16777217])) [(Jx r68 r71).low,(-1),16777217] rfl (fun | 0,_ => rfl | 1,_ => rfl | 2,_ => rfl | n + 3,h => absurd h (by omega))))) .nil))) (an tv (an g79 (an g80 (an g81 tv)))))))))))) (by kernel_rfl) (.cons rfl (MLe.ownLen (enc := As) (d := Ar) (f := (Bt (c1e3 r68 r71 r74 r76) (Int.toNat r71.1) (setRange ((c1e3 r68 r71 r74 r76) (Int.toNat r71.1)) 2 [vi r78.1]))) (RowIs.updR (RowIs.updR (RowIs.upd RowIs.elems ({ group := r74.1,min := (Jx r68 r71).min,low := (Jx r68 r71).low } : Protection) rfl) (by omega) ({ group := (c1e5 r68 r71 r74).group,min := r76.1,low := (c1e5 r68 r71 r74).low } : Protection) rfl) (by omega) (c1e4 r68 r71 r74 r76 r78) rfl)) .nil) (.cons rfl (BLe.typed (RowIs.updR (RowIs.updR (RowIs.upd RowIs.elems ({ group := r74.1,min := (Jx r68 r71).min,low := (Jx r68 r71).low } : Protection) rfl) (by omega) ({ group := (c1e5 r68 r71 r74).group,min := r76.1,low := (c1e5 r68 r71 r74).low } : Protection) rfl) (by omega) (c1e4 r68 r71 r74 r76 r78) rfl)) .nil) ?_
      exact jD (r78.2,((c1e1 r68 r71 r74 r76).set (Int.toNat r71.1) (c1e4 r68 r71 r74 r76 r78))) hm .refl
     ·intro h70 hm
      refine Sk ?_
      exact jD (r68.2,r68.1) hm Conv.t0
  ·intro h65
   have hge1 : ¬ k1 < 3 := by have := of_decide_eq_false h65; omega
   have hm := he1 hge1
   unfold Lj at hm
   refine DW.exit ?_
   refine Aj ?_
   refine Aq ?_
   refine Af ?_
   show DW _ _ _ _ _
   refine Sq ?_
   refine Jn (ι := Bool) (fun (y9 : Bool) => Ai [(12,pB y9)] []) (fun y9 => Ff y9 = some RES) ?_ ?_
   ·intro y9 hm
    unfold Ff at hm
    obtain rfl := sj hm
    exact DW.ret (Am [] [] (pB y9))
   ·rcases bt (decide (((p1.nodes.length : Nat) : Int) > 40)) with h89 | h89
    ·replace hm := Az h89 hm
     refine RK hnt (nn 5 (sk 4 (pT :: .no :: sk 3 (pT :: .no :: sk 9 (pT :: .no :: []))))) [(12,pB true)] [] (an5 h89 (an tt (an6 tt (an6 tt tv)))) ?_
     exact jD true hm .refl
    ·replace hm := Ba h89 hm
     rcases bt (decide (((p2.charges.length : Nat) : Int) > 40)) with h90 | h90
     ·replace hm := Az h90 hm
      refine RK hnt (nn 9 (pF :: .no :: sk 3 (pT :: .no :: sk 9 (pT :: .no :: [])))) [(12,pB true)] [] (an5 h89 (an4 h90 (an3 tt (an6 tt tv)))) ?_
      exact jD true hm .refl
     ·replace hm := Ba h90 hm
      rcases bt (decide (((p3.length : Nat) : Int) > 40)) with h91 | h91
      ·replace hm := Az h91 hm
       refine RK hnt (nn 9 (pF :: nn 4 (pF :: .no :: sk 9 (pT :: .no :: [])))) [(12,pB true)] [] (an5 h89 (an4 h90 (an3 h91 (an6 h91 tv)))) ?_
       exact jD true hm .refl
      ·replace hm := Ba h91 hm
       obtain ⟨r92,hr92,hm⟩ := bo hm
       rcases bt r92 with h93 | h93
       ·replace hm := Az h93 hm
        obtain ⟨r94,hr94,hm⟩ := bo hm
        refine RK hnt (nn 9 (pF :: nn 4 (pF :: nn 6 (o78 [] true r92 :: .no :: o3 [] true r94 :: pT :: pF :: .no :: [])))) [(12,pB r94)] [] (an5 h89 (an4 h90 (an6 h91 (an (Kg p1 p2 p3 p4 p5 r92 hr92) (an h91 (an h93 (an (Xs r94 hr94) (an h91 (an h93 (an h91 tv)))))))))) ?_
        exact jD r94 hm .refl
       ·replace hm := Ba h93 hm
        refine RK hnt (nn 9 (pF :: nn 4 (pF :: nn 6 (o78 [] true r92 :: .no :: .skip :: pF :: pF :: .no :: [])))) [(12,pB false)] [] (an5 h89 (an4 h90 (an6 h91 (an (Kg p1 p2 p3 p4 p5 r92 hr92) (an h91 (an h93 (an h91 (an h93 (an h91 tv))))))))) ?_
        exact jD false hm .refl
abbrev o1 (ks : List Nat) (b : Bool) (RES : Bool) : Orc := .call 3 ks b (pB RES) [] []
end Go.Dm

