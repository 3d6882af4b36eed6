/- Texts of the proof of ProtectExact: the data machine, the models of the Go functions, their contracts. -/
import Derived.Test.YtonaidnipimjgaaProtectExactA2
set_option linter.unusedVariables false
set_option linter.unusedSimpArgs false
/- Go functions compute their models, printed by a program. -/
namespace Go.Dm
open Go.Proofs
set_option linter.unusedVariables false
theorem AcC (p0 : List Int) (RES : Bool) (hm : Ua p0 = some RES) : Spec Try.prog 5 [.p (slI p0)] [] (pB RES) [] [] := by
 unfold Ua at hm
 refine SO Try.func5 rfl rfl [(0,.p (slI p0))] [] ?_
 intro cx hnt
 refine Sq (RK hnt (.no :: []) [(0,.p (slI p0))] [] tv ?_)
 refine Sq (RK hnt (nn 4 []) [(2,pB (decide (((p0.length : Nat) : Int) ≤ 600)))] [] tv ?_)
 obtain rfl := sj hm
 exact DW.ret (Am [] [] (pB (decide (((p0.length : Nat) : Int) ≤ 600))))
abbrev o2 (ks : List Nat) (b : Bool) (RES : Bool) : Orc := .call 5 ks b (pB RES) [] []

abbrev c4e1 := ({ id := 1,parent := 0,name := ByteArray.empty,control := 0,kind := 0,owner := 0 } : Ac)
abbrev c4e2 := ({ id := 2,parent := 1,name := (bs [97]),control := 0,kind := 0,owner := 0 } : Ac)
abbrev c4e3 := ({ id := 3,parent := 2,name := (bs [98]),control := 0,kind := 0,owner := 0 } : Ac)
abbrev c4e4 := ({ id := 4,parent := 2,name := (bs [99]),control := 0,kind := 0,owner := 0 } : Ac)
theorem Acz (RES : Aa) (hm : Ye = some RES) : Spec Try.prog 24 [] [] (.agg [ow 0 RES.nodes.length,pI RES.next]) [] [Bs RES.nodes] := by
 unfold Ye at hm
 refine SO Try.func24 rfl rfl [] [] ?_
 intro cx hnt
 refine Sq (RK hnt (.no :: []) [(0,rr 1000)] [(1000,bx [.p (.sl .nil 0 0 (fun _ => [])),pI 0])] tv ?_)
 refine Sq (RN hnt (nn 7 []) [(0,rr 1000)] [(1000,bx [ow 1040 [(c4e1),(c4e2),(c4e3),(c4e4)].length,pI 5]),(1040,ob0 (Bs [(c4e1),(c4e2),(c4e3),(c4e4)]))] [] [(1000,.box [ow 1040 4,pI 5]),(1040,.row 6 4 (cut 6 [vi 1,vi 0,vs ByteArray.empty,vi 0,vi 0,vi 0,vi 2,vi 1,vs (bs [97]),vi 0,vi 0,vi 0,vi 3,vi 2,vs (bs [98]),vi 0,vi 0,vi 0,vi 4,vi 2,vs (bs [99]),vi 0,vi 0,vi 0]))] tv (by kernel_rfl) .nil (.cons rfl (.box (.cons (MLe.ownLen (enc := Ax) (d := Br) (f := (cut 6 [vi 1,vi 0,vs ByteArray.empty,vi 0,vi 0,vi 0,vi 2,vi 1,vs (bs [97]),vi 0,vi 0,vi 0,vi 3,vi 2,vs (bs [98]),vi 0,vi 0,vi 0,vi 4,vi 2,vs (bs [99]),vi 0,vi 0,vi 0])) (RowIs.lit (enc := Ax) (d := Br) (n := 4) (f := (cut 6 [vi 1,vi 0,vs ByteArray.empty,vi 0,vi 0,vi 0,vi 2,vi 1,vs (bs [97]),vi 0,vi 0,vi 0,vi 3,vi 2,vs (bs [98]),vi 0,vi 0,vi 0,vi 4,vi 2,vs (bs [99]),vi 0,vi 0,vi 0])) [(c4e1),(c4e2),(c4e3),(c4e4)] rfl (fun | 0,_ => rfl | 1,_ => rfl | 2,_ => rfl | 3,_ => rfl | n + 4,h => absurd h (by omega)))) (.cons .rfl .nil))) (.cons rfl (BLe.typed (RowIs.lit (enc := Ax) (d := Br) (n := 4) (f := (cut 6 [vi 1,vi 0,vs ByteArray.empty,vi 0,vi 0,vi 0,vi 2,vi 1,vs (bs [97]),vi 0,vi 0,vi 0,vi 3,vi 2,vs (bs [98]),vi 0,vi 0,vi 0,vi 4,vi 2,vs (bs [99]),vi 0,vi 0,vi 0])) [(c4e1),(c4e2),(c4e3),(c4e4)] rfl (fun | 0,_ => rfl | 1,_ => rfl | 2,_ => rfl | 3,_ => rfl | n + 4,h => absurd h (by omega)))) .nil)) ?_)
 obtain rfl := sj hm
 exact DW.ret (Am [Bs [(c4e1),(c4e2),(c4e3),(c4e4)]] [1040] (.agg [ow 0 [(c4e1),(c4e2),(c4e3),(c4e4)].length,pI 5]))
abbrev o4 (ks : List Nat) (b : Bool) (RES : Aa) : Orc := .call 24 ks b (.agg [ow 0 RES.nodes.length,pI RES.next]) [] [Bs RES.nodes]

theorem Adm (p0 : Ac) (RES : Bool) (hm : Wj p0 = some RES) : Spec Try.prog 86 [.p (.agg (Ax p0))] [] (pB RES) [] [] := by
 unfold Wj at hm
 refine SO Try.func86 rfl rfl [(0,.p (.agg (Ax p0)))] [] ?_
 intro cx hnt
 refine Sq (RK hnt (nn 2 []) [(1,rr 1008)] [(1008,bx (pm (Ax p0)))] tv ?_)
 refine Sq (DW.regJ (sl2 := [(2,pB ((((p0.id == 1) && (p0.parent == 0)) && (Dl p0.name ByteArray.empty)) && (p0.kind == 0)))]) (ob2 := []) ?_ ?_)
 ·rcases bt (p0.id == 1) with h1 | h1
  ·rcases bt (p0.parent == 0) with h2 | h2
   ·rcases bt (Dl p0.name ByteArray.empty) with h3 | h3
    ·exact RT hnt (nn 7 (pT :: nn 4 (pT :: nn 4 (pT :: .no :: [])))) [(2,pB (p0.kind == 0))] (an4 h1 (an4 h2 (an4 h3 tv))) (by kernel_rfl) (.cons rfl (.of_eq (by rw [h1,h2,h3]; try rfl)) .nil)
    ·exact RT hnt (nn 7 (pT :: nn 4 (pT :: .no :: sk 3 (pF :: .no :: [])))) [(2,pB false)] (an4 h1 (an4 h2 (an4 h3 tv))) (by kernel_rfl) (.cons rfl (.of_eq (by rw [h1,h2,h3]; try rfl)) .nil)
   ·exact RT hnt (nn 7 (pT :: .no :: sk 3 (pF :: .no :: sk 3 (pF :: .no :: [])))) [(2,pB false)] (an4 h1 (an4 h2 (an4 ff tv))) (by kernel_rfl) (.cons rfl (.of_eq (by rw [h1,h2]; try rfl)) .nil)
  ·exact RT hnt (nn 4 (sk 3 (pF :: .no :: sk 3 (pF :: .no :: sk 3 (pF :: .no :: []))))) [(2,pB false)] (an4 h1 (an2 ff (an6 ff tv))) (by kernel_rfl) (.cons rfl (.of_eq (by rw [h1]; try rfl)) .nil)
 ·refine DW.ret ?_
  obtain rfl := sj hm
  exact Am [] [] (pB ((((p0.id == 1) && (p0.parent == 0)) && (Dl p0.name ByteArray.empty)) && (p0.kind == 0)))
abbrev o8 (ks : List Nat) (b : Bool) (RES : Bool) : Orc := .call 86 ks b (pB RES) [] []

theorem AcK (p0 : Int) (RES : Bool) (hm : Tw p0 = some RES) : Spec Try.prog 131 [.p (vk .u8 p0)] [] (pB RES) [] [] := by
 unfold Tw at hm
 refine SO Try.func131 rfl rfl [(0,.p (vk .u8 p0))] [] ?_
 intro cx hnt
 refine Sq (RD hnt (.no :: []) [] [] [] [] tv ?_)
 refine Sq (DW.regJ (sl2 := [(2,pB ((((((decide (p0 ≥ 97)) && (decide (p0 ≤ 122))) || ((decide (p0 ≥ 65)) && (decide (p0 ≤ 90)))) || ((decide (p0 ≥ 48)) && (decide (p0 ≤ 57)))) || (p0 == 95)) || (p0 == 45)))]) (ob2 := []) ?_ ?_)
 ·rcases bt (decide (p0 ≥ 97)) with h1 | h1
  ·rcases bt (decide (p0 ≤ 122)) with h2 | h2
   ·exact RT hnt (nn 5 (pT :: .no :: sk 6 (pT :: .no :: sk 6 (pT :: .no :: sk 2 (pT :: .no :: sk 2 (pT :: .no :: [])))))) [(2,pB true)] (an3 h1 (an5 h2 (an5 tt (an6 tt tv)))) (by kernel_rfl) (.cons rfl (.of_eq (by rw [h1,h2]; try rfl)) .nil)
   ·rcases bt (decide (p0 ≥ 65)) with h3 | h3
    ·rcases bt (decide (p0 ≤ 90)) with h4 | h4
     ·exact RT hnt (nn 5 (pT :: nn 6 (pT :: pF :: .no :: sk 6 (pT :: .no :: sk 2 (pT :: .no :: sk 2 (pT :: .no :: [])))))) [(2,pB true)] (an3 h1 (an3 h2 (an2 h3 (an h2 (an h3 (an h2 (an5 h4 (an6 tt tv)))))))) (by kernel_rfl) (.cons rfl (.of_eq (by rw [h1,h2,h3,h4]; try rfl)) .nil)
     ·rcases bt (decide (p0 ≥ 48)) with h5 | h5
      ·rcases bt (decide (p0 ≤ 57)) with h6 | h6
       ·exact RT hnt (nn 5 (pT :: nn 6 (pT :: pF :: nn 6 (pT :: pF :: .no :: sk 2 (pT :: .no :: sk 2 (pT :: .no :: [])))))) [(2,pB true)] (an3 h1 (an3 h2 (an2 h3 (an h2 (an h3 (an h2 (an3 h4 (an2 h5 (an h4 (an h5 (an h4 (an3 h6 (an3 tt tv))))))))))))) (by kernel_rfl) (.cons rfl (.of_eq (by rw [h1,h2,h3,h4,h5,h6]; try rfl)) .nil)
       ·rcases bt (p0 == 95) with h7 | h7
        ·exact RT hnt (nn 5 (pT :: nn 6 (pT :: pF :: nn 6 (pT :: pF :: nn 3 (pF :: .no :: sk 2 (pT :: .no :: [])))))) [(2,pB true)] (an3 h1 (an3 h2 (an2 h3 (an h2 (an h3 (an h2 (an3 h4 (an2 h5 (an h4 (an h5 (an h4 (an3 h6 (an3 h7 tv))))))))))))) (by kernel_rfl) (.cons rfl (.of_eq (by rw [h1,h2,h3,h4,h5,h6,h7]; try rfl)) .nil)
        ·exact RT hnt (nn 5 (pT :: nn 6 (pT :: pF :: nn 6 (pT :: pF :: nn 3 (pF :: nn 3 (pF :: .no :: [])))))) [(2,pB (p0 == 45))] (an3 h1 (an3 h2 (an2 h3 (an h2 (an h3 (an h2 (an3 h4 (an2 h5 (an h4 (an h5 (an h4 (an3 h6 (an3 h7 tv))))))))))))) (by kernel_rfl) (.cons rfl (.of_eq (by rw [h1,h2,h3,h4,h5,h6,h7]; try rfl)) .nil)
      ·rcases bt (p0 == 95) with h8 | h8
       ·exact RT hnt (nn 5 (pT :: nn 6 (pT :: pF :: nn 4 (sk 2 (pF :: pF :: nn 3 (pF :: .no :: sk 2 (pT :: .no :: []))))))) [(2,pB true)] (an3 h1 (an3 h2 (an2 h3 (an h2 (an h3 (an h2 (an3 h4 (an2 h5 (an h4 (an h5 (an h4 (an3 ff (an3 h8 tv))))))))))))) (by kernel_rfl) (.cons rfl (.of_eq (by rw [h1,h2,h3,h4,h5,h8]; try rfl)) .nil)
       ·exact RT hnt (nn 5 (pT :: nn 6 (pT :: pF :: nn 4 (sk 2 (pF :: pF :: nn 3 (pF :: nn 3 (pF :: .no :: []))))))) [(2,pB (p0 == 45))] (an3 h1 (an3 h2 (an2 h3 (an h2 (an h3 (an h2 (an3 h4 (an2 h5 (an h4 (an h5 (an h4 (an3 ff (an3 h8 tv))))))))))))) (by kernel_rfl) (.cons rfl (.of_eq (by rw [h1,h2,h3,h4,h5,h8]; try rfl)) .nil)
    ·rcases bt (decide (p0 ≥ 48)) with h9 | h9
     ·rcases bt (decide (p0 ≤ 57)) with h10 | h10
      ·exact RT hnt (nn 5 (pT :: nn 4 (sk 2 (pF :: pF :: nn 6 (pT :: pF :: .no :: sk 2 (pT :: .no :: sk 2 (pT :: .no :: []))))))) [(2,pB true)] (an3 h1 (an3 h2 (an2 h3 (an h2 (an h3 (an h2 (an3 ff (an2 h9 (an ff (an h9 (an ff (an3 h10 (an3 tt tv))))))))))))) (by kernel_rfl) (.cons rfl (.of_eq (by rw [h1,h2,h3,h9,h10]; try rfl)) .nil)
      ·rcases bt (p0 == 95) with h11 | h11
       ·exact RT hnt (nn 5 (pT :: nn 4 (sk 2 (pF :: pF :: nn 6 (pT :: pF :: nn 3 (pF :: .no :: sk 2 (pT :: .no :: []))))))) [(2,pB true)] (an3 h1 (an3 h2 (an2 h3 (an h2 (an h3 (an h2 (an3 ff (an2 h9 (an ff (an h9 (an ff (an3 h10 (an3 h11 tv))))))))))))) (by kernel_rfl) (.cons rfl (.of_eq (by rw [h1,h2,h3,h9,h10,h11]; try rfl)) .nil)
       ·exact RT hnt (nn 5 (pT :: nn 4 (sk 2 (pF :: pF :: nn 6 (pT :: pF :: nn 3 (pF :: nn 3 (pF :: .no :: []))))))) [(2,pB (p0 == 45))] (an3 h1 (an3 h2 (an2 h3 (an h2 (an h3 (an h2 (an3 ff (an2 h9 (an ff (an h9 (an ff (an3 h10 (an3 h11 tv))))))))))))) (by kernel_rfl) (.cons rfl (.of_eq (by rw [h1,h2,h3,h9,h10,h11]; try rfl)) .nil)
     ·rcases bt (p0 == 95) with h12 | h12
      ·exact RT hnt (nn 5 (pT :: nn 4 (sk 2 (pF :: pF :: nn 4 (sk 2 (pF :: pF :: nn 3 (pF :: .no :: sk 2 (pT :: .no :: [])))))))) [(2,pB true)] (an3 h1 (an3 h2 (an2 h3 (an h2 (an h3 (an h2 (an3 ff (an2 h9 (an ff (an h9 (an4 ff (an3 h12 tv)))))))))))) (by kernel_rfl) (.cons rfl (.of_eq (by rw [h1,h2,h3,h9,h12]; try rfl)) .nil)
      ·exact RT hnt (nn 5 (pT :: nn 4 (sk 2 (pF :: pF :: nn 4 (sk 2 (pF :: pF :: nn 3 (pF :: nn 3 (pF :: .no :: [])))))))) [(2,pB (p0 == 45))] (an3 h1 (an3 h2 (an2 h3 (an h2 (an h3 (an h2 (an3 ff (an2 h9 (an ff (an h9 (an4 ff (an3 h12 tv)))))))))))) (by kernel_rfl) (.cons rfl (.of_eq (by rw [h1,h2,h3,h9,h12]; try rfl)) .nil)
  ·rcases bt (decide (p0 ≥ 65)) with h13 | h13
   ·rcases bt (decide (p0 ≤ 90)) with h14 | h14
    ·exact RT hnt (nn 3 (sk 2 (pF :: nn 6 (pT :: pF :: .no :: sk 6 (pT :: .no :: sk 2 (pT :: .no :: sk 2 (pT :: .no :: []))))))) [(2,pB true)] (an3 h1 (an3 ff (an2 h13 (an ff (an h13 (an ff (an5 h14 (an6 tt tv)))))))) (by kernel_rfl) (.cons rfl (.of_eq (by rw [h1,h13,h14]; try rfl)) .nil)
    ·rcases bt (decide (p0 ≥ 48)) with h15 | h15
     ·rcases bt (decide (p0 ≤ 57)) with h16 | h16
      ·exact RT hnt (nn 3 (sk 2 (pF :: nn 6 (pT :: pF :: nn 6 (pT :: pF :: .no :: sk 2 (pT :: .no :: sk 2 (pT :: .no :: []))))))) [(2,pB true)] (an3 h1 (an3 ff (an2 h13 (an ff (an h13 (an ff (an3 h14 (an2 h15 (an h14 (an h15 (an h14 (an3 h16 (an3 tt tv))))))))))))) (by kernel_rfl) (.cons rfl (.of_eq (by rw [h1,h13,h14,h15,h16]; try rfl)) .nil)
      ·rcases bt (p0 == 95) with h17 | h17
       ·exact RT hnt (nn 3 (sk 2 (pF :: nn 6 (pT :: pF :: nn 6 (pT :: pF :: nn 3 (pF :: .no :: sk 2 (pT :: .no :: []))))))) [(2,pB true)] (an3 h1 (an3 ff (an2 h13 (an ff (an h13 (an ff (an3 h14 (an2 h15 (an h14 (an h15 (an h14 (an3 h16 (an3 h17 tv))))))))))))) (by kernel_rfl) (.cons rfl (.of_eq (by rw [h1,h13,h14,h15,h16,h17]; try rfl)) .nil)
       ·exact RT hnt (nn 3 (sk 2 (pF :: nn 6 (pT :: pF :: nn 6 (pT :: pF :: nn 3 (pF :: nn 3 (pF :: .no :: []))))))) [(2,pB (p0 == 45))] (an3 h1 (an3 ff (an2 h13 (an ff (an h13 (an ff (an3 h14 (an2 h15 (an h14 (an h15 (an h14 (an3 h16 (an3 h17 tv))))))))))))) (by kernel_rfl) (.cons rfl (.of_eq (by rw [h1,h13,h14,h15,h16,h17]; try rfl)) .nil)
     ·rcases bt (p0 == 95) with h18 | h18
      ·exact RT hnt (nn 3 (sk 2 (pF :: nn 6 (pT :: pF :: nn 4 (sk 2 (pF :: pF :: nn 3 (pF :: .no :: sk 2 (pT :: .no :: [])))))))) [(2,pB true)] (an3 h1 (an3 ff (an2 h13 (an ff (an h13 (an ff (an3 h14 (an2 h15 (an h14 (an h15 (an h14 (an3 ff (an3 h18 tv))))))))))))) (by kernel_rfl) (.cons rfl (.of_eq (by rw [h1,h13,h14,h15,h18]; try rfl)) .nil)
      ·exact RT hnt (nn 3 (sk 2 (pF :: nn 6 (pT :: pF :: nn 4 (sk 2 (pF :: pF :: nn 3 (pF :: nn 3 (pF :: .no :: [])))))))) [(2,pB (p0 == 45))] (an3 h1 (an3 ff (an2 h13 (an ff (an h13 (an ff (an3 h14 (an2 h15 (an h14 (an h15 (an h14 (an3 ff (an3 h18 tv))))))))))))) (by kernel_rfl) (.cons rfl (.of_eq (by rw [h1,h13,h14,h15,h18]; try rfl)) .nil)
   ·rcases bt (decide (p0 ≥ 48)) with h19 | h19
    ·rcases bt (decide (p0 ≤ 57)) with h20 | h20
     ·exact RT hnt (nn 3 (sk 2 (pF :: nn 4 (sk 2 (pF :: pF :: nn 6 (pT :: pF :: .no :: sk 2 (pT :: .no :: sk 2 (pT :: .no :: [])))))))) [(2,pB true)] (an3 h1 (an3 ff (an2 h13 (an ff (an h13 (an4 ff (an2 h19 (an ff (an h19 (an ff (an3 h20 (an3 tt tv)))))))))))) (by kernel_rfl) (.cons rfl (.of_eq (by rw [h1,h13,h19,h20]; try rfl)) .nil)
     ·rcases bt (p0 == 95) with h21 | h21
      ·exact RT hnt (nn 3 (sk 2 (pF :: nn 4 (sk 2 (pF :: pF :: nn 6 (pT :: pF :: nn 3 (pF :: .no :: sk 2 (pT :: .no :: [])))))))) [(2,pB true)] (an3 h1 (an3 ff (an2 h13 (an ff (an h13 (an4 ff (an2 h19 (an ff (an h19 (an ff (an3 h20 (an3 h21 tv)))))))))))) (by kernel_rfl) (.cons rfl (.of_eq (by rw [h1,h13,h19,h20,h21]; try rfl)) .nil)
      ·exact RT hnt (nn 3 (sk 2 (pF :: nn 4 (sk 2 (pF :: pF :: nn 6 (pT :: pF :: nn 3 (pF :: nn 3 (pF :: .no :: [])))))))) [(2,pB (p0 == 45))] (an3 h1 (an3 ff (an2 h13 (an ff (an h13 (an4 ff (an2 h19 (an ff (an h19 (an ff (an3 h20 (an3 h21 tv)))))))))))) (by kernel_rfl) (.cons rfl (.of_eq (by rw [h1,h13,h19,h20,h21]; try rfl)) .nil)
    ·rcases bt (p0 == 95) with h22 | h22
     ·exact RT hnt (nn 3 (sk 2 (pF :: nn 4 (sk 2 (pF :: pF :: nn 4 (sk 2 (pF :: pF :: nn 3 (pF :: .no :: sk 2 (pT :: .no :: []))))))))) [(2,pB true)] (an3 h1 (an3 ff (an2 h13 (an ff (an h13 (an4 ff (an2 h19 (an ff (an h19 (an4 ff (an3 h22 tv))))))))))) (by kernel_rfl) (.cons rfl (.of_eq (by rw [h1,h13,h19,h22]; try rfl)) .nil)
     ·exact RT hnt (nn 3 (sk 2 (pF :: nn 4 (sk 2 (pF :: pF :: nn 4 (sk 2 (pF :: pF :: nn 3 (pF :: nn 3 (pF :: .no :: []))))))))) [(2,pB (p0 == 45))] (an3 h1 (an3 ff (an2 h13 (an ff (an h13 (an4 ff (an2 h19 (an ff (an h19 (an4 ff (an3 h22 tv))))))))))) (by kernel_rfl) (.cons rfl (.of_eq (by rw [h1,h13,h19,h22]; try rfl)) .nil)
 ·refine DW.ret ?_
  obtain rfl := sj hm
  exact Am [] [] (pB ((((((decide (p0 ≥ 97)) && (decide (p0 ≤ 122))) || ((decide (p0 ≥ 65)) && (decide (p0 ≤ 90)))) || ((decide (p0 ≥ 48)) && (decide (p0 ≤ 57)))) || (p0 == 95)) || (p0 == 45)))
abbrev o11 (ks : List Nat) (b : Bool) (RES : Bool) : Orc := .call 131 ks b (pB RES) [] []

theorem Rm (p0 : ByteArray) (RES : Bool) (hm : Pz p0 = some RES) : Spec Try.prog 109 [pS p0] [] (pB RES) [] [] := by
 unfold Pz at hm
 refine SO Try.func109 rfl rfl [(0,pS p0)] [] ?_
 intro cx hnt
 refine Sq (RK hnt (.no :: []) [(0,pS p0)] [] tv ?_)
 refine Sq (Sq (RN hnt (nn 4 []) [(0,pS p0),(6,.p (La 1 (encK .u8) 0 (Hb p0))),(7,pI ((p0.size : Nat) : Int)),(8,pI 0)] [] [(6,.p (.sl .unk 1 p0.size (Xt p0)))] [] tv (by kernel_rfl) (.cons rfl (MLe.typed RowIs.bytes) .nil) .nil ?_))
 refine Bk ?_
 obtain ⟨hc1,hm⟩ := go1 hm
 refine DW.rangeO (fun (k1 : Nat) (s1 : Unit) => Ai [(0,pS p0),(6,.p (La 1 (encK .u8) 0 (Hb p0))),(7,pI ((p0.size : Nat) : Int)),(8,pI ((k1 : Nat) : Int))] []) 0 hm .refl ?_
 intro k1 s1 n1 hk1 hs1 he1
 refine Sq (RD hnt (.no :: []) [] [(9,pB (decide (((k1 : Nat) : Int) < ((p0.size : Nat) : Int))))] [] [] tv ?_)
 refine Sq (Ch (decide (((k1 : Nat) : Int) < ((p0.size : Nat) : Int))) ?_ ?_)
 ·intro h15
  have hlt1 : k1 < (Hb p0).length := by have := of_decide_eq_true h15; have := Ly p0; omega
  have hm := hs1 hlt1
  unfold Uz at hm
  refine Sk ?_
  refine Sq (Bk ?_)
  refine Sq (RD hnt (nn 3 []) [9] [(4,.p (vk .u8 ((Hb p0).getD k1 0)))] [] [] (an (nn0 k1) (an (ltc hlt1) tv)) ?_)
  obtain ⟨r16,hr16,hm⟩ := bo hm
  refine Sq (RD hnt (.no :: o11 [] true r16 :: .no :: []) [4] [(14,pB (!r16))] [] [] (an (AcK ((Hb p0).getD k1 0) r16 hr16) tv) ?_)
  refine Ak hm ?_ ?_
  ·intro h17 hm
   refine Sq (RK hnt (.no :: []) [(2,pB false)] [] tv ?_)
   obtain rfl := sj hm
   exact DW.ret (Am [] [] (pB false))
  ·intro h17 hm
   refine Sk ?_
   refine DW.done ?_
   show DW _ _ _ _ _
   refine RD hnt (nn 2 []) [14] [(8,pI (w64 (((k1 : Nat) : Int) + 1)))] [] [] tv ?_
   exact jD () ⟨hlt1,hm⟩ (Conv.tp [(8,pI (w64 (((k1 : Nat) : Int) + 1)))] [] (by kernel_rfl) (.cons rfl (.of_eq (congrArg pI (Bj hlt1 hc1))) .nil) .nil)
 ·intro h15
  have hge1 : ¬ k1 < (Hb p0).length := by have := of_decide_eq_false h15; have := Ly p0; omega
  have hm := he1 hge1
  unfold Vd at hm
  refine DW.exit ?_
  refine Aj ?_
  refine Aq ?_
  refine Af ?_
  show DW _ _ _ _ _
  refine Sq ?_
  refine Jn (ι := Bool) (fun (y3 : Bool) => Ai [(2,pB y3)] []) (fun y3 => Le y3 = some RES) ?_ ?_
  ·intro y3 hm
   unfold Le at hm
   obtain rfl := sj hm
   exact DW.ret (Am [] [] (pB y3))
  ·rcases bt (!(Dl p0 ByteArray.empty)) with h18 | h18
   ·replace hm := Az h18 hm
    rcases bt (decide (((p0.size : Nat) : Int) ≤ 32)) with h19 | h19
    ·replace hm := Az h19 hm
     obtain ⟨g20,hm⟩ := go1 hm
     refine RK hnt (nn 6 (pT :: nn 4 (pT :: .no :: []))) [(2,pB ((((Bb p0 0) : Nat) : Int) != 45))] [] (an4 h18 (an2 h19 (an (nn0 0) (an (ltc g20) (an2 h19 tv))))) ?_
     exact jD ((((Bb p0 0) : Nat) : Int) != 45) hm .refl
    ·replace hm := Ba h19 hm
     refine RK hnt (nn 6 (pT :: .no :: sk 3 (pF :: .no :: []))) [(2,pB false)] [] (an4 h18 (an4 h19 tv)) ?_
     exact jD false hm .refl
   ·replace hm := Ba h18 hm
    refine RK hnt (nn 3 (sk 3 (pF :: .no :: sk 3 (pF :: .no :: [])))) [(2,pB false)] [] (an4 h18 (an4 ff tv)) ?_
    exact jD false hm .refl
abbrev o10 (ks : List Nat) (b : Bool) (RES : Bool) : Orc := .call 109 ks b (pB RES) [] []

abbrev c9e1 (p0 : List Ac) (k1 : Nat) := (p0.getD k1 (default : Ac))
abbrev c9e2 (p1 : Ac) : Nat × Obj := (1024,bx (pm (Ax p1)))
abbrev c9e3 (p0 : List Ac) : Nat × MV := (35,pI ((p0.length : Nat) : Int))
theorem Adc (p0 : List Ac) (p1 : Ac) (RES : Bool) (hm : Sd p0 p1 = some RES) : Spec Try.prog 87 [.p (Fx p0),.p (.agg (Ax p1))] [] (pB RES) [] [] := by
 unfold Sd at hm
 refine SO Try.func87 rfl rfl [(0,.p (Fx p0)),(1,.p (.agg (Ax p1)))] [] ?_
 intro cx hnt
 refine Sq (RD hnt (nn 2 []) [1] [(3,rr 1024)] [] [(c9e2 p1)] tv ?_)
 obtain ⟨g1,hm⟩ := go1 hm
 refine Sq (Sq ?_)
 refine Jn (ι := Bool) (fun (y1 : Bool) => Ai [(0,.p (Fx p0)),(3,rr 1024),(33,pB y1)] [(c9e2 p1)]) (fun y1 => (Hz p0 p1) y1 = some RES) ?_ ?_
 ·intro y1 hm
  unfold Hz at hm
  refine Ak hm ?_ ?_
  ·intro h6 hm
   refine Sq (RK hnt (.no :: []) [(4,pB false)] [] tv ?_)
   obtain rfl := sj hm
   exact DW.ret (Am [] [] (pB false))
  ·intro h6 hm
   refine Sk ?_
   refine Sq (RD hnt (.no :: []) [33] [(5,pB false)] [] [] tv ?_)
   refine Sq (Sq (RD hnt (nn 3 []) [0] [(34,.p (Fx p0)),(c9e3 p0),(36,pI 0)] [] [] tv ?_))
   refine Bk ?_
   obtain ⟨hc1,hm⟩ := go1 hm
   refine DW.rangeO (fun (k1 : Nat) (s1 : Bool) => Ai [(3,rr 1024),(5,pB s1),(34,.p (Fx p0)),(c9e3 p0),(36,pI ((k1 : Nat) : Int))] [(c9e2 p1)]) Br hm Conv.eqK ?_
   intro k1 s1 n1 hk1 hs1 he1
   refine Sq (RD hnt (.no :: []) [] [(37,pB (decide (((k1 : Nat) : Int) < ((p0.length : Nat) : Int))))] [] [] tv ?_)
   refine Sq (Ch (decide (((k1 : Nat) : Int) < ((p0.length : Nat) : Int))) ?_ ?_)
   ·intro h16
    have hlt1 : k1 < p0.length := by have := of_decide_eq_true h16; omega
    have hm := hs1 hlt1
    unfold Xk at hm
    refine Sk ?_
    refine Sq (Bk ?_)
    refine Sq (RD hnt (nn 4 []) [37] [(7,rr 1056)] [] [(1056,bx (pm (Ax (c9e1 p0 k1))))] (an (nn0 k1) (an (ltc hlt1) tv)) ?_)
    refine Sq (DW.regJ (sl2 := [(3,rr 1024),(5,pB (s1 || ((c9e1 p0 k1).id == p1.parent))),(7,rr 1056),(34,.p (Fx p0)),(c9e3 p0),(36,pI ((k1 : Nat) : Int))]) (ob2 := [(c9e2 p1),(1056,bx (pm (Ax (c9e1 p0 k1))))]) ?_ ?_)
    ·rcases bt s1 with h17 | h17
     ·exact RT hnt (nn 2 (sk 5 (pT :: .no :: []))) [(5,pB true)] (an6 h17 tv) (by kernel_rfl) (.cons rfl (.of_eq (by rw [h17]; try rfl)) .nil)
     ·exact RT hnt (nn 7 (pF :: .no :: [])) [(5,pB ((c9e1 p0 k1).id == p1.parent))] (an6 h17 tv) (by kernel_rfl) (.cons rfl (.of_eq (by rw [h17]; try rfl)) .nil)
    ·refine Sq (DW.regJ (sl2 := [(3,rr 1024),(5,pB (s1 || ((c9e1 p0 k1).id == p1.parent))),(34,.p (Fx p0)),(c9e3 p0),(36,pI ((k1 : Nat) : Int)),(59,pB (((c9e1 p0 k1).parent == p1.parent) && (Dl (c9e1 p0 k1).name p1.name)))]) (ob2 := [(c9e2 p1)]) ?_ ?_)
     ·rcases bt ((c9e1 p0 k1).parent == p1.parent) with h18 | h18
      ·exact RT hnt (nn 11 (pT :: [])) [(59,pB (Dl (c9e1 p0 k1).name p1.name))] (an6 h18 tv) (by kernel_rfl) (.cons rfl (.of_eq (by rw [h18]; try rfl)) .nil)
      ·exact RT hnt (nn 6 (sk 5 (pF :: []))) [(59,pB false)] (an6 h18 tv) (by kernel_rfl) (.cons rfl (.of_eq (by rw [h18]; try rfl)) .nil)
     ·refine Ak hm ?_ ?_
      ·intro h19 hm
       refine Sq (RK hnt (.no :: []) [(4,pB false)] [] tv ?_)
       obtain rfl := sj hm
       exact DW.ret (Am [] [] (pB false))
      ·intro h19 hm
       refine Sk ?_
       refine DW.done ?_
       show DW _ _ _ _ _
       refine RD hnt (nn 2 []) [59] [(36,pI (w64 (((k1 : Nat) : Int) + 1)))] [] [] tv ?_
       exact jD (s1 || ((c9e1 p0 k1).id == p1.parent)) ⟨hlt1,hm⟩ (Conv.tp [(36,pI (w64 (((k1 : Nat) : Int) + 1)))] [] (by kernel_rfl) (.cons rfl (.of_eq (congrArg pI (Bj hlt1 hc1))) .nil) .nil)
   ·intro h16
    have hge1 : ¬ k1 < p0.length := by have := of_decide_eq_false h16; omega
    have hm := he1 hge1
    unfold Abl at hm
    refine DW.exit ?_
    refine Aj ?_
    refine Aq ?_
    refine Af ?_
    show DW _ _ _ _ _
    refine Sq (RK hnt (nn 2 []) [(4,pB s1)] [] tv ?_)
    obtain rfl := sj hm
    exact DW.ret (Am [] [] (pB s1))
 ·rcases bt (decide (p1.id ≤ (p0.getD (Int.toNat (w64 (((p0.length : Nat) : Int) - 1))) Br).id)) with h2 | h2
  ·replace hm := Az h2 hm
   refine RD hnt (nn 11 (sk 4 (pT :: .no :: sk 8 (pT :: [])))) [] [(33,pB true)] [] [] (an g1.1 (an g1.2 (an5 h2 (an6 tt tv)))) ?_
   exact jD true hm Conv.eqK
  ·replace hm := Ba h2 hm
   obtain ⟨r3,hr3,hm⟩ := bo hm
   rcases bt (!r3) with h4 | h4
   ·replace hm := Az h4 hm
    refine RD hnt (nn 13 (o10 [] true r3 :: .no :: pF :: .no :: sk 8 (pT :: []))) [] [(33,pB true)] [] [] (an g1.1 (an g1.2 (an3 h2 (an (Rm p1.name r3 hr3) (an2 h2 (an6 h4 tv)))))) ?_
    exact jD true hm Conv.eqK
   ·replace hm := Ba h4 hm
    rcases bt (p1.kind != 0) with h5 | h5
    ·replace hm := Az h5 hm
     refine RD hnt (nn 13 (o10 [] true r3 :: .no :: pF :: nn 8 (pT :: pF :: []))) [] [(33,pB (p1.kind != 1))] [] [] (an g1.1 (an g1.2 (an3 h2 (an (Rm p1.name r3 hr3) (an2 h2 (an4 h4 (an3 h5 (an h4 (an h5 (an h4 tv)))))))))) ?_
     exact jD (p1.kind != 1) hm Conv.eqK
    ·replace hm := Ba h5 hm
     refine RD hnt (nn 13 (o10 [] true r3 :: .no :: pF :: nn 5 (sk 3 (pF :: pF :: [])))) [] [(33,pB false)] [] [] (an g1.1 (an g1.2 (an3 h2 (an (Rm p1.name r3 hr3) (an2 h2 (an4 h4 (an3 h5 (an h4 (an h5 (an h4 tv)))))))))) ?_
     exact jD false hm Conv.eqK
abbrev o9 (ks : List Nat) (b : Bool) (RES : Bool) : Orc := .call 87 ks b (pB RES) [] []

abbrev Mr (p0 : Aa) (k1 : Nat) := (p0.nodes.getD k1 (default : Ac))
abbrev c7e2 (s1 : IMap Int) (p0 : Aa) (k1 : Nat) := (s1.set (Mr p0 k1).id (w64 ((s1.get (Mr p0 k1).parent) + 1)))
abbrev c7e3 (p0 : Aa) : Nat × MV := (27,pI ((p0.nodes.length : Nat) : Int))
abbrev c7e4 (p0 : Aa) : Nat × Obj := (1008,bx (pm (Ab p0)))
theorem Xn (p0 : Aa) (RES : Bool) (hm : Kc p0 = some RES) : Spec Try.prog 67 [.p (.agg (Ab p0))] [] (pB RES) [] [] := by
 unfold Kc at hm
 refine SO Try.func67 rfl rfl [(0,.p (.agg (Ab p0)))] [] ?_
 intro cx hnt
 refine Sq (RK hnt (nn 2 []) [(1,rr 1008)] [(c7e4 p0)] tv ?_)
 refine Sq (Sq ?_)
 refine Jn (ι := Bool) (fun (y1 : Bool) => Ai [(1,rr 1008),(23,pB y1)] [(c7e4 p0)]) (fun y1 => (Ld p0) y1 = some RES) ?_ ?_
 ·intro y1 hm
  unfold Ld at hm
  refine Ak hm ?_ ?_
  ·intro h5 hm
   refine Sq (RK hnt (.no :: []) [(2,pB false)] [] tv ?_)
   obtain rfl := sj hm
   exact DW.ret (Am [] [] (pB false))
  ·intro h5 hm
   refine Sk ?_
   refine Sq (RD hnt (nn 2 []) [23] [(3,.mref 1192 0)] [] [(1192,ob0 (Fh vi (vi 0) (IMap.empty 0)))] tv ?_)
   refine Sq (Sq (RD hnt (nn 4 []) [] [(26,.p (Fx p0.nodes)),(c7e3 p0),(28,pI 0)] [] [] tv ?_))
   refine Bk ?_
   obtain ⟨hc1,hm⟩ := go1 hm
   refine DW.rangeO (fun (k1 : Nat) (s1 : IMap Int) => Ai [(1,rr 1008),(3,.mref 1192 0),(26,.p (Fx p0.nodes)),(c7e3 p0),(28,pI ((k1 : Nat) : Int))] [(c7e4 p0),(1192,ob0 (Fh vi (vi 0) s1))]) Br hm Conv.eqK ?_
   intro k1 s1 n1 hk1 hs1 he1
   refine Sq (RD hnt (.no :: []) [] [(29,pB (decide (((k1 : Nat) : Int) < ((p0.nodes.length : Nat) : Int))))] [] [] tv ?_)
   refine Sq (Ch (decide (((k1 : Nat) : Int) < ((p0.nodes.length : Nat) : Int))) ?_ ?_)
   ·intro h36
    have hlt1 : k1 < p0.nodes.length := by have := of_decide_eq_true h36; omega
    have hm := hs1 hlt1
    unfold Ve at hm
    refine Sk ?_
    refine Sq (Bk ?_)
    refine Sq (RD hnt (nn 6 []) [29] [(4,pI ((k1 : Nat) : Int)),(5,rr 1040)] [] [(1040,bx (pm (Ax (Mr p0 k1))))] (an (nn0 k1) (an (ltc hlt1) tv)) ?_)
    refine Sq (Sq ?_)
    refine Jn (ι := Bool) (fun (y8 : Bool) => Ai [(1,rr 1008),(3,.mref 1192 0),(4,pI ((k1 : Nat) : Int)),(5,rr 1040),(26,.p (Fx p0.nodes)),(c7e3 p0),(28,pI ((k1 : Nat) : Int)),(64,pB y8)] [(c7e4 p0),(1040,bx (pm (Ax (Mr p0 k1)))),(1192,ob0 (Fh vi (vi 0) s1))]) (fun y8 => (Ft k1 (Mr p0 k1) s1 n1) y8 = some RES) ?_ ?_
    ·intro y8 hm
     unfold Ft at hm
     refine Ak hm ?_ ?_
     ·intro h44 hm
      refine Sq (RK hnt (.no :: []) [(2,pB false)] [] tv ?_)
      obtain rfl := sj hm
      exact DW.ret (Am [] [] (pB false))
     ·intro h44 hm
      refine Sk ?_
      refine Sq (Sq (RD hnt (nn 2 []) [4,64] [(66,pB (decide (((k1 : Nat) : Int) > 0)))] [] [] tv ?_))
      refine Jn (ι := IMap Int) (fun (y9 : IMap Int) => Ai [(1,rr 1008),(3,.mref 1192 0),(5,rr 1040),(26,.p (Fx p0.nodes)),(c7e3 p0),(28,pI ((k1 : Nat) : Int))] [(c7e4 p0),(1040,bx (pm (Ax (Mr p0 k1)))),(1192,ob0 (Fh vi (vi 0) y9))]) (fun y9 => (Nq (Mr p0 k1) n1) y9 = some RES) ?_ ?_
      ·intro y9 hm
       unfold Nq at hm
       refine Sq (RD hnt (nn 5 []) [5] [(79,pB (decide ((y9.get (Mr p0 k1).id) > 8)))] [1040] [] (an (rfl : vi 0 = vi 0) tv) ?_)
       refine Ak hm ?_ ?_
       ·intro h46 hm
        refine Sq (RK hnt (.no :: []) [(2,pB false)] [] tv ?_)
        obtain rfl := sj hm
        exact DW.ret (Am [] [] (pB false))
       ·intro h46 hm
        refine Sk ?_
        refine DW.done ?_
        show DW _ _ _ _ _
        refine RD hnt (nn 2 []) [79] [(28,pI (w64 (((k1 : Nat) : Int) + 1)))] [] [] tv ?_
        exact jD y9 ⟨hlt1,hm⟩ (Conv.tp [(28,pI (w64 (((k1 : Nat) : Int) + 1)))] [] (by kernel_rfl) (.cons rfl (.of_eq (congrArg pI (Bj hlt1 hc1))) .nil) .nil)
      ·refine Ak hm ?_ ?_
       ·intro h45 hm
        refine RD hnt (nn 8 (.asM (c7e2 s1 p0 k1).has (fun j => vi ((c7e2 s1 p0 k1).get j)) :: [])) [66] [] [] [(1192,ob0 (Fh vi (vi 0) (c7e2 s1 p0 k1)))] (an (rfl : vi 0 = vi 0) (an (Np s1 (Mr p0 k1).id (w64 ((s1.get (Mr p0 k1).parent) + 1))) (an (Nh vi s1 (Mr p0 k1).id (w64 ((s1.get (Mr p0 k1).parent) + 1))) tv))) ?_
        exact jD (c7e2 s1 p0 k1) hm Conv.eqK
       ·intro h45 hm
        refine Sk ?_
        exact jD s1 hm Conv.t0
    ·rcases bt (decide ((Mr p0 k1).control < 0)) with h37 | h37
     ·replace hm := Az h37 hm
      refine RD hnt (nn 4 (sk 4 (pT :: .no :: sk 3 (pT :: .no :: sk 3 (pT :: .no :: sk 11 (pT :: [])))))) [] [(64,pB true)] [] [] (an5 h37 (an tt (an6 tt (an6 tt tv)))) ?_
      exact jD true hm Conv.eqK
     ·replace hm := Ba h37 hm
      rcases bt ((Rp .i64 (Mr p0 k1).control 31) != 0) with h38 | h38
      ·replace hm := Az h38 hm
       refine RD hnt (nn 8 (pF :: .no :: sk 3 (pT :: .no :: sk 3 (pT :: .no :: sk 11 (pT :: []))))) [] [(64,pB true)] [] [] (an5 h37 (an4 h38 (an3 tt (an6 tt tv)))) ?_
       exact jD true hm Conv.eqK
      ·replace hm := Ba h38 hm
       rcases bt (decide ((Mr p0 k1).owner < 0)) with h39 | h39
       ·replace hm := Az h39 hm
        refine RD hnt (nn 8 (pF :: nn 4 (pF :: .no :: sk 3 (pT :: .no :: sk 11 (pT :: []))))) [] [(64,pB true)] [] [] (an5 h37 (an4 h38 (an4 h39 (an5 tt tv)))) ?_
        exact jD true hm Conv.eqK
       ·replace hm := Ba h39 hm
        rcases bt (decide ((Mr p0 k1).owner > 1048576)) with h40 | h40
        ·replace hm := Az h40 hm
         refine RD hnt (nn 8 (pF :: nn 4 (pF :: nn 4 (pF :: .no :: sk 11 (pT :: []))))) [] [(64,pB true)] [] [] (an5 h37 (an4 h38 (an4 h39 (an5 h40 tv)))) ?_
         exact jD true hm Conv.eqK
        ·replace hm := Ba h40 hm
         rcases bt (decide (((k1 : Nat) : Int) > 0)) with h41 | h41
         ·replace hm := Az h41 hm
          obtain ⟨g42,hm⟩ := go1 hm
          obtain ⟨r43,hr43,hm⟩ := bo hm
          refine RD hnt (nn 8 (pF :: nn 4 (pF :: nn 4 (pF :: nn 9 (o9 [] true r43 :: .no :: pT :: pF :: []))))) [] [(64,pB (!r43))] [] [] (an5 h37 (an4 h38 (an4 h39 (an3 h40 (an4 h41 (an (by omega : (0 : Int) ≤ 0) (an (by omega : (0 : Int) ≤ ((k1 : Nat) : Int)) (an (by omega : ((k1 : Nat) : Int) ≤ ((p0.nodes.length : Nat) : Int)) (an2 h41 (an (Spec.args (xs := [.p (.sl .unk 6 k1 (Xo p0.nodes)),.p (.agg (Ax (Mr p0 k1)))]) (Adc (p0.nodes.take k1) (Mr p0 k1) r43 hr43) (.cons (.p (PLe.typed (RowIs.elems.take (by omega)))) (.cons .rfl .nil))) (an h41 (an h40 (an h41 (an h40 tv)))))))))))))) ?_
          exact jD (!r43) hm Conv.eqK
         ·replace hm := Ba h41 hm
          refine RD hnt (nn 8 (pF :: nn 4 (pF :: nn 4 (pF :: nn 4 (sk 7 (pF :: pF :: [])))))) [] [(64,pB false)] [] [] (an5 h37 (an4 h38 (an4 h39 (an3 h40 (an h41 (an6 h41 (an h40 (an h41 (an h40 tv))))))))) ?_
          exact jD false hm Conv.eqK
   ·intro h36
    have hge1 : ¬ k1 < p0.nodes.length := by have := of_decide_eq_false h36; omega
    have hm := he1 hge1
    unfold Uy at hm
    refine DW.exit ?_
    refine Aj ?_
    refine Aq ?_
    refine Af ?_
    show DW _ _ _ _ _
    obtain ⟨g47,hm⟩ := go1 hm
    refine Sq ?_
    refine Jn (ι := Bool) (fun (y10 : Bool) => Ai [(2,pB y10)] []) (fun y10 => Mc y10 = some RES) ?_ ?_
    ·intro y10 hm
     unfold Mc at hm
     obtain rfl := sj hm
     exact DW.ret (Am [] [] (pB y10))
    ·rcases bt (decide (p0.next > (p0.nodes.getD (Int.toNat (w64 (((p0.nodes.length : Nat) : Int) - 1))) Br).id)) with h48 | h48
     ·replace hm := Az h48 hm
      refine RK hnt (nn 16 (pT :: .no :: [])) [(2,pB (decide (p0.next ≤ 2147483648)))] [] (an g47.1 (an g47.2 (an4 h48 tv))) ?_
      exact jD (decide (p0.next ≤ 2147483648)) hm .refl
     ·replace hm := Ba h48 hm
      refine RK hnt (nn 13 (sk 3 (pF :: .no :: []))) [(2,pB false)] [] (an g47.1 (an g47.2 (an4 h48 tv))) ?_
      exact jD false hm .refl
 ·rcases bt (decide (((p0.nodes.length : Nat) : Int) < 1)) with h1 | h1
  ·replace hm := Az h1 hm
   refine RD hnt (nn 5 (sk 4 (pT :: .no :: sk 6 (pT :: [])))) [] [(23,pB true)] [] [] (an5 h1 (an tt (an6 tt tv))) ?_
   exact jD true hm Conv.eqK
  ·replace hm := Ba h1 hm
   rcases bt (decide (((p0.nodes.length : Nat) : Int) > 64)) with h2 | h2
   ·replace hm := Az h2 hm
    refine RD hnt (nn 9 (pF :: .no :: sk 6 (pT :: []))) [] [(23,pB true)] [] [] (an5 h1 (an h2 (an6 h2 tv))) ?_
    exact jD true hm Conv.eqK
   ·replace hm := Ba h2 hm
    obtain ⟨g3,hm⟩ := go1 hm
    obtain ⟨r4,hr4,hm⟩ := bo hm
    refine RD hnt (nn 9 (pF :: nn 5 (o8 [] true r4 :: .no :: pF :: []))) [] [(23,pB (!r4))] [] [] (an5 h1 (an3 h2 (an (nn0 0) (an (ltc g3) (an2 h2 (an (Adm (p0.nodes.getD 0 Br) r4 hr4) (an2 h2 tv))))))) ?_
    exact jD (!r4) hm Conv.eqK
abbrev o7 (ks : List Nat) (b : Bool) (RES : Bool) : Orc := .call 67 ks b (pB RES) [] []

theorem Acs (p0 : Ac) (p1 : Int) (RES : Bool) (hm : Xi p0 p1 = some RES) : Spec Try.prog 108 [.p (.agg (Ax p0)),rr 0] [.box [pI p1]] (pB RES) [.box [pI p1]] [] := by
 unfold Xi at hm
 refine SO Try.func108 rfl rfl [(0,.p (.agg (Ax p0))),(1,rr 0)] [(0,bx [pI p1])] ?_
 intro cx hnt
 refine Sq (RD hnt (nn 2 []) [0] [(2,rr 1016)] [] [(1016,bx (pm (Ax p0)))] tv ?_)
 refine Sq (RK hnt (nn 5 []) [(3,pB (p0.id == p1))] [(0,bx [pI p1])] tv ?_)
 obtain rfl := sj hm
 exact DW.ret (Am [.box [pI p1]] [] (pB (p0.id == p1)))

theorem Nd (p0 : List Ac) (p1c0 : Int) (RES : Int) (hm : Eu p0 p1c0 = some RES) : Spec Try.prog 107 [.p (Fx p0),.fn 108 [rr 0]] [.box [pI p1c0]] (pI RES) [.box [pI p1c0]] [] := by
 unfold Eu at hm
 refine SO Try.func107 rfl rfl [(0,.p (Fx p0)),(1,.fn 108 [rr 0])] [(0,bx [pI p1c0])] ?_
 intro cx hnt
 refine Sq (RD hnt (.no :: []) [] [] [] [] tv ?_)
 refine Sq (Sq (RD hnt (nn 3 []) [] [(7,pI ((p0.length : Nat) : Int)),(8,pI 0)] [] [] tv ?_))
 refine Bk ?_
 obtain ⟨hc1,hm⟩ := go1 hm
 refine DW.rangeO (fun (k1 : Nat) (s1 : Unit) => Ai [(0,.p (Fx p0)),(1,.fn 108 [rr 0]),(7,pI ((p0.length : Nat) : Int)),(8,pI ((k1 : Nat) : Int))] [(0,bx [pI p1c0])]) Br hm Conv.eqK ?_
 intro k1 s1 n1 hk1 hs1 he1
 refine Sq (RD hnt (.no :: []) [] [(9,pB (decide (((k1 : Nat) : Int) < ((p0.length : Nat) : Int))))] [] [] tv ?_)
 refine Sq (Ch (decide (((k1 : Nat) : Int) < ((p0.length : Nat) : Int))) ?_ ?_)
 ·intro h9
  have hlt1 : k1 < p0.length := by have := of_decide_eq_true h9; omega
  have hm := hs1 hlt1
  unfold Ik at hm
  refine Sk ?_
  refine Sq (Bk ?_)
  refine Sq (RD hnt (nn 2 []) [9] [(5,pI ((k1 : Nat) : Int))] [] [] tv ?_)
  obtain ⟨r10,hr10,hm⟩ := bo hm
  refine Sq (RD hnt (nn 5 (.call 108 [0] true (pB r10) [.box [pI p1c0]] [] :: [])) [] [(16,pB r10)] [] [] (an (nn0 k1) (an (ltc hlt1) (an (Acs (p0.getD k1 (default : Ac)) p1c0 r10 hr10) (an tv tv)))) ?_)
  refine Ak hm ?_ ?_
  ·intro h11 hm
   refine Sq (RK hnt (nn 2 []) [(4,pI ((k1 : Nat) : Int))] [(0,bx [pI p1c0])] tv ?_)
   obtain rfl := sj hm
   exact DW.ret (Am [.box [pI p1c0]] [] (pI ((k1 : Nat) : Int)))
  ·intro h11 hm
   refine Sk ?_
   refine DW.done ?_
   show DW _ _ _ _ _
   refine RD hnt (nn 2 []) [5,16] [(8,pI (w64 (((k1 : Nat) : Int) + 1)))] [] [] tv ?_
   exact jD () ⟨hlt1,hm⟩ (Conv.tp [(8,pI (w64 (((k1 : Nat) : Int) + 1)))] [] (by kernel_rfl) (.cons rfl (.of_eq (congrArg pI (Bj hlt1 hc1))) .nil) .nil)
 ·intro h9
  have hge1 : ¬ k1 < p0.length := by have := of_decide_eq_false h9; omega
  have hm := he1 hge1
  unfold Io at hm
  refine DW.exit ?_
  refine Aj ?_
  refine Aq ?_
  refine Af ?_
  show DW _ _ _ _ _
  refine Sq (RK hnt (.no :: []) [(4,pI (-1))] [(0,bx [pI p1c0])] tv ?_)
  obtain rfl := sj hm
  exact DW.ret (Am [.box [pI p1c0]] [] (pI (-1)))

theorem Zc (p0 : Aa) (p1 : Int) (RES : Int) (hm : Nf p0 p1 = some RES) : Spec Try.prog 75 [.p (.agg (Ab p0)),pI p1] [] (pI RES) [] [] := by
 unfold Nf at hm
 refine SO Try.func75 rfl rfl [(0,.p (.agg (Ab p0))),(1,pI p1)] [] ?_
 intro cx hnt
 refine Sq (RK hnt (nn 3 []) [(2,rr 1016),(3,rr 1024)] [(1016,bx (pm (Ab p0))),(1024,bx [pI p1])] tv ?_)
 obtain ⟨r1,hr1,hm⟩ := bo hm
 refine Sq (RK hnt (nn 3 (.call 107 [1024] true (pI r1) [.box [pI p1]] [] :: .no :: [])) [(4,pI r1)] [] (an (Nd p0.nodes p1 r1 hr1) (an tv tv)) ?_)
 obtain rfl := sj hm
 exact DW.ret (Am [] [] (pI r1))
abbrev o13 (ks : List Nat) (b : Bool) (RES : Int) : Orc := .call 75 ks b (pI RES) [] []

theorem Ii (p0 : Aa) (p1 : Int) (RES : Ac × Bool) (hm : Fj p0 p1 = some RES) : Spec Try.prog 46 [.p (.agg (Ab p0)),pI p1] [] (.p (.tup [.agg (Ax RES.1),vb RES.2])) [] [] := by
 unfold Fj at hm
 refine SO Try.func46 rfl rfl [(0,.p (.agg (Ab p0))),(1,pI p1)] [] ?_
 intro cx hnt
 refine Sq (RK hnt (nn 3 []) [(1,pI p1),(2,rr 1016),(4,rr 1032)] [(1016,bx (pm (Ab p0))),(1032,bx [pI 0,pI 0,pS ByteArray.empty,pI 0,pI 0,pI 0])] tv ?_)
 obtain ⟨r1,hr1,hm⟩ := bo hm
 refine Sq (RD hnt (nn 2 (o13 [] true r1 :: .no :: [])) [1] [(6,pI r1)] [] [] (an (Zc p0 p1 r1 hr1) tv) ?_)
 refine Sq (Sq (RD hnt (nn 2 []) [] [(11,pB (decide (r1 < 0)))] [] [] tv ?_))
 refine Ak hm ?_ ?_
 ·intro h2 hm
  refine Sq (RD hnt (nn 3 []) [2,6,11] [(5,pB false)] [1016] [] tv ?_)
  obtain rfl := sj hm
  exact DW.ret (Am [] [] (.p (.tup [.agg [vi 0,vi 0,vs ByteArray.empty,vi 0,vi 0,vi 0],vb false])))
 ·intro h2 hm
  refine Sk ?_
  obtain ⟨g3,hm⟩ := go1 hm
  refine Sq (RK hnt (nn 7 []) [(4,rr 1032),(5,pB true)] [(1032,bx (pm (Ax (p0.nodes.getD (Int.toNat r1) Br))))] (an g3.1 (an g3.2 tv)) ?_)
  obtain rfl := sj hm
  exact DW.ret (Am [] [] (.p (.tup [.agg (Ax (p0.nodes.getD (Int.toNat r1) Br)),vb true])))
abbrev o12 (ks : List Nat) (b : Bool) (RES : Ac × Bool) : Orc := .call 46 ks b (.p (.tup [.agg (Ax RES.1),vb RES.2])) [] []

abbrev Rh (p1 : Ag) (k1 : Nat) := (p1.charges.getD k1 (default : Ah))
theorem Oj (p0 : Aa) (p1 : Ag) (RES : Bool) (hm : Gh p0 p1 = some RES) : Spec Try.prog 45 [.p (.agg (Ab p0)),.p (.agg [An p1.charges])] [] (pB RES) [] [] := by
 unfold Gh at hm
 refine SO Try.func45 rfl rfl [(0,.p (.agg (Ab p0))),(1,.p (.agg [An p1.charges]))] [] ?_
 intro cx hnt
 refine Sq (RK hnt (nn 3 []) [(2,rr 1016),(3,rr 1024)] [(1016,bx (pm (Ab p0))),(1024,bx [.p (An p1.charges)])] tv ?_)
 obtain ⟨r1,hr1,hm⟩ := bo hm
 refine Sq (Sq (RD hnt (.no :: o7 [] true r1 :: .no :: []) [] [(12,pB (!r1))] [] [] (an (Xn p0 r1 hr1) tv) ?_))
 refine Ak hm ?_ ?_
 ·intro h2 hm
  refine Sq (RK hnt (.no :: []) [(4,pB false)] [] tv ?_)
  obtain rfl := sj hm
  exact DW.ret (Am [] [] (pB false))
 ·intro h2 hm
  refine Sk ?_
  refine Sq (RD hnt (.no :: []) [12] [(5,pI 0)] [] [] tv ?_)
  refine Sq (Sq (RD hnt (nn 4 []) [] [(14,.p (An p1.charges)),(15,pI ((p1.charges.length : Nat) : Int)),(16,pI 0)] [] [] tv ?_))
  refine Bk ?_
  obtain ⟨hc1,hm⟩ := go1 hm
  refine DW.rangeO (fun (k1 : Nat) (s1 : Int) => Ai [(2,rr 1016),(3,rr 1024),(5,pI s1),(14,.p (An p1.charges)),(15,pI ((p1.charges.length : Nat) : Int)),(16,pI ((k1 : Nat) : Int))] [(1016,bx (pm (Ab p0))),(1024,bx [.p (An p1.charges)])]) Cv hm Conv.eqK ?_
  intro k1 s1 n1 hk1 hs1 he1
  refine Sq (RD hnt (.no :: []) [] [(17,pB (decide (((k1 : Nat) : Int) < ((p1.charges.length : Nat) : Int))))] [] [] tv ?_)
  refine Sq (Ch (decide (((k1 : Nat) : Int) < ((p1.charges.length : Nat) : Int))) ?_ ?_)
  ·intro h23
   have hlt1 : k1 < p1.charges.length := by have := of_decide_eq_true h23; omega
   have hm := hs1 hlt1
   unfold Mu at hm
   refine Sk ?_
   refine Sq (Bk ?_)
   refine Sq (RD hnt (nn 6 []) [17] [(6,pI ((k1 : Nat) : Int)),(7,rr 1056)] [] [(1056,bx (pm (Bg (Rh p1 k1))))] (an (nn0 k1) (an (ltc hlt1) tv)) ?_)
   obtain ⟨r24,hr24,hm⟩ := bo hm
   refine Sq (Sq (RD hnt (nn 3 (o12 [] true r24 :: nn 6 [])) [] [(9,pB r24.2)] [] [] (an (Ii p0 (Rh p1 k1).group r24 hr24) tv) ?_))
   refine Sq ?_
   refine Jn (ι := Bool) (fun (y3 : Bool) => Ai [(2,rr 1016),(3,rr 1024),(5,pI s1),(7,rr 1056),(14,.p (An p1.charges)),(15,pI ((p1.charges.length : Nat) : Int)),(16,pI ((k1 : Nat) : Int)),(57,pB y3)] [(1016,bx (pm (Ab p0))),(1024,bx [.p (An p1.charges)]),(1056,bx (pm (Bg (Rh p1 k1))))]) (fun y3 => (Bu (Rh p1 k1) s1 n1) y3 = some RES) ?_ ?_
   ·intro y3 hm
    unfold Bu at hm
    refine Ak hm ?_ ?_
    ·intro h31 hm
     refine Sq (RK hnt (.no :: []) [(4,pB false)] [] tv ?_)
     obtain rfl := sj hm
     exact DW.ret (Am [] [] (pB false))
    ·intro h31 hm
     refine Sk ?_
     refine RD hnt (nn 5 []) [7,57] [(5,pI (w64 (s1 + (Rh p1 k1).own)))] [1056] [] tv ?_
     refine DW.done ?_
     show DW _ _ _ _ _
     refine RD hnt (nn 2 []) [] [(16,pI (w64 (((k1 : Nat) : Int) + 1)))] [] [] tv ?_
     exact jD (w64 (s1 + (Rh p1 k1).own)) ⟨hlt1,hm⟩ (Conv.tp [(16,pI (w64 (((k1 : Nat) : Int) + 1)))] [] (by kernel_rfl) (.cons rfl (.of_eq (congrArg pI (Bj hlt1 hc1))) .nil) .nil)
   ·rcases bt (!r24.2) with h25 | h25
    ·replace hm := Az h25 hm
     refine RD hnt (nn 3 (sk 14 (pT :: .no :: sk 3 (pT :: .no :: sk 5 (pT :: []))))) [6,9] [(57,pB true)] [] [] (an5 h25 (an4 tt (an6 tt tv))) ?_
     exact jD true hm Conv.eqK
    ·replace hm := Ba h25 hm
     rcases bt (decide (((k1 : Nat) : Int) > 0)) with h26 | h26
     ·replace hm := Az h26 hm
      obtain ⟨g27,hm⟩ := go1 hm
      rcases bt (decide ((Rh p1 k1).group ≤ (p1.charges.getD (Int.toNat (w64 (((k1 : Nat) : Int) - 1))) Cv).group)) with h28 | h28
      ·replace hm := Az h28 hm
       refine RD hnt (nn 16 (pT :: pF :: .no :: sk 3 (pT :: .no :: sk 5 (pT :: [])))) [6,9] [(57,pB true)] [] [] (an3 h25 (an h26 (an6 h26 (an g27.1 (an g27.2 (an3 h26 (an h25 (an h26 (an h25 (an4 h28 (an6 tt tv))))))))))) ?_
       exact jD true hm Conv.eqK
      ·replace hm := Ba h28 hm
       rcases bt (decide ((Rh p1 k1).own < 1)) with h29 | h29
       ·replace hm := Az h29 hm
        refine RD hnt (nn 16 (pT :: pF :: nn 4 (pF :: .no :: sk 5 (pT :: [])))) [6,9] [(57,pB true)] [] [] (an3 h25 (an h26 (an6 h26 (an g27.1 (an g27.2 (an3 h26 (an h25 (an h26 (an h25 (an4 h28 (an6 h29 tv))))))))))) ?_
        exact jD true hm Conv.eqK
       ·replace hm := Ba h29 hm
        refine RD hnt (nn 16 (pT :: pF :: nn 4 (pF :: nn 6 (pF :: [])))) [6,9] [(57,pB (decide ((Rh p1 k1).own > (w64 (16777216 - s1)))))] [] [] (an3 h25 (an h26 (an6 h26 (an g27.1 (an g27.2 (an3 h26 (an h25 (an h26 (an h25 (an4 h28 (an6 h29 tv))))))))))) ?_
        exact jD (decide ((Rh p1 k1).own > (w64 (16777216 - s1)))) hm Conv.eqK
     ·replace hm := Ba h26 hm
      rcases bt (decide ((Rh p1 k1).own < 1)) with h30 | h30
      ·replace hm := Az h30 hm
       refine RD hnt (nn 6 (sk 10 (pF :: pF :: nn 4 (pF :: .no :: sk 5 (pT :: []))))) [6,9] [(57,pB true)] [] [] (an3 h25 (an4 h26 (an6 h26 (an h25 (an h26 (an h25 (an4 ff (an6 h30 tv)))))))) ?_
       exact jD true hm Conv.eqK
      ·replace hm := Ba h30 hm
       refine RD hnt (nn 6 (sk 10 (pF :: pF :: nn 4 (pF :: nn 6 (pF :: []))))) [6,9] [(57,pB (decide ((Rh p1 k1).own > (w64 (16777216 - s1)))))] [] [] (an3 h25 (an4 h26 (an6 h26 (an h25 (an h26 (an h25 (an4 ff (an6 h30 tv)))))))) ?_
       exact jD (decide ((Rh p1 k1).own > (w64 (16777216 - s1)))) hm Conv.eqK
  ·intro h23
   have hge1 : ¬ k1 < p1.charges.length := by have := of_decide_eq_false h23; omega
   have hm := he1 hge1
   unfold Vp at hm
   refine DW.exit ?_
   refine Aj ?_
   refine Aq ?_
   refine Af ?_
   show DW _ _ _ _ _
   refine Sq (RK hnt (.no :: []) [(4,pB true)] [] tv ?_)
   obtain rfl := sj hm
   exact DW.ret (Am [] [] (pB true))
abbrev o6 (ks : List Nat) (b : Bool) (RES : Bool) : Orc := .call 45 ks b (pB RES) [] []

abbrev Ny (p1 : List Protection) (k1 : Nat) := (p1.getD k1 (default : Protection))
theorem Fn (p0 : Aa) (p1 : List Protection) (RES : Bool) (hm : Em p0 p1 = some RES) : Spec Try.prog 34 [.p (.agg (Ab p0)),.p (Ae p1)] [] (pB RES) [] [] := by
 unfold Em at hm
 refine SO Try.func34 rfl rfl [(0,.p (.agg (Ab p0))),(1,.p (Ae p1))] [] ?_
 intro cx hnt
 refine Sq (RD hnt (nn 2 []) [0] [(2,rr 1016)] [] [(1016,bx (pm (Ab p0)))] tv ?_)
 obtain ⟨r1,hr1,hm⟩ := bo hm
 refine Sq (Sq (RD hnt (.no :: o7 [] true r1 :: .no :: []) [] [(11,pB (!r1))] [] [] (an (Xn p0 r1 hr1) tv) ?_))
 refine Ak hm ?_ ?_
 ·intro h2 hm
  refine Sq (RK hnt (.no :: []) [(4,pB false)] [] tv ?_)
  obtain rfl := sj hm
  exact DW.ret (Am [] [] (pB false))
 ·intro h2 hm
  refine Sk ?_
  refine Sq (Sq (RD hnt (nn 3 []) [11] [(12,.p (Ae p1)),(13,pI ((p1.length : Nat) : Int)),(14,pI 0)] [] [] tv ?_))
  refine Bk ?_
  obtain ⟨hc1,hm⟩ := go1 hm
  refine DW.rangeO (fun (k1 : Nat) (s1 : Unit) => Ai [(1,.p (Ae p1)),(2,rr 1016),(12,.p (Ae p1)),(13,pI ((p1.length : Nat) : Int)),(14,pI ((k1 : Nat) : Int))] [(1016,bx (pm (Ab p0)))]) Ar hm Conv.eqK ?_
  intro k1 s1 n1 hk1 hs1 he1
  refine Sq (RD hnt (.no :: []) [] [(15,pB (decide (((k1 : Nat) : Int) < ((p1.length : Nat) : Int))))] [] [] tv ?_)
  refine Sq (Ch (decide (((k1 : Nat) : Int) < ((p1.length : Nat) : Int))) ?_ ?_)
  ·intro h31
   have hlt1 : k1 < p1.length := by have := of_decide_eq_true h31; omega
   have hm := hs1 hlt1
   unfold Nc at hm
   refine Sk ?_
   refine Sq (Bk ?_)
   refine Sq (RD hnt (nn 6 []) [15] [(5,pI ((k1 : Nat) : Int)),(6,rr 1048)] [] [(1048,bx (pm (As (Ny p1 k1))))] (an (nn0 k1) (an (ltc hlt1) tv)) ?_)
   obtain ⟨r32,hr32,hm⟩ := bo hm
   refine Sq (RD hnt (nn 3 (o12 [] true r32 :: nn 6 [])) [] [(8,pB r32.2)] [] [] (an (Ii p0 (Ny p1 k1).group r32 hr32) tv) ?_)
   refine Sq ?_
   refine Jn (ι := Bool) (fun (y3 : Bool) => Ai [(1,.p (Ae p1)),(2,rr 1016),(12,.p (Ae p1)),(13,pI ((p1.length : Nat) : Int)),(14,pI ((k1 : Nat) : Int)),(62,pB y3)] [(1016,bx (pm (Ab p0)))]) (fun y3 => (Be n1) y3 = some RES) ?_ ?_
   ·intro y3 hm
    unfold Be at hm
    refine Ak hm ?_ ?_
    ·intro h43 hm
     refine Sq (RK hnt (.no :: []) [(4,pB false)] [] tv ?_)
     obtain rfl := sj hm
     exact DW.ret (Am [] [] (pB false))
    ·intro h43 hm
     refine Sk ?_
     refine DW.done ?_
     show DW _ _ _ _ _
     refine RD hnt (nn 2 []) [62] [(14,pI (w64 (((k1 : Nat) : Int) + 1)))] [] [] tv ?_
     exact jD () ⟨hlt1,hm⟩ (Conv.tp [(14,pI (w64 (((k1 : Nat) : Int) + 1)))] [] (by kernel_rfl) (.cons rfl (.of_eq (congrArg pI (Bj hlt1 hc1))) .nil) .nil)
   ·rcases bt (!r32.2) with h33 | h33
    ·replace hm := Az h33 hm
     refine RD hnt (nn 3 (sk 13 (pT :: .no :: sk 3 (pT :: .no :: sk 3 (pT :: .no :: sk 3 (pT :: .no :: sk 3 (pT :: []))))))) [5,6,8] [(62,pB true)] [1048] [] (an5 h33 (an4 tt (an6 tt (an6 tt tv)))) ?_
     exact jD true hm Conv.eqK
    ·replace hm := Ba h33 hm
     rcases bt (decide (((k1 : Nat) : Int) > 0)) with h34 | h34
     ·replace hm := Az h34 hm
      obtain ⟨g35,hm⟩ := go1 hm
      rcases bt (decide ((Ny p1 k1).group ≤ (p1.getD (Int.toNat (w64 (((k1 : Nat) : Int) - 1))) Ar).group)) with h36 | h36
      ·replace hm := Az h36 hm
       refine RD hnt (nn 15 (pT :: pF :: .no :: sk 3 (pT :: .no :: sk 3 (pT :: .no :: sk 3 (pT :: .no :: sk 3 (pT :: [])))))) [5,6,8] [(62,pB true)] [1048] [] (an3 h33 (an6 h34 (an g35.1 (an g35.2 (an3 h34 (an h33 (an h34 (an h33 (an4 h36 (an6 tt (an6 tt tv))))))))))) ?_
       exact jD true hm Conv.eqK
      ·replace hm := Ba h36 hm
       rcases bt (decide ((Ny p1 k1).min < 0)) with h37 | h37
       ·replace hm := Az h37 hm
        refine RD hnt (nn 15 (pT :: pF :: nn 4 (pF :: .no :: sk 3 (pT :: .no :: sk 3 (pT :: .no :: sk 3 (pT :: [])))))) [5,6,8] [(62,pB true)] [1048] [] (an3 h33 (an6 h34 (an g35.1 (an g35.2 (an3 h34 (an h33 (an h34 (an h33 (an4 h36 (an4 h37 (an2 tt (an6 tt tv)))))))))))) ?_
        exact jD true hm Conv.eqK
       ·replace hm := Ba h37 hm
        rcases bt (decide ((Ny p1 k1).min > 4611686018427387904)) with h38 | h38
        ·replace hm := Az h38 hm
         refine RD hnt (nn 15 (pT :: pF :: nn 4 (pF :: nn 4 (pF :: .no :: sk 3 (pT :: .no :: sk 3 (pT :: [])))))) [5,6,8] [(62,pB true)] [1048] [] (an3 h33 (an6 h34 (an g35.1 (an g35.2 (an3 h34 (an h33 (an h34 (an h33 (an4 h36 (an4 h37 (an4 h38 (an4 tt tv)))))))))))) ?_
         exact jD true hm Conv.eqK
        ·replace hm := Ba h38 hm
         rcases bt (decide ((Ny p1 k1).low < 0)) with h39 | h39
         ·replace hm := Az h39 hm
          refine RD hnt (nn 15 (pT :: pF :: nn 4 (pF :: nn 4 (pF :: nn 4 (pF :: .no :: sk 3 (pT :: [])))))) [5,6,8] [(62,pB true)] [1048] [] (an3 h33 (an6 h34 (an g35.1 (an g35.2 (an3 h34 (an h33 (an h34 (an h33 (an4 h36 (an4 h37 (an4 h38 (an4 h39 tv)))))))))))) ?_
          exact jD true hm Conv.eqK
         ·replace hm := Ba h39 hm
          refine RD hnt (nn 15 (pT :: pF :: nn 4 (pF :: nn 4 (pF :: nn 4 (pF :: nn 4 (pF :: [])))))) [5,6,8] [(62,pB (decide ((Ny p1 k1).low > 4611686018427387904)))] [1048] [] (an3 h33 (an6 h34 (an g35.1 (an g35.2 (an3 h34 (an h33 (an h34 (an h33 (an4 h36 (an4 h37 (an4 h38 (an4 h39 tv)))))))))))) ?_
          exact jD (decide ((Ny p1 k1).low > 4611686018427387904)) hm Conv.eqK
     ·replace hm := Ba h34 hm
      rcases bt (decide ((Ny p1 k1).min < 0)) with h40 | h40
      ·replace hm := Az h40 hm
       refine RD hnt (nn 6 (sk 9 (pF :: pF :: nn 4 (pF :: .no :: sk 3 (pT :: .no :: sk 3 (pT :: .no :: sk 3 (pT :: []))))))) [5,6,8] [(62,pB true)] [1048] [] (an3 h33 (an3 h34 (an6 h34 (an h33 (an h34 (an h33 (an4 ff (an4 h40 (an2 tt (an6 tt tv)))))))))) ?_
       exact jD true hm Conv.eqK
      ·replace hm := Ba h40 hm
       rcases bt (decide ((Ny p1 k1).min > 4611686018427387904)) with h41 | h41
       ·replace hm := Az h41 hm
        refine RD hnt (nn 6 (sk 9 (pF :: pF :: nn 4 (pF :: nn 4 (pF :: .no :: sk 3 (pT :: .no :: sk 3 (pT :: []))))))) [5,6,8] [(62,pB true)] [1048] [] (an3 h33 (an3 h34 (an6 h34 (an h33 (an h34 (an h33 (an4 ff (an4 h40 (an4 h41 (an4 tt tv)))))))))) ?_
        exact jD true hm Conv.eqK
       ·replace hm := Ba h41 hm
        rcases bt (decide ((Ny p1 k1).low < 0)) with h42 | h42
        ·replace hm := Az h42 hm
         refine RD hnt (nn 6 (sk 9 (pF :: pF :: nn 4 (pF :: nn 4 (pF :: nn 4 (pF :: .no :: sk 3 (pT :: []))))))) [5,6,8] [(62,pB true)] [1048] [] (an3 h33 (an3 h34 (an6 h34 (an h33 (an h34 (an h33 (an4 ff (an4 h40 (an4 h41 (an4 h42 tv)))))))))) ?_
         exact jD true hm Conv.eqK
        ·replace hm := Ba h42 hm
         refine RD hnt (nn 6 (sk 9 (pF :: pF :: nn 4 (pF :: nn 4 (pF :: nn 4 (pF :: nn 4 (pF :: []))))))) [5,6,8] [(62,pB (decide ((Ny p1 k1).low > 4611686018427387904)))] [1048] [] (an3 h33 (an3 h34 (an6 h34 (an h33 (an h34 (an h33 (an4 ff (an4 h40 (an4 h41 (an4 h42 tv)))))))))) ?_
         exact jD (decide ((Ny p1 k1).low > 4611686018427387904)) hm Conv.eqK
  ·intro h31
   have hge1 : ¬ k1 < p1.length := by have := of_decide_eq_false h31; omega
   have hm := he1 hge1
   unfold Ws at hm
   refine DW.exit ?_
   refine Aj ?_
   refine Aq ?_
   refine Af ?_
   show DW _ _ _ _ _
   refine Sq (RK hnt (.no :: []) [(4,pB true)] [] tv ?_)
   obtain rfl := sj hm
   exact DW.ret (Am [] [] (pB true))
abbrev o16 (ks : List Nat) (b : Bool) (RES : Bool) : Orc := .call 34 ks b (pB RES) [] []

abbrev c18e1 (s4 : (IMap Int) × Int) (p0 : Aa) := (w64 ((s4.1.get (p0.nodes.getD (Int.toNat s4.2) Br).parent) + (s4.1.get (p0.nodes.getD (Int.toNat s4.2) Br).id)))
abbrev Og (p1 : Ag) (k1 : Nat) := (p1.charges.getD k1 (default : Ah))
abbrev c18e3 (s4 : (IMap Int) × Int) (p0 : Aa) := (s4.1.set (p0.nodes.getD (Int.toNat s4.2) Br).parent (c18e1 s4 p0))
theorem AbC (p0 : Aa) (p1 : Ag) (RES : IMap Int) (hm : Ns p0 p1 = some RES) : Spec Try.prog 76 [.p (.agg (Ab p0)),.p (.agg [An p1.charges])] [] (.p (.mp (vi 0) RES.has (fun n => vi (RES.get n)))) [] [] := by
 unfold Ns at hm
 refine SO Try.func76 rfl rfl [(0,.p (.agg (Ab p0))),(1,.p (.agg [An p1.charges]))] [] ?_
 intro cx hnt
 refine Sq (RK hnt (nn 3 []) [(2,rr 1016),(3,rr 1024)] [(1016,bx (pm (Ab p0))),(1024,bx [.p (An p1.charges)])] tv ?_)
 refine Sq (RD hnt (nn 2 []) [] [(5,.mref 1072 0)] [] [(1072,ob0 (Fh vi (vi 0) (IMap.empty 0)))] tv ?_)
 refine Sq (Sq (RD hnt (nn 4 []) [3] [(11,.p (An p1.charges)),(12,pI ((p1.charges.length : Nat) : Int)),(13,pI 0)] [1024] [] tv ?_))
 refine Bk ?_
 obtain ⟨hc1,hm⟩ := go1 hm
 refine DW.rangeO (fun (k1 : Nat) (s1 : IMap Int) => Ai [(2,rr 1016),(5,.mref 1072 0),(11,.p (An p1.charges)),(12,pI ((p1.charges.length : Nat) : Int)),(13,pI ((k1 : Nat) : Int))] [(1016,bx (pm (Ab p0))),(1072,ob0 (Fh vi (vi 0) s1))]) Cv hm Conv.eqK ?_
 intro k1 s1 n1 hk1 hs1 he1
 refine Sq (RD hnt (.no :: []) [] [(14,pB (decide (((k1 : Nat) : Int) < ((p1.charges.length : Nat) : Int))))] [] [] tv ?_)
 refine Sq (Ch (decide (((k1 : Nat) : Int) < ((p1.charges.length : Nat) : Int))) ?_ ?_)
 ·intro h17
  have hlt1 : k1 < p1.charges.length := by have := of_decide_eq_true h17; omega
  have hm := hs1 hlt1
  unfold Rs at hm
  refine Sk ?_
  refine Sq (Bk ?_)
  refine Sq (RD hnt (nn 4 []) [14] [(7,rr 1056)] [] [(1056,bx (pm (Bg (Og p1 k1))))] (an (nn0 k1) (an (ltc hlt1) tv)) ?_)
  refine RD hnt (nn 5 (.asM (s1.set (Og p1 k1).group (Og p1 k1).own).has (fun j => vi ((s1.set (Og p1 k1).group (Og p1 k1).own).get j)) :: [])) [7] [] [1056] [(1072,ob0 (Fh vi (vi 0) (s1.set (Og p1 k1).group (Og p1 k1).own)))] (an (Np s1 (Og p1 k1).group (Og p1 k1).own) (an (Nh vi s1 (Og p1 k1).group (Og p1 k1).own) tv)) ?_
  refine DW.done ?_
  show DW _ _ _ _ _
  refine RD hnt (nn 2 []) [] [(13,pI (w64 (((k1 : Nat) : Int) + 1)))] [] [] tv ?_
  exact jD (s1.set (Og p1 k1).group (Og p1 k1).own) ⟨hlt1,hm⟩ (Conv.tp [(13,pI (w64 (((k1 : Nat) : Int) + 1)))] [] (by kernel_rfl) (.cons rfl (.of_eq (congrArg pI (Bj hlt1 hc1))) .nil) .nil)
 ·intro h17
  have hge1 : ¬ k1 < p1.charges.length := by have := of_decide_eq_false h17; omega
  have hm := he1 hge1
  unfold Rj at hm
  refine DW.exit ?_
  refine Aj ?_
  refine Aq ?_
  refine Af ?_
  show DW _ _ _ _ _
  refine Sq (Sq (RD hnt (nn 5 []) [11,12,13,14] [(8,pI (w64 (((p0.nodes.length : Nat) : Int) - 1)))] [] [] tv ?_))
  refine Bk ?_
  refine DW.whileO (fun (s4 : (IMap Int) × Int) => Ai [(2,rr 1016),(5,.mref 1072 0),(8,pI s4.2)] [(1016,bx (pm (Ab p0))),(1072,ob0 (Fh vi (vi 0) s4.1))]) hm Conv.eqK ?_
  intro s4 n4 hm
  unfold Rf at hm
  refine Sq (Sq (RD hnt (nn 2 []) [] [(28,pB (decide (s4.2 > 0)))] [] [] tv ?_))
  refine Ak hm ?_ ?_
  ·intro h21 hm
   refine Sk ?_
   refine Sq (Bk ?_)
   obtain ⟨g22,g23,hm⟩ := go2 hm
   refine RD hnt (nn 17 (.asM (c18e3 s4 p0).has (fun j => vi ((c18e3 s4 p0).get j)) :: [])) [28] [] [] [(1072,ob0 (Fh vi (vi 0) (c18e3 s4 p0)))] (an g22.1 (an g22.2 (an (rfl : vi 0 = vi 0) (an g23.1 (an g23.2 (an (rfl : vi 0 = vi 0) (an (Np s4.1 (p0.nodes.getD (Int.toNat s4.2) Br).parent (c18e1 s4 p0)) (an (Nh vi s4.1 (p0.nodes.getD (Int.toNat s4.2) Br).parent (c18e1 s4 p0)) tv)))))))) ?_
   refine DW.done ?_
   show DW _ _ _ _ _
   refine RD hnt (nn 3 []) [] [(8,pI (w64 (s4.2 - 1)))] [] [] tv ?_
   exact jD ((c18e3 s4 p0),(w64 (s4.2 - 1))) hm Conv.eqK
  ·intro h21 hm
   refine DW.exit ?_
   refine Aj ?_
   refine Aq ?_
   refine Af ?_
   show DW _ _ _ _ _
   refine Sq (RD hnt (nn 2 []) [2,5,8,28] [(4,.mref 1072 0)] [1016] [] tv ?_)
   refine DW.cv [] [(4,.p (.mp (vi 0) s4.1.has (fun n => vi (s4.1.get n))))] [1072] [] (Conv.frz [1072]) ?_
   obtain rfl := sj hm
   exact DW.ret (Am [] [] (.p (.mp (vi 0) s4.1.has (fun n => vi (s4.1.get n)))))
abbrev o18 (ks : List Nat) (b : Bool) (RES : IMap Int) : Orc := .call 76 ks b (.p (.mp (vi 0) RES.has (fun n => vi (RES.get n)))) [] []

abbrev Pl (p0 : Aa) (k1 : Nat) := (p0.nodes.getD k1 (default : Ac))
abbrev c17e2 (p0 : Aa) (k1 : Nat) (r3 : IMap Int) := ({ group := (Pl p0 k1).id,own := (r3.get (Pl p0 k1).id) } : Ah)
abbrev c17e3 (r3 : IMap Int) : Nat × MV := (7,.p (.mp (vi 0) r3.has (fun n => vi (r3.get n))))
abbrev c17e4 (p0 : Aa) : Nat × MV := (19,pI ((p0.nodes.length : Nat) : Int))
theorem Aam (p0 : Aa) (p1 : Ag) (RES : (List Ah) × Int) (hm : Kz p0 p1 = some RES) : Spec Try.prog 47 [.p (.agg (Ab p0)),.p (.agg [An p1.charges])] [] (.tup [ow 0 RES.1.length,pI RES.2]) [] [Bx RES.1] := by
 unfold Kz at hm
 refine SO Try.func47 rfl rfl [(0,.p (.agg (Ab p0))),(1,.p (.agg [An p1.charges]))] [] ?_
 intro cx hnt
 refine Sq (RK hnt (nn 4 []) [(2,rr 1016),(3,rr 1024)] [(1016,bx (pm (Ab p0))),(1024,bx [.p (An p1.charges)])] tv ?_)
 obtain ⟨r1,hr1,hm⟩ := bo hm
 refine Sq (Sq (RD hnt (nn 2 (o6 [] true r1 :: .no :: [])) [] [(13,pB (!r1))] [] [] (an (Oj p0 p1 r1 hr1) tv) ?_))
 refine Ak hm ?_ ?_
 ·intro h2 hm
  refine Sq (RK hnt (nn 2 []) [(4,.p (.sl .nil 0 0 (fun _ => []))),(5,pI 1)] [] tv ?_)
  refine DW.cv [] [(4,ow 100000 0)] [] [(100000,ob0 (Bx []))] (Conv.ads [(.s 4,100000,2,elems Bg Cv [])]) ?_
  obtain rfl := sj hm
  exact DW.ret (Am [Bx []] [100000] (.tup [ow 0 0,pI 1]))
 ·intro h2 hm
  refine Sk ?_
  refine Sq (RD hnt (.no :: []) [13] [(6,.p (.sl .nil 0 0 (fun _ => [])))] [] [] tv ?_)
  obtain ⟨r3,hr3,hm⟩ := bo hm
  refine Sq (RD hnt (nn 2 (o18 [] true r3 :: .no :: [])) [3] [(c17e3 r3)] [1024] [] (an (AbC p0 p1 r3 hr3) tv) ?_)
  refine Sq (Sq (RD hnt (nn 4 []) [2] [(18,.p (Fx p0.nodes)),(c17e4 p0),(20,pI 0)] [1016] [] tv ?_))
  refine Bk ?_
  obtain ⟨hc1,hm⟩ := go1 hm
  refine DW.rangeO (fun (k1 : Nat) (s1 : List Ah) => Ai [(6,ow 1304 s1.length),(c17e3 r3),(18,.p (Fx p0.nodes)),(c17e4 p0),(20,pI ((k1 : Nat) : Int))] [(1304,ob0 (Bx s1))]) Br hm (Conv.ads [(.s 6,1304,2,elems Bg Cv [])]) ?_
  intro k1 s1 n1 hk1 hs1 he1
  refine Sq (RD hnt (.no :: []) [] [(21,pB (decide (((k1 : Nat) : Int) < ((p0.nodes.length : Nat) : Int))))] [] [] tv ?_)
  refine Sq (Ch (decide (((k1 : Nat) : Int) < ((p0.nodes.length : Nat) : Int))) ?_ ?_)
  ·intro h11
   have hlt1 : k1 < p0.nodes.length := by have := of_decide_eq_true h11; omega
   have hm := hs1 hlt1
   unfold Lr at hm
   refine Sk ?_
   refine Sq ?_
   refine Jn (ι := List Ah) (fun (y3 : List Ah) => Ai [(6,ow 1304 y3.length),(c17e3 r3),(18,.p (Fx p0.nodes)),(c17e4 p0),(20,pI ((k1 : Nat) : Int))] [(1304,ob0 (Bx y3))]) (fun y3 => (Jo n1) y3 = some RES) ?_ ?_
   ·intro y3 hm
    unfold Jo at hm
    refine RD hnt (nn 2 []) [] [(20,pI (w64 (((k1 : Nat) : Int) + 1)))] [] [] tv ?_
    exact jD y3 ⟨hlt1,hm⟩ (Conv.tp [(20,pI (w64 (((k1 : Nat) : Int) + 1)))] [] (by kernel_rfl) (.cons rfl (.of_eq (congrArg pI (Bj hlt1 hc1))) .nil) .nil)
   ·refine Bk ?_
    refine Sq (RD hnt (nn 4 []) [21] [(9,rr 1072)] [] [(1072,bx (pm (Ax (Pl p0 k1))))] (an (nn0 k1) (an (ltc hlt1) tv)) ?_)
    refine Sq (RD hnt (nn 5 []) [] [(28,pB (decide ((r3.get (Pl p0 k1).id) > 0)))] [] [] (an (rfl : vi 0 = vi 0) tv) ?_)
    refine Ak hm ?_ ?_
    ·intro h12 hm
     obtain ⟨g13,hm⟩ := go1 hm
     refine RN hnt (nn 11 []) [(6,ow 1304 (s1 ++ [(c17e2 p0 k1 r3)]).length),(c17e3 r3),(18,.p (Fx p0.nodes)),(c17e4 p0),(20,pI ((k1 : Nat) : Int))] [(1304,ob0 (Bx (s1 ++ [(c17e2 p0 k1 r3)])))] [(6,ow 1304 (s1.length + 1))] [(1304,.row 2 (s1.length + 1) (Da s1.length (Nn s1) (cut 2 [vi (Pl p0 k1).id,vi (r3.get (Pl p0 k1).id)])))] (an (rfl : vi 0 = vi 0) (an (by omega : (s1.length + 1) * 16 ≤ 140737488355328) tv)) (by kernel_rfl) (.cons rfl (MLe.ownLen (enc := Bg) (d := Cv) (f := (Da s1.length (Nn s1) (cut 2 [vi (Pl p0 k1).id,vi (r3.get (Pl p0 k1).id)]))) (RowIs.cat RowIs.elems (RowIs.lit (enc := Bg) (d := Cv) (n := 1) (f := (cut 2 [vi (Pl p0 k1).id,vi (r3.get (Pl p0 k1).id)])) [(c17e2 p0 k1 r3)] rfl (fun | 0,_ => rfl | n + 1,h => absurd h (by omega))))) .nil) (.cons rfl (BLe.typed (RowIs.cat RowIs.elems (RowIs.lit (enc := Bg) (d := Cv) (n := 1) (f := (cut 2 [vi (Pl p0 k1).id,vi (r3.get (Pl p0 k1).id)])) [(c17e2 p0 k1 r3)] rfl (fun | 0,_ => rfl | n + 1,h => absurd h (by omega))))) .nil) ?_
     exact bD (s1 ++ [(c17e2 p0 k1 r3)]) hm .refl
    ·intro h12 hm
     refine Sk ?_
     exact bD s1 hm Conv.t0
  ·intro h11
   have hge1 : ¬ k1 < p0.nodes.length := by have := of_decide_eq_false h11; omega
   have hm := he1 hge1
   unfold Pt at hm
   refine DW.exit ?_
   refine Aj ?_
   refine Aq ?_
   refine Af ?_
   show DW _ _ _ _ _
   refine Sq (RK hnt (nn 3 []) [(4,ow 1304 s1.length),(5,pI 0)] [(1304,ob0 (Bx s1))] tv ?_)
   obtain rfl := sj hm
   exact DW.ret (Am [Bx s1] [1304] (.tup [ow 0 s1.length,pI 0]))
abbrev o17 (ks : List Nat) (b : Bool) (RES : (List Ah) × Int) : Orc := .call 47 ks b (.tup [ow 0 RES.1.length,pI RES.2]) [] [Bx RES.1]

theorem AaW (p0 : Protection) (RES : Int) (hm : Sw p0 = some RES) : Spec Try.prog 50 [.p (.agg (As p0))] [] (pI RES) [] [] := by
 unfold Sw at hm
 refine SO Try.func50 rfl rfl [(0,.p (.agg (As p0)))] [] ?_
 intro cx hnt
 refine Sq (RK hnt (nn 2 []) [(1,rr 1008)] [(1008,bx (pm (As p0)))] tv ?_)
 refine Sq (RK hnt (nn 3 []) [(2,pI p0.min)] [] tv ?_)
 obtain rfl := sj hm
 exact DW.ret (Am [] [] (pI p0.min))
abbrev o20 (ks : List Nat) (b : Bool) (RES : Int) : Orc := .call 50 ks b (pI RES) [] []

abbrev Vq (p0 : List Protection) (k1 : Nat) := (p0.getD k1 (default : Protection))
theorem Iu (p0 : List Protection) (RES : IMap Int) (hm : Cy p0 = some RES) : Spec Try.prog 49 [.p (Ae p0),.p (.fn 50 [])] [] (.p (.mp (vi 0) RES.has (fun n => vi (RES.get n)))) [] [] := by
 unfold Cy at hm
 refine SO Try.func49 rfl rfl [(0,.p (Ae p0)),(1,.p (.fn 50 []))] [] ?_
 intro cx hnt
 refine Sq (RD hnt (.no :: []) [] [] [] [] tv ?_)
 refine Sq (RD hnt (nn 2 []) [] [(5,.mref 1064 0)] [] [(1064,ob0 (Fh vi (vi 0) (IMap.empty 0)))] tv ?_)
 refine Sq (Sq (RD hnt (nn 3 []) [0] [(9,.p (Ae p0)),(10,pI ((p0.length : Nat) : Int)),(11,pI 0)] [] [] tv ?_))
 refine Bk ?_
 obtain ⟨hc1,hm⟩ := go1 hm
 refine DW.rangeO (fun (k1 : Nat) (s1 : IMap Int) => Ai [(1,.p (.fn 50 [])),(5,.mref 1064 0),(9,.p (Ae p0)),(10,pI ((p0.length : Nat) : Int)),(11,pI ((k1 : Nat) : Int))] [(1064,ob0 (Fh vi (vi 0) s1))]) Ar hm Conv.eqK ?_
 intro k1 s1 n1 hk1 hs1 he1
 refine Sq (RD hnt (.no :: []) [] [(12,pB (decide (((k1 : Nat) : Int) < ((p0.length : Nat) : Int))))] [] [] tv ?_)
 refine Sq (Ch (decide (((k1 : Nat) : Int) < ((p0.length : Nat) : Int))) ?_ ?_)
 ·intro h7
  have hlt1 : k1 < p0.length := by have := of_decide_eq_true h7; omega
  have hm := hs1 hlt1
  unfold Gq at hm
  refine Sk ?_
  refine Sq (Bk ?_)
  refine Sq (RD hnt (nn 4 []) [12] [(7,rr 1056)] [] [(1056,bx (pm (As (Vq p0 k1))))] (an (nn0 k1) (an (ltc hlt1) tv)) ?_)
  obtain ⟨r8,hr8,hm⟩ := bo hm
  refine RD hnt (nn 5 (o20 [] true r8 :: .no :: .asM (s1.set (Vq p0 k1).group (Ck r8 16777216)).has (fun j => vi ((s1.set (Vq p0 k1).group (Ck r8 16777216)).get j)) :: [])) [7] [] [1056] [(1064,ob0 (Fh vi (vi 0) (s1.set (Vq p0 k1).group (Ck r8 16777216))))] (an (AaW (Vq p0 k1) r8 hr8) (an (Np s1 (Vq p0 k1).group (Ck r8 16777216)) (an (Nh vi s1 (Vq p0 k1).group (Ck r8 16777216)) tv))) ?_
  refine DW.done ?_
  show DW _ _ _ _ _
  refine RD hnt (nn 2 []) [] [(11,pI (w64 (((k1 : Nat) : Int) + 1)))] [] [] tv ?_
  exact jD (s1.set (Vq p0 k1).group (Ck r8 16777216)) ⟨hlt1,hm⟩ (Conv.tp [(11,pI (w64 (((k1 : Nat) : Int) + 1)))] [] (by kernel_rfl) (.cons rfl (.of_eq (congrArg pI (Bj hlt1 hc1))) .nil) .nil)
 ·intro h7
  have hge1 : ¬ k1 < p0.length := by have := of_decide_eq_false h7; omega
  have hm := he1 hge1
  unfold Jp at hm
  refine DW.exit ?_
  refine Aj ?_
  refine Aq ?_
  refine Af ?_
  show DW _ _ _ _ _
  refine Sq (RK hnt (nn 2 []) [(4,.mref 1064 0)] [(1064,ob0 (Fh vi (vi 0) s1))] tv ?_)
  refine DW.cv [] [(4,.p (.mp (vi 0) s1.has (fun n => vi (s1.get n))))] [1064] [] (Conv.frz [1064]) ?_
  obtain rfl := sj hm
  exact DW.ret (Am [] [] (.p (.mp (vi 0) s1.has (fun n => vi (s1.get n)))))
abbrev o19 (ks : List Nat) (b : Bool) (RES : IMap Int) : Orc := .call 49 ks b (.p (.mp (vi 0) RES.has (fun n => vi (RES.get n)))) [] []

abbrev Qw (p0 : Aa) (k1 : Nat) := (p0.nodes.getD k1 (default : Ac))
abbrev c23e2 (p0 : Aa) : Nat × MV := (10,pI ((p0.nodes.length : Nat) : Int))
theorem Ms (p0 : Aa) (p1 : Int) (RES : List Int) (hm : Hd p0 p1 = some RES) : Spec Try.prog 77 [.p (.agg (Ab p0)),pI p1] [] (ow 0 RES.length) [] [roI RES] := by
 unfold Hd at hm
 refine SO Try.func77 rfl rfl [(0,.p (.agg (Ab p0))),(1,pI p1)] [] ?_
 intro cx hnt
 refine Sq (RK hnt (nn 2 []) [(1,pI p1),(2,rr 1016)] [(1016,bx (pm (Ab p0)))] tv ?_)
 refine Sq (RD hnt (.no :: []) [] [(5,.p (.sl .nil 0 0 (fun _ => [])))] [] [] tv ?_)
 refine Sq (Sq (RD hnt (nn 4 []) [2] [(9,.p (Fx p0.nodes)),(c23e2 p0),(11,pI 0)] [1016] [] tv ?_))
 refine Bk ?_
 obtain ⟨hc1,hm⟩ := go1 hm
 refine DW.rangeO (fun (k1 : Nat) (s1 : List Int) => Ai [(1,pI p1),(5,ow 1184 s1.length),(9,.p (Fx p0.nodes)),(c23e2 p0),(11,pI ((k1 : Nat) : Int))] [(1184,ob0 (roI s1))]) Br hm (Conv.ads [(.s 5,1184,1,elems Bm 0 [])]) ?_
 intro k1 s1 n1 hk1 hs1 he1
 refine Sq (RD hnt (.no :: []) [] [(12,pB (decide (((k1 : Nat) : Int) < ((p0.nodes.length : Nat) : Int))))] [] [] tv ?_)
 refine Sq (Ch (decide (((k1 : Nat) : Int) < ((p0.nodes.length : Nat) : Int))) ?_ ?_)
 ·intro h8
  have hlt1 : k1 < p0.nodes.length := by have := of_decide_eq_true h8; omega
  have hm := hs1 hlt1
  unfold Om at hm
  refine Sk ?_
  refine Sq ?_
  refine Jn (ι := List Int) (fun (y3 : List Int) => Ai [(1,pI p1),(5,ow 1184 y3.length),(9,.p (Fx p0.nodes)),(c23e2 p0),(11,pI ((k1 : Nat) : Int))] [(1184,ob0 (roI y3))]) (fun y3 => (It n1) y3 = some RES) ?_ ?_
  ·intro y3 hm
   unfold It at hm
   refine RD hnt (nn 2 []) [] [(11,pI (w64 (((k1 : Nat) : Int) + 1)))] [] [] tv ?_
   exact jD y3 ⟨hlt1,hm⟩ (Conv.tp [(11,pI (w64 (((k1 : Nat) : Int) + 1)))] [] (by kernel_rfl) (.cons rfl (.of_eq (congrArg pI (Bj hlt1 hc1))) .nil) .nil)
  ·refine Bk ?_
   refine Sq (RD hnt (nn 4 []) [12] [(7,rr 1056)] [] [(1056,bx (pm (Ax (Qw p0 k1))))] (an (nn0 k1) (an (ltc hlt1) tv)) ?_)
   refine Sq (RD hnt (nn 4 []) [] [(18,pB ((Qw p0 k1).parent == p1))] [] [] tv ?_)
   refine Ak hm ?_ ?_
   ·intro h9 hm
    obtain ⟨g10,hm⟩ := go1 hm
    refine RN hnt (nn 6 []) [(1,pI p1),(5,ow 1184 (s1 ++ [(Qw p0 k1).id]).length),(9,.p (Fx p0.nodes)),(c23e2 p0),(11,pI ((k1 : Nat) : Int))] [(1184,ob0 (roI (s1 ++ [(Qw p0 k1).id])))] [(5,ow 1184 (s1.length + 1))] [(1184,.row 1 (s1.length + 1) (Da s1.length (elI s1) (cut 1 [vi (Qw p0 k1).id])))] (an (by omega : (s1.length + 1) * 8 ≤ 140737488355328) tv) (by kernel_rfl) (.cons rfl (MLe.ownLen (enc := Bm) (d := 0) (f := (Da s1.length (elI s1) (cut 1 [vi (Qw p0 k1).id]))) (RowIs.cat RowIs.elems (RowIs.lit (enc := Bm) (d := 0) (n := 1) (f := (cut 1 [vi (Qw p0 k1).id])) [(Qw p0 k1).id] rfl (fun | 0,_ => rfl | n + 1,h => absurd h (by omega))))) .nil) (.cons rfl (BLe.typed (RowIs.cat RowIs.elems (RowIs.lit (enc := Bm) (d := 0) (n := 1) (f := (cut 1 [vi (Qw p0 k1).id])) [(Qw p0 k1).id] rfl (fun | 0,_ => rfl | n + 1,h => absurd h (by omega))))) .nil) ?_
    exact bD (s1 ++ [(Qw p0 k1).id]) hm .refl
   ·intro h9 hm
    refine Sk ?_
    exact bD s1 hm Conv.t0
 ·intro h8
  have hge1 : ¬ k1 < p0.nodes.length := by have := of_decide_eq_false h8; omega
  have hm := he1 hge1
  unfold Tf at hm
  refine DW.exit ?_
  refine Aj ?_
  refine Aq ?_
  refine Af ?_
  show DW _ _ _ _ _
  refine Sq (RK hnt (nn 2 []) [(4,ow 1184 s1.length)] [(1184,ob0 (roI s1))] tv ?_)
  obtain rfl := sj hm
  exact DW.ret (Am [roI s1] [1184] (ow 0 s1.length))
abbrev o23 (ks : List Nat) (b : Bool) (RES : List Int) : Orc := .call 77 ks b (ow 0 RES.length) [] [roI RES]

abbrev Yk (p0 : Aa) : Nat × Obj := (1016,bx (pm (Ab p0)))
abbrev c22e2 : Nat × MV := (5,.p (.sl .nil 0 0 (fun _ => [])))
theorem Sj (p0 : Aa) (p1 : Int) (RES : List Int) (hm : Gt p0 p1 = some RES) : Spec Try.prog 52 [.p (.agg (Ab p0)),pI p1] [] (ow 0 RES.length) [] [roI RES] := by
 unfold Gt at hm
 refine SO Try.func52 rfl rfl [(0,.p (.agg (Ab p0))),(1,pI p1)] [] ?_
 intro cx hnt
 refine Sq (RK hnt (nn 2 []) [(1,pI p1),(2,rr 1016)] [(Yk p0)] tv ?_)
 obtain ⟨r1,hr1,hm⟩ := bo hm
 refine Sq (Sq (RD hnt (nn 2 (o13 [] true r1 :: .no :: [])) [] [(10,pB (decide (r1 < 0)))] [] [] (an (Zc p0 p1 r1 hr1) tv) ?_))
 refine Ak hm ?_ ?_
 ·intro h2 hm
  refine Sq (RK hnt (.no :: []) [(4,.p (.sl .nil 0 0 (fun _ => [])))] [] tv ?_)
  refine DW.cv [] [(4,ow 100000 0)] [] [(100000,ob0 (roI []))] (Conv.ads [(.s 4,100000,1,elems Bm 0 [])]) ?_
  obtain rfl := sj hm
  exact DW.ret (Am [roI []] [100000] (ow 0 0))
 ·intro h2 hm
  refine Sk ?_
  refine Sq (RD hnt (.no :: []) [10] [(c22e2)] [] [] tv ?_)
  refine Sq (Sq (RN hnt (nn 3 []) [(2,rr 1016),(c22e2),(6,ow 1096 [p1].length)] [(Yk p0),(1096,ob0 (roI [p1]))] [(6,ow 1096 1)] [(1096,.row 1 1 (cut 1 [vi p1]))] tv (by kernel_rfl) (.cons rfl (MLe.ownLen (enc := Bm) (d := 0) (f := (cut 1 [vi p1])) (RowIs.lit (enc := Bm) (d := 0) (n := 1) (f := (cut 1 [vi p1])) [p1] rfl (fun | 0,_ => rfl | n + 1,h => absurd h (by omega)))) .nil) (.cons rfl (BLe.typed (RowIs.lit (enc := Bm) (d := 0) (n := 1) (f := (cut 1 [vi p1])) [p1] rfl (fun | 0,_ => rfl | n + 1,h => absurd h (by omega)))) .nil) ?_))
  refine Bk ?_
  refine DW.whileO (fun (s1 : (List Int) × (List Int)) => Ai [(2,rr 1016),(5,ow 1232 s1.1.length),(6,.p (slI s1.2))] [(Yk p0),(1232,ob0 (roI s1.1))]) hm (Conv.trans (τ := Ai [(2,rr 1016),(c22e2),(6,.p (slI [p1]))] [(Yk p0)]) (Conv.frz [1096]) (Conv.ads [(.s 5,1232,1,elems Bm 0 [])])) ?_
  intro s1 n1 hm
  unfold Ls at hm
  refine Sq (Sq (DW.regJ (sl2 := [(2,rr 1016),(5,ow 1232 s1.1.length),(6,.p (slI s1.2)),(23,pB ((decide (((s1.2.length : Nat) : Int) > 0)) && (decide (((s1.1.length : Nat) : Int) < ((p0.nodes.length : Nat) : Int)))))]) (ob2 := [(Yk p0),(1232,ob0 (roI s1.1))]) ?_ ?_))
  ·rcases bt (decide (((s1.2.length : Nat) : Int) > 0)) with h12 | h12
   ·exact RT hnt (nn 10 (pT :: [])) [(23,pB (decide (((s1.1.length : Nat) : Int) < ((p0.nodes.length : Nat) : Int))))] (an h12 (an6 h12 tv)) (by kernel_rfl) (.cons rfl (.of_eq (by rw [h12]; try rfl)) .nil)
   ·exact RT hnt (nn 4 (sk 6 (pF :: []))) [(23,pB false)] (an h12 (an6 h12 tv)) (by kernel_rfl) (.cons rfl (.of_eq (by rw [h12]; try rfl)) .nil)
  ·refine Ak hm ?_ ?_
   ·intro h13 hm
    refine Sk ?_
    refine Bk ?_
    obtain ⟨g14,g15,hm⟩ := go2 hm
    refine Sq (RN hnt (nn 7 []) [(2,rr 1016),(5,ow 1232 (s1.1 ++ [(s1.2.getD 0 0)]).length),(6,.p (slI s1.2))] [(Yk p0),(1232,ob0 (roI (s1.1 ++ [(s1.2.getD 0 0)])))] [(5,ow 1232 (s1.1.length + 1))] [(1232,.row 1 (s1.1.length + 1) (Da s1.1.length (elI s1.1) (cut 1 [vi (s1.2.getD 0 0)])))] (an (nn0 0) (an (ltc g14) (an (by omega : (s1.1.length + 1) * 8 ≤ 140737488355328) tv))) (by kernel_rfl) (.cons rfl (MLe.ownLen (enc := Bm) (d := 0) (f := (Da s1.1.length (elI s1.1) (cut 1 [vi (s1.2.getD 0 0)]))) (RowIs.cat RowIs.elems (RowIs.lit (enc := Bm) (d := 0) (n := 1) (f := (cut 1 [vi (s1.2.getD 0 0)])) [(s1.2.getD 0 0)] rfl (fun | 0,_ => rfl | n + 1,h => absurd h (by omega))))) .nil) (.cons rfl (BLe.typed (RowIs.cat RowIs.elems (RowIs.lit (enc := Bm) (d := 0) (n := 1) (f := (cut 1 [vi (s1.2.getD 0 0)])) [(s1.2.getD 0 0)] rfl (fun | 0,_ => rfl | n + 1,h => absurd h (by omega))))) .nil) ?_)
    obtain ⟨g16,hm⟩ := go1 hm
    obtain ⟨r17,hr17,hm⟩ := bo hm
    obtain ⟨g18,g19,hm⟩ := go2 hm
    refine RN hnt (nn 4 (o23 [] true r17 :: nn 4 [])) [(2,rr 1016),(5,ow 1232 (s1.1 ++ [(s1.2.getD 0 0)]).length),(6,ow 1272 (r17 ++ (s1.2.drop 1)).length)] [(Yk p0),(1232,ob0 (roI (s1.1 ++ [(s1.2.getD 0 0)]))),(1272,ob0 (roI (r17 ++ (s1.2.drop 1))))] [(6,ow 1272 (r17.length + (Ef s1.2.length 1)))] [(1272,.row 1 (r17.length + (Ef s1.2.length 1)) (Da r17.length (elI r17) (shF 1 (elI s1.2))))] (an (nn0 0) (an (ltc g16) (an (Ms p0 (s1.2.getD 0 0) r17 hr17) (an (by omega : (0 : Int) ≤ 1) (an (by omega : 1 ≤ ((s1.2.length : Nat) : Int)) (an (by omega : ((s1.2.length : Nat) : Int) ≤ ((s1.2.length : Nat) : Int)) (an (by omega : (r17.length + (Ef s1.2.length 1)) * 8 ≤ 140737488355328) tv))))))) (by kernel_rfl) (.cons rfl (MLe.ownLen (enc := Bm) (d := 0) (f := (Da r17.length (elI r17) (shF 1 (elI s1.2)))) (RowIs.cat RowIs.elems (RowIs.elems.drop (Ip _ _) (by omega)))) .nil) (.cons rfl (BLe.typed (RowIs.cat RowIs.elems (RowIs.elems.drop (Ip _ _) (by omega)))) .nil) ?_
    refine DW.done ?_
    show DW _ _ _ _ _
    exact jD ((s1.1 ++ [(s1.2.getD 0 0)]),(r17 ++ (s1.2.drop 1))) hm (Conv.frz [1272])
   ·intro h13 hm
    refine DW.exit ?_
    refine Aj ?_
    refine Aq ?_
    refine Af ?_
    show DW _ _ _ _ _
    refine Sq (RK hnt (nn 2 []) [(4,ow 1232 s1.1.length)] [(1232,ob0 (roI s1.1))] tv ?_)
    obtain rfl := sj hm
    exact DW.ret (Am [roI s1.1] [1232] (ow 0 s1.1.length))
abbrev o22 (ks : List Nat) (b : Bool) (RES : List Int) : Orc := .call 52 ks b (ow 0 RES.length) [] [roI RES]

abbrev Lg (s13 : IMap Int) (r89 : List Int) (k13 : Nat) (p1 : IMap Int) (p2 : IMap Int) := (s13.set (r89.getD k13 0) (Ck (p1.get (r89.getD k13 0)) (p2.get (r89.getD k13 0))))
abbrev AaR (s13 : IMap Int) (r89 : List Int) (k13 : Nat) (p1 : IMap Int) (p2 : IMap Int) (r1 : List Int) (k1 : Nat) (s10 : Int) := (w64 (Int.tdiv (w64 (((Lg s13 r89 k13 p1 p2).get (r89.getD k13 0)) * ((Lg s13 r89 k13 p1 p2).get (r1.getD k1 0)))) s10))
abbrev AaI (p1 : IMap Int) : Nat × MV := (1,.p (.mp (vi 0) p1.has (fun n => vi (p1.get n))))
abbrev Aau (p2 : IMap Int) : Nat × MV := (2,.p (.mp (vi 0) p2.has (fun n => vi (p2.get n))))
abbrev AaC (r1 : List Int) : Nat × MV := (22,pI ((r1.length : Nat) : Int))
abbrev Aav (p0 : Aa) : Nat × Obj := (1032,bx (pm (Ab p0)))
theorem Pv (p0 : Aa) (p1 : IMap Int) (p2 : IMap Int) (p3 : Int) (RES : IMap Int) (hm : Hj p0 p1 p2 p3 = some RES) : Spec Try.prog 48 [.p (.agg (Ab p0)),.p (.mp (vi 0) p1.has (fun n => vi (p1.get n))),.p (.mp (vi 0) p2.has (fun n => vi (p2.get n))),pI p3] [] (.p (.mp (vi 0) RES.has (fun n => vi (RES.get n)))) [] [] := by
 unfold Hj at hm
 refine SO Try.func48 rfl rfl [(0,.p (.agg (Ab p0))),(AaI p1),(Aau p2),(3,pI p3)] [] ?_
 intro cx hnt
 refine Sq (RD hnt (nn 2 []) [0] [(4,rr 1032)] [] [(Aav p0)] tv ?_)
 refine Sq (RD hnt (nn 2 []) [] [(9,.mref 1144 0)] [] [(1144,ob0 (Fh vi (vi 0) (IMap.empty 0)))] tv ?_)
 obtain ⟨r1,hr1,hm⟩ := bo hm
 refine Sq (Sq (RD hnt (nn 2 (o22 [] true r1 :: nn 2 [])) [] [(21,ow 1168 r1.length),(AaC r1),(23,pI 0)] [] [(1168,ob0 (roI r1))] (an (Sj p0 p3 r1 hr1) tv) ?_))
 refine Bk ?_
 obtain ⟨hc1,hm⟩ := go1 hm
 refine DW.rangeO (fun (k1 : Nat) (s1 : IMap Int) => Ai [(AaI p1),(Aau p2),(3,pI p3),(4,rr 1032),(9,.mref 1144 0),(21,ow 1168 r1.length),(AaC r1),(23,pI ((k1 : Nat) : Int))] [(Aav p0),(1144,ob0 (Fh vi (vi 0) s1)),(1168,ob0 (roI r1))]) 0 hm Conv.eqK ?_
 intro k1 s1 n1 hk1 hs1 he1
 refine Sq (RD hnt (.no :: []) [] [(24,pB (decide (((k1 : Nat) : Int) < ((r1.length : Nat) : Int))))] [] [] tv ?_)
 refine Sq (Ch (decide (((k1 : Nat) : Int) < ((r1.length : Nat) : Int))) ?_ ?_)
 ·intro h88
  have hlt1 : k1 < r1.length := by have := of_decide_eq_true h88; omega
  have hm := hs1 hlt1
  unfold Mn at hm
  refine Sk ?_
  refine Sq (Bk ?_)
  refine Sq (RD hnt (nn 3 []) [24] [(11,pI (r1.getD k1 0))] [] [] (an (nn0 k1) (an (ltc hlt1) (an (by omega : k1 < r1.length) tv))) ?_)
  obtain ⟨r89,hr89,hm⟩ := bo hm
  refine Sq (RD hnt (nn 2 (o23 [] true r89 :: .no :: [])) [] [(12,ow 1232 r89.length)] [] [(1232,ob0 (roI r89))] (an (Ms p0 (r1.getD k1 0) r89 hr89) tv) ?_)
  refine Sq (RD hnt (.no :: []) [] [(13,pI 0)] [] [] tv ?_)
  refine Sq (Sq (RD hnt (nn 3 []) [] [(30,ow 1232 r89.length),(31,pI ((r89.length : Nat) : Int)),(32,pI 0)] [] [] tv ?_))
  refine Bk ?_
  obtain ⟨hc10,hm⟩ := go1 hm
  refine DW.rangeO (fun (k10 : Nat) (s10 : Int) => Ai [(AaI p1),(Aau p2),(3,pI p3),(4,rr 1032),(9,.mref 1144 0),(11,pI (r1.getD k1 0)),(12,ow 1232 r89.length),(13,pI s10),(21,ow 1168 r1.length),(AaC r1),(23,pI ((k1 : Nat) : Int)),(30,ow 1232 r89.length),(31,pI ((r89.length : Nat) : Int)),(32,pI ((k10 : Nat) : Int))] [(Aav p0),(1144,ob0 (Fh vi (vi 0) s1)),(1168,ob0 (roI r1)),(1232,ob0 (roI r89))]) 0 hm Conv.eqK ?_
  intro k10 s10 n10 hk10 hs10 he10
  refine Sq (RD hnt (.no :: []) [] [(33,pB (decide (((k10 : Nat) : Int) < ((r89.length : Nat) : Int))))] [] [] tv ?_)
  refine Sq (Ch (decide (((k10 : Nat) : Int) < ((r89.length : Nat) : Int))) ?_ ?_)
  ·intro h112
   have hlt10 : k10 < r89.length := by have := of_decide_eq_true h112; omega
   have hm := hs10 hlt10
   unfold Iz at hm
   refine Sk ?_
   refine Sq (Bk ?_)
   refine Sq (RD hnt (nn 3 []) [33] [(15,pI (r89.getD k10 0))] [] [] (an (nn0 k10) (an (ltc hlt10) (an (by omega : k10 < r89.length) tv))) ?_)
   refine RD hnt (nn 10 []) [15] [(13,pI (w64 (s10 + (Ck (p1.get (r89.getD k10 0)) (p2.get (r89.getD k10 0))))))] [] [] (an (rfl : vi 0 = vi 0) (an (rfl : vi 0 = vi 0) tv)) ?_
   refine DW.done ?_
   show DW _ _ _ _ _
   refine RD hnt (nn 2 []) [] [(32,pI (w64 (((k10 : Nat) : Int) + 1)))] [] [] tv ?_
   exact jD (w64 (s10 + (Ck (p1.get (r89.getD k10 0)) (p2.get (r89.getD k10 0))))) ⟨hlt10,hm⟩ (Conv.tp [(32,pI (w64 (((k10 : Nat) : Int) + 1)))] [] (by kernel_rfl) (.cons rfl (.of_eq (congrArg pI (Bj hlt10 hc10))) .nil) .nil)
  ·intro h112
   have hge10 : ¬ k10 < r89.length := by have := of_decide_eq_false h112; omega
   have hm := he10 hge10
   unfold Ll at hm
   refine DW.exit ?_
   refine Aj ?_
   refine Aq ?_
   refine Af ?_
   show DW _ _ _ _ _
   refine Sq (RD hnt (nn 3 []) [12,30,31,32,33] [(46,ow 1232 r89.length),(47,pI ((r89.length : Nat) : Int)),(48,pI 0)] [] [] tv ?_)
   refine Bk ?_
   obtain ⟨hc13,hm⟩ := go1 hm
   refine DW.rangeO (fun (k13 : Nat) (s13 : IMap Int) => Ai [(AaI p1),(Aau p2),(3,pI p3),(4,rr 1032),(9,.mref 1144 0),(11,pI (r1.getD k1 0)),(13,pI s10),(21,ow 1168 r1.length),(AaC r1),(23,pI ((k1 : Nat) : Int)),(46,ow 1232 r89.length),(47,pI ((r89.length : Nat) : Int)),(48,pI ((k13 : Nat) : Int))] [(Aav p0),(1144,ob0 (Fh vi (vi 0) s13)),(1168,ob0 (roI r1)),(1232,ob0 (roI r89))]) 0 hm Conv.eqK ?_
   intro k13 s13 n13 hk13 hs13 he13
   refine Sq (RD hnt (.no :: []) [] [(49,pB (decide (((k13 : Nat) : Int) < ((r89.length : Nat) : Int))))] [] [] tv ?_)
   refine Sq (Ch (decide (((k13 : Nat) : Int) < ((r89.length : Nat) : Int))) ?_ ?_)
   ·intro h125
    have hlt13 : k13 < r89.length := by have := of_decide_eq_true h125; omega
    have hm := hs13 hlt13
    unfold Lp at hm
    refine Sk ?_
    refine Sq ?_
    refine Jn (ι := IMap Int) (fun (y18 : IMap Int) => Ai [(AaI p1),(Aau p2),(3,pI p3),(4,rr 1032),(9,.mref 1144 0),(11,pI (r1.getD k1 0)),(13,pI s10),(21,ow 1168 r1.length),(AaC r1),(23,pI ((k1 : Nat) : Int)),(46,ow 1232 r89.length),(47,pI ((r89.length : Nat) : Int)),(48,pI ((k13 : Nat) : Int))] [(Aav p0),(1144,ob0 (Fh vi (vi 0) y18)),(1168,ob0 (roI r1)),(1232,ob0 (roI r89))]) (fun y18 => (Hf n13) y18 = some RES) ?_ ?_
    ·intro y18 hm
     unfold Hf at hm
     refine RD hnt (nn 2 []) [] [(48,pI (w64 (((k13 : Nat) : Int) + 1)))] [] [] tv ?_
     exact jD y18 ⟨hlt13,hm⟩ (Conv.tp [(48,pI (w64 (((k13 : Nat) : Int) + 1)))] [] (by kernel_rfl) (.cons rfl (.of_eq (congrArg pI (Bj hlt13 hc13))) .nil) .nil)
    ·refine Bk ?_
     refine Sq (RD hnt (nn 3 []) [49] [(17,pI (r89.getD k13 0))] [] [] (an (nn0 k13) (an (ltc hlt13) (an (by omega : k13 < r89.length) tv))) ?_)
     refine Sq (RD hnt (nn 9 (.asM (Lg s13 r89 k13 p1 p2).has (fun j => vi ((Lg s13 r89 k13 p1 p2).get j)) :: [])) [] [] [] [(1144,ob0 (Fh vi (vi 0) (Lg s13 r89 k13 p1 p2)))] (an (rfl : vi 0 = vi 0) (an (rfl : vi 0 = vi 0) (an (Np s13 (r89.getD k13 0) (Ck (p1.get (r89.getD k13 0)) (p2.get (r89.getD k13 0)))) (an (Nh vi s13 (r89.getD k13 0) (Ck (p1.get (r89.getD k13 0)) (p2.get (r89.getD k13 0)))) tv)))) ?_)
     refine Sq (DW.regJ (sl2 := [(AaI p1),(Aau p2),(3,pI p3),(4,rr 1032),(9,.mref 1144 0),(11,pI (r1.getD k1 0)),(13,pI s10),(17,pI (r89.getD k13 0)),(21,ow 1168 r1.length),(AaC r1),(23,pI ((k1 : Nat) : Int)),(46,ow 1232 r89.length),(47,pI ((r89.length : Nat) : Int)),(48,pI ((k13 : Nat) : Int)),(70,pB (((r1.getD k1 0) != p3) && (decide (s10 > ((Lg s13 r89 k13 p1 p2).get (r1.getD k1 0))))))]) (ob2 := [(Aav p0),(1144,ob0 (Fh vi (vi 0) (Lg s13 r89 k13 p1 p2))),(1168,ob0 (roI r1)),(1232,ob0 (roI r89))]) ?_ ?_)
     ·rcases bt ((r1.getD k1 0) != p3) with h126 | h126
      ·exact RT hnt (nn 9 (pT :: [])) [(70,pB (decide (s10 > ((Lg s13 r89 k13 p1 p2).get (r1.getD k1 0)))))] (an4 h126 (an (rfl : vi 0 = vi 0) (an2 h126 tv))) (by kernel_rfl) (.cons rfl (.of_eq (by rw [h126]; try rfl)) .nil)
      ·exact RT hnt (nn 4 (sk 5 (pF :: []))) [(70,pB false)] (an6 h126 tv) (by kernel_rfl) (.cons rfl (.of_eq (by rw [h126]; try rfl)) .nil)
     ·refine Ak hm ?_ ?_
      ·intro h127 hm
       obtain ⟨g128,hm⟩ := go1 hm
       refine RD hnt (nn 11 (.asM ((Lg s13 r89 k13 p1 p2).set (r89.getD k13 0) (AaR s13 r89 k13 p1 p2 r1 k1 s10)).has (fun j => vi (((Lg s13 r89 k13 p1 p2).set (r89.getD k13 0) (AaR s13 r89 k13 p1 p2 r1 k1 s10)).get j)) :: [])) [17,70] [] [] [(1144,ob0 (Fh vi (vi 0) ((Lg s13 r89 k13 p1 p2).set (r89.getD k13 0) (AaR s13 r89 k13 p1 p2 r1 k1 s10))))] (an (rfl : vi 0 = vi 0) (an (rfl : vi 0 = vi 0) (an g128 (an (Np (Lg s13 r89 k13 p1 p2) (r89.getD k13 0) (AaR s13 r89 k13 p1 p2 r1 k1 s10)) (an (Nh vi (Lg s13 r89 k13 p1 p2) (r89.getD k13 0) (AaR s13 r89 k13 p1 p2 r1 k1 s10)) tv))))) ?_
       exact bD ((Lg s13 r89 k13 p1 p2).set (r89.getD k13 0) (AaR s13 r89 k13 p1 p2 r1 k1 s10)) hm Conv.eqK
      ·intro h127 hm
       refine Sk ?_
       exact bD (Lg s13 r89 k13 p1 p2) hm Conv.t0
   ·intro h125
    have hge13 : ¬ k13 < r89.length := by have := of_decide_eq_false h125; omega
    have hm := he13 hge13
    unfold Lq at hm
    refine DW.exit ?_
    refine Aj ?_
    refine Aq ?_
    refine Af ?_
    show DW _ _ _ _ _
    refine DW.done ?_
    show DW _ _ _ _ _
    refine RD hnt (nn 2 []) [11,13,46,47,48,49] [(23,pI (w64 (((k1 : Nat) : Int) + 1)))] [1232] [] tv ?_
    exact jD s13 ⟨hlt1,hm⟩ (Conv.tp [(23,pI (w64 (((k1 : Nat) : Int) + 1)))] [] (by kernel_rfl) (.cons rfl (.of_eq (congrArg pI (Bj hlt1 hc1))) .nil) .nil)
 ·intro h88
  have hge1 : ¬ k1 < r1.length := by have := of_decide_eq_false h88; omega
  have hm := he1 hge1
  unfold Rc at hm
  refine DW.exit ?_
  refine Aj ?_
  refine Aq ?_
  refine Af ?_
  show DW _ _ _ _ _
  refine Sq (RK hnt (nn 2 []) [(8,.mref 1144 0)] [(1144,ob0 (Fh vi (vi 0) s1))] tv ?_)
  refine DW.cv [] [(8,.p (.mp (vi 0) s1.has (fun n => vi (s1.get n))))] [1144] [] (Conv.frz [1144]) ?_
  obtain rfl := sj hm
  exact DW.ret (Am [] [] (.p (.mp (vi 0) s1.has (fun n => vi (s1.get n)))))
abbrev o21 (ks : List Nat) (b : Bool) (RES : IMap Int) : Orc := .call 48 ks b (.p (.mp (vi 0) RES.has (fun n => vi (RES.get n)))) [] []

theorem AbO (p0 : Protection) (RES : Int) (hm : Xh p0 = some RES) : Spec Try.prog 51 [.p (.agg (As p0))] [] (pI RES) [] [] := by
 unfold Xh at hm
 refine SO Try.func51 rfl rfl [(0,.p (.agg (As p0)))] [] ?_
 intro cx hnt
 refine Sq (RK hnt (nn 2 []) [(1,rr 1008)] [(1008,bx (pm (As p0)))] tv ?_)
 refine Sq (RK hnt (nn 3 []) [(2,pI p0.low)] [] tv ?_)
 obtain rfl := sj hm
 exact DW.ret (Am [] [] (pI p0.low))
abbrev o25 (ks : List Nat) (b : Bool) (RES : Int) : Orc := .call 51 ks b (pI RES) [] []

abbrev Wd (p0 : List Protection) (k1 : Nat) := (p0.getD k1 (default : Protection))
theorem Ju (p0 : List Protection) (RES : IMap Int) (hm : Dg p0 = some RES) : Spec Try.prog 49 [.p (Ae p0),.p (.fn 51 [])] [] (.p (.mp (vi 0) RES.has (fun n => vi (RES.get n)))) [] [] := by
 unfold Dg at hm
 refine SO Try.func49 rfl rfl [(0,.p (Ae p0)),(1,.p (.fn 51 []))] [] ?_
 intro cx hnt
 refine Sq (RD hnt (.no :: []) [] [] [] [] tv ?_)
 refine Sq (RD hnt (nn 2 []) [] [(5,.mref 1064 0)] [] [(1064,ob0 (Fh vi (vi 0) (IMap.empty 0)))] tv ?_)
 refine Sq (Sq (RD hnt (nn 3 []) [0] [(9,.p (Ae p0)),(10,pI ((p0.length : Nat) : Int)),(11,pI 0)] [] [] tv ?_))
 refine Bk ?_
 obtain ⟨hc1,hm⟩ := go1 hm
 refine DW.rangeO (fun (k1 : Nat) (s1 : IMap Int) => Ai [(1,.p (.fn 51 [])),(5,.mref 1064 0),(9,.p (Ae p0)),(10,pI ((p0.length : Nat) : Int)),(11,pI ((k1 : Nat) : Int))] [(1064,ob0 (Fh vi (vi 0) s1))]) Ar hm Conv.eqK ?_
 intro k1 s1 n1 hk1 hs1 he1
 refine Sq (RD hnt (.no :: []) [] [(12,pB (decide (((k1 : Nat) : Int) < ((p0.length : Nat) : Int))))] [] [] tv ?_)
 refine Sq (Ch (decide (((k1 : Nat) : Int) < ((p0.length : Nat) : Int))) ?_ ?_)
 ·intro h7
  have hlt1 : k1 < p0.length := by have := of_decide_eq_true h7; omega
  have hm := hs1 hlt1
  unfold Gz at hm
  refine Sk ?_
  refine Sq (Bk ?_)
  refine Sq (RD hnt (nn 4 []) [12] [(7,rr 1056)] [] [(1056,bx (pm (As (Wd p0 k1))))] (an (nn0 k1) (an (ltc hlt1) tv)) ?_)
  obtain ⟨r8,hr8,hm⟩ := bo hm
  refine RD hnt (nn 5 (o25 [] true r8 :: .no :: .asM (s1.set (Wd p0 k1).group (Ck r8 16777216)).has (fun j => vi ((s1.set (Wd p0 k1).group (Ck r8 16777216)).get j)) :: [])) [7] [] [1056] [(1064,ob0 (Fh vi (vi 0) (s1.set (Wd p0 k1).group (Ck r8 16777216))))] (an (AbO (Wd p0 k1) r8 hr8) (an (Np s1 (Wd p0 k1).group (Ck r8 16777216)) (an (Nh vi s1 (Wd p0 k1).group (Ck r8 16777216)) tv))) ?_
  refine DW.done ?_
  show DW _ _ _ _ _
  refine RD hnt (nn 2 []) [] [(11,pI (w64 (((k1 : Nat) : Int) + 1)))] [] [] tv ?_
  exact jD (s1.set (Wd p0 k1).group (Ck r8 16777216)) ⟨hlt1,hm⟩ (Conv.tp [(11,pI (w64 (((k1 : Nat) : Int) + 1)))] [] (by kernel_rfl) (.cons rfl (.of_eq (congrArg pI (Bj hlt1 hc1))) .nil) .nil)
 ·intro h7
  have hge1 : ¬ k1 < p0.length := by have := of_decide_eq_false h7; omega
  have hm := he1 hge1
  unfold Km at hm
  refine DW.exit ?_
  refine Aj ?_
  refine Aq ?_
  refine Af ?_
  show DW _ _ _ _ _
  refine Sq (RK hnt (nn 2 []) [(4,.mref 1064 0)] [(1064,ob0 (Fh vi (vi 0) s1))] tv ?_)
  refine DW.cv [] [(4,.p (.mp (vi 0) s1.has (fun n => vi (s1.get n))))] [1064] [] (Conv.frz [1064]) ?_
  obtain rfl := sj hm
  exact DW.ret (Am [] [] (.p (.mp (vi 0) s1.has (fun n => vi (s1.get n)))))
abbrev o24 (ks : List Nat) (b : Bool) (RES : IMap Int) : Orc := .call 49 ks b (.p (.mp (vi 0) RES.has (fun n => vi (RES.get n)))) [] []

abbrev c28e1 (y3 : Int × Int) := (w64 (y3.2 + (w64 (((Bb (bs [0,1,2,2,3,3,3,3,4,4,4,4,4,4,4,4,5,5,5,5,5,5,5,5,5,5,5,5,5,5,5,5,6,6,6,6,6,6,6,6,6,6,6,6,6,6,6,6,6,6,6,6,6,6,6,6,6,6,6,6,6,6,6,6,7,7,7,7,7,7,7,7,7,7,7,7,7,7,7,7,7,7,7,7,7,7,7,7,7,7,7,7,7,7,7,7,7,7,7,7,7,7,7,7,7,7,7,7,7,7,7,7,7,7,7,7,7,7,7,7,7,7,7,7,7,7,7,7,8,8,8,8,8,8,8,8,8,8,8,8,8,8,8,8,8,8,8,8,8,8,8,8,8,8,8,8,8,8,8,8,8,8,8,8,8,8,8,8,8,8,8,8,8,8,8,8,8,8,8,8,8,8,8,8,8,8,8,8,8,8,8,8,8,8,8,8,8,8,8,8,8,8,8,8,8,8,8,8,8,8,8,8,8,8,8,8,8,8,8,8,8,8,8,8,8,8,8,8,8,8,8,8,8,8,8,8,8,8,8,8,8,8,8,8,8,8,8,8,8,8,8,8,8,8,8,8]) (Int.toNat (IntKind.u8.wrap y3.1))) : Nat) : Int))))
theorem AcA (p0 : Int) (RES : Int) (hm : Yy p0 = some RES) : Spec Try.prog 106 [.p (vk .u64 p0)] [] (pI RES) [] [] := by
 unfold Yy at hm
 refine SO Try.func106 rfl rfl [(0,.p (vk .u64 p0))] [] ?_
 intro cx hnt
 refine Sq (RD hnt (.no :: []) [] [(2,pI 0)] [] [] tv ?_)
 refine Sq (Sq (RD hnt (nn 2 []) [] [(4,pB (decide (p0 ≥ 4294967296)))] [] [] tv ?_))
 refine Jn (ι := Int × Int) (fun (y1 : Int × Int) => Ai [(0,.p (vk .u64 y1.1)),(2,pI y1.2)] []) (fun y1 => Qb y1 = some RES) ?_ ?_
 ·intro y1 hm
  unfold Qb at hm
  refine Sq (Sq (RD hnt (nn 2 []) [] [(8,pB (decide (y1.1 ≥ 65536)))] [] [] tv ?_))
  refine Jn (ι := Int × Int) (fun (y2 : Int × Int) => Ai [(0,.p (vk .u64 y2.1)),(2,pI y2.2)] []) (fun y2 => Qj y2 = some RES) ?_ ?_
  ·intro y2 hm
   unfold Qj at hm
   refine Sq (Sq (RD hnt (nn 2 []) [] [(14,pB (decide (y2.1 ≥ 256)))] [] [] tv ?_))
   refine Jn (ι := Int × Int) (fun (y3 : Int × Int) => Ai [(0,.p (vk .u64 y3.1)),(2,pI y3.2)] []) (fun y3 => Qe y3 = some RES) ?_ ?_
   ·intro y3 hm
    unfold Qe at hm
    obtain ⟨g4,hm⟩ := go1 hm
    refine Sq (RK hnt (nn 7 []) [(2,pI (c28e1 y3))] [] (an g4.1 (an g4.2 tv)) ?_)
    obtain rfl := sj hm
    exact DW.ret (Am [] [] (pI (c28e1 y3)))
   ·refine Ak hm ?_ ?_
    ·intro h3 hm
     refine Sq (RK hnt (nn 3 []) [(0,.p (vk .u64 (kshr .u64 y2.1 8))),(2,pI y2.2)] [] (an (by decide : (0 : Int) ≤ 8) tv) ?_)
     refine RD hnt (nn 3 []) [] [(2,pI (w64 (y2.2 + 8)))] [] [] tv ?_
     exact jD ((kshr .u64 y2.1 8),(w64 (y2.2 + 8))) hm Conv.eqK
    ·intro h3 hm
     refine Sk ?_
     exact jD (y2.1,y2.2) hm Conv.t0
  ·refine Ak hm ?_ ?_
   ·intro h2 hm
    refine Sq (RK hnt (nn 3 []) [(0,.p (vk .u64 (kshr .u64 y1.1 16))),(2,pI y1.2)] [] (an (by decide : (0 : Int) ≤ 16) tv) ?_)
    refine RD hnt (nn 3 []) [] [(2,pI (w64 (y1.2 + 16)))] [] [] tv ?_
    exact jD ((kshr .u64 y1.1 16),(w64 (y1.2 + 16))) hm Conv.eqK
   ·intro h2 hm
    refine Sk ?_
    exact jD (y1.1,y1.2) hm Conv.t0
 ·refine Ak hm ?_ ?_
  ·intro h1 hm
   refine Sq (RK hnt (nn 3 []) [(0,.p (vk .u64 (kshr .u64 p0 32)))] [] (an (by decide : (0 : Int) ≤ 32) tv) ?_)
   refine RD hnt (.no :: []) [] [(2,pI 32)] [] [] tv ?_
   exact jD ((kshr .u64 p0 32),32) hm Conv.eqK
  ·intro h1 hm
   refine Sk ?_
   exact jD (p0,0) hm Conv.t0
abbrev o28 (ks : List Nat) (b : Bool) (RES : Int) : Orc := .call 106 ks b (pI RES) [] []

theorem Zu (p0 : Int) (RES : Int) (hm : Pq p0 = some RES) : Spec Try.prog 74 [.p (vk .u64 p0)] [] (pI RES) [] [] := by
 unfold Pq at hm
 refine SO Try.func74 rfl rfl [(0,.p (vk .u64 p0))] [] ?_
 intro cx hnt
 refine Sq (RD hnt (.no :: []) [] [] [] [] tv ?_)
 refine Sq (condF ff ?_)
 refine Sk ?_
 obtain ⟨r1,hr1,hm⟩ := bo hm
 refine Sq (RK hnt (.no :: o28 [] true r1 :: .no :: []) [(2,pI r1)] [] (an (AcA p0 r1 hr1) tv) ?_)
 obtain rfl := sj hm
 exact DW.ret (Am [] [] (pI r1))
abbrev o27 (ks : List Nat) (b : Bool) (RES : Int) : Orc := .call 74 ks b (pI RES) [] []

theorem Is (p0 : Int) (RES : Bool) (hm : Mb p0 = some RES) : Spec Try.prog 130 [pI p0] [] (pB RES) [] [] := by
 unfold Mb at hm
 refine SO Try.func130 rfl rfl [(0,pI p0)] [] ?_
 intro cx hnt
 refine Sq (RK hnt (.no :: []) [(0,pI p0)] [] tv ?_)
 refine Sq (RK hnt (nn 4 []) [(2,pB (p0 != p0))] [] tv ?_)
 obtain rfl := sj hm
 exact DW.ret (Am [] [] (pB (p0 != p0)))
abbrev o32 (ks : List Nat) (b : Bool) (RES : Bool) : Orc := .call 130 ks b (pB RES) [] []

theorem Cg (p0 : Int) (p1 : Int) (RES : Bool) (hm : Cl p0 p1 = some RES) : Spec Try.prog 102 [pI p0,pI p1] [] (pB RES) [] [] := by
 unfold Cl at hm
 refine SO Try.func102 rfl rfl [(0,pI p0),(1,pI p1)] [] ?_
 intro cx hnt
 refine Sq (RD hnt (.no :: []) [] [] [] [] tv ?_)
 obtain ⟨r1,hr1,hm⟩ := bo hm
 refine Sq ?_
 refine Jn (ι := Bool) (fun (y1 : Bool) => Ai [(4,pB y1)] []) (fun y1 => Je y1 = some RES) ?_ ?_
 ·intro y1 hm
  unfold Je at hm
  obtain rfl := sj hm
  exact DW.ret (Am [] [] (pB y1))
 ·rcases bt r1 with h2 | h2
  ·replace hm := Az h2 hm
   obtain ⟨r3,hr3,hm⟩ := bo hm
   rcases bt (!r3) with h4 | h4
   ·replace hm := Az h4 hm
    refine RK hnt (.no :: o32 [] true r1 :: nn 2 (o32 [] true r3 :: .no :: pT :: .no :: sk 3 (pT :: .no :: []))) [(4,pB true)] [] (an (Is p0 r1 hr1) (an2 h2 (an (Is p1 r3 hr3) (an2 h2 (an4 h4 tv))))) ?_
    exact jD true hm .refl
   ·replace hm := Ba h4 hm
    refine RK hnt (.no :: o32 [] true r1 :: nn 2 (o32 [] true r3 :: .no :: pT :: nn 4 (pF :: .no :: []))) [(4,pB (decide (p0 < p1)))] [] (an (Is p0 r1 hr1) (an2 h2 (an (Is p1 r3 hr3) (an2 h2 (an4 h4 tv))))) ?_
    exact jD (decide (p0 < p1)) hm .refl
  ·replace hm := Ba h2 hm
   refine RK hnt (.no :: o32 [] true r1 :: .no :: sk 3 (pF :: nn 4 (pF :: .no :: []))) [(4,pB (decide (p0 < p1)))] [] (an (Is p0 r1 hr1) (an4 h2 (an4 ff tv))) ?_
   exact jD (decide (p0 < p1)) hm .refl
abbrev o31 (ks : List Nat) (b : Bool) (RES : Bool) : Orc := .call 102 ks b (pB RES) [] []

abbrev Aas (s4 : (List Int) × Int) := (s4.1.getD (Int.toNat (w64 (s4.2 - 1))) 0)
abbrev c30e2 (s4 : (List Int) × Int) := (Bt (Bt (elI s4.1) (Int.toNat s4.2) [vi (Aas s4)]) (Int.toNat (w64 (s4.2 - 1))) (setRange ((Bt (elI s4.1) (Int.toNat s4.2) [vi (Aas s4)]) (Int.toNat (w64 (s4.2 - 1)))) 0 [vi (s4.1.getD (Int.toNat s4.2) 0)]))
abbrev c30e3 (s4 : (List Int) × Int) := ((s4.1.set (Int.toNat s4.2) (Aas s4)).set (Int.toNat (w64 (s4.2 - 1))) (s4.1.getD (Int.toNat s4.2) 0))
theorem Nz (p0 : List Int) (p1 : Int) (p2 : Int) (RES : List Int) (hm : Ds p0 p1 p2 = some RES) : Spec Try.prog 96 [ow 0 p0.length,pI p1,pI p2] [roI p0] (.p (.tup [])) [roI RES] [] := by
 unfold Ds at hm
 refine SO Try.func96 rfl rfl [(0,ow 0 p0.length),(1,pI p1),(2,pI p2)] [(0,ob0 (roI p0))] ?_
 intro cx hnt
 refine Sq (RD hnt (nn 3 []) [] [(6,pI (w64 (p1 + 1)))] [] [] tv ?_)
 refine Bk ?_
 obtain ⟨hc1,hm⟩ := go1 hm
 refine DW.forO (fun (k1 : Int) (s1 : List Int) => Ai [(0,ow 0 s1.length),(1,pI p1),(2,pI p2),(6,pI k1)] [(0,ob0 (roI s1))]) (lo := (w64 (p1 + 1))) (hi := p2) hm Conv.eqK ?_
 intro k1 s1 n1 hk1 hs1 he1
 refine Sq (Sq (RD hnt (nn 3 []) [] [(12,pB (decide (k1 < p2)))] [] [] tv ?_))
 refine Ch (decide (k1 < p2)) ?_ ?_
 ·intro h75
  have hlt1 : k1 < p2 := by have := of_decide_eq_true h75; omega
  have hm := hs1 hlt1
  unfold Ge at hm
  refine Sk ?_
  refine Sq (Bk ?_)
  refine Sq (RD hnt (nn 2 []) [12] [(7,pI k1)] [] [] tv ?_)
  refine Bk ?_
  refine DW.whileO (fun (s4 : (List Int) × Int) => Ai [(0,ow 0 s4.1.length),(1,pI p1),(2,pI p2),(6,pI k1),(7,pI s4.2)] [(0,ob0 (roI s4.1))]) hm Conv.eqK ?_
  intro s4 n4 hm
  unfold Gd at hm
  refine Sq (Sq ?_)
  refine Jn (ι := Bool) (fun (y6 : Bool) => Ai [(0,ow 0 s4.1.length),(1,pI p1),(2,pI p2),(6,pI k1),(7,pI s4.2),(30,pB y6)] [(0,ob0 (roI s4.1))]) (fun y6 => (Dc n1 s4 n4) y6 = some RES) ?_ ?_
  ·intro y6 hm
   unfold Dc at hm
   refine Ak hm ?_ ?_
   ·intro h97 hm
    refine Sk ?_
    refine Sq (Bk ?_)
    obtain ⟨g98,g99,g100,g101,hm⟩ := go4 hm
    obtain ⟨g102,g103,g104,g105,hm⟩ := go4 hm
    refine RN hnt (nn 18 []) [(0,ow 0 (c30e3 s4).length),(1,pI p1),(2,pI p2),(6,pI k1),(7,pI s4.2)] [(0,ob0 (roI (c30e3 s4)))] [(0,ow 0 s4.1.length)] [(0,.row 1 s4.1.length (c30e2 s4))] (an g98.1 (an g98.2 (an g99 (an g100.1 (an g100.2 (an g101 (an g102.1 (an g102.2 (an g103 (an g104.1 (an g104.2 (an g105 tv)))))))))))) (by kernel_rfl) (.cons rfl (MLe.ownLen (enc := Bm) (d := 0) (f := (c30e2 s4)) (RowIs.updR (RowIs.upd RowIs.elems (Aas s4) rfl) (by omega) (s4.1.getD (Int.toNat s4.2) 0) rfl)) .nil) (.cons rfl (BLe.typed (RowIs.updR (RowIs.upd RowIs.elems (Aas s4) rfl) (by omega) (s4.1.getD (Int.toNat s4.2) 0) rfl)) .nil) ?_
    refine DW.done ?_
    show DW _ _ _ _ _
    refine RD hnt (nn 3 []) [] [(7,pI (w64 (s4.2 - 1)))] [] [] tv ?_
    exact jD ((c30e3 s4),(w64 (s4.2 - 1))) hm Conv.eqK
   ·intro h97 hm
    refine DW.exit ?_
    refine Aj ?_
    refine Aq ?_
    refine Af ?_
    show DW _ _ _ _ _
    refine DW.done ?_
    show DW _ _ _ _ _
    refine RD hnt (nn 3 []) [7,30] [(6,pI (w64 (k1 + 1)))] [] [] tv ?_
    exact jD s4.1 ⟨hlt1,hm⟩ (Conv.tp [(6,pI (w64 (k1 + 1)))] [] (by kernel_rfl) (.cons rfl (.of_eq (congrArg pI (Uk (lo := (w64 (p1 + 1))) (hi := p2) (by omega) hk1 hlt1 (by omega)))) .nil) .nil)
  ·rcases bt (decide (s4.2 > p1)) with h91 | h91
   ·replace hm := Az h91 hm
    obtain ⟨g92,g93,g94,g95,hm⟩ := go4 hm
    obtain ⟨r96,hr96,hm⟩ := bo hm
    refine RD hnt (nn 13 (o31 [] true r96 :: pT :: [])) [] [(30,pB r96)] [] [] (an3 h91 (an g92.1 (an g92.2 (an h91 (an g93 (an4 h91 (an g94.1 (an g94.2 (an h91 (an g95 (an h91 (an (Cg (s4.1.getD (Int.toNat s4.2) 0) (Aas s4) r96 hr96) (an h91 tv))))))))))))) ?_
    exact jD r96 hm Conv.eqK
   ·replace hm := Ba h91 hm
    refine RD hnt (nn 4 (sk 10 (pF :: []))) [] [(30,pB false)] [] [] (an5 h91 (an6 h91 tv)) ?_
    exact jD false hm Conv.eqK
 ·intro h75
  have hge1 : ¬ k1 < p2 := by have := of_decide_eq_false h75; omega
  have hm := he1 hge1
  unfold Ja at hm
  refine DW.exit ?_
  refine Aj ?_
  refine Aq ?_
  refine Af ?_
  show DW _ _ _ _ _
  refine DW.done ?_
  obtain rfl := sj hm
  exact endK [roI s1] [] (.p (.tup []))
abbrev o30 (ks : List Nat) (b : Bool) (RES : List Int) : Orc := .call 96 ks b (.p (.tup [])) [roI RES] []

abbrev c34e1 (s1 : (List Int) × Int) (p3 : Int) (y4 : Int) := (Bt (Bt (elI s1.1) (Int.toNat (w64 (p3 + s1.2))) [vi (s1.1.getD (Int.toNat (w64 (p3 + y4))) 0)]) (Int.toNat (w64 (p3 + y4))) (setRange ((Bt (elI s1.1) (Int.toNat (w64 (p3 + s1.2))) [vi (s1.1.getD (Int.toNat (w64 (p3 + y4))) 0)]) (Int.toNat (w64 (p3 + y4)))) 0 [vi (s1.1.getD (Int.toNat (w64 (p3 + s1.2))) 0)]))
abbrev c34e2 (s1 : (List Int) × Int) (p3 : Int) (y4 : Int) := ((s1.1.set (Int.toNat (w64 (p3 + s1.2))) (s1.1.getD (Int.toNat (w64 (p3 + y4))) 0)).set (Int.toNat (w64 (p3 + y4))) (s1.1.getD (Int.toNat (w64 (p3 + s1.2))) 0))
abbrev Tu (s1 : (List Int) × Int) := (w64 ((w64 (2 * s1.2)) + 1))
theorem Kk (p0 : List Int) (p1 : Int) (p2 : Int) (p3 : Int) (RES : List Int) (hm : Du p0 p1 p2 p3 = some RES) : Spec Try.prog 125 [ow 0 p0.length,pI p1,pI p2,pI p3] [roI p0] (.p (.tup [])) [roI RES] [] := by
 unfold Du at hm
 refine SO Try.func125 rfl rfl [(0,ow 0 p0.length),(1,pI p1),(2,pI p2),(3,pI p3)] [(0,ob0 (roI p0))] ?_
 intro cx hnt
 refine Sq (RD hnt (nn 2 []) [1] [(8,pI p1)] [] [] tv ?_)
 refine Bk ?_
 refine DW.whileO (fun (s1 : (List Int) × Int) => Ai [(0,ow 0 s1.1.length),(2,pI p2),(3,pI p3),(8,pI s1.2)] [(0,ob0 (roI s1.1))]) hm Conv.eqK ?_
 intro s1 n1 hm
 unfold Hs at hm
 refine Bk ?_
 refine Sq (RD hnt (nn 4 []) [] [(9,pI (Tu s1))] [] [] tv ?_)
 refine Sq (Sq (RD hnt (nn 3 []) [] [(16,pB (decide ((Tu s1) ≥ p2)))] [] [] tv ?_))
 refine Ak hm ?_ ?_
 ·intro h23 hm
  refine DW.exit ?_
  refine Lf (by decide) ?_
  refine Aq ?_
  refine Aj ?_
  refine Aq ?_
  refine Af ?_
  show DW _ _ _ _ _
  refine DW.done ?_
  obtain rfl := sj hm
  exact endK [roI s1.1] [] (.p (.tup []))
 ·intro h23 hm
  refine Sk ?_
  refine Sq (Sq ?_)
  refine Jn (ι := Bool) (fun (y3 : Bool) => Ai [(0,ow 0 s1.1.length),(2,pI p2),(3,pI p3),(8,pI s1.2),(9,pI (Tu s1)),(36,pB y3)] [(0,ob0 (roI s1.1))]) (fun y3 => (Es p3 s1 n1) y3 = some RES) ?_ ?_
  ·intro y3 hm
   unfold Es at hm
   refine Jn (ι := Int) (fun (y4 : Int) => Ai [(0,ow 0 s1.1.length),(2,pI p2),(3,pI p3),(8,pI s1.2),(9,pI y4)] [(0,ob0 (roI s1.1))]) (fun y4 => (Dd p3 s1 n1) y4 = some RES) ?_ ?_
   ·intro y4 hm
    unfold Dd at hm
    obtain ⟨g31,g32,g33,g34,hm⟩ := go4 hm
    obtain ⟨r35,hr35,hm⟩ := bo hm
    refine Sq (Sq (RD hnt (nn 12 (o31 [] true r35 :: .no :: [])) [] [(52,pB (!r35))] [] [] (an g31.1 (an g31.2 (an g32 (an g33.1 (an g33.2 (an g34 (an (Cg (s1.1.getD (Int.toNat (w64 (p3 + s1.2))) 0) (s1.1.getD (Int.toNat (w64 (p3 + y4))) 0) r35 hr35) tv))))))) ?_))
    refine Ak hm ?_ ?_
    ·intro h36 hm
     obtain rfl := sj hm
     exact DW.ret (Am [roI s1.1] [] (.p (.tup [])))
    ·intro h36 hm
     refine Sk ?_
     obtain ⟨g37,g38,g39,g40,hm⟩ := go4 hm
     obtain ⟨g41,g42,g43,g44,hm⟩ := go4 hm
     refine Sq (RN hnt (nn 24 []) [(0,ow 0 (c34e2 s1 p3 y4).length),(2,pI p2),(3,pI p3),(9,pI y4)] [(0,ob0 (roI (c34e2 s1 p3 y4)))] [(0,ow 0 s1.1.length)] [(0,.row 1 s1.1.length (c34e1 s1 p3 y4))] (an g37.1 (an g37.2 (an g38 (an g39.1 (an g39.2 (an g40 (an g41.1 (an g41.2 (an g42 (an g43.1 (an g43.2 (an g44 tv)))))))))))) (by kernel_rfl) (.cons rfl (MLe.ownLen (enc := Bm) (d := 0) (f := (c34e1 s1 p3 y4)) (RowIs.updR (RowIs.upd RowIs.elems (s1.1.getD (Int.toNat (w64 (p3 + y4))) 0) rfl) (by omega) (s1.1.getD (Int.toNat (w64 (p3 + s1.2))) 0) rfl)) .nil) (.cons rfl (BLe.typed (RowIs.updR (RowIs.upd RowIs.elems (s1.1.getD (Int.toNat (w64 (p3 + y4))) 0) rfl) (by omega) (s1.1.getD (Int.toNat (w64 (p3 + s1.2))) 0) rfl)) .nil) ?_)
     refine RD hnt (nn 2 []) [9] [(8,pI y4)] [] [] tv ?_
     refine DW.done ?_
     show DW _ _ _ _ _
     exact jD ((c34e2 s1 p3 y4),y4) hm Conv.eqK
   ·refine Ak hm ?_ ?_
    ·intro h30 hm
     refine RD hnt (nn 3 []) [36] [(9,pI (w64 ((Tu s1) + 1)))] [] [] tv ?_
     exact jD (w64 ((Tu s1) + 1)) hm Conv.eqK
    ·intro h30 hm
     refine Sk ?_
     exact jD (Tu s1) hm Conv.t0
  ·rcases bt (decide ((w64 ((Tu s1) + 1)) < p2)) with h24 | h24
   ·replace hm := Az h24 hm
    obtain ⟨g25,g26,g27,g28,hm⟩ := go4 hm
    obtain ⟨r29,hr29,hm⟩ := bo hm
    refine RD hnt (nn 18 (o31 [] true r29 :: pT :: [])) [16] [(36,pB r29)] [] [] (an5 h24 (an g25.1 (an g25.2 (an h24 (an g26 (an6 h24 (an g27.1 (an g27.2 (an h24 (an g28 (an h24 (an (Cg (s1.1.getD (Int.toNat (w64 (p3 + (Tu s1)))) 0) (s1.1.getD (Int.toNat (w64 ((w64 (p3 + (Tu s1))) + 1))) 0) r29 hr29) (an h24 tv))))))))))))) ?_
    exact jD r29 hm Conv.eqK
   ·replace hm := Ba h24 hm
    refine RD hnt (nn 5 (sk 14 (pF :: []))) [16] [(36,pB false)] [] [] (an3 h24 (an6 h24 (an6 h24 tv))) ?_
    exact jD false hm Conv.eqK
abbrev o34 (ks : List Nat) (b : Bool) (RES : List Int) : Orc := .call 125 ks b (.p (.tup [])) [roI RES] []

abbrev c33e1 (s3 : (List Int) × Int) (p1 : Int) := ((s3.1.set (Int.toNat p1) (s3.1.getD (Int.toNat (w64 (p1 + s3.2))) 0)).set (Int.toNat (w64 (p1 + s3.2))) (s3.1.getD (Int.toNat p1) 0))
abbrev c33e2 (s3 : (List Int) × Int) (p1 : Int) := (Bt (Bt (elI s3.1) (Int.toNat p1) [vi (s3.1.getD (Int.toNat (w64 (p1 + s3.2))) 0)]) (Int.toNat (w64 (p1 + s3.2))) (setRange ((Bt (elI s3.1) (Int.toNat p1) [vi (s3.1.getD (Int.toNat (w64 (p1 + s3.2))) 0)]) (Int.toNat (w64 (p1 + s3.2)))) 0 [vi (s3.1.getD (Int.toNat p1) 0)]))
theorem Qv (p0 : List Int) (p1 : Int) (p2 : Int) (RES : List Int) (hm : Fg p0 p1 p2 = some RES) : Spec Try.prog 97 [ow 0 p0.length,pI p1,pI p2] [roI p0] (.p (.tup [])) [roI RES] [] := by
 unfold Fg at hm
 refine SO Try.func97 rfl rfl [(0,ow 0 p0.length),(1,pI p1),(2,pI p2)] [(0,ob0 (roI p0))] ?_
 intro cx hnt
 refine Sq (RD hnt (nn 2 []) [] [(6,pI p1)] [] [] tv ?_)
 refine Sq (RD hnt (.no :: []) [] [(7,pI 0)] [] [] tv ?_)
 refine Sq (RD hnt (nn 4 []) [1,2] [(8,pI (w64 (p2 - p1)))] [] [] tv ?_)
 refine Sq (Sq (RD hnt (nn 4 []) [] [(9,pI (w64 (Int.tdiv (w64 ((w64 (p2 - p1)) - 1)) 2)))] [] [] (an (by decide : (2 : Int) ≠ 0) tv) ?_))
 refine Bk ?_
 refine DW.whileO (fun (s1 : (List Int) × Int) => Ai [(0,ow 0 s1.1.length),(6,pI p1),(7,pI 0),(8,pI (w64 (p2 - p1))),(9,pI s1.2)] [(0,ob0 (roI s1.1))]) hm Conv.eqK ?_
 intro s1 n1 hm
 unfold Ht at hm
 refine Sq (Sq (RD hnt (nn 2 []) [] [(19,pB (decide (s1.2 ≥ 0)))] [] [] tv ?_))
 refine Ak hm ?_ ?_
 ·intro h26 hm
  refine Sk ?_
  refine Sq (Bk ?_)
  obtain ⟨r27,hr27,hm⟩ := bo hm
  obtain ⟨g28,hm⟩ := go1 hm
  refine RN hnt (nn 4 (o34 [0] true r27 :: [])) [(0,ow 0 r27.length),(6,pI p1),(7,pI 0),(8,pI (w64 (p2 - p1))),(9,pI s1.2)] [(0,ob0 (roI r27))] [(0,ow 0 s1.1.length)] [] (an (Kk s1.1 s1.2 (w64 (p2 - p1)) p1 r27 hr27) (an (⟨rfl,g28⟩ : Body.same (roI s1.1) (roI r27)) tv)) (by kernel_rfl) (.cons rfl (MLe.of_eq (congrArg (MV.own 0 0 0) g28)) .nil) .nil ?_
  refine DW.done ?_
  show DW _ _ _ _ _
  refine RD hnt (nn 3 []) [] [(9,pI (w64 (s1.2 - 1)))] [] [] tv ?_
  exact jD (r27,(w64 (s1.2 - 1))) hm Conv.eqK
 ·intro h26 hm
  refine DW.exit ?_
  refine Aj ?_
  refine Aq ?_
  refine Af ?_
  show DW _ _ _ _ _
  refine Sq (RD hnt (nn 3 []) [8,9,19] [(10,pI (w64 ((w64 (p2 - p1)) - 1)))] [] [] tv ?_)
  refine Bk ?_
  refine DW.whileO (fun (s3 : (List Int) × Int) => Ai [(0,ow 0 s3.1.length),(6,pI p1),(7,pI 0),(10,pI s3.2)] [(0,ob0 (roI s3.1))]) hm Conv.eqK ?_
  intro s3 n3 hm
  unfold Hw at hm
  refine Sq (Sq (RD hnt (nn 2 []) [] [(30,pB (decide (s3.2 ≥ 0)))] [] [] tv ?_))
  refine Ak hm ?_ ?_
  ·intro h40 hm
   refine Sk ?_
   refine Sq (Bk ?_)
   obtain ⟨g41,g42,g43,g44,hm⟩ := go4 hm
   obtain ⟨g45,g46,g47,g48,hm⟩ := go4 hm
   refine Sq (RN hnt (nn 20 []) [(0,ow 0 (c33e1 s3 p1).length),(6,pI p1),(7,pI 0),(10,pI s3.2)] [(0,ob0 (roI (c33e1 s3 p1)))] [(0,ow 0 s3.1.length)] [(0,.row 1 s3.1.length (c33e2 s3 p1))] (an g41.1 (an g41.2 (an g42 (an g43.1 (an g43.2 (an g44 (an g45.1 (an g45.2 (an g46 (an g47.1 (an g47.2 (an g48 tv)))))))))))) (by kernel_rfl) (.cons rfl (MLe.ownLen (enc := Bm) (d := 0) (f := (c33e2 s3 p1)) (RowIs.updR (RowIs.upd RowIs.elems (s3.1.getD (Int.toNat (w64 (p1 + s3.2))) 0) rfl) (by omega) (s3.1.getD (Int.toNat p1) 0) rfl)) .nil) (.cons rfl (BLe.typed (RowIs.updR (RowIs.upd RowIs.elems (s3.1.getD (Int.toNat (w64 (p1 + s3.2))) 0) rfl) (by omega) (s3.1.getD (Int.toNat p1) 0) rfl)) .nil) ?_)
   obtain ⟨r49,hr49,hm⟩ := bo hm
   obtain ⟨g50,hm⟩ := go1 hm
   refine RN hnt (nn 4 (o34 [0] true r49 :: [])) [(0,ow 0 r49.length),(6,pI p1),(7,pI 0),(10,pI s3.2)] [(0,ob0 (roI r49))] [(0,ow 0 (c33e1 s3 p1).length)] [] (an (Kk (c33e1 s3 p1) 0 s3.2 p1 r49 hr49) (an (⟨rfl,g50⟩ : Body.same (roI (c33e1 s3 p1)) (roI r49)) tv)) (by kernel_rfl) (.cons rfl (MLe.of_eq (congrArg (MV.own 0 0 0) g50)) .nil) .nil ?_
   refine DW.done ?_
   show DW _ _ _ _ _
   refine RD hnt (nn 3 []) [] [(10,pI (w64 (s3.2 - 1)))] [] [] tv ?_
   exact jD (r49,(w64 (s3.2 - 1))) hm Conv.eqK
  ·intro h40 hm
   refine DW.exit ?_
   refine Aj ?_
   refine Aq ?_
   refine Af ?_
   show DW _ _ _ _ _
   refine DW.done ?_
   obtain rfl := sj hm
   exact endK [roI s3.1] [] (.p (.tup []))
abbrev o33 (ks : List Nat) (b : Bool) (RES : List Int) : Orc := .call 97 ks b (.p (.tup [])) [roI RES] []

theorem Hq (p0 : List Int) (p1 : Int) (p2 : Int) (p3 : Int) (RES : Int × Int × Int) (hm : Dk p0 p1 p2 p3 = some RES) : Spec Try.prog 141 [.p (slI p0),pI p1,pI p2,rr 0] [.box [pI p3]] (.p (.tup [vi RES.1,vi RES.2.1])) [.box [pI RES.2.2]] [] := by
 unfold Dk at hm
 refine SO Try.func141 rfl rfl [(0,.p (slI p0)),(1,pI p1),(2,pI p2),(3,rr 0)] [(0,bx [pI p3])] ?_
 intro cx hnt
 refine Sq (RD hnt (nn 2 []) [] [] [] [] tv ?_)
 obtain ⟨g1,g2,hm⟩ := go2 hm
 obtain ⟨r3,hr3,hm⟩ := bo hm
 refine Sq (Sq (RD hnt (nn 8 (o31 [] true r3 :: [])) [0] [(18,pB r3)] [] [] (an g1.1 (an g1.2 (an g2.1 (an g2.2 (an (Cg (p0.getD (Int.toNat p2) 0) (p0.getD (Int.toNat p1) 0) r3 hr3) tv))))) ?_))
 refine Ak hm ?_ ?_
 ·intro h4 hm
  refine Sq (RD hnt (nn 6 []) [3,18] [] [] [(0,bx [pI (w64 (p3 + 1))])] tv ?_)
  refine Sq (RD hnt (nn 4 []) [1,2] [(8,pI p2),(9,pI p1)] [] [] tv ?_)
  obtain rfl := sj hm
  exact DW.ret (Am [.box [pI (w64 (p3 + 1))]] [] (.p (.tup [vi p2,vi p1])))
 ·intro h4 hm
  refine Sk ?_
  refine Sq (RK hnt (nn 4 []) [(8,pI p1),(9,pI p2)] [(0,bx [pI p3])] tv ?_)
  obtain rfl := sj hm
  exact DW.ret (Am [.box [pI p3]] [] (.p (.tup [vi p1,vi p2])))
abbrev o38 (ks : List Nat) (b : Bool) (RES : Int × Int × Int) : Orc := .call 141 ks b (.p (.tup [vi RES.1,vi RES.2.1])) [.box [pI RES.2.2]] []

theorem Ks (p0 : List Int) (p1 : Int) (p2 : Int) (p3 : Int) (p4 : Int) (RES : Int × Int) (hm : Et p0 p1 p2 p3 p4 = some RES) : Spec Try.prog 129 [.p (slI p0),pI p1,pI p2,pI p3,rr 0] [.box [pI p4]] (pI RES.1) [.box [pI RES.2]] [] := by
 unfold Et at hm
 refine SO Try.func129 rfl rfl [(0,.p (slI p0)),(1,pI p1),(2,pI p2),(3,pI p3),(4,rr 0)] [(0,bx [pI p4])] ?_
 intro cx hnt
 refine Sq (RD hnt (.no :: []) [] [] [] [] tv ?_)
 obtain ⟨r1,hr1,hm⟩ := bo hm
 refine Sq (RD hnt (nn 4 (o38 [0] true r1 :: nn 5 [])) [] [(1,pI r1.1),(2,pI r1.2.1)] [] [(0,bx [pI r1.2.2])] (an (Hq p0 p1 p2 p4 r1 hr1) (an tv tv)) ?_)
 obtain ⟨r2,hr2,hm⟩ := bo hm
 refine Sq (RD hnt (nn 4 (o38 [0] true r2 :: nn 5 [])) [3] [(2,pI r2.1)] [] [(0,bx [pI r2.2.2])] (an (Hq p0 r1.2.1 p3 r1.2.2 r2 hr2) (an tv tv)) ?_)
 obtain ⟨r3,hr3,hm⟩ := bo hm
 refine Sq (RK hnt (nn 4 (o38 [0] true r3 :: nn 5 [])) [(2,pI r3.2.1)] [(0,bx [pI r3.2.2])] (an (Hq p0 r1.1 r2.1 r2.2.2 r3 hr3) (an tv tv)) ?_)
 refine Sq (RD hnt (nn 2 []) [2] [(10,pI r3.2.1)] [] [] tv ?_)
 obtain rfl := sj hm
 exact DW.ret (Am [.box [pI r3.2.2]] [] (pI r3.2.1))
abbrev o37 (ks : List Nat) (b : Bool) (RES : Int × Int) : Orc := .call 129 ks b (pI RES.1) [.box [pI RES.2]] []

theorem Fv (p0 : List Int) (p1 : Int) (p2 : Int) (RES : Int × Int) (hm : Ca p0 p1 p2 = some RES) : Spec Try.prog 128 [.p (slI p0),pI p1,rr 0] [.box [pI p2]] (pI RES.1) [.box [pI RES.2]] [] := by
 unfold Ca at hm
 refine SO Try.func128 rfl rfl [(0,.p (slI p0)),(1,pI p1),(2,rr 0)] [(0,bx [pI p2])] ?_
 intro cx hnt
 refine Sq (RD hnt (.no :: []) [] [] [] [] tv ?_)
 obtain ⟨r1,hr1,hm⟩ := bo hm
 refine Sq (RK hnt (nn 7 (o37 [0] true r1 :: .no :: [])) [(6,pI r1.1)] [(0,bx [pI r1.2])] (an (Ks p0 (w64 (p1 - 1)) p1 (w64 (p1 + 1)) p2 r1 hr1) (an tv tv)) ?_)
 obtain rfl := sj hm
 exact DW.ret (Am [.box [pI r1.2]] [] (pI r1.1))
abbrev o36 (ks : List Nat) (b : Bool) (RES : Int × Int) : Orc := .call 128 ks b (pI RES.1) [.box [pI RES.2]] []

abbrev Vv (p2 : Int) (p1 : Int) := (w64 (Int.tdiv (w64 (p2 - p1)) 4))
abbrev c35e2 (p1 : Int) (p2 : Int) := (w64 (p1 + (w64 ((Vv p2 p1) * 2))))
theorem Oy (p0 : List Int) (p1 : Int) (p2 : Int) (RES : Int × Int) (hm : Eg p0 p1 p2 = some RES) : Spec Try.prog 99 [.p (slI p0),pI p1,pI p2] [] (.p (.tup [vi RES.1,vi RES.2])) [] [] := by
 unfold Eg at hm
 refine SO Try.func99 rfl rfl [(0,.p (slI p0)),(1,pI p1),(2,pI p2)] [] ?_
 intro cx hnt
 refine Sq (RD hnt (nn 2 []) [] [] [] [] tv ?_)
 refine Sq (RD hnt (nn 4 []) [2] [(8,pI (w64 (p2 - p1)))] [] [] tv ?_)
 refine Sq (RD hnt (.no :: []) [] [(9,rr 1072)] [] [(1072,bx [pI 0])] tv ?_)
 refine Sq (RD hnt (nn 6 []) [] [(10,pI (w64 (p1 + (w64 ((Vv p2 p1) * 1)))))] [] [] (an (by decide : (4 : Int) ≠ 0) tv) ?_)
 refine Sq (RD hnt (nn 6 []) [] [(11,pI (c35e2 p1 p2))] [] [] (an (by decide : (4 : Int) ≠ 0) tv) ?_)
 refine Sq (RD hnt (nn 6 []) [1] [(12,pI (w64 (p1 + (w64 ((Vv p2 p1) * 3)))))] [] [] (an (by decide : (4 : Int) ≠ 0) tv) ?_)
 refine Sq (Sq (RD hnt (nn 2 []) [] [(32,pB (decide ((w64 (p2 - p1)) ≥ 8)))] [] [] tv ?_))
 refine Jn (ι := Int × Int) (fun (y1 : Int × Int) => Ai [(9,rr 1072),(11,pI y1.2)] [(1072,bx [pI y1.1])]) (fun y1 => Cu y1 = some RES) ?_ ?_
 ·intro y1 hm
  unfold Cu at hm
  refine Sq (RK hnt (.no :: []) [(11,pI y1.2),(49,pI y1.1)] [] tv ?_)
  refine Bk ?_
  refine Sq (RD hnt (nn 2 []) [] [(51,pB (y1.1 == 0))] [] [] tv ?_)
  refine Ak hm ?_ ?_
  ·intro h7 hm
   refine Sq (RK hnt (nn 3 []) [(6,pI y1.2),(7,pI 1)] [] tv ?_)
   obtain rfl := sj hm
   exact DW.ret (Am [] [] (.p (.tup [vi y1.2,vi 1])))
  ·intro h7 hm
   refine Sq (RK hnt (nn 2 []) [(11,pI y1.2),(54,pB (y1.1 == 12))] [] tv ?_)
   refine Ak hm ?_ ?_
   ·intro h8 hm
    refine Sq (RK hnt (nn 3 []) [(6,pI y1.2),(7,pI 2)] [] tv ?_)
    obtain rfl := sj hm
    exact DW.ret (Am [] [] (.p (.tup [vi y1.2,vi 2])))
   ·intro h8 hm
    refine Sq (RK hnt (nn 3 []) [(6,pI y1.2),(7,pI 0)] [] tv ?_)
    obtain rfl := sj hm
    exact DW.ret (Am [] [] (.p (.tup [vi y1.2,vi 0])))
 ·refine Ak hm ?_ ?_
  ·intro h1 hm
   refine Sq (Sq (RD hnt (nn 2 []) [8,32] [(34,pB (decide ((w64 (p2 - p1)) ≥ 50)))] [] [] tv ?_))
   refine Jn (ι := Int × Int × Int × Int) (fun (y2 : Int × Int × Int × Int) => Ai [(0,.p (slI p0)),(9,rr 1072),(10,pI y2.2.1),(11,pI y2.2.2.1),(12,pI y2.2.2.2)] [(1072,bx [pI y2.1])]) (fun y2 => (Ct p0) y2 = some RES) ?_ ?_
   ·intro y2 hm
    unfold Ct at hm
    obtain ⟨r6,hr6,hm⟩ := bo hm
    refine RK hnt (nn 4 (o37 [1072] true r6 :: .no :: [])) [(9,rr 1072),(11,pI r6.1)] [(1072,bx [pI r6.2])] (an (Ks p0 y2.2.1 y2.2.2.1 y2.2.2.2 y2.1 r6 hr6) (an tv tv)) ?_
    exact jD (r6.2,r6.1) hm .refl
   ·refine Ak hm ?_ ?_
    ·intro h2 hm
     obtain ⟨r3,hr3,hm⟩ := bo hm
     refine Sq (RK hnt (nn 2 (o36 [1072] true r3 :: .no :: [])) [(0,.p (slI p0)),(9,rr 1072),(10,pI r3.1),(11,pI (c35e2 p1 p2)),(12,pI (w64 (p1 + (w64 ((Vv p2 p1) * 3)))))] [(1072,bx [pI r3.2])] (an (Fv p0 (w64 (p1 + (w64 ((Vv p2 p1) * 1)))) 0 r3 hr3) (an tv tv)) ?_)
     obtain ⟨r4,hr4,hm⟩ := bo hm
     refine Sq (RD hnt (nn 2 (o36 [1072] true r4 :: .no :: [])) [] [(11,pI r4.1)] [] [(1072,bx [pI r4.2])] (an (Fv p0 (c35e2 p1 p2) r3.2 r4 hr4) (an tv tv)) ?_)
     obtain ⟨r5,hr5,hm⟩ := bo hm
     refine RD hnt (nn 2 (o36 [1072] true r5 :: .no :: [])) [] [(12,pI r5.1)] [] [(1072,bx [pI r5.2])] (an (Fv p0 (w64 (p1 + (w64 ((Vv p2 p1) * 3)))) r4.2 r5 hr5) (an tv tv)) ?_
     exact jD (r5.2,r3.1,r4.1,r5.1) hm Conv.eqK
    ·intro h2 hm
     refine Sk ?_
     exact jD (0,(w64 (p1 + (w64 ((Vv p2 p1) * 1)))),(c35e2 p1 p2),(w64 (p1 + (w64 ((Vv p2 p1) * 3))))) hm Conv.t0
  ·intro h1 hm
   refine Sk ?_
   exact jD (0,(c35e2 p1 p2)) hm Conv.t0
abbrev o35 (ks : List Nat) (b : Bool) (RES : Int × Int) : Orc := .call 99 ks b (.p (.tup [vi RES.1,vi RES.2])) [] []
end Go.Dm


/- Go functions compute their models, printed by a program. -/
namespace Go.Dm
open Go.Proofs
set_option linter.unusedVariables false
abbrev c39e1 (s1 : (List Int) × Int × Int) := (Bt (Bt (elI s1.1) (Int.toNat s1.2.1) [vi (s1.1.getD (Int.toNat s1.2.2) 0)]) (Int.toNat s1.2.2) (setRange ((Bt (elI s1.1) (Int.toNat s1.2.1) [vi (s1.1.getD (Int.toNat s1.2.2) 0)]) (Int.toNat s1.2.2)) 0 [vi (s1.1.getD (Int.toNat s1.2.1) 0)]))
abbrev c39e2 (s1 : (List Int) × Int × Int) := ((s1.1.set (Int.toNat s1.2.1) (s1.1.getD (Int.toNat s1.2.2) 0)).set (Int.toNat s1.2.2) (s1.1.getD (Int.toNat s1.2.1) 0))
theorem Ot (p0 : List Int) (p1 : Int) (p2 : Int) (RES : List Int) (hm : Dy p0 p1 p2 = some RES) : Spec Try.prog 100 [ow 0 p0.length,pI p1,pI p2] [roI p0] (.p (.tup [])) [roI RES] [] := by
 unfold Dy at hm
 refine SO Try.func100 rfl rfl [(0,ow 0 p0.length),(1,pI p1),(2,pI p2)] [(0,ob0 (roI p0))] ?_
 intro cx hnt
 refine Sq (RD hnt (nn 2 []) [1] [(6,pI p1)] [] [] tv ?_)
 refine Sq (RD hnt (nn 3 []) [2] [(7,pI (w64 (p2 - 1)))] [] [] tv ?_)
 refine Bk ?_
 refine DW.whileO (fun (s1 : (List Int) × Int × Int) => Ai [(0,ow 0 s1.1.length),(6,pI s1.2.1),(7,pI s1.2.2)] [(0,ob0 (roI s1.1))]) hm Conv.eqK ?_
 intro s1 n1 hm
 unfold Gn at hm
 refine Sq (Sq (RD hnt (nn 3 []) [] [(13,pB (decide (s1.2.1 < s1.2.2)))] [] [] tv ?_))
 refine Ak hm ?_ ?_
 ·intro h10 hm
  refine Sk ?_
  refine Bk ?_
  obtain ⟨g11,g12,g13,g14,hm⟩ := go4 hm
  obtain ⟨g15,g16,g17,g18,hm⟩ := go4 hm
  refine Sq (RN hnt (nn 16 []) [(0,ow 0 (c39e2 s1).length),(6,pI s1.2.1),(7,pI s1.2.2)] [(0,ob0 (roI (c39e2 s1)))] [(0,ow 0 s1.1.length)] [(0,.row 1 s1.1.length (c39e1 s1))] (an g11.1 (an g11.2 (an g12 (an g13.1 (an g13.2 (an g14 (an g15.1 (an g15.2 (an g16 (an g17.1 (an g17.2 (an g18 tv)))))))))))) (by kernel_rfl) (.cons rfl (MLe.ownLen (enc := Bm) (d := 0) (f := (c39e1 s1)) (RowIs.updR (RowIs.upd RowIs.elems (s1.1.getD (Int.toNat s1.2.2) 0) rfl) (by omega) (s1.1.getD (Int.toNat s1.2.1) 0) rfl)) .nil) (.cons rfl (BLe.typed (RowIs.updR (RowIs.upd RowIs.elems (s1.1.getD (Int.toNat s1.2.2) 0) rfl) (by omega) (s1.1.getD (Int.toNat s1.2.1) 0) rfl)) .nil) ?_)
  refine Sq (RD hnt (nn 3 []) [] [(6,pI (w64 (s1.2.1 + 1)))] [] [] tv ?_)
  refine RD hnt (nn 3 []) [] [(7,pI (w64 (s1.2.2 - 1)))] [] [] tv ?_
  refine DW.done ?_
  show DW _ _ _ _ _
  exact jD ((c39e2 s1),(w64 (s1.2.1 + 1)),(w64 (s1.2.2 - 1))) hm Conv.eqK
 ·intro h10 hm
  refine DW.exit ?_
  refine Aj ?_
  refine Aq ?_
  refine Af ?_
  show DW _ _ _ _ _
  refine DW.done ?_
  obtain rfl := sj hm
  exact endK [roI s1.1] [] (.p (.tup []))
abbrev o39 (ks : List Nat) (b : Bool) (RES : List Int) : Orc := .call 100 ks b (.p (.tup [])) [roI RES] []

abbrev Aaw (s15 : (List Int) × Int) := (s15.1.getD (Int.toNat (w64 (s15.2 - 1))) 0)
abbrev c40e2 (s1 : (List Int) × Int) (s12 : Int) := (Bt (Bt (elI s1.1) (Int.toNat s12) [vi (s1.1.getD (Int.toNat (w64 (s12 - 1))) 0)]) (Int.toNat (w64 (s12 - 1))) (setRange ((Bt (elI s1.1) (Int.toNat s12) [vi (s1.1.getD (Int.toNat (w64 (s12 - 1))) 0)]) (Int.toNat (w64 (s12 - 1)))) 0 [vi (s1.1.getD (Int.toNat s12) 0)]))
abbrev c40e3 (s16 : List Int) (k16 : Int) := (Bt (Bt (elI s16) (Int.toNat k16) [vi (s16.getD (Int.toNat (w64 (k16 - 1))) 0)]) (Int.toNat (w64 (k16 - 1))) (setRange ((Bt (elI s16) (Int.toNat k16) [vi (s16.getD (Int.toNat (w64 (k16 - 1))) 0)]) (Int.toNat (w64 (k16 - 1)))) 0 [vi (s16.getD (Int.toNat k16) 0)]))
abbrev c40e4 (s1 : (List Int) × Int) (s12 : Int) := ((s1.1.set (Int.toNat s12) (s1.1.getD (Int.toNat (w64 (s12 - 1))) 0)).set (Int.toNat (w64 (s12 - 1))) (s1.1.getD (Int.toNat s12) 0))
abbrev c40e5 (s16 : List Int) (k16 : Int) := ((s16.set (Int.toNat k16) (s16.getD (Int.toNat (w64 (k16 - 1))) 0)).set (Int.toNat (w64 (k16 - 1))) (s16.getD (Int.toNat k16) 0))
abbrev c40e6 (s15 : (List Int) × Int) := (Bt (Bt (elI s15.1) (Int.toNat s15.2) [vi (Aaw s15)]) (Int.toNat (w64 (s15.2 - 1))) (setRange ((Bt (elI s15.1) (Int.toNat s15.2) [vi (Aaw s15)]) (Int.toNat (w64 (s15.2 - 1)))) 0 [vi (s15.1.getD (Int.toNat s15.2) 0)]))
abbrev c40e7 (s15 : (List Int) × Int) := ((s15.1.set (Int.toNat s15.2) (Aaw s15)).set (Int.toNat (w64 (s15.2 - 1))) (s15.1.getD (Int.toNat s15.2) 0))
theorem Kw (p0 : List Int) (p1 : Int) (p2 : Int) (RES : Bool × (List Int)) (hm : Cm p0 p1 p2 = some RES) : Spec Try.prog 101 [ow 0 p0.length,pI p1,pI p2] [roI p0] (pB RES.1) [roI RES.2] [] := by
 unfold Cm at hm
 refine SO Try.func101 rfl rfl [(0,ow 0 p0.length),(1,pI p1),(2,pI p2)] [(0,ob0 (roI p0))] ?_
 intro cx hnt
 refine Sq (RD hnt (.no :: []) [] [] [] [] tv ?_)
 refine Sq (RD hnt (nn 3 []) [] [(7,pI (w64 (p1 + 1)))] [] [] tv ?_)
 refine Sq (Sq (RD hnt (.no :: []) [] [(8,pI 0)] [] [] tv ?_))
 refine Bk ?_
 refine DW.forO (fun (k1 : Int) (s1 : (List Int) × Int) => Ai [(0,ow 0 s1.1.length),(1,pI p1),(2,pI p2),(7,pI s1.2),(8,pI k1)] [(0,ob0 (roI s1.1))]) (lo := 0) (hi := 5) hm Conv.eqK ?_
 intro k1 s1 n1 hk1 hs1 he1
 refine Sq (Sq (RD hnt (nn 2 []) [] [(14,pB (decide (k1 < 5)))] [] [] tv ?_))
 refine Ch (decide (k1 < 5)) ?_ ?_
 ·intro h391
  have hlt1 : k1 < 5 := by have := of_decide_eq_true h391; omega
  have hm := hs1 hlt1
  unfold Fd at hm
  refine Sk ?_
  refine Sq ?_
  refine Jn (ι := (List Int) × Int) (fun (y11 : (List Int) × Int) => Ai [(0,ow 0 y11.1.length),(1,pI p1),(2,pI p2),(7,pI y11.2),(8,pI k1)] [(0,ob0 (roI y11.1))]) (fun y11 => (Bh n1) y11 = some RES) ?_ ?_
  ·intro y11 hm
   unfold Bh at hm
   refine RD hnt (nn 3 []) [] [(8,pI (w64 (k1 + 1)))] [] [] tv ?_
   exact jD (y11.1,y11.2) ⟨hlt1,hm⟩ (Conv.tp [(8,pI (w64 (k1 + 1)))] [] (by kernel_rfl) (.cons rfl (.of_eq (congrArg pI (Uk (lo := 0) (hi := 5) (by omega) hk1 hlt1 (by omega)))) .nil) .nil)
  ·refine Bk ?_
   refine Sq (Bk ?_)
   refine DW.whileO (fun (s12 : Int) => Ai [(0,ow 0 s1.1.length),(1,pI p1),(2,pI p2),(7,pI s12),(8,pI k1)] [(0,ob0 (roI s1.1))]) hm Conv.t0 ?_
   intro s12 n12 hm
   unfold Ez at hm
   refine Sq (Sq ?_)
   refine Jn (ι := Bool) (fun (y14 : Bool) => Ai [(0,ow 0 s1.1.length),(1,pI p1),(2,pI p2),(7,pI s12),(8,pI k1),(32,pB y14)] [(0,ob0 (roI s1.1))]) (fun y14 => (Bi p1 p2 s1 n1 s12 n12) y14 = some RES) ?_ ?_
   ·intro y14 hm
    unfold Bi at hm
    refine Ak hm ?_ ?_
    ·intro h492 hm
     refine Sk ?_
     refine Bk ?_
     refine RD hnt (nn 3 []) [32] [(7,pI (w64 (s12 + 1)))] [] [] tv ?_
     refine DW.done ?_
     show DW _ _ _ _ _
     exact jD (w64 (s12 + 1)) hm Conv.eqK
    ·intro h492 hm
     refine DW.exit ?_
     refine Aj ?_
     refine Aq ?_
     refine Af ?_
     show DW _ _ _ _ _
     refine Sq (Sq (RD hnt (nn 3 []) [32] [(37,pB (s12 == p2))] [] [] tv ?_))
     refine Ak hm ?_ ?_
     ·intro h493 hm
      refine Sq (RK hnt (.no :: []) [(6,pB true)] [(0,ob0 (roI s1.1))] tv ?_)
      obtain rfl := sj hm
      exact DW.ret (Am [roI s1.1] [] (pB true))
     ·intro h493 hm
      refine Sk ?_
      refine Sq (Sq (RD hnt (nn 4 []) [37] [(41,pB (decide ((w64 (p2 - p1)) < 50)))] [] [] tv ?_))
      refine Ak hm ?_ ?_
      ·intro h494 hm
       refine Sq (RK hnt (.no :: []) [(6,pB false)] [(0,ob0 (roI s1.1))] tv ?_)
       obtain rfl := sj hm
       exact DW.ret (Am [roI s1.1] [] (pB false))
      ·intro h494 hm
       refine Sk ?_
       obtain ⟨g495,g496,g497,g498,hm⟩ := go4 hm
       obtain ⟨g499,g500,g501,g502,hm⟩ := go4 hm
       refine Sq (RN hnt (nn 18 []) [(0,ow 0 (c40e4 s1 s12).length),(1,pI p1),(2,pI p2),(7,pI s12),(8,pI k1)] [(0,ob0 (roI (c40e4 s1 s12)))] [(0,ow 0 s1.1.length)] [(0,.row 1 s1.1.length (c40e2 s1 s12))] (an g495.1 (an g495.2 (an g496 (an g497.1 (an g497.2 (an g498 (an g499.1 (an g499.2 (an g500 (an g501.1 (an g501.2 (an g502 tv)))))))))))) (by kernel_rfl) (.cons rfl (MLe.ownLen (enc := Bm) (d := 0) (f := (c40e2 s1 s12)) (RowIs.updR (RowIs.upd RowIs.elems (s1.1.getD (Int.toNat (w64 (s12 - 1))) 0) rfl) (by omega) (s1.1.getD (Int.toNat s12) 0) rfl)) .nil) (.cons rfl (BLe.typed (RowIs.updR (RowIs.upd RowIs.elems (s1.1.getD (Int.toNat (w64 (s12 - 1))) 0) rfl) (by omega) (s1.1.getD (Int.toNat s12) 0) rfl)) .nil) ?_)
       refine Sq (Sq (RD hnt (nn 4 []) [] [(61,pB (decide ((w64 (s12 - p1)) ≥ 2)))] [] [] tv ?_))
       refine Jn (ι := List Int) (fun (y15 : List Int) => Ai [(0,ow 0 y15.length),(1,pI p1),(2,pI p2),(7,pI s12),(8,pI k1)] [(0,ob0 (roI y15))]) (fun y15 => (Bc p2 n1 s12) y15 = some RES) ?_ ?_
       ·intro y15 hm
        unfold Bc at hm
        refine Sq (RD hnt (nn 4 []) [] [(98,pB (decide ((w64 (p2 - s12)) ≥ 2)))] [] [] tv ?_)
        refine Ak hm ?_ ?_
        ·intro h534 hm
         refine Sq (RD hnt (nn 3 []) [98] [(10,pI (w64 (s12 + 1)))] [] [] tv ?_)
         refine Bk ?_
         obtain ⟨hc16,hm⟩ := go1 hm
         refine DW.forO (fun (k16 : Int) (s16 : List Int) => Ai [(0,ow 0 s16.length),(1,pI p1),(2,pI p2),(7,pI s12),(8,pI k1),(10,pI k16)] [(0,ob0 (roI s16))]) (lo := (w64 (s12 + 1))) (hi := p2) hm Conv.eqK ?_
         intro k16 s16 n16 hk16 hs16 he16
         refine Sq (Sq (RD hnt (nn 3 []) [] [(103,pB (decide (k16 < p2)))] [] [] tv ?_))
         refine Ch (decide (k16 < p2)) ?_ ?_
         ·intro h565
          have hlt16 : k16 < p2 := by have := of_decide_eq_true h565; omega
          have hm := hs16 hlt16
          unfold Ey at hm
          refine Sk ?_
          refine Sq (Bk ?_)
          obtain ⟨g566,g567,g568,g569,hm⟩ := go4 hm
          obtain ⟨r570,hr570,hm⟩ := bo hm
          refine Sq (Sq (RD hnt (nn 9 (o31 [] true r570 :: .no :: [])) [103] [(116,pB (!r570))] [] [] (an g566.1 (an g566.2 (an g567 (an g568.1 (an g568.2 (an g569 (an (Cg (s16.getD (Int.toNat k16) 0) (s16.getD (Int.toNat (w64 (k16 - 1))) 0) r570 hr570) tv))))))) ?_))
          refine Ak hm ?_ ?_
          ·intro h571 hm
           refine DW.exit ?_
           refine Lf (by decide) ?_
           refine Aq ?_
           refine Aj ?_
           refine Aq ?_
           refine Af ?_
           show DW _ _ _ _ _
           exact bD (s16,s12) hm Conv.t0
          ·intro h571 hm
           refine Sk ?_
           obtain ⟨g572,g573,g574,g575,hm⟩ := go4 hm
           obtain ⟨g576,g577,g578,g579,hm⟩ := go4 hm
           refine RN hnt (nn 18 []) [(0,ow 0 (c40e5 s16 k16).length),(1,pI p1),(2,pI p2),(7,pI s12),(8,pI k1),(10,pI k16)] [(0,ob0 (roI (c40e5 s16 k16)))] [(0,ow 0 s16.length)] [(0,.row 1 s16.length (c40e3 s16 k16))] (an g572.1 (an g572.2 (an g573 (an g574.1 (an g574.2 (an g575 (an g576.1 (an g576.2 (an g577 (an g578.1 (an g578.2 (an g579 tv)))))))))))) (by kernel_rfl) (.cons rfl (MLe.ownLen (enc := Bm) (d := 0) (f := (c40e3 s16 k16)) (RowIs.updR (RowIs.upd RowIs.elems (s16.getD (Int.toNat (w64 (k16 - 1))) 0) rfl) (by omega) (s16.getD (Int.toNat k16) 0) rfl)) .nil) (.cons rfl (BLe.typed (RowIs.updR (RowIs.upd RowIs.elems (s16.getD (Int.toNat (w64 (k16 - 1))) 0) rfl) (by omega) (s16.getD (Int.toNat k16) 0) rfl)) .nil) ?_
           refine DW.done ?_
           show DW _ _ _ _ _
           refine RD hnt (nn 3 []) [] [(10,pI (w64 (k16 + 1)))] [] [] tv ?_
           exact jD (c40e5 s16 k16) ⟨hlt16,hm⟩ (Conv.tp [(10,pI (w64 (k16 + 1)))] [] (by kernel_rfl) (.cons rfl (.of_eq (congrArg pI (Uk (lo := (w64 (s12 + 1))) (hi := p2) (by omega) hk16 hlt16 (by omega)))) .nil) .nil)
         ·intro h565
          have hge16 : ¬ k16 < p2 := by have := of_decide_eq_false h565; omega
          have hm := he16 hge16
          unfold Gu at hm
          refine DW.exit ?_
          refine Aj ?_
          refine Aq ?_
          refine Af ?_
          show DW _ _ _ _ _
          exact bD (s16,s12) hm Conv.t0
        ·intro h534 hm
         refine Sk ?_
         exact bD (y15,s12) hm Conv.t0
       ·refine Ak hm ?_ ?_
        ·intro h503 hm
         refine Sq (RD hnt (nn 3 []) [61] [(9,pI (w64 (s12 - 1)))] [] [] tv ?_)
         refine Bk ?_
         refine DW.whileO (fun (s15 : (List Int) × Int) => Ai [(0,ow 0 s15.1.length),(1,pI p1),(2,pI p2),(7,pI s12),(8,pI k1),(9,pI s15.2)] [(0,ob0 (roI s15.1))]) hm Conv.eqK ?_
         intro s15 n15 hm
         unfold Ex at hm
         refine Sq (Sq (RD hnt (nn 2 []) [] [(65,pB (decide (s15.2 ≥ 1)))] [] [] tv ?_))
         refine Ak hm ?_ ?_
         ·intro h519 hm
          refine Sk ?_
          refine Sq (Bk ?_)
          obtain ⟨g520,g521,g522,g523,hm⟩ := go4 hm
          obtain ⟨r524,hr524,hm⟩ := bo hm
          refine Sq (Sq (RD hnt (nn 9 (o31 [] true r524 :: .no :: [])) [65] [(78,pB (!r524))] [] [] (an g520.1 (an g520.2 (an g521 (an g522.1 (an g522.2 (an g523 (an (Cg (s15.1.getD (Int.toNat s15.2) 0) (Aaw s15) r524 hr524) tv))))))) ?_))
          refine Ak hm ?_ ?_
          ·intro h525 hm
           refine DW.exit ?_
           refine Lf (by decide) ?_
           refine Aq ?_
           refine Aj ?_
           refine Aq ?_
           refine Af ?_
           show DW _ _ _ _ _
           exact jD s15.1 hm Conv.t0
          ·intro h525 hm
           refine Sk ?_
           obtain ⟨g526,g527,g528,g529,hm⟩ := go4 hm
           obtain ⟨g530,g531,g532,g533,hm⟩ := go4 hm
           refine RN hnt (nn 18 []) [(0,ow 0 (c40e7 s15).length),(1,pI p1),(2,pI p2),(7,pI s12),(8,pI k1),(9,pI s15.2)] [(0,ob0 (roI (c40e7 s15)))] [(0,ow 0 s15.1.length)] [(0,.row 1 s15.1.length (c40e6 s15))] (an g526.1 (an g526.2 (an g527 (an g528.1 (an g528.2 (an g529 (an g530.1 (an g530.2 (an g531 (an g532.1 (an g532.2 (an g533 tv)))))))))))) (by kernel_rfl) (.cons rfl (MLe.ownLen (enc := Bm) (d := 0) (f := (c40e6 s15)) (RowIs.updR (RowIs.upd RowIs.elems (Aaw s15) rfl) (by omega) (s15.1.getD (Int.toNat s15.2) 0) rfl)) .nil) (.cons rfl (BLe.typed (RowIs.updR (RowIs.upd RowIs.elems (Aaw s15) rfl) (by omega) (s15.1.getD (Int.toNat s15.2) 0) rfl)) .nil) ?_
           refine DW.done ?_
           show DW _ _ _ _ _
           refine RD hnt (nn 3 []) [] [(9,pI (w64 (s15.2 - 1)))] [] [] tv ?_
           exact jD ((c40e7 s15),(w64 (s15.2 - 1))) hm Conv.eqK
         ·intro h519 hm
          refine DW.exit ?_
          refine Aj ?_
          refine Aq ?_
          refine Af ?_
          show DW _ _ _ _ _
          exact jD s15.1 hm Conv.t0
        ·intro h503 hm
         refine Sk ?_
         exact jD (c40e4 s1 s12) hm Conv.t0
   ·rcases bt (decide (s12 < p2)) with h486 | h486
    ·replace hm := Az h486 hm
     obtain ⟨g487,g488,g489,g490,hm⟩ := go4 hm
     obtain ⟨r491,hr491,hm⟩ := bo hm
     refine RD hnt (nn 13 (o31 [] true r491 :: .no :: pT :: [])) [] [(32,pB (!r491))] [] [] (an3 h486 (an g487.1 (an g487.2 (an h486 (an g488 (an4 h486 (an g489.1 (an g489.2 (an h486 (an g490 (an h486 (an (Cg (s1.1.getD (Int.toNat s12) 0) (s1.1.getD (Int.toNat (w64 (s12 - 1))) 0) r491 hr491) (an2 h486 tv))))))))))))) ?_
     exact jD (!r491) hm Conv.eqK
    ·replace hm := Ba h486 hm
     refine RD hnt (nn 4 (sk 11 (pF :: []))) [] [(32,pB false)] [] [] (an6 h486 (an6 h486 tv)) ?_
     exact jD false hm Conv.eqK
 ·intro h391
  have hge1 : ¬ k1 < 5 := by have := of_decide_eq_false h391; omega
  have hm := he1 hge1
  unfold Hc at hm
  refine DW.exit ?_
  refine Aj ?_
  refine Aq ?_
  refine Af ?_
  show DW _ _ _ _ _
  refine Sq (RK hnt (.no :: []) [(6,pB false)] [(0,ob0 (roI s1.1))] tv ?_)
  obtain rfl := sj hm
  exact DW.ret (Am [roI s1.1] [] (pB false))
abbrev o40 (ks : List Nat) (b : Bool) (RES : Bool × (List Int)) : Orc := .call 101 ks b (pB RES.1) [roI RES.2] []

abbrev c41e1 (p0 : List Int) (p1 : Int) (p3 : Int) := (Bt (Bt (elI p0) (Int.toNat p1) [vi (p0.getD (Int.toNat p3) 0)]) (Int.toNat p3) (setRange ((Bt (elI p0) (Int.toNat p1) [vi (p0.getD (Int.toNat p3) 0)]) (Int.toNat p3)) 0 [vi (p0.getD (Int.toNat p1) 0)]))
abbrev c41e2 (s1 : (List Int) × Int × Int) (s5 : Int) (s7 : Int) := (Bt (Bt (elI s1.1) (Int.toNat s5) [vi (s1.1.getD (Int.toNat s7) 0)]) (Int.toNat s7) (setRange ((Bt (elI s1.1) (Int.toNat s5) [vi (s1.1.getD (Int.toNat s7) 0)]) (Int.toNat s7)) 0 [vi (s1.1.getD (Int.toNat s5) 0)]))
abbrev c41e3 (s1 : (List Int) × Int × Int) (s5 : Int) (s7 : Int) := ((s1.1.set (Int.toNat s5) (s1.1.getD (Int.toNat s7) 0)).set (Int.toNat s7) (s1.1.getD (Int.toNat s5) 0))
theorem Nj (p0 : List Int) (p1 : Int) (p2 : Int) (p3 : Int) (RES : Int × (List Int)) (hm : Dj p0 p1 p2 p3 = some RES) : Spec Try.prog 103 [ow 0 p0.length,pI p1,pI p2,pI p3] [roI p0] (pI RES.1) [roI RES.2] [] := by
 unfold Dj at hm
 refine SO Try.func103 rfl rfl [(0,ow 0 p0.length),(1,pI p1),(2,pI p2),(3,pI p3)] [(0,ob0 (roI p0))] ?_
 intro cx hnt
 refine Sq (RD hnt (.no :: []) [] [] [] [] tv ?_)
 obtain ⟨g1,g2,g3,g4,hm⟩ := go4 hm
 obtain ⟨g5,g6,g7,g8,hm⟩ := go4 hm
 refine Sq (RN hnt (nn 16 []) [(0,ow 0 ((p0.set (Int.toNat p1) (p0.getD (Int.toNat p3) 0)).set (Int.toNat p3) (p0.getD (Int.toNat p1) 0)).length),(1,pI p1),(2,pI p2)] [(0,ob0 (roI ((p0.set (Int.toNat p1) (p0.getD (Int.toNat p3) 0)).set (Int.toNat p3) (p0.getD (Int.toNat p1) 0))))] [(0,ow 0 p0.length)] [(0,.row 1 p0.length (c41e1 p0 p1 p3))] (an g1.1 (an g1.2 (an g2 (an g3.1 (an g3.2 (an g4 (an g5.1 (an g5.2 (an g6 (an g7.1 (an g7.2 (an g8 tv)))))))))))) (by kernel_rfl) (.cons rfl (MLe.ownLen (enc := Bm) (d := 0) (f := (c41e1 p0 p1 p3)) (RowIs.updR (RowIs.upd RowIs.elems (p0.getD (Int.toNat p3) 0) rfl) (by omega) (p0.getD (Int.toNat p1) 0) rfl)) .nil) (.cons rfl (BLe.typed (RowIs.updR (RowIs.upd RowIs.elems (p0.getD (Int.toNat p3) 0) rfl) (by omega) (p0.getD (Int.toNat p1) 0) rfl)) .nil) ?_)
 refine Sq (RD hnt (nn 6 []) [2] [(9,pI (w64 (p1 + 1))),(10,pI (w64 (p2 - 1)))] [] [] tv ?_)
 refine Sq (Bk ?_)
 refine DW.whileO (fun (s1 : (List Int) × Int × Int) => Ai [(0,ow 0 s1.1.length),(1,pI p1),(9,pI s1.2.2),(10,pI s1.2.1)] [(0,ob0 (roI s1.1))]) hm Conv.eqK ?_
 intro s1 n1 hm
 unfold Fz at hm
 refine Bk ?_
 refine Sq (Bk ?_)
 refine DW.whileO (fun (s5 : Int) => Ai [(0,ow 0 s1.1.length),(1,pI p1),(9,pI s5),(10,pI s1.2.1)] [(0,ob0 (roI s1.1))]) hm .refl ?_
 intro s5 n5 hm
 unfold Ga at hm
 refine Sq (Sq ?_)
 refine Jn (ι := Bool) (fun (y10 : Bool) => Ai [(0,ow 0 s1.1.length),(1,pI p1),(9,pI s5),(10,pI s1.2.1),(43,pB y10)] [(0,ob0 (roI s1.1))]) (fun y10 => (Cw p1 s1 n1 s5 n5) y10 = some RES) ?_ ?_
 ·intro y10 hm
  unfold Cw at hm
  refine Ak hm ?_ ?_
  ·intro h156 hm
   refine Sk ?_
   refine Bk ?_
   refine RD hnt (nn 3 []) [43] [(9,pI (w64 (s5 + 1)))] [] [] tv ?_
   refine DW.done ?_
   show DW _ _ _ _ _
   exact jD (w64 (s5 + 1)) hm Conv.eqK
  ·intro h156 hm
   refine DW.exit ?_
   refine Aj ?_
   refine Aq ?_
   refine Af ?_
   show DW _ _ _ _ _
   refine Sq (Bk ?_)
   refine DW.whileO (fun (s7 : Int) => Ai [(0,ow 0 s1.1.length),(1,pI p1),(9,pI s5),(10,pI s7)] [(0,ob0 (roI s1.1))]) hm Conv.t0 ?_
   intro s7 n7 hm
   unfold Ek at hm
   refine Sq (Sq ?_)
   refine Jn (ι := Bool) (fun (y12 : Bool) => Ai [(0,ow 0 s1.1.length),(1,pI p1),(9,pI s5),(10,pI s7),(59,pB y12)] [(0,ob0 (roI s1.1))]) (fun y12 => (Cz s1 n1 s5 s7 n7) y12 = some RES) ?_ ?_
   ·intro y12 hm
    unfold Cz at hm
    refine Ak hm ?_ ?_
    ·intro h179 hm
     refine Sk ?_
     refine Bk ?_
     refine RD hnt (nn 3 []) [59] [(10,pI (w64 (s7 - 1)))] [] [] tv ?_
     refine DW.done ?_
     show DW _ _ _ _ _
     exact jD (w64 (s7 - 1)) hm Conv.eqK
    ·intro h179 hm
     refine DW.exit ?_
     refine Aj ?_
     refine Aq ?_
     refine Af ?_
     show DW _ _ _ _ _
     refine Sq (Sq (RD hnt (nn 3 []) [59] [(64,pB (decide (s5 > s7)))] [] [] tv ?_))
     refine Ak hm ?_ ?_
     ·intro h180 hm
      refine DW.exit ?_
      refine Lf (by decide) ?_
      refine Aq ?_
      refine Aj ?_
      refine Aq ?_
      refine Af ?_
      show DW _ _ _ _ _
      refine Sq (RK hnt (nn 2 []) [(8,pI s5)] [(0,ob0 (roI s1.1))] tv ?_)
      obtain rfl := sj hm
      exact DW.ret (Am [roI s1.1] [] (pI s5))
     ·intro h180 hm
      refine Sk ?_
      obtain ⟨g181,g182,g183,g184,hm⟩ := go4 hm
      obtain ⟨g185,g186,g187,g188,hm⟩ := go4 hm
      refine Sq (RN hnt (nn 16 []) [(0,ow 0 (c41e3 s1 s5 s7).length),(1,pI p1),(9,pI s5),(10,pI s7)] [(0,ob0 (roI (c41e3 s1 s5 s7)))] [(0,ow 0 s1.1.length)] [(0,.row 1 s1.1.length (c41e2 s1 s5 s7))] (an g181.1 (an g181.2 (an g182 (an g183.1 (an g183.2 (an g184 (an g185.1 (an g185.2 (an g186 (an g187.1 (an g187.2 (an g188 tv)))))))))))) (by kernel_rfl) (.cons rfl (MLe.ownLen (enc := Bm) (d := 0) (f := (c41e2 s1 s5 s7)) (RowIs.updR (RowIs.upd RowIs.elems (s1.1.getD (Int.toNat s7) 0) rfl) (by omega) (s1.1.getD (Int.toNat s5) 0) rfl)) .nil) (.cons rfl (BLe.typed (RowIs.updR (RowIs.upd RowIs.elems (s1.1.getD (Int.toNat s7) 0) rfl) (by omega) (s1.1.getD (Int.toNat s5) 0) rfl)) .nil) ?_)
      refine Sq (RD hnt (nn 3 []) [] [(9,pI (w64 (s5 + 1)))] [] [] tv ?_)
      refine RD hnt (nn 3 []) [] [(10,pI (w64 (s7 - 1)))] [] [] tv ?_
      refine DW.done ?_
      show DW _ _ _ _ _
      exact jD ((c41e3 s1 s5 s7),(w64 (s7 - 1)),(w64 (s5 + 1))) hm Conv.eqK
   ·rcases bt (decide (s5 ≤ s7)) with h173 | h173
    ·replace hm := Az h173 hm
     obtain ⟨g174,g175,g176,g177,hm⟩ := go4 hm
     obtain ⟨r178,hr178,hm⟩ := bo hm
     refine RD hnt (nn 12 (o31 [] true r178 :: pT :: [])) [] [(59,pB r178)] [] [] (an3 h173 (an g174.1 (an g174.2 (an h173 (an g175 (an3 h173 (an g176.1 (an g176.2 (an h173 (an g177 (an h173 (an (Cg (s1.1.getD (Int.toNat p1) 0) (s1.1.getD (Int.toNat s7) 0) r178 hr178) (an h173 tv))))))))))))) ?_
     exact jD r178 hm Conv.eqK
    ·replace hm := Ba h173 hm
     refine RD hnt (nn 4 (sk 9 (pF :: []))) [] [(59,pB false)] [] [] (an4 h173 (an6 h173 tv)) ?_
     exact jD false hm Conv.eqK
 ·rcases bt (decide (s5 ≤ s1.2.1)) with h150 | h150
  ·replace hm := Az h150 hm
   obtain ⟨g151,g152,g153,g154,hm⟩ := go4 hm
   obtain ⟨r155,hr155,hm⟩ := bo hm
   refine RD hnt (nn 12 (o31 [] true r155 :: .no :: pT :: [])) [] [(43,pB (!r155))] [] [] (an3 h150 (an g151.1 (an g151.2 (an h150 (an g152 (an3 h150 (an g153.1 (an g153.2 (an h150 (an g154 (an h150 (an (Cg (s1.1.getD (Int.toNat p1) 0) (s1.1.getD (Int.toNat s5) 0) r155 hr155) (an2 h150 tv))))))))))))) ?_
   exact jD (!r155) hm Conv.eqK
  ·replace hm := Ba h150 hm
   refine RD hnt (nn 4 (sk 10 (pF :: []))) [] [(43,pB false)] [] [] (an5 h150 (an6 h150 tv)) ?_
   exact jD false hm Conv.eqK
abbrev o41 (ks : List Nat) (b : Bool) (RES : Int × (List Int)) : Orc := .call 103 ks b (pI RES.1) [roI RES.2] []

abbrev Cj (p0 : List Int) (p1 : Int) (p3 : Int) := ((p0.set (Int.toNat p1) (p0.getD (Int.toNat p3) 0)).set (Int.toNat p3) (p0.getD (Int.toNat p1) 0))
abbrev c42e2 (p0 : List Int) (p1 : Int) (p3 : Int) (s1 : Int) (s17 : Int) := (Bt (Bt (elI (Cj p0 p1 p3)) (Int.toNat s1) [vi ((Cj p0 p1 p3).getD (Int.toNat s17) 0)]) (Int.toNat s17) (setRange ((Bt (elI (Cj p0 p1 p3)) (Int.toNat s1) [vi ((Cj p0 p1 p3).getD (Int.toNat s17) 0)]) (Int.toNat s17)) 0 [vi ((Cj p0 p1 p3).getD (Int.toNat s1) 0)]))
abbrev c42e3 (p0 : List Int) (p1 : Int) (p3 : Int) := (Bt (Bt (elI p0) (Int.toNat p1) [vi (p0.getD (Int.toNat p3) 0)]) (Int.toNat p3) (setRange ((Bt (elI p0) (Int.toNat p1) [vi (p0.getD (Int.toNat p3) 0)]) (Int.toNat p3)) 0 [vi (p0.getD (Int.toNat p1) 0)]))
abbrev c42e4 (s25 : (List Int) × Int × Int) (s29 : Int) (s31 : Int) := (Bt (Bt (elI s25.1) (Int.toNat s29) [vi (s25.1.getD (Int.toNat s31) 0)]) (Int.toNat s31) (setRange ((Bt (elI s25.1) (Int.toNat s29) [vi (s25.1.getD (Int.toNat s31) 0)]) (Int.toNat s31)) 0 [vi (s25.1.getD (Int.toNat s29) 0)]))
abbrev c42e5 (s25 : (List Int) × Int × Int) (s29 : Int) (s31 : Int) := ((s25.1.set (Int.toNat s29) (s25.1.getD (Int.toNat s31) 0)).set (Int.toNat s31) (s25.1.getD (Int.toNat s29) 0))
theorem Py (p0 : List Int) (p1 : Int) (p2 : Int) (p3 : Int) (RES : Int × Bool × (List Int)) (hm : Fc p0 p1 p2 p3 = some RES) : Spec Try.prog 104 [ow 0 p0.length,pI p1,pI p2,pI p3] [roI p0] (.p (.tup [vi RES.1,vb RES.2.1])) [roI RES.2.2] [] := by
 unfold Fc at hm
 refine SO Try.func104 rfl rfl [(0,ow 0 p0.length),(1,pI p1),(2,pI p2),(3,pI p3)] [(0,ob0 (roI p0))] ?_
 intro cx hnt
 refine Sq (RD hnt (nn 2 []) [] [] [] [] tv ?_)
 obtain ⟨g1,g2,g3,g4,hm⟩ := go4 hm
 obtain ⟨g5,g6,g7,g8,hm⟩ := go4 hm
 refine Sq (RN hnt (nn 16 []) [(0,ow 0 (Cj p0 p1 p3).length),(1,pI p1),(2,pI p2)] [(0,ob0 (roI (Cj p0 p1 p3)))] [(0,ow 0 p0.length)] [(0,.row 1 p0.length (c42e3 p0 p1 p3))] (an g1.1 (an g1.2 (an g2 (an g3.1 (an g3.2 (an g4 (an g5.1 (an g5.2 (an g6 (an g7.1 (an g7.2 (an g8 tv)))))))))))) (by kernel_rfl) (.cons rfl (MLe.ownLen (enc := Bm) (d := 0) (f := (c42e3 p0 p1 p3)) (RowIs.updR (RowIs.upd RowIs.elems (p0.getD (Int.toNat p3) 0) rfl) (by omega) (p0.getD (Int.toNat p1) 0) rfl)) .nil) (.cons rfl (BLe.typed (RowIs.updR (RowIs.upd RowIs.elems (p0.getD (Int.toNat p3) 0) rfl) (by omega) (p0.getD (Int.toNat p1) 0) rfl)) .nil) ?_)
 refine Sq (RD hnt (nn 6 []) [2] [(10,pI (w64 (p1 + 1))),(11,pI (w64 (p2 - 1)))] [] [] tv ?_)
 refine Sq (Bk ?_)
 refine DW.whileO (fun (s1 : Int) => Ai [(0,ow 0 (Cj p0 p1 p3).length),(1,pI p1),(10,pI s1),(11,pI (w64 (p2 - 1)))] [(0,ob0 (roI (Cj p0 p1 p3)))]) hm Conv.eqK ?_
 intro s1 n1 hm
 unfold Hn at hm
 refine Sq (Sq ?_)
 refine Jn (ι := Bool) (fun (y28 : Bool) => Ai [(0,ow 0 (Cj p0 p1 p3).length),(1,pI p1),(10,pI s1),(11,pI (w64 (p2 - 1))),(43,pB y28)] [(0,ob0 (roI (Cj p0 p1 p3)))]) (fun y28 => (Dz p0 p1 p2 p3 s1 n1) y28 = some RES) ?_ ?_
 ·intro y28 hm
  unfold Dz at hm
  refine Ak hm ?_ ?_
  ·intro h588 hm
   refine Sk ?_
   refine Bk ?_
   refine RD hnt (nn 3 []) [43] [(10,pI (w64 (s1 + 1)))] [] [] tv ?_
   refine DW.done ?_
   show DW _ _ _ _ _
   exact jD (w64 (s1 + 1)) hm Conv.eqK
  ·intro h588 hm
   refine DW.exit ?_
   refine Aj ?_
   refine Aq ?_
   refine Af ?_
   show DW _ _ _ _ _
   refine Sq (Bk ?_)
   refine DW.whileO (fun (s17 : Int) => Ai [(0,ow 0 (Cj p0 p1 p3).length),(1,pI p1),(10,pI s1),(11,pI s17)] [(0,ob0 (roI (Cj p0 p1 p3)))]) hm Conv.t0 ?_
   intro s17 n17 hm
   unfold Fp at hm
   refine Sq (Sq ?_)
   refine Jn (ι := Bool) (fun (y42 : Bool) => Ai [(0,ow 0 (Cj p0 p1 p3).length),(1,pI p1),(10,pI s1),(11,pI s17),(60,pB y42)] [(0,ob0 (roI (Cj p0 p1 p3)))]) (fun y42 => (Ed p0 p1 p3 s1 s17 n17) y42 = some RES) ?_ ?_
   ·intro y42 hm
    unfold Ed at hm
    refine Ak hm ?_ ?_
    ·intro h875 hm
     refine Sk ?_
     refine Bk ?_
     refine RD hnt (nn 3 []) [60] [(11,pI (w64 (s17 - 1)))] [] [] tv ?_
     refine DW.done ?_
     show DW _ _ _ _ _
     exact jD (w64 (s17 - 1)) hm Conv.eqK
    ·intro h875 hm
     refine DW.exit ?_
     refine Aj ?_
     refine Aq ?_
     refine Af ?_
     show DW _ _ _ _ _
     refine Sq (Sq (RD hnt (nn 3 []) [60] [(65,pB (decide (s1 > s17)))] [] [] tv ?_))
     refine Ak hm ?_ ?_
     ·intro h876 hm
      obtain ⟨g877,g878,g879,g880,hm⟩ := go4 hm
      obtain ⟨g881,g882,g883,g884,hm⟩ := go4 hm
      refine Sq (RN hnt (nn 16 []) [(11,pI s17)] [(0,ob0 (roI (((Cj p0 p1 p3).set (Int.toNat s17) ((Cj p0 p1 p3).getD (Int.toNat p1) 0)).set (Int.toNat p1) ((Cj p0 p1 p3).getD (Int.toNat s17) 0))))] [] [(0,.row 1 (Cj p0 p1 p3).length (Bt (Bt (elI (Cj p0 p1 p3)) (Int.toNat s17) [vi ((Cj p0 p1 p3).getD (Int.toNat p1) 0)]) (Int.toNat p1) (setRange ((Bt (elI (Cj p0 p1 p3)) (Int.toNat s17) [vi ((Cj p0 p1 p3).getD (Int.toNat p1) 0)]) (Int.toNat p1)) 0 [vi ((Cj p0 p1 p3).getD (Int.toNat s17) 0)])))] (an g877.1 (an g877.2 (an g878 (an g879.1 (an g879.2 (an g880 (an g881.1 (an g881.2 (an g882 (an g883.1 (an g883.2 (an g884 tv)))))))))))) (by kernel_rfl) .nil (.cons rfl (BLe.typed (RowIs.updR (RowIs.upd RowIs.elems ((Cj p0 p1 p3).getD (Int.toNat p1) 0) rfl) (by omega) ((Cj p0 p1 p3).getD (Int.toNat s17) 0) rfl)) .nil) ?_)
      refine Sq (RD hnt (nn 3 []) [11] [(8,pI s17),(9,pB true)] [] [] tv ?_)
      obtain rfl := sj hm
      exact DW.ret (Am [roI (((Cj p0 p1 p3).set (Int.toNat s17) ((Cj p0 p1 p3).getD (Int.toNat p1) 0)).set (Int.toNat p1) ((Cj p0 p1 p3).getD (Int.toNat s17) 0))] [] (.p (.tup [vi s17,vb true])))
     ·intro h876 hm
      refine Sk ?_
      obtain ⟨g885,g886,g887,g888,hm⟩ := go4 hm
      obtain ⟨g889,g890,g891,g892,hm⟩ := go4 hm
      refine Sq (RN hnt (nn 16 []) [(0,ow 0 (((Cj p0 p1 p3).set (Int.toNat s1) ((Cj p0 p1 p3).getD (Int.toNat s17) 0)).set (Int.toNat s17) ((Cj p0 p1 p3).getD (Int.toNat s1) 0)).length),(1,pI p1),(10,pI s1),(11,pI s17)] [(0,ob0 (roI (((Cj p0 p1 p3).set (Int.toNat s1) ((Cj p0 p1 p3).getD (Int.toNat s17) 0)).set (Int.toNat s17) ((Cj p0 p1 p3).getD (Int.toNat s1) 0))))] [(0,ow 0 (Cj p0 p1 p3).length)] [(0,.row 1 (Cj p0 p1 p3).length (c42e2 p0 p1 p3 s1 s17))] (an g885.1 (an g885.2 (an g886 (an g887.1 (an g887.2 (an g888 (an g889.1 (an g889.2 (an g890 (an g891.1 (an g891.2 (an g892 tv)))))))))))) (by kernel_rfl) (.cons rfl (MLe.ownLen (enc := Bm) (d := 0) (f := (c42e2 p0 p1 p3 s1 s17)) (RowIs.updR (RowIs.upd RowIs.elems ((Cj p0 p1 p3).getD (Int.toNat s17) 0) rfl) (by omega) ((Cj p0 p1 p3).getD (Int.toNat s1) 0) rfl)) .nil) (.cons rfl (BLe.typed (RowIs.updR (RowIs.upd RowIs.elems ((Cj p0 p1 p3).getD (Int.toNat s17) 0) rfl) (by omega) ((Cj p0 p1 p3).getD (Int.toNat s1) 0) rfl)) .nil) ?_)
      refine Sq (RD hnt (nn 3 []) [] [(10,pI (w64 (s1 + 1)))] [] [] tv ?_)
      refine Sq (RD hnt (nn 3 []) [] [(11,pI (w64 (s17 - 1)))] [] [] tv ?_)
      refine Sq (Bk ?_)
      refine DW.whileO (fun (s25 : (List Int) × Int × Int) => Ai [(0,ow 0 s25.1.length),(1,pI p1),(10,pI s25.2.1),(11,pI s25.2.2)] [(0,ob0 (roI s25.1))]) hm Conv.eqK ?_
      intro s25 n25 hm
      unfold Fo at hm
      refine Bk ?_
      refine Sq (Bk ?_)
      refine DW.whileO (fun (s29 : Int) => Ai [(0,ow 0 s25.1.length),(1,pI p1),(10,pI s29),(11,pI s25.2.2)] [(0,ob0 (roI s25.1))]) hm .refl ?_
      intro s29 n29 hm
      unfold Ha at hm
      refine Sq (Sq ?_)
      refine Jn (ι := Bool) (fun (y52 : Bool) => Ai [(0,ow 0 s25.1.length),(1,pI p1),(10,pI s29),(11,pI s25.2.2),(112,pB y52)] [(0,ob0 (roI s25.1))]) (fun y52 => (Dw p1 s25 n25 s29 n29) y52 = some RES) ?_ ?_
      ·intro y52 hm
       unfold Dw at hm
       refine Ak hm ?_ ?_
       ·intro h1088 hm
        refine Sk ?_
        refine Bk ?_
        refine RD hnt (nn 3 []) [112] [(10,pI (w64 (s29 + 1)))] [] [] tv ?_
        refine DW.done ?_
        show DW _ _ _ _ _
        exact jD (w64 (s29 + 1)) hm Conv.eqK
       ·intro h1088 hm
        refine DW.exit ?_
        refine Aj ?_
        refine Aq ?_
        refine Af ?_
        show DW _ _ _ _ _
        refine Sq (Bk ?_)
        refine DW.whileO (fun (s31 : Int) => Ai [(0,ow 0 s25.1.length),(1,pI p1),(10,pI s29),(11,pI s31)] [(0,ob0 (roI s25.1))]) hm Conv.t0 ?_
        intro s31 n31 hm
        unfold Fq at hm
        refine Sq (Sq ?_)
        refine Jn (ι := Bool) (fun (y54 : Bool) => Ai [(0,ow 0 s25.1.length),(1,pI p1),(10,pI s29),(11,pI s31),(129,pB y54)] [(0,ob0 (roI s25.1))]) (fun y54 => (Ee p1 s25 n25 s29 s31 n31) y54 = some RES) ?_ ?_
        ·intro y54 hm
         unfold Ee at hm
         refine Ak hm ?_ ?_
         ·intro h1119 hm
          refine Sk ?_
          refine Bk ?_
          refine RD hnt (nn 3 []) [129] [(11,pI (w64 (s31 - 1)))] [] [] tv ?_
          refine DW.done ?_
          show DW _ _ _ _ _
          exact jD (w64 (s31 - 1)) hm Conv.eqK
         ·intro h1119 hm
          refine DW.exit ?_
          refine Aj ?_
          refine Aq ?_
          refine Af ?_
          show DW _ _ _ _ _
          refine Sq (Sq (RD hnt (nn 3 []) [129] [(134,pB (decide (s29 > s31)))] [] [] tv ?_))
          refine Ak hm ?_ ?_
          ·intro h1120 hm
           refine DW.exit ?_
           refine Lf (by decide) ?_
           refine Aq ?_
           refine Aj ?_
           refine Aq ?_
           refine Af ?_
           show DW _ _ _ _ _
           obtain ⟨g1121,g1122,g1123,g1124,hm⟩ := go4 hm
           obtain ⟨g1125,g1126,g1127,g1128,hm⟩ := go4 hm
           refine Sq (RN hnt (nn 16 []) [(11,pI s31)] [(0,ob0 (roI ((s25.1.set (Int.toNat s31) (s25.1.getD (Int.toNat p1) 0)).set (Int.toNat p1) (s25.1.getD (Int.toNat s31) 0))))] [] [(0,.row 1 s25.1.length (Bt (Bt (elI s25.1) (Int.toNat s31) [vi (s25.1.getD (Int.toNat p1) 0)]) (Int.toNat p1) (setRange ((Bt (elI s25.1) (Int.toNat s31) [vi (s25.1.getD (Int.toNat p1) 0)]) (Int.toNat p1)) 0 [vi (s25.1.getD (Int.toNat s31) 0)])))] (an g1121.1 (an g1121.2 (an g1122 (an g1123.1 (an g1123.2 (an g1124 (an g1125.1 (an g1125.2 (an g1126 (an g1127.1 (an g1127.2 (an g1128 tv)))))))))))) (by kernel_rfl) .nil (.cons rfl (BLe.typed (RowIs.updR (RowIs.upd RowIs.elems (s25.1.getD (Int.toNat p1) 0) rfl) (by omega) (s25.1.getD (Int.toNat s31) 0) rfl)) .nil) ?_)
           refine Sq (RD hnt (nn 3 []) [11] [(8,pI s31),(9,pB false)] [] [] tv ?_)
           obtain rfl := sj hm
           exact DW.ret (Am [roI ((s25.1.set (Int.toNat s31) (s25.1.getD (Int.toNat p1) 0)).set (Int.toNat p1) (s25.1.getD (Int.toNat s31) 0))] [] (.p (.tup [vi s31,vb false])))
          ·intro h1120 hm
           refine Sk ?_
           obtain ⟨g1129,g1130,g1131,g1132,hm⟩ := go4 hm
           obtain ⟨g1133,g1134,g1135,g1136,hm⟩ := go4 hm
           refine Sq (RN hnt (nn 16 []) [(0,ow 0 (c42e5 s25 s29 s31).length),(1,pI p1),(10,pI s29),(11,pI s31)] [(0,ob0 (roI (c42e5 s25 s29 s31)))] [(0,ow 0 s25.1.length)] [(0,.row 1 s25.1.length (c42e4 s25 s29 s31))] (an g1129.1 (an g1129.2 (an g1130 (an g1131.1 (an g1131.2 (an g1132 (an g1133.1 (an g1133.2 (an g1134 (an g1135.1 (an g1135.2 (an g1136 tv)))))))))))) (by kernel_rfl) (.cons rfl (MLe.ownLen (enc := Bm) (d := 0) (f := (c42e4 s25 s29 s31)) (RowIs.updR (RowIs.upd RowIs.elems (s25.1.getD (Int.toNat s31) 0) rfl) (by omega) (s25.1.getD (Int.toNat s29) 0) rfl)) .nil) (.cons rfl (BLe.typed (RowIs.updR (RowIs.upd RowIs.elems (s25.1.getD (Int.toNat s31) 0) rfl) (by omega) (s25.1.getD (Int.toNat s29) 0) rfl)) .nil) ?_)
           refine Sq (RD hnt (nn 3 []) [] [(10,pI (w64 (s29 + 1)))] [] [] tv ?_)
           refine RD hnt (nn 3 []) [] [(11,pI (w64 (s31 - 1)))] [] [] tv ?_
           refine DW.done ?_
           show DW _ _ _ _ _
           exact jD ((c42e5 s25 s29 s31),(w64 (s29 + 1)),(w64 (s31 - 1))) hm Conv.eqK
        ·rcases bt (decide (s29 ≤ s31)) with h1113 | h1113
         ·replace hm := Az h1113 hm
          obtain ⟨g1114,g1115,g1116,g1117,hm⟩ := go4 hm
          obtain ⟨r1118,hr1118,hm⟩ := bo hm
          refine RD hnt (nn 12 (o31 [] true r1118 :: .no :: pT :: [])) [] [(129,pB (!r1118))] [] [] (an3 h1113 (an g1114.1 (an g1114.2 (an h1113 (an g1115 (an3 h1113 (an g1116.1 (an g1116.2 (an h1113 (an g1117 (an h1113 (an (Cg (s25.1.getD (Int.toNat s31) 0) (s25.1.getD (Int.toNat p1) 0) r1118 hr1118) (an2 h1113 tv))))))))))))) ?_
          exact jD (!r1118) hm Conv.eqK
         ·replace hm := Ba h1113 hm
          refine RD hnt (nn 4 (sk 10 (pF :: []))) [] [(129,pB false)] [] [] (an5 h1113 (an6 h1113 tv)) ?_
          exact jD false hm Conv.eqK
      ·rcases bt (decide (s29 ≤ s25.2.2)) with h1082 | h1082
       ·replace hm := Az h1082 hm
        obtain ⟨g1083,g1084,g1085,g1086,hm⟩ := go4 hm
        obtain ⟨r1087,hr1087,hm⟩ := bo hm
        refine RD hnt (nn 12 (o31 [] true r1087 :: pT :: [])) [] [(112,pB r1087)] [] [] (an3 h1082 (an g1083.1 (an g1083.2 (an h1082 (an g1084 (an3 h1082 (an g1085.1 (an g1085.2 (an h1082 (an g1086 (an h1082 (an (Cg (s25.1.getD (Int.toNat s29) 0) (s25.1.getD (Int.toNat p1) 0) r1087 hr1087) (an h1082 tv))))))))))))) ?_
        exact jD r1087 hm Conv.eqK
       ·replace hm := Ba h1082 hm
        refine RD hnt (nn 4 (sk 9 (pF :: []))) [] [(112,pB false)] [] [] (an4 h1082 (an6 h1082 tv)) ?_
        exact jD false hm Conv.eqK
   ·rcases bt (decide (s1 ≤ s17)) with h869 | h869
    ·replace hm := Az h869 hm
     obtain ⟨g870,g871,g872,g873,hm⟩ := go4 hm
     obtain ⟨r874,hr874,hm⟩ := bo hm
     refine RD hnt (nn 12 (o31 [] true r874 :: .no :: pT :: [])) [] [(60,pB (!r874))] [] [] (an3 h869 (an g870.1 (an g870.2 (an h869 (an g871 (an3 h869 (an g872.1 (an g872.2 (an h869 (an g873 (an h869 (an (Cg ((Cj p0 p1 p3).getD (Int.toNat s17) 0) ((Cj p0 p1 p3).getD (Int.toNat p1) 0) r874 hr874) (an2 h869 tv))))))))))))) ?_
     exact jD (!r874) hm Conv.eqK
    ·replace hm := Ba h869 hm
     refine RD hnt (nn 4 (sk 10 (pF :: []))) [] [(60,pB false)] [] [] (an5 h869 (an6 h869 tv)) ?_
     exact jD false hm Conv.eqK
 ·rcases bt (decide (s1 ≤ (w64 (p2 - 1)))) with h582 | h582
  ·replace hm := Az h582 hm
   obtain ⟨g583,g584,g585,g586,hm⟩ := go4 hm
   obtain ⟨r587,hr587,hm⟩ := bo hm
   refine RD hnt (nn 12 (o31 [] true r587 :: pT :: [])) [] [(43,pB r587)] [] [] (an3 h582 (an g583.1 (an g583.2 (an h582 (an g584 (an3 h582 (an g585.1 (an g585.2 (an h582 (an g586 (an h582 (an (Cg ((Cj p0 p1 p3).getD (Int.toNat s1) 0) ((Cj p0 p1 p3).getD (Int.toNat p1) 0) r587 hr587) (an h582 tv))))))))))))) ?_
   exact jD r587 hm Conv.eqK
  ·replace hm := Ba h582 hm
   refine RD hnt (nn 4 (sk 9 (pF :: []))) [] [(43,pB false)] [] [] (an4 h582 (an6 h582 tv)) ?_
   exact jD false hm Conv.eqK
abbrev o42 (ks : List Nat) (b : Bool) (RES : Int × Bool × (List Int)) : Orc := .call 104 ks b (.p (.tup [vi RES.1,vb RES.2.1])) [roI RES.2.2] []

theorem Ts (p0 : Int) (RES : Int) (hm : Fs p0 = some RES) : Spec Try.prog 126 [pI p0] [] (.p (vk .u64 RES)) [] [] := by
 unfold Fs at hm
 refine SO Try.func126 rfl rfl [(0,pI p0)] [] ?_
 intro cx hnt
 refine Sq (RK hnt (.no :: []) [(0,pI p0)] [] tv ?_)
 obtain ⟨r1,hr1,hm⟩ := bo hm
 obtain ⟨g2,hm⟩ := go1 hm
 refine Sq (RK hnt (nn 2 (o27 [] true r1 :: nn 2 [])) [(2,.p (vk .u64 (kshl .u64 1 r1)))] [] (an (Zu (IntKind.u64.wrap p0) r1 hr1) (an g2 tv)) ?_)
 obtain rfl := sj hm
 exact DW.ret (Am [] [] (.p (vk .u64 (kshl .u64 1 r1))))
abbrev o44 (ks : List Nat) (b : Bool) (RES : Int) : Orc := .call 126 ks b (.p (vk .u64 RES)) [] []

theorem Uv (p0 : Int) (RES : Int × Int) (hm : Iw p0 = some RES) : Spec Try.prog 127 [rr 0] [.box [.p (vk .u64 p0)]] (.p (vk .u64 RES.1)) [.box [.p (vk .u64 RES.2)]] [] := by
 unfold Iw at hm
 refine SO Try.func127 rfl rfl [(0,rr 0)] [(0,bx [.p (vk .u64 p0)])] ?_
 intro cx hnt
 refine Sq (RD hnt (.no :: []) [] [] [] [] tv ?_)
 refine Sq (RK hnt (nn 10 []) [(0,rr 0)] [(0,bx [.p (vk .u64 (kxor .u64 p0 (kshl .u64 p0 13)))])] (an (by decide : (0 : Int) ≤ 13) tv) ?_)
 refine Sq (RK hnt (nn 10 []) [(0,rr 0)] [(0,bx [.p (vk .u64 (kxor .u64 (kxor .u64 p0 (kshl .u64 p0 13)) (kshr .u64 (kxor .u64 p0 (kshl .u64 p0 13)) 7)))])] (an (by decide : (0 : Int) ≤ 7) tv) ?_)
 refine Sq (RK hnt (nn 10 []) [(0,rr 0)] [(0,bx [.p (vk .u64 (kxor .u64 (kxor .u64 (kxor .u64 p0 (kshl .u64 p0 13)) (kshr .u64 (kxor .u64 p0 (kshl .u64 p0 13)) 7)) (kshl .u64 (kxor .u64 (kxor .u64 p0 (kshl .u64 p0 13)) (kshr .u64 (kxor .u64 p0 (kshl .u64 p0 13)) 7)) 17)))])] (an (by decide : (0 : Int) ≤ 17) tv) ?_)
 refine Sq (RD hnt (nn 4 []) [0] [(2,.p (vk .u64 (kxor .u64 (kxor .u64 (kxor .u64 p0 (kshl .u64 p0 13)) (kshr .u64 (kxor .u64 p0 (kshl .u64 p0 13)) 7)) (kshl .u64 (kxor .u64 (kxor .u64 p0 (kshl .u64 p0 13)) (kshr .u64 (kxor .u64 p0 (kshl .u64 p0 13)) 7)) 17))))] [] [] tv ?_)
 obtain rfl := sj hm
 exact DW.ret (Am [.box [.p (vk .u64 (kxor .u64 (kxor .u64 (kxor .u64 p0 (kshl .u64 p0 13)) (kshr .u64 (kxor .u64 p0 (kshl .u64 p0 13)) 7)) (kshl .u64 (kxor .u64 (kxor .u64 p0 (kshl .u64 p0 13)) (kshr .u64 (kxor .u64 p0 (kshl .u64 p0 13)) 7)) 17)))]] [] (.p (vk .u64 (kxor .u64 (kxor .u64 (kxor .u64 p0 (kshl .u64 p0 13)) (kshr .u64 (kxor .u64 p0 (kshl .u64 p0 13)) 7)) (kshl .u64 (kxor .u64 (kxor .u64 p0 (kshl .u64 p0 13)) (kshr .u64 (kxor .u64 p0 (kshl .u64 p0 13)) 7)) 17)))))
abbrev o45 (ks : List Nat) (b : Bool) (RES : Int × Int) : Orc := .call 127 ks b (.p (vk .u64 RES.1)) [.box [.p (vk .u64 RES.2)]] []

abbrev c43e1 (s1 : (List Int) × Int × Int) (p1 : Int) (y2 : Int) := (Bt (Bt (elI s1.1) (Int.toNat s1.2.2) [vi (s1.1.getD (Int.toNat (w64 (p1 + y2))) 0)]) (Int.toNat (w64 (p1 + y2))) (setRange ((Bt (elI s1.1) (Int.toNat s1.2.2) [vi (s1.1.getD (Int.toNat (w64 (p1 + y2))) 0)]) (Int.toNat (w64 (p1 + y2)))) 0 [vi (s1.1.getD (Int.toNat s1.2.2) 0)]))
abbrev c43e2 (s1 : (List Int) × Int × Int) (p1 : Int) (y2 : Int) := ((s1.1.set (Int.toNat s1.2.2) (s1.1.getD (Int.toNat (w64 (p1 + y2))) 0)).set (Int.toNat (w64 (p1 + y2))) (s1.1.getD (Int.toNat s1.2.2) 0))
abbrev c43e3 (r15 : Int × Int) (r2 : Int) := (w64 (kand .u64 r15.1 (IntKind.u64.wrap (r2 - 1))))
theorem Nx (p0 : List Int) (p1 : Int) (p2 : Int) (RES : List Int) (hm : Dr p0 p1 p2 = some RES) : Spec Try.prog 98 [ow 0 p0.length,pI p1,pI p2] [roI p0] (.p (.tup [])) [roI RES] [] := by
 unfold Dr at hm
 refine SO Try.func98 rfl rfl [(0,ow 0 p0.length),(1,pI p1),(2,pI p2)] [(0,ob0 (roI p0))] ?_
 intro cx hnt
 refine Sq (RD hnt (nn 4 []) [2] [(6,pI (w64 (p2 - p1)))] [] [] tv ?_)
 refine Sq (RD hnt (nn 2 []) [] [(15,pB (decide ((w64 (p2 - p1)) ≥ 8)))] [] [] tv ?_)
 refine Ak hm ?_ ?_
 ·intro h1 hm
  refine Sq (RD hnt (nn 4 []) [15] [(7,rr 1056)] [] [(1056,bx [.p (vk .u64 (IntKind.u64.wrap (w64 (p2 - p1))))])] tv ?_)
  obtain ⟨r2,hr2,hm⟩ := bo hm
  refine Sq (RD hnt (.no :: o44 [] true r2 :: .no :: []) [] [(8,.p (vk .u64 r2))] [] [] (an (Ts (w64 (p2 - p1)) r2 hr2) tv) ?_)
  refine Sq (RD hnt (nn 7 []) [] [(9,pI (w64 ((w64 (p1 + (w64 ((w64 (Int.tdiv (w64 (p2 - p1)) 4)) * 2)))) - 1)))] [] [] (an (by decide : (4 : Int) ≠ 0) tv) ?_)
  refine Bk ?_
  refine DW.whileO (fun (s1 : (List Int) × Int × Int) => Ai [(0,ow 0 s1.1.length),(1,pI p1),(6,pI (w64 (p2 - p1))),(7,rr 1056),(8,.p (vk .u64 r2)),(9,pI s1.2.2)] [(0,ob0 (roI s1.1)),(1056,bx [.p (vk .u64 s1.2.1)])]) hm Conv.eqK ?_
  intro s1 n1 hm
  unfold Gg at hm
  refine Sq (Sq (RD hnt (nn 8 []) [] [(33,pB (decide (s1.2.2 ≤ (w64 ((w64 (p1 + (w64 ((w64 (Int.tdiv (w64 (p2 - p1)) 4)) * 2)))) + 1)))))] [] [] (an (by decide : (4 : Int) ≠ 0) tv) ?_))
  refine Ak hm ?_ ?_
  ·intro h14 hm
   refine Sk ?_
   refine Sq (Bk ?_)
   obtain ⟨r15,hr15,hm⟩ := bo hm
   refine Sq (RD hnt (o45 [1056] true r15 :: nn 5 []) [33] [(10,pI (c43e3 r15 r2))] [] [(1056,bx [.p (vk .u64 r15.2)])] (an (Uv s1.2.1 r15 hr15) (an tv tv)) ?_)
   refine Sq (Sq (RD hnt (nn 3 []) [] [(43,pB (decide ((c43e3 r15 r2) ≥ (w64 (p2 - p1)))))] [] [] tv ?_))
   refine Jn (ι := Int) (fun (y2 : Int) => Ai [(0,ow 0 s1.1.length),(1,pI p1),(6,pI (w64 (p2 - p1))),(7,rr 1056),(8,.p (vk .u64 r2)),(9,pI s1.2.2),(10,pI y2)] [(0,ob0 (roI s1.1)),(1056,bx [.p (vk .u64 r15.2)])]) (fun y2 => (Ci p1 s1 n1 r15) y2 = some RES) ?_ ?_
   ·intro y2 hm
    unfold Ci at hm
    obtain ⟨g17,g18,g19,g20,hm⟩ := go4 hm
    obtain ⟨g21,g22,g23,g24,hm⟩ := go4 hm
    refine RN hnt (nn 20 []) [(0,ow 0 (c43e2 s1 p1 y2).length),(1,pI p1),(6,pI (w64 (p2 - p1))),(7,rr 1056),(8,.p (vk .u64 r2)),(9,pI s1.2.2)] [(0,ob0 (roI (c43e2 s1 p1 y2))),(1056,bx [.p (vk .u64 r15.2)])] [(0,ow 0 s1.1.length)] [(0,.row 1 s1.1.length (c43e1 s1 p1 y2))] (an g17.1 (an g17.2 (an g18 (an g19.1 (an g19.2 (an g20 (an g21.1 (an g21.2 (an g22 (an g23.1 (an g23.2 (an g24 tv)))))))))))) (by kernel_rfl) (.cons rfl (MLe.ownLen (enc := Bm) (d := 0) (f := (c43e1 s1 p1 y2)) (RowIs.updR (RowIs.upd RowIs.elems (s1.1.getD (Int.toNat (w64 (p1 + y2))) 0) rfl) (by omega) (s1.1.getD (Int.toNat s1.2.2) 0) rfl)) .nil) (.cons rfl (BLe.typed (RowIs.updR (RowIs.upd RowIs.elems (s1.1.getD (Int.toNat (w64 (p1 + y2))) 0) rfl) (by omega) (s1.1.getD (Int.toNat s1.2.2) 0) rfl)) .nil) ?_
    refine DW.done ?_
    show DW _ _ _ _ _
    refine RD hnt (nn 3 []) [] [(9,pI (w64 (s1.2.2 + 1)))] [] [] tv ?_
    exact jD ((c43e2 s1 p1 y2),r15.2,(w64 (s1.2.2 + 1))) hm Conv.eqK
   ·refine Ak hm ?_ ?_
    ·intro h16 hm
     refine RD hnt (nn 4 []) [43] [(10,pI (w64 ((c43e3 r15 r2) - (w64 (p2 - p1)))))] [] [] tv ?_
     exact jD (w64 ((c43e3 r15 r2) - (w64 (p2 - p1)))) hm Conv.eqK
    ·intro h16 hm
     refine Sk ?_
     exact jD (c43e3 r15 r2) hm Conv.t0
  ·intro h14 hm
   refine DW.exit ?_
   refine Aj ?_
   refine Aq ?_
   refine Af ?_
   show DW _ _ _ _ _
   refine DW.done ?_
   obtain rfl := sj hm
   exact endK [roI s1.1] [] (.p (.tup []))
 ·intro h1 hm
  refine Sk ?_
  refine DW.done ?_
  obtain rfl := sj hm
  exact endK [roI p0] [] (.p (.tup []))
abbrev o43 (ks : List Nat) (b : Bool) (RES : List Int) : Orc := .call 98 ks b (.p (.tup [])) [roI RES] []

abbrev Sb (s1 : (List Int) × Int × Int × Int × Bool × Bool) : Nat × MV := (10,pI (w64 (s1.2.2.1 - s1.2.1)))
abbrev Yc (s1 : (List Int) × Int × Int × Int × Bool × Bool) := (w64 (Int.tdiv (w64 (s1.2.2.1 - s1.2.1)) 8))
theorem Qt (rec : (List Int) → Int → Int → Int → Option (List Int)) (ih : ∀ (p0 : List Int) (p1 : Int) (p2 : Int) (p3 : Int) (RES : List Int),rec p0 p1 p2 p3 = some RES → Spec Try.prog 73 [ow 0 p0.length,pI p1,pI p2,pI p3] [roI p0] (.p (.tup [])) [roI RES] []) (p0 : List Int) (p1 : Int) (p2 : Int) (p3 : Int) (RES : List Int) (hm : Gi rec p0 p1 p2 p3 = some RES) : Spec Try.prog 73 [ow 0 p0.length,pI p1,pI p2,pI p3] [roI p0] (.p (.tup [])) [roI RES] [] := by
 unfold Gi at hm
 refine SO Try.func73 rfl rfl [(0,ow 0 p0.length),(1,pI p1),(2,pI p2),(3,pI p3)] [(0,ob0 (roI p0))] ?_
 intro cx hnt
 refine Sq (RD hnt (.no :: []) [] [(8,pB true)] [] [] tv ?_)
 refine Sq (RD hnt (.no :: []) [] [(9,pB true)] [] [] tv ?_)
 refine Bk ?_
 refine DW.whileO (fun (s1 : (List Int) × Int × Int × Int × Bool × Bool) => Ai [(0,ow 0 s1.1.length),(1,pI s1.2.1),(2,pI s1.2.2.1),(3,pI s1.2.2.2.1),(8,pB s1.2.2.2.2.1),(9,pB s1.2.2.2.2.2)] [(0,ob0 (roI s1.1))]) hm Conv.eqK ?_
 intro s1 n1 hm
 unfold Ib at hm
 refine Bk ?_
 refine Sq (RD hnt (nn 4 []) [] [(Sb s1)] [] [] tv ?_)
 refine Sq (Sq (RD hnt (nn 2 []) [] [(23,pB (decide ((w64 (s1.2.2.1 - s1.2.1)) ≤ 12)))] [] [] tv ?_))
 refine Ak hm ?_ ?_
 ·intro h66 hm
  obtain ⟨r67,hr67,hm⟩ := bo hm
  obtain ⟨g68,hm⟩ := go1 hm
  refine Sq (RK hnt (nn 3 (o30 [0] true r67 :: [])) [] [(0,ob0 (roI r67))] (an (Nz s1.1 s1.2.1 s1.2.2.1 r67 hr67) (an (⟨rfl,g68⟩ : Body.same (roI s1.1) (roI r67)) tv)) ?_)
  obtain rfl := sj hm
  exact DW.ret (Am [roI r67] [] (.p (.tup [])))
 ·intro h66 hm
  refine Sk ?_
  refine Sq (Sq (RD hnt (nn 2 []) [23] [(29,pB (s1.2.2.2.1 == 0))] [] [] tv ?_))
  refine Ak hm ?_ ?_
  ·intro h69 hm
   obtain ⟨r70,hr70,hm⟩ := bo hm
   obtain ⟨g71,hm⟩ := go1 hm
   refine Sq (RK hnt (nn 3 (o33 [0] true r70 :: [])) [] [(0,ob0 (roI r70))] (an (Qv s1.1 s1.2.1 s1.2.2.1 r70 hr70) (an (⟨rfl,g71⟩ : Body.same (roI s1.1) (roI r70)) tv)) ?_)
   obtain rfl := sj hm
   exact DW.ret (Am [roI r70] [] (.p (.tup [])))
  ·intro h69 hm
   refine Sk ?_
   refine Sq (Sq (RD hnt (nn 2 []) [29] [(35,pB (!s1.2.2.2.2.1))] [] [] tv ?_))
   refine Jn (ι := (List Int) × Int) (fun (y8 : (List Int) × Int) => Ai [(0,ow 0 y8.1.length),(1,pI s1.2.1),(2,pI s1.2.2.1),(3,pI y8.2),(8,pB s1.2.2.2.2.1),(9,pB s1.2.2.2.2.2),(Sb s1)] [(0,ob0 (roI y8.1))]) (fun y8 => (Dp rec s1 n1) y8 = some RES) ?_ ?_
   ·intro y8 hm
    unfold Dp at hm
    obtain ⟨r75,hr75,hm⟩ := bo hm
    refine Sq (RD hnt (nn 3 (o35 [] true r75 :: nn 5 [])) [] [(11,pI r75.1),(12,pI r75.2)] [] [] (an (Oy y8.1 s1.2.1 s1.2.2.1 r75 hr75) tv) ?_)
    refine Sq (Sq (RD hnt (nn 2 []) [] [(50,pB (r75.2 == 2))] [] [] tv ?_))
    refine Jn (ι := (List Int) × Int × Int) (fun (y9 : (List Int) × Int × Int) => Ai [(0,ow 0 y9.1.length),(1,pI s1.2.1),(2,pI s1.2.2.1),(3,pI y8.2),(8,pB s1.2.2.2.2.1),(9,pB s1.2.2.2.2.2),(Sb s1),(11,pI y9.2.1),(12,pI y9.2.2)] [(0,ob0 (roI y9.1))]) (fun y9 => (Dq rec s1 n1 y8) y9 = some RES) ?_ ?_
    ·intro y9 hm
     unfold Dq at hm
     refine Sq (Sq (DW.regJ (sl2 := [(0,ow 0 y9.1.length),(1,pI s1.2.1),(2,pI s1.2.2.1),(3,pI y8.2),(8,pB s1.2.2.2.2.1),(9,pB s1.2.2.2.2.2),(Sb s1),(11,pI y9.2.1),(68,pB ((s1.2.2.2.2.1 && s1.2.2.2.2.2) && (y9.2.2 == 1)))]) (ob2 := [(0,ob0 (roI y9.1))]) ?_ ?_))
     ·rcases bt s1.2.2.2.2.1 with h79 | h79
      ·rcases bt s1.2.2.2.2.2 with h80 | h80
       ·exact RT hnt (nn 3 (pT :: nn 3 (pT :: []))) [(68,pB (y9.2.2 == 1))] (an2 h79 (an3 h80 tv)) (by kernel_rfl) (.cons rfl (.of_eq (by rw [h79,h80]; try rfl)) .nil)
       ·exact RT hnt (nn 3 (pT :: .no :: sk 2 (pF :: []))) [(68,pB false)] (an2 h79 (an3 h80 tv)) (by kernel_rfl) (.cons rfl (.of_eq (by rw [h79,h80]; try rfl)) .nil)
      ·exact RT hnt (nn 2 (.skip :: pF :: .no :: sk 2 (pF :: []))) [(68,pB false)] (an2 h79 (an3 ff tv)) (by kernel_rfl) (.cons rfl (.of_eq (by rw [h79]; try rfl)) .nil)
     ·refine Jn (ι := List Int) (fun (y10 : List Int) => Ai [(0,ow 0 y10.length),(1,pI s1.2.1),(2,pI s1.2.2.1),(3,pI y8.2),(8,pB s1.2.2.2.2.1),(9,pB s1.2.2.2.2.2),(Sb s1),(11,pI y9.2.1)] [(0,ob0 (roI y10))]) (fun y10 => (De rec s1 n1 y8 y9) y10 = some RES) ?_ ?_
      ·intro y10 hm
       unfold De at hm
       refine Sq (Sq ?_)
       refine Jn (ι := Bool) (fun (y11 : Bool) => Ai [(0,ow 0 y10.length),(1,pI s1.2.1),(2,pI s1.2.2.1),(3,pI y8.2),(8,pB s1.2.2.2.2.1),(9,pB s1.2.2.2.2.2),(Sb s1),(11,pI y9.2.1),(87,pB y11)] [(0,ob0 (roI y10))]) (fun y11 => (Df rec s1 n1 y8 y9 y10) y11 = some RES) ?_ ?_
       ·intro y11 hm
        unfold Df at hm
        refine Ak hm ?_ ?_
        ·intro h91 hm
         obtain ⟨r92,hr92,hm⟩ := bo hm
         obtain ⟨g93,hm⟩ := go1 hm
         refine Sq (RN hnt (nn 4 (o41 [0] true r92 :: .no :: [])) [(0,ow 0 r92.2.length),(2,pI s1.2.2.1),(3,pI y8.2),(8,pB s1.2.2.2.2.1),(9,pB s1.2.2.2.2.2),(13,pI r92.1)] [(0,ob0 (roI r92.2))] [(0,ow 0 y10.length)] [] (an (Nj y10 s1.2.1 s1.2.2.1 y9.2.1 r92 hr92) (an (⟨rfl,g93⟩ : Body.same (roI y10) (roI r92.2)) tv)) (by kernel_rfl) (.cons rfl (MLe.of_eq (congrArg (MV.own 0 0 0) g93)) .nil) .nil ?_)
         refine Sq (RD hnt (nn 2 []) [13] [(1,pI r92.1)] [] [] tv ?_)
         refine DW.exit ?_
         refine Af ?_
         show DW _ _ _ _ _
         exact jD (r92.2,r92.1,s1.2.2.1,y8.2,s1.2.2.2.2.1,s1.2.2.2.2.2) hm Conv.eqK
        ·intro h91 hm
         refine Sk ?_
         obtain ⟨r94,hr94,hm⟩ := bo hm
         obtain ⟨g95,hm⟩ := go1 hm
         refine Sq (RN hnt (nn 4 (o42 [0] true r94 :: nn 5 [])) [(0,ow 0 r94.2.2.length),(1,pI s1.2.1),(2,pI s1.2.2.1),(3,pI y8.2),(Sb s1),(14,pI r94.1),(15,pB r94.2.1)] [(0,ob0 (roI r94.2.2))] [(0,ow 0 y10.length)] [] (an (Py y10 s1.2.1 s1.2.2.1 y9.2.1 r94 hr94) (an (⟨rfl,g95⟩ : Body.same (roI y10) (roI r94.2.2)) tv)) (by kernel_rfl) (.cons rfl (MLe.of_eq (congrArg (MV.own 0 0 0) g95)) .nil) .nil ?_)
         refine Sq (RD hnt (nn 2 []) [15] [(9,pB r94.2.1)] [] [] tv ?_)
         refine Sq (RD hnt (nn 8 []) [] [(16,pI (w64 (r94.1 - s1.2.1))),(17,pI (w64 (s1.2.2.1 - r94.1)))] [] [] tv ?_)
         refine Sq (RD hnt (nn 3 []) [10] [(18,pI (Yc s1))] [] [] (an (by decide : (8 : Int) ≠ 0) tv) ?_)
         refine Sq (RD hnt (nn 3 []) [] [(113,pB (decide ((w64 (r94.1 - s1.2.1)) < (w64 (s1.2.2.1 - r94.1)))))] [] [] tv ?_)
         refine Ak hm ?_ ?_
         ·intro h96 hm
          refine Sq (RD hnt (nn 4 []) [16,17,18,113] [(8,pB (decide ((w64 (r94.1 - s1.2.1)) ≥ (Yc s1))))] [] [] tv ?_)
          obtain ⟨r97,hr97,hm⟩ := bo hm
          obtain ⟨g98,hm⟩ := go1 hm
          refine Sq (RN hnt (nn 4 (.call 73 [0] true (.p (.tup [])) [roI r97] [] :: [])) [(0,ow 0 r97.length),(2,pI s1.2.2.1),(3,pI y8.2),(8,pB (decide ((w64 (r94.1 - s1.2.1)) ≥ (Yc s1)))),(9,pB r94.2.1),(14,pI r94.1)] [(0,ob0 (roI r97))] [(0,ow 0 r94.2.2.length)] [] (an (ih r94.2.2 s1.2.1 r94.1 y8.2 r97 hr97) (an (⟨rfl,g98⟩ : Body.same (roI r94.2.2) (roI r97)) tv)) (by kernel_rfl) (.cons rfl (MLe.of_eq (congrArg (MV.own 0 0 0) g98)) .nil) .nil ?_)
          refine RD hnt (nn 3 []) [14] [(1,pI (w64 (r94.1 + 1)))] [] [] tv ?_
          refine DW.done ?_
          show DW _ _ _ _ _
          exact jD (r97,(w64 (r94.1 + 1)),s1.2.2.1,y8.2,(decide ((w64 (r94.1 - s1.2.1)) ≥ (Yc s1))),r94.2.1) hm Conv.eqK
         ·intro h96 hm
          refine Sq (RD hnt (nn 4 []) [16,17,18,113] [(8,pB (decide ((w64 (s1.2.2.1 - r94.1)) ≥ (Yc s1))))] [] [] tv ?_)
          obtain ⟨r99,hr99,hm⟩ := bo hm
          obtain ⟨g100,hm⟩ := go1 hm
          refine Sq (RN hnt (nn 5 (.call 73 [0] true (.p (.tup [])) [roI r99] [] :: [])) [(0,ow 0 r99.length),(1,pI s1.2.1),(3,pI y8.2),(8,pB (decide ((w64 (s1.2.2.1 - r94.1)) ≥ (Yc s1)))),(9,pB r94.2.1),(14,pI r94.1)] [(0,ob0 (roI r99))] [(0,ow 0 r94.2.2.length)] [] (an (ih r94.2.2 (w64 (r94.1 + 1)) s1.2.2.1 y8.2 r99 hr99) (an (⟨rfl,g100⟩ : Body.same (roI r94.2.2) (roI r99)) tv)) (by kernel_rfl) (.cons rfl (MLe.of_eq (congrArg (MV.own 0 0 0) g100)) .nil) .nil ?_)
          refine RD hnt (nn 2 []) [14] [(2,pI r94.1)] [] [] tv ?_
          refine DW.done ?_
          show DW _ _ _ _ _
          exact jD (r99,s1.2.1,r94.1,y8.2,(decide ((w64 (s1.2.2.1 - r94.1)) ≥ (Yc s1))),r94.2.1) hm Conv.eqK
       ·rcases bt (decide (s1.2.1 > 0)) with h85 | h85
        ·replace hm := Az h85 hm
         obtain ⟨g86,g87,g88,g89,hm⟩ := go4 hm
         obtain ⟨r90,hr90,hm⟩ := bo hm
         refine RD hnt (nn 12 (o31 [] true r90 :: .no :: pT :: [])) [] [(87,pB (!r90))] [] [] (an4 h85 (an g86.1 (an g86.2 (an h85 (an g87 (an3 h85 (an g88.1 (an g88.2 (an h85 (an g89 (an h85 (an (Cg (y10.getD (Int.toNat (w64 (s1.2.1 - 1))) 0) (y10.getD (Int.toNat y9.2.1) 0) r90 hr90) (an2 h85 tv))))))))))))) ?_
         exact jD (!r90) hm Conv.eqK
        ·replace hm := Ba h85 hm
         refine RD hnt (nn 3 (sk 11 (pF :: []))) [] [(87,pB false)] [] [] (an6 h85 (an6 h85 tv)) ?_
         exact jD false hm Conv.eqK
      ·refine Ak hm ?_ ?_
       ·intro h81 hm
        obtain ⟨r82,hr82,hm⟩ := bo hm
        obtain ⟨g83,hm⟩ := go1 hm
        refine Sq (RN hnt (nn 3 (o40 [0] true r82 :: [])) [(0,ow 0 r82.2.length),(1,pI s1.2.1),(2,pI s1.2.2.1),(3,pI y8.2),(8,pB s1.2.2.2.2.1),(9,pB s1.2.2.2.2.2),(Sb s1),(11,pI y9.2.1),(72,pB r82.1)] [(0,ob0 (roI r82.2))] [(0,ow 0 y9.1.length)] [] (an (Kw y9.1 s1.2.1 s1.2.2.1 r82 hr82) (an (⟨rfl,g83⟩ : Body.same (roI y9.1) (roI r82.2)) tv)) (by kernel_rfl) (.cons rfl (MLe.of_eq (congrArg (MV.own 0 0 0) g83)) .nil) .nil ?_)
        refine Ak hm ?_ ?_
        ·intro h84 hm
         obtain rfl := sj hm
         exact DW.ret (Am [roI r82.2] [] (.p (.tup [])))
        ·intro h84 hm
         refine Sk ?_
         exact jD r82.2 hm Conv.t0
       ·intro h81 hm
        refine Sk ?_
        exact jD y9.1 hm Conv.t0
    ·refine Ak hm ?_ ?_
     ·intro h76 hm
      obtain ⟨r77,hr77,hm⟩ := bo hm
      obtain ⟨g78,hm⟩ := go1 hm
      refine Sq (RN hnt (nn 3 (o39 [0] true r77 :: [])) [(0,ow 0 r77.length),(1,pI s1.2.1),(2,pI s1.2.2.1),(3,pI y8.2),(8,pB s1.2.2.2.2.1),(9,pB s1.2.2.2.2.2),(Sb s1),(11,pI r75.1)] [(0,ob0 (roI r77))] [(0,ow 0 y8.1.length)] [] (an (Ot y8.1 s1.2.1 s1.2.2.1 r77 hr77) (an (⟨rfl,g78⟩ : Body.same (roI y8.1) (roI r77)) tv)) (by kernel_rfl) (.cons rfl (MLe.of_eq (congrArg (MV.own 0 0 0) g78)) .nil) .nil ?_)
      refine Sq (RD hnt (nn 7 []) [] [(11,pI (w64 ((w64 (s1.2.2.1 - 1)) - (w64 (r75.1 - s1.2.1)))))] [] [] tv ?_)
      refine RD hnt (.no :: []) [] [(12,pI 1)] [] [] tv ?_
      exact jD (r77,(w64 ((w64 (s1.2.2.1 - 1)) - (w64 (r75.1 - s1.2.1)))),1) hm Conv.eqK
     ·intro h76 hm
      refine Sk ?_
      exact jD (y8.1,r75.1,r75.2) hm Conv.t0
   ·refine Ak hm ?_ ?_
    ·intro h72 hm
     obtain ⟨r73,hr73,hm⟩ := bo hm
     obtain ⟨g74,hm⟩ := go1 hm
     refine Sq (RN hnt (nn 3 (o43 [0] true r73 :: [])) [(0,ow 0 r73.length),(1,pI s1.2.1),(2,pI s1.2.2.1),(3,pI s1.2.2.2.1),(8,pB s1.2.2.2.2.1),(9,pB s1.2.2.2.2.2),(Sb s1)] [(0,ob0 (roI r73))] [(0,ow 0 s1.1.length)] [] (an (Nx s1.1 s1.2.1 s1.2.2.1 r73 hr73) (an (⟨rfl,g74⟩ : Body.same (roI s1.1) (roI r73)) tv)) (by kernel_rfl) (.cons rfl (MLe.of_eq (congrArg (MV.own 0 0 0) g74)) .nil) .nil ?_)
     refine RD hnt (nn 3 []) [] [(3,pI (w64 (s1.2.2.2.1 - 1)))] [] [] tv ?_
     exact jD (r73,(w64 (s1.2.2.2.1 - 1))) hm Conv.eqK
    ·intro h72 hm
     refine Sk ?_
     exact jD (s1.1,s1.2.2.2.1) hm Conv.t0
theorem Kl : ∀ (n : Nat) (p0 : List Int) (p1 : Int) (p2 : Int) (p3 : Int) (RES : List Int),Bo n p0 p1 p2 p3 = some RES → Spec Try.prog 73 [ow 0 p0.length,pI p1,pI p2,pI p3] [roI p0] (.p (.tup [])) [roI RES] []
  | 0,p0,p1,p2,p3,RES,hm => by simp [Bo] at hm
  | n + 1,p0,p1,p2,p3,RES,hm => Qt (Bo n) (Kl n) p0 p1 p2 p3 RES hm
theorem Qz (p0 : List Int) (p1 : Int) (p2 : Int) (p3 : Int) (RES : List Int) (hm : Ix p0 p1 p2 p3 = some RES) : Spec Try.prog 73 [ow 0 p0.length,pI p1,pI p2,pI p3] [roI p0] (.p (.tup [])) [roI RES] [] := Kl Ei p0 p1 p2 p3 RES hm
abbrev o29 (ks : List Nat) (b : Bool) (RES : List Int) : Orc := .call 73 ks b (.p (.tup [])) [roI RES] []

theorem Zn (p0 : List Int) (RES : List Int) (hm : Kj p0 = some RES) : Spec Try.prog 44 [ow 0 p0.length] [roI p0] (.p (.tup [])) [roI RES] [] := by
 unfold Kj at hm
 refine SO Try.func44 rfl rfl [(0,ow 0 p0.length)] [(0,ob0 (roI p0))] ?_
 intro cx hnt
 refine Sq (RD hnt (nn 3 []) [] [(2,pI ((p0.length : Nat) : Int))] [] [] tv ?_)
 obtain ⟨r1,hr1,hm⟩ := bo hm
 obtain ⟨r2,hr2,hm⟩ := bo hm
 obtain ⟨g3,hm⟩ := go1 hm
 refine RK hnt (nn 4 (o27 [] true r1 :: o29 [0] true r2 :: [])) [] [(0,ob0 (roI r2))] (an (Zu (IntKind.u64.wrap ((p0.length : Nat) : Int)) r1 hr1) (an (Qz p0 0 ((p0.length : Nat) : Int) r1 r2 hr2) (an (⟨rfl,g3⟩ : Body.same (roI p0) (roI r2)) tv))) ?_
 refine DW.done ?_
 obtain rfl := sj hm
 exact endK [roI r2] [] (.p (.tup []))
abbrev o26 (ks : List Nat) (b : Bool) (RES : List Int) : Orc := .call 44 ks b (.p (.tup [])) [roI RES] []

abbrev c5e1 (r55 : List Int) (k4 : Nat) (r51 : IMap Int) (r53 : IMap Int) := ({ group := (r55.getD k4 0),min := (r51.get (r55.getD k4 0)),low := (r53.get (r55.getD k4 0)) } : Protection)
abbrev Re (r7 : (List Ah) × Int) (k1 : Nat) := (r7.1.getD k1 (default : Ah))
abbrev c5e3 (r51 : IMap Int) : Nat × MV := (17,.p (.mp (vi 0) r51.has (fun n => vi (r51.get n))))
abbrev c5e4 (r53 : IMap Int) : Nat × MV := (18,.p (.mp (vi 0) r53.has (fun n => vi (r53.get n))))
theorem Ky (p0 : Aa) (p1 : Ag) (p2 : List Protection) (p3 : Int) (RES : (List Protection) × Int) (hm : Cs p0 p1 p2 p3 = some RES) : Spec Try.prog 25 [.p (.agg (Ab p0)),.p (.agg [An p1.charges]),.p (Ae p2),pI p3] [] (.tup [ow 0 RES.1.length,pI RES.2]) [] [Aw RES.1] := by
 unfold Cs at hm
 refine SO Try.func25 rfl rfl [(0,.p (.agg (Ab p0))),(1,.p (.agg [An p1.charges])),(2,.p (Ae p2)),(3,pI p3)] [] ?_
 intro cx hnt
 refine Sq (RD hnt (nn 4 []) [0,1] [(4,rr 1032),(5,rr 1040)] [] [(1032,bx (pm (Ab p0))),(1040,bx [.p (An p1.charges)])] tv ?_)
 obtain ⟨r1,hr1,hm⟩ := bo hm
 refine Sq (Sq ?_)
 refine Jn (ι := Bool) (fun (y1 : Bool) => Ai [(2,.p (Ae p2)),(3,pI p3),(4,rr 1032),(5,rr 1040),(32,pB y1)] [(1032,bx (pm (Ab p0))),(1040,bx [.p (An p1.charges)])]) (fun y1 => (Dn p0 p1 p2 p3) y1 = some RES) ?_ ?_
 ·intro y1 hm
  unfold Dn at hm
  refine Ak hm ?_ ?_
  ·intro h4 hm
   refine Sq (RK hnt (nn 2 []) [(8,.p (.sl .nil 0 0 (fun _ => []))),(9,pI 1)] [] tv ?_)
   refine DW.cv [] [(8,ow 100000 0)] [] [(100000,ob0 (Aw []))] (Conv.ads [(.s 8,100000,3,elems As Ar [])]) ?_
   obtain rfl := sj hm
   exact DW.ret (Am [Aw []] [100000] (.tup [ow 0 0,pI 1]))
  ·intro h4 hm
   refine Sk ?_
   obtain ⟨r5,hr5,hm⟩ := bo hm
   refine Sq (Sq (RD hnt (nn 2 (o12 [] true r5 :: nn 6 [])) [32] [(11,pB r5.2)] [] [] (an (Ii p0 p3 r5 hr5) tv) ?_))
   refine Sq (RD hnt (nn 2 []) [11] [(40,pB (!r5.2))] [] [] tv ?_)
   refine Ak hm ?_ ?_
   ·intro h6 hm
    refine Sq (RK hnt (nn 2 []) [(8,.p (.sl .nil 0 0 (fun _ => []))),(9,pI 4)] [] tv ?_)
    refine DW.cv [] [(8,ow 100000 0)] [] [(100000,ob0 (Aw []))] (Conv.ads [(.s 8,100000,3,elems As Ar [])]) ?_
    obtain rfl := sj hm
    exact DW.ret (Am [Aw []] [100000] (.tup [ow 0 0,pI 4]))
   ·intro h6 hm
    refine Sk ?_
    refine Sq (RD hnt (nn 2 []) [40] [(12,.mref 1328 0)] [] [(1328,ob0 (Fh vi (vi 0) (IMap.empty 0)))] tv ?_)
    obtain ⟨r7,hr7,hm⟩ := bo hm
    refine Sq (RD hnt (nn 2 (o17 [] true r7 :: nn 5 [])) [5] [(13,ow 1360 r7.1.length)] [1040] [(1360,ob0 (Bx r7.1))] (an (Aam p0 p1 r7 hr7) tv) ?_)
    refine Sq (Sq (RD hnt (nn 3 []) [13] [(48,ow 1360 r7.1.length),(49,pI ((r7.1.length : Nat) : Int)),(50,pI 0)] [] [] tv ?_))
    refine Bk ?_
    obtain ⟨hc1,hm⟩ := go1 hm
    refine DW.rangeO (fun (k1 : Nat) (s1 : IMap Int) => Ai [(2,.p (Ae p2)),(3,pI p3),(4,rr 1032),(12,.mref 1328 0),(48,ow 1360 r7.1.length),(49,pI ((r7.1.length : Nat) : Int)),(50,pI ((k1 : Nat) : Int))] [(1032,bx (pm (Ab p0))),(1328,ob0 (Fh vi (vi 0) s1)),(1360,ob0 (Bx r7.1))]) Cv hm Conv.eqK ?_
    intro k1 s1 n1 hk1 hs1 he1
    refine Sq (RD hnt (.no :: []) [] [(51,pB (decide (((k1 : Nat) : Int) < ((r7.1.length : Nat) : Int))))] [] [] tv ?_)
    refine Sq (Ch (decide (((k1 : Nat) : Int) < ((r7.1.length : Nat) : Int))) ?_ ?_)
    ·intro h48
     have hlt1 : k1 < r7.1.length := by have := of_decide_eq_true h48; omega
     have hm := hs1 hlt1
     unfold Mq at hm
     refine Sk ?_
     refine Sq (Bk ?_)
     refine Sq (RD hnt (nn 4 []) [51] [(16,rr 1128)] [] [(1128,bx (pm (Bg (Re r7 k1))))] (an (nn0 k1) (an (ltc hlt1) (an (by omega : k1 < r7.1.length) tv))) ?_)
     refine RD hnt (nn 5 (.asM (s1.set (Re r7 k1).group (Re r7 k1).own).has (fun j => vi ((s1.set (Re r7 k1).group (Re r7 k1).own).get j)) :: [])) [16] [] [1128] [(1328,ob0 (Fh vi (vi 0) (s1.set (Re r7 k1).group (Re r7 k1).own)))] (an (Np s1 (Re r7 k1).group (Re r7 k1).own) (an (Nh vi s1 (Re r7 k1).group (Re r7 k1).own) tv)) ?_
     refine DW.done ?_
     show DW _ _ _ _ _
     refine RD hnt (nn 2 []) [] [(50,pI (w64 (((k1 : Nat) : Int) + 1)))] [] [] tv ?_
     exact jD (s1.set (Re r7 k1).group (Re r7 k1).own) ⟨hlt1,hm⟩ (Conv.tp [(50,pI (w64 (((k1 : Nat) : Int) + 1)))] [] (by kernel_rfl) (.cons rfl (.of_eq (congrArg pI (Bj hlt1 hc1))) .nil) .nil)
    ·intro h48
     have hge1 : ¬ k1 < r7.1.length := by have := of_decide_eq_false h48; omega
     have hm := he1 hge1
     unfold Mm at hm
     refine DW.exit ?_
     refine Aj ?_
     refine Aq ?_
     refine Af ?_
     show DW _ _ _ _ _
     refine Sq (DW.cv [] [(12,.p (.mp (vi 0) s1.has (fun n => vi (s1.get n))))] [1328] [] (Conv.frz [1328]) ?_)
     obtain ⟨r50,hr50,hm⟩ := bo hm
     obtain ⟨r51,hr51,hm⟩ := bo hm
     obtain ⟨r52,hr52,hm⟩ := bo hm
     obtain ⟨r53,hr53,hm⟩ := bo hm
     refine RD hnt (nn 3 (o19 [] true r50 :: .no :: o21 [] true r51 :: nn 3 (o24 [] true r52 :: .no :: o21 [] true r53 :: nn 2 []))) [2,12,48,49,50,51] [(c5e3 r51),(c5e4 r53)] [1360] [] (an (Iu p2 r50 hr50) (an (Pv p0 s1 r50 p3 r51 hr51) (an (Ju p2 r52 hr52) (an (Pv p0 s1 r52 p3 r53 hr53) tv)))) ?_
     obtain ⟨r54,hr54,hm⟩ := bo hm
     refine Sq (RD hnt (nn 2 (o22 [] true r54 :: .no :: [])) [3,4] [(19,ow 1592 r54.length)] [1032] [(1592,ob0 (roI r54))] (an (Sj p0 p3 r54 hr54) tv) ?_)
     obtain ⟨r55,hr55,hm⟩ := bo hm
     obtain ⟨g56,hm⟩ := go1 hm
     refine Sq (RN hnt (.no :: o26 [1592] true r55 :: []) [(c5e3 r51),(c5e4 r53),(19,ow 1592 r55.length)] [(1592,ob0 (roI r55))] [(19,ow 1592 r54.length)] [] (an (Zn r54 r55 hr55) (an (⟨rfl,g56⟩ : Body.same (roI r54) (roI r55)) tv)) (by kernel_rfl) (.cons rfl (MLe.of_eq (congrArg (MV.own 1592 0 0) g56)) .nil) .nil ?_)
     refine Sq (RD hnt (.no :: []) [] [(20,.p (.sl .nil 0 0 (fun _ => [])))] [] [] tv ?_)
     refine Sq (Sq (RD hnt (nn 3 []) [19] [(77,ow 1592 r55.length),(78,pI ((r55.length : Nat) : Int)),(79,pI 0)] [] [] tv ?_))
     refine Bk ?_
     obtain ⟨hc4,hm⟩ := go1 hm
     refine DW.rangeO (fun (k4 : Nat) (s4 : List Protection) => Ai [(c5e3 r51),(c5e4 r53),(20,ow 1744 s4.length),(77,ow 1592 r55.length),(78,pI ((r55.length : Nat) : Int)),(79,pI ((k4 : Nat) : Int))] [(1592,ob0 (roI r55)),(1744,ob0 (Aw s4))]) 0 hm (Conv.ads [(.s 20,1744,3,elems As Ar [])]) ?_
     intro k4 s4 n4 hk4 hs4 he4
     refine Sq (RD hnt (.no :: []) [] [(80,pB (decide (((k4 : Nat) : Int) < ((r55.length : Nat) : Int))))] [] [] tv ?_)
     refine Sq (Ch (decide (((k4 : Nat) : Int) < ((r55.length : Nat) : Int))) ?_ ?_)
     ·intro h64
      have hlt4 : k4 < r55.length := by have := of_decide_eq_true h64; omega
      have hm := hs4 hlt4
      unfold Jw at hm
      refine Sk ?_
      refine Sq (Bk ?_)
      refine Sq (RD hnt (nn 3 []) [80] [(22,pI (r55.getD k4 0))] [] [] (an (nn0 k4) (an (ltc hlt4) (an (by omega : k4 < r55.length) tv))) ?_)
      obtain ⟨g65,hm⟩ := go1 hm
      refine RN hnt (nn 12 []) [(c5e3 r51),(c5e4 r53),(20,ow 1744 (s4 ++ [(c5e1 r55 k4 r51 r53)]).length),(77,ow 1592 r55.length),(78,pI ((r55.length : Nat) : Int)),(79,pI ((k4 : Nat) : Int))] [(1592,ob0 (roI r55)),(1744,ob0 (Aw (s4 ++ [(c5e1 r55 k4 r51 r53)])))] [(20,ow 1744 (s4.length + 1))] [(1744,.row 3 (s4.length + 1) (Da s4.length (Ih s4) (cut 3 [vi (r55.getD k4 0),vi (r51.get (r55.getD k4 0)),vi (r53.get (r55.getD k4 0))])))] (an (rfl : vi 0 = vi 0) (an (rfl : vi 0 = vi 0) (an (by omega : (s4.length + 1) * 24 ≤ 140737488355328) tv))) (by kernel_rfl) (.cons rfl (MLe.ownLen (enc := As) (d := Ar) (f := (Da s4.length (Ih s4) (cut 3 [vi (r55.getD k4 0),vi (r51.get (r55.getD k4 0)),vi (r53.get (r55.getD k4 0))]))) (RowIs.cat RowIs.elems (RowIs.lit (enc := As) (d := Ar) (n := 1) (f := (cut 3 [vi (r55.getD k4 0),vi (r51.get (r55.getD k4 0)),vi (r53.get (r55.getD k4 0))])) [(c5e1 r55 k4 r51 r53)] rfl (fun | 0,_ => rfl | n + 1,h => absurd h (by omega))))) .nil) (.cons rfl (BLe.typed (RowIs.cat RowIs.elems (RowIs.lit (enc := As) (d := Ar) (n := 1) (f := (cut 3 [vi (r55.getD k4 0),vi (r51.get (r55.getD k4 0)),vi (r53.get (r55.getD k4 0))])) [(c5e1 r55 k4 r51 r53)] rfl (fun | 0,_ => rfl | n + 1,h => absurd h (by omega))))) .nil) ?_
      refine DW.done ?_
      show DW _ _ _ _ _
      refine RD hnt (nn 2 []) [] [(79,pI (w64 (((k4 : Nat) : Int) + 1)))] [] [] tv ?_
      exact jD (s4 ++ [(c5e1 r55 k4 r51 r53)]) ⟨hlt4,hm⟩ (Conv.tp [(79,pI (w64 (((k4 : Nat) : Int) + 1)))] [] (by kernel_rfl) (.cons rfl (.of_eq (congrArg pI (Bj hlt4 hc4))) .nil) .nil)
     ·intro h64
      have hge4 : ¬ k4 < r55.length := by have := of_decide_eq_false h64; omega
      have hm := he4 hge4
      unfold Mo at hm
      refine DW.exit ?_
      refine Aj ?_
      refine Aq ?_
      refine Af ?_
      show DW _ _ _ _ _
      refine Sq (RK hnt (nn 3 []) [(8,ow 1744 s4.length),(9,pI 0)] [(1744,ob0 (Aw s4))] tv ?_)
      obtain rfl := sj hm
      exact DW.ret (Am [Aw s4] [1744] (.tup [ow 0 s4.length,pI 0]))
 ·rcases bt (!r1) with h2 | h2
  ·replace hm := Az h2 hm
   refine RD hnt (nn 2 (o6 [] true r1 :: nn 2 (sk 4 (pT :: [])))) [] [(32,pB true)] [] [] (an (Oj p0 p1 r1 hr1) (an5 h2 tv)) ?_
   exact jD true hm Conv.eqK
  ·replace hm := Ba h2 hm
   obtain ⟨r3,hr3,hm⟩ := bo hm
   refine RD hnt (nn 2 (o6 [] true r1 :: nn 4 (o16 [] true r3 :: .no :: pF :: []))) [] [(32,pB (!r3))] [] [] (an (Oj p0 p1 r1 hr1) (an3 h2 (an (Fn p0 p2 r3 hr3) (an2 h2 tv)))) ?_
   exact jD (!r3) hm Conv.eqK
abbrev o5 (ks : List Nat) (b : Bool) (RES : (List Protection) × Int) : Orc := .call 25 ks b (.tup [ow 0 RES.1.length,pI RES.2]) [] [Aw RES.1]

theorem Yz (p0 : Aa) (p1 : Int) (RES : List Int) (hm : Js p0 p1 = some RES) : Spec Try.prog 78 [.p (.agg (Ab p0)),pI p1] [] (ow 0 RES.length) [] [roI RES] := by
 unfold Js at hm
 refine SO Try.func78 rfl rfl [(0,.p (.agg (Ab p0))),(1,pI p1)] [] ?_
 intro cx hnt
 refine Sq (RK hnt (nn 2 []) [(1,pI p1),(2,rr 1016)] [(1016,bx (pm (Ab p0)))] tv ?_)
 refine Sq (RD hnt (.no :: []) [] [(5,.p (.sl .nil 0 0 (fun _ => [])))] [] [] tv ?_)
 refine Sq (Sq (RD hnt (nn 4 []) [] [(10,pI ((p0.nodes.length : Nat) : Int)),(11,pI 0)] [] [] tv ?_))
 refine Jn (ι := List Int) (fun (y1 : List Int) => Ai [(5,ow 1192 y1.length)] [(1192,ob0 (roI y1))]) (fun y1 => Ia y1 = some RES) ?_ ?_
 ·intro y1 hm
  unfold Ia at hm
  refine Sq (RD hnt (nn 2 []) [5] [(4,ow 1192 y1.length)] [] [] tv ?_)
  obtain rfl := sj hm
  exact DW.ret (Am [roI y1] [1192] (ow 0 y1.length))
 ·refine Bk ?_
  obtain ⟨hc1,hm⟩ := go1 hm
  refine DW.rangeO (fun (k1 : Nat) (s1 : (List Int) × Int) => Ai [(1,pI s1.2),(2,rr 1016),(5,ow 1192 s1.1.length),(10,pI ((p0.nodes.length : Nat) : Int)),(11,pI ((k1 : Nat) : Int))] [(1016,bx (pm (Ab p0))),(1192,ob0 (roI s1.1))]) Br hm (Conv.ads [(.s 5,1192,1,elems Bm 0 [])]) ?_
  intro k1 s1 n1 hk1 hs1 he1
  refine Sq (RD hnt (.no :: []) [] [(12,pB (decide (((k1 : Nat) : Int) < ((p0.nodes.length : Nat) : Int))))] [] [] tv ?_)
  refine Sq (Ch (decide (((k1 : Nat) : Int) < ((p0.nodes.length : Nat) : Int))) ?_ ?_)
  ·intro h8
   have hlt1 : k1 < p0.nodes.length := by have := of_decide_eq_true h8; omega
   have hm := hs1 hlt1
   unfold Nu at hm
   refine Sk ?_
   refine Sq (Bk ?_)
   obtain ⟨r9,hr9,hm⟩ := bo hm
   refine Sq (RD hnt (nn 2 (o12 [] true r9 :: nn 6 [])) [12] [(6,rr 1048),(7,pB r9.2)] [] [(1048,bx (pm (Ax r9.1)))] (an (Ii p0 s1.2 r9 hr9) tv) ?_)
   refine Sq (Sq (RD hnt (nn 2 []) [7] [(20,pB (!r9.2))] [] [] tv ?_))
   refine Ak hm ?_ ?_
   ·intro h10 hm
    refine DW.exit ?_
    refine Lf (by decide) ?_
    refine Aq ?_
    refine Aj ?_
    refine Aq ?_
    exact Af (Acd s1.1 hm Conv.t0)
   ·intro h10 hm
    refine Sk ?_
    obtain ⟨g11,hm⟩ := go1 hm
    refine Sq (RN hnt (nn 5 []) [(2,rr 1016),(5,ow 1192 (s1.1 ++ [s1.2]).length),(6,rr 1048),(10,pI ((p0.nodes.length : Nat) : Int)),(11,pI ((k1 : Nat) : Int))] [(1016,bx (pm (Ab p0))),(1048,bx (pm (Ax r9.1))),(1192,ob0 (roI (s1.1 ++ [s1.2])))] [(5,ow 1192 (s1.1.length + 1))] [(1192,.row 1 (s1.1.length + 1) (Da s1.1.length (elI s1.1) (cut 1 [vi s1.2])))] (an (by omega : (s1.1.length + 1) * 8 ≤ 140737488355328) tv) (by kernel_rfl) (.cons rfl (MLe.ownLen (enc := Bm) (d := 0) (f := (Da s1.1.length (elI s1.1) (cut 1 [vi s1.2]))) (RowIs.cat RowIs.elems (RowIs.lit (enc := Bm) (d := 0) (n := 1) (f := (cut 1 [vi s1.2])) [s1.2] rfl (fun | 0,_ => rfl | n + 1,h => absurd h (by omega))))) .nil) (.cons rfl (BLe.typed (RowIs.cat RowIs.elems (RowIs.lit (enc := Bm) (d := 0) (n := 1) (f := (cut 1 [vi s1.2])) [s1.2] rfl (fun | 0,_ => rfl | n + 1,h => absurd h (by omega))))) .nil) ?_)
    refine RD hnt (nn 3 []) [6] [(1,pI r9.1.parent)] [1048] [] tv ?_
    refine DW.done ?_
    show DW _ _ _ _ _
    refine RD hnt (nn 2 []) [] [(11,pI (w64 (((k1 : Nat) : Int) + 1)))] [] [] tv ?_
    exact jD ((s1.1 ++ [s1.2]),r9.1.parent) ⟨hlt1,hm⟩ (Conv.tp [(11,pI (w64 (((k1 : Nat) : Int) + 1)))] [] (by kernel_rfl) (.cons rfl (.of_eq (congrArg pI (Bj hlt1 hc1))) .nil) .nil)
  ·intro h8
   have hge1 : ¬ k1 < p0.nodes.length := by have := of_decide_eq_false h8; omega
   have hm := he1 hge1
   unfold Sn at hm
   refine DW.exit ?_
   refine Aj ?_
   refine Aq ?_
   exact Af (Acd s1.1 hm Conv.t0)
abbrev o48 (ks : List Nat) (b : Bool) (RES : List Int) : Orc := .call 78 ks b (ow 0 RES.length) [] [roI RES]

abbrev c47e1 (p1 : IMap Int) : Nat × MV := (1,.p (.mp (vi 0) p1.has (fun n => vi (p1.get n))))
abbrev c47e2 (r1 : List Int) : Nat × MV := (26,pI ((r1.length : Nat) : Int))
abbrev c47e3 (p0 : Aa) : Nat × Obj := (1032,bx (pm (Ab p0)))
theorem Tk (p0 : Aa) (p1 : IMap Int) (p2 : Int) (p3 : Int) (RES : Int) (hm : Kb p0 p1 p2 p3 = some RES) : Spec Try.prog 53 [.p (.agg (Ab p0)),.p (.mp (vi 0) p1.has (fun n => vi (p1.get n))),pI p2,pI p3] [] (pI RES) [] [] := by
 unfold Kb at hm
 refine SO Try.func53 rfl rfl [(0,.p (.agg (Ab p0))),(c47e1 p1),(2,pI p2),(3,pI p3)] [] ?_
 intro cx hnt
 refine Sq (RD hnt (nn 2 []) [0] [(4,rr 1032)] [] [(c47e3 p0)] tv ?_)
 refine Sq (RD hnt (nn 6 []) [3] [(9,pI (Ck p3 (p1.get p2)))] [] [] (an (rfl : vi 0 = vi 0) tv) ?_)
 obtain ⟨r1,hr1,hm⟩ := bo hm
 refine Sq (Sq (RD hnt (nn 2 (o48 [] true r1 :: nn 2 [])) [2] [(25,ow 1200 r1.length),(c47e2 r1),(27,pI 0)] [] [(1200,ob0 (roI r1))] (an (Yz p0 p2 r1 hr1) tv) ?_))
 refine Bk ?_
 obtain ⟨hc1,hm⟩ := go1 hm
 refine DW.rangeO (fun (k1 : Nat) (s1 : Int) => Ai [(c47e1 p1),(4,rr 1032),(9,pI s1),(25,ow 1200 r1.length),(c47e2 r1),(27,pI ((k1 : Nat) : Int))] [(c47e3 p0),(1200,ob0 (roI r1))]) 0 hm Conv.eqK ?_
 intro k1 s1 n1 hk1 hs1 he1
 refine Sq (RD hnt (.no :: []) [] [(28,pB (decide (((k1 : Nat) : Int) < ((r1.length : Nat) : Int))))] [] [] tv ?_)
 refine Sq (Ch (decide (((k1 : Nat) : Int) < ((r1.length : Nat) : Int))) ?_ ?_)
 ·intro h40
  have hlt1 : k1 < r1.length := by have := of_decide_eq_true h40; omega
  have hm := hs1 hlt1
  unfold Kf at hm
  refine Sk ?_
  refine Sq ?_
  refine Jn (ι := Int) (fun (y3 : Int) => Ai [(c47e1 p1),(4,rr 1032),(9,pI y3),(25,ow 1200 r1.length),(c47e2 r1),(27,pI ((k1 : Nat) : Int))] [(c47e3 p0),(1200,ob0 (roI r1))]) (fun y3 => (Hh n1) y3 = some RES) ?_ ?_
  ·intro y3 hm
   unfold Hh at hm
   refine RD hnt (nn 2 []) [] [(27,pI (w64 (((k1 : Nat) : Int) + 1)))] [] [] tv ?_
   exact jD y3 ⟨hlt1,hm⟩ (Conv.tp [(27,pI (w64 (((k1 : Nat) : Int) + 1)))] [] (by kernel_rfl) (.cons rfl (.of_eq (congrArg pI (Bj hlt1 hc1))) .nil) .nil)
  ·refine Bk ?_
   refine Sq (RD hnt (nn 3 []) [28] [(11,pI (r1.getD k1 0))] [] [] (an (nn0 k1) (an (ltc hlt1) (an (by omega : k1 < r1.length) tv))) ?_)
   obtain ⟨r41,hr41,hm⟩ := bo hm
   refine Sq (RD hnt (nn 2 (o12 [] true r41 :: nn 6 [])) [11] [(12,rr 1096)] [] [(1096,bx (pm (Ax r41.1)))] (an (Ii p0 (r1.getD k1 0) r41 hr41) tv) ?_)
   refine Sq (Sq (DW.regJ (sl2 := [(c47e1 p1),(4,rr 1032),(9,pI s1),(12,rr 1096),(25,ow 1200 r1.length),(c47e2 r1),(27,pI ((k1 : Nat) : Int)),(44,pB ((r41.1.parent == 0) || (r41.1.parent == 1)))]) (ob2 := [(c47e3 p0),(1096,bx (pm (Ax r41.1))),(1200,ob0 (roI r1))]) ?_ ?_))
   ·rcases bt (r41.1.parent == 0) with h42 | h42
    ·exact RT hnt (nn 4 (sk 3 (pT :: []))) [(44,pB true)] (an4 h42 tv) (by kernel_rfl) (.cons rfl (.of_eq (by rw [h42]; try rfl)) .nil)
    ·exact RT hnt (nn 7 (pF :: [])) [(44,pB (r41.1.parent == 1))] (an4 h42 tv) (by kernel_rfl) (.cons rfl (.of_eq (by rw [h42]; try rfl)) .nil)
   ·refine Ak hm ?_ ?_
    ·intro h43 hm
     refine DW.exit ?_
     exact Af (Acd s1 hm Conv.t0)
    ·intro h43 hm
     refine Sk ?_
     refine Sq (RD hnt (.no :: []) [44] [(14,pI 0)] [] [] tv ?_)
     obtain ⟨r44,hr44,hm⟩ := bo hm
     refine Sq (Sq (RD hnt (nn 3 (o23 [] true r44 :: nn 2 [])) [] [(48,ow 1384 r44.length),(49,pI ((r44.length : Nat) : Int)),(50,pI 0)] [] [(1384,ob0 (roI r44))] (an (Ms p0 r41.1.parent r44 hr44) tv) ?_))
     refine Bk ?_
     obtain ⟨hc4,hm⟩ := go1 hm
     refine DW.rangeO (fun (k4 : Nat) (s4 : Int) => Ai [(c47e1 p1),(4,rr 1032),(9,pI s1),(12,rr 1096),(14,pI s4),(25,ow 1200 r1.length),(c47e2 r1),(27,pI ((k1 : Nat) : Int)),(48,ow 1384 r44.length),(49,pI ((r44.length : Nat) : Int)),(50,pI ((k4 : Nat) : Int))] [(c47e3 p0),(1096,bx (pm (Ax r41.1))),(1200,ob0 (roI r1)),(1384,ob0 (roI r44))]) 0 hm Conv.eqK ?_
     intro k4 s4 n4 hk4 hs4 he4
     refine Sq (RD hnt (.no :: []) [] [(51,pB (decide (((k4 : Nat) : Int) < ((r44.length : Nat) : Int))))] [] [] tv ?_)
     refine Sq (Ch (decide (((k4 : Nat) : Int) < ((r44.length : Nat) : Int))) ?_ ?_)
     ·intro h54
      have hlt4 : k4 < r44.length := by have := of_decide_eq_true h54; omega
      have hm := hs4 hlt4
      unfold Qo at hm
      refine Sk ?_
      refine Sq (Bk ?_)
      refine Sq (RD hnt (nn 3 []) [51] [(16,pI (r44.getD k4 0))] [] [] (an (nn0 k4) (an (ltc hlt4) (an (by omega : k4 < r44.length) tv))) ?_)
      refine RD hnt (nn 6 []) [16] [(14,pI (w64 (s4 + (p1.get (r44.getD k4 0)))))] [] [] (an (rfl : vi 0 = vi 0) tv) ?_
      refine DW.done ?_
      show DW _ _ _ _ _
      refine RD hnt (nn 2 []) [] [(50,pI (w64 (((k4 : Nat) : Int) + 1)))] [] [] tv ?_
      exact jD (w64 (s4 + (p1.get (r44.getD k4 0)))) ⟨hlt4,hm⟩ (Conv.tp [(50,pI (w64 (((k4 : Nat) : Int) + 1)))] [] (by kernel_rfl) (.cons rfl (.of_eq (congrArg pI (Bj hlt4 hc4))) .nil) .nil)
     ·intro h54
      have hge4 : ¬ k4 < r44.length := by have := of_decide_eq_false h54; omega
      have hm := he4 hge4
      unfold Qk at hm
      refine DW.exit ?_
      refine Aj ?_
      refine Aq ?_
      refine Af ?_
      show DW _ _ _ _ _
      refine Sq (RD hnt (nn 5 []) [12,48,49,50,51] [(17,pI (p1.get r41.1.parent))] [1096,1384] [] (an (rfl : vi 0 = vi 0) tv) ?_)
      refine Sq (RD hnt (nn 3 []) [] [(66,pB (decide (s4 > (p1.get r41.1.parent))))] [] [] tv ?_)
      refine Ak hm ?_ ?_
      ·intro h55 hm
       obtain ⟨g56,hm⟩ := go1 hm
       refine RD hnt (nn 6 []) [14,17,66] [(9,pI (w64 (Int.tdiv (w64 (s1 * (p1.get r41.1.parent))) s4)))] [] [] (an g56 tv) ?_
       exact bD (w64 (Int.tdiv (w64 (s1 * (p1.get r41.1.parent))) s4)) hm Conv.eqK
      ·intro h55 hm
       refine Sk ?_
       exact bD s1 hm Conv.t0
 ·intro h40
  have hge1 : ¬ k1 < r1.length := by have := of_decide_eq_false h40; omega
  have hm := he1 hge1
  unfold Nb at hm
  refine DW.exit ?_
  refine Aj ?_
  refine Aq ?_
  refine Af ?_
  show DW _ _ _ _ _
  refine Sq (RK hnt (nn 2 []) [(8,pI s1)] [] tv ?_)
  obtain rfl := sj hm
  exact DW.ret (Am [] [] (pI s1))
abbrev o47 (ks : List Nat) (b : Bool) (RES : Int) : Orc := .call 53 ks b (pI RES) [] []

theorem Tj (p0 : Aa) (p1 : List Protection) (p2 : Int) (p3 : Int) (RES : Int × Int × Int) (hm : En p0 p1 p2 p3 = some RES) : Spec Try.prog 26 [.p (.agg (Ab p0)),.p (Ae p1),pI p2,pI p3] [] (.p (.tup [vi RES.1,vi RES.2.1,vi RES.2.2])) [] [] := by
 unfold En at hm
 refine SO Try.func26 rfl rfl [(0,.p (.agg (Ab p0))),(1,.p (Ae p1)),(2,pI p2),(3,pI p3)] [] ?_
 intro cx hnt
 refine Sq (RD hnt (nn 4 []) [0] [(4,rr 1032)] [] [(1032,bx (pm (Ab p0)))] tv ?_)
 obtain ⟨r1,hr1,hm⟩ := bo hm
 refine Sq (Sq (RD hnt (nn 2 (o16 [] true r1 :: .no :: [])) [] [(16,pB (!r1))] [] [] (an (Fn p0 p1 r1 hr1) tv) ?_))
 refine Ak hm ?_ ?_
 ·intro h2 hm
  refine Sq (RK hnt (nn 3 []) [(8,pI 0),(9,pI 0),(10,pI 1)] [] tv ?_)
  obtain rfl := sj hm
  exact DW.ret (Am [] [] (.p (.tup [vi 0,vi 0,vi 1])))
 ·intro h2 hm
  refine Sk ?_
  obtain ⟨r3,hr3,hm⟩ := bo hm
  refine Sq (Sq (RD hnt (nn 2 (o12 [] true r3 :: nn 6 [])) [16] [(12,pB r3.2)] [] [] (an (Ii p0 p2 r3 hr3) tv) ?_))
  refine Sq (RD hnt (nn 2 []) [12] [(24,pB (!r3.2))] [] [] tv ?_)
  refine Ak hm ?_ ?_
  ·intro h4 hm
   refine Sq (RK hnt (nn 3 []) [(8,pI 0),(9,pI 0),(10,pI 4)] [] tv ?_)
   obtain rfl := sj hm
   exact DW.ret (Am [] [] (.p (.tup [vi 0,vi 0,vi 4])))
  ·intro h4 hm
   refine Sk ?_
   refine Sq (Sq (DW.regJ (sl2 := [(1,.p (Ae p1)),(2,pI p2),(3,pI p3),(4,rr 1032),(30,pB ((decide (p3 < 0)) || (decide (p3 > 16777216))))]) (ob2 := [(1032,bx (pm (Ab p0)))]) ?_ ?_))
   ·rcases bt (decide (p3 < 0)) with h5 | h5
    ·exact RT hnt (nn 3 (sk 2 (pT :: []))) [(30,pB true)] (an3 h5 tv) (by kernel_rfl) (.cons rfl (.of_eq (by rw [h5]; try rfl)) .nil)
    ·exact RT hnt (nn 5 (pF :: [])) [(30,pB (decide (p3 > 16777216)))] (an3 h5 tv) (by kernel_rfl) (.cons rfl (.of_eq (by rw [h5]; try rfl)) .nil)
   ·refine Ak hm ?_ ?_
    ·intro h6 hm
     refine Sq (RK hnt (nn 3 []) [(8,pI 0),(9,pI 0),(10,pI 3)] [] tv ?_)
     obtain rfl := sj hm
     exact DW.ret (Am [] [] (.p (.tup [vi 0,vi 0,vi 3])))
    ·intro h6 hm
     refine Sk ?_
     obtain ⟨r7,hr7,hm⟩ := bo hm
     obtain ⟨r8,hr8,hm⟩ := bo hm
     obtain ⟨r9,hr9,hm⟩ := bo hm
     obtain ⟨r10,hr10,hm⟩ := bo hm
     refine Sq (RK hnt (nn 2 (o19 [] true r7 :: nn 2 (o47 [] true r8 :: nn 2 (o24 [] true r9 :: nn 2 (o47 [] true r10 :: nn 3 []))))) [(8,pI r8),(9,pI r10),(10,pI 0)] [] (an (Iu p1 r7 hr7) (an (Tk p0 r7 p2 p3 r8 hr8) (an (Ju p1 r9 hr9) (an (Tk p0 r9 p2 p3 r10 hr10) tv)))) ?_)
     obtain rfl := sj hm
     exact DW.ret (Am [] [] (.p (.tup [vi r8,vi r10,vi 0])))
abbrev o46 (ks : List Nat) (b : Bool) (RES : Int × Int × Int) : Orc := .call 26 ks b (.p (.tup [vi RES.1,vi RES.2.1,vi RES.2.2])) [] []

abbrev c3e1 := ({ group := 2,min := 100,low := 0 } : Protection)
abbrev c3e2 := ({ group := 3,min := 100,low := 0 } : Protection)
abbrev c3e3 := ({ group := 4,min := 100,low := 0 } : Protection)
abbrev c3e4 := ({ group := 4,own := 100 } : Ah)
theorem Xs (RES : Bool) (hm : Nw = some RES) : Spec Try.prog 6 [] [] (pB RES) [] [] := by
 unfold Nw at hm
 refine SO Try.func6 rfl rfl [] [] ?_
 intro cx hnt
 refine Sq (RK hnt (.no :: []) [] [] tv ?_)
 obtain ⟨r1,hr1,hm⟩ := bo hm
 refine Sq (RK hnt (o4 [] true r1 :: nn 2 []) [(1,rr 1008)] [(1008,bx [ow 1080 r1.nodes.length,pI r1.next]),(1080,ob0 (Bs r1.nodes))] (an (Acz r1 hr1) tv) ?_)
 refine Sq (RN hnt (nn 5 []) [(1,rr 1008),(2,ow 1112 [(c3e1),(c3e2),(c3e3)].length)] [(1008,bx [ow 1080 r1.nodes.length,pI r1.next]),(1080,ob0 (Bs r1.nodes)),(1112,ob0 (Aw [(c3e1),(c3e2),(c3e3)]))] [(2,ow 1112 3)] [(1112,.row 3 3 (cut 3 [vi 2,vi 100,vi 0,vi 3,vi 100,vi 0,vi 4,vi 100,vi 0]))] tv (by kernel_rfl) (.cons rfl (MLe.ownLen (enc := As) (d := Ar) (f := (cut 3 [vi 2,vi 100,vi 0,vi 3,vi 100,vi 0,vi 4,vi 100,vi 0])) (RowIs.lit (enc := As) (d := Ar) (n := 3) (f := (cut 3 [vi 2,vi 100,vi 0,vi 3,vi 100,vi 0,vi 4,vi 100,vi 0])) [(c3e1),(c3e2),(c3e3)] rfl (fun | 0,_ => rfl | 1,_ => rfl | 2,_ => rfl | n + 3,h => absurd h (by omega)))) .nil) (.cons rfl (BLe.typed (RowIs.lit (enc := As) (d := Ar) (n := 3) (f := (cut 3 [vi 2,vi 100,vi 0,vi 3,vi 100,vi 0,vi 4,vi 100,vi 0])) [(c3e1),(c3e2),(c3e3)] rfl (fun | 0,_ => rfl | 1,_ => rfl | 2,_ => rfl | n + 3,h => absurd h (by omega)))) .nil) ?_)
 refine Sq (DW.cv [] [] [1080] [(1008,bx (pm (Ab r1)))] (Conv.frz [1080]) ?_)
 refine DW.cv [] [(2,.p (Ae [(c3e1),(c3e2),(c3e3)]))] [1112] [] (Conv.frz [1112]) ?_
 obtain ⟨r4,hr4,hm⟩ := bo hm
 refine RD hnt (nn 6 (o5 [] false r4 :: nn 5 [])) [] [(3,ow 1176 r4.1.length),(4,pI r4.2)] [] [(1176,ob0 (Aw r4.1))] (an (Spec.args (xs := [.p (.agg (Ab r1)),.p (.agg [.sl .unk 2 2 (cut 2 [vi 3,vi 200,vi 4,vi 100])]),.p (Ae [(c3e1),(c3e2),(c3e3)]),pI 1]) (Ky r1 ({ charges := [({ group := 3,own := 200 } : Ah),(c3e4)] } : Ag) [(c3e1),(c3e2),(c3e3)] 1 r4 hr4) (.cons .rfl (.cons (.p (.agg (.cons (PLe.typed (RowIs.lit (enc := Bg) (d := Cv) (n := 2) (f := (cut 2 [vi 3,vi 200,vi 4,vi 100])) [({ group := 3,own := 200 } : Ah),(c3e4)] rfl (fun | 0,_ => rfl | 1,_ => rfl | n + 2,h => absurd h (by omega)))) .nil))) (.cons .rfl (.cons .rfl .nil))))) tv) ?_
 obtain ⟨r5,hr5,hm⟩ := bo hm
 refine Sq (RD hnt (nn 6 (o5 [] false r5 :: nn 5 [])) [] [(5,ow 1256 r5.1.length),(6,pI r5.2)] [] [(1256,ob0 (Aw r5.1))] (an (Spec.args (xs := [.p (.agg (Ab r1)),.p (.agg [.sl .unk 2 2 (cut 2 [vi 3,vi 50,vi 4,vi 100])]),.p (Ae [(c3e1),(c3e2),(c3e3)]),pI 1]) (Ky r1 ({ charges := [({ group := 3,own := 50 } : Ah),(c3e4)] } : Ag) [(c3e1),(c3e2),(c3e3)] 1 r5 hr5) (.cons .rfl (.cons (.p (.agg (.cons (PLe.typed (RowIs.lit (enc := Bg) (d := Cv) (n := 2) (f := (cut 2 [vi 3,vi 50,vi 4,vi 100])) [({ group := 3,own := 50 } : Ah),(c3e4)] rfl (fun | 0,_ => rfl | 1,_ => rfl | n + 2,h => absurd h (by omega)))) .nil))) (.cons .rfl (.cons .rfl .nil))))) tv) ?_)
 obtain ⟨r6,hr6,hm⟩ := bo hm
 refine Sq (RD hnt (nn 2 (o46 [] true r6 :: nn 7 [])) [1,2] [(7,pI r6.1),(8,pI r6.2.1),(9,pI r6.2.2)] [1008] [] (an (Tj r1 [(c3e1),(c3e2),(c3e3)] 3 50 r6 hr6) tv) ?_)
 refine Sq ?_
 refine Jn (ι := Bool) (fun (y1 : Bool) => Ai [(0,pB y1)] []) (fun y1 => Ea y1 = some RES) ?_ ?_
 ·intro y1 hm
  unfold Ea at hm
  obtain rfl := sj hm
  exact DW.ret (Am [] [] (pB y1))
 ·rcases bt (r4.2 == 0) with h7 | h7
  ·replace hm := Az h7 hm
   rcases bt (r5.2 == 0) with h8 | h8
   ·replace hm := Az h8 hm
    rcases bt (r6.2.2 == 0) with h9 | h9
    ·replace hm := Az h9 hm
     rcases bt (r6.1 == 25) with h10 | h10
     ·replace hm := Az h10 hm
      rcases bt (r6.2.1 == 0) with h11 | h11
      ·replace hm := Az h11 hm
       rcases bt (((r4.1.length : Nat) : Int) == 4) with h12 | h12
       ·replace hm := Az h12 hm
        obtain ⟨g13,g14,hm⟩ := go2 hm
        rcases bt ((r4.1.getD 1 Ar).min == 100) with h15 | h15
        ·replace hm := Az h15 hm
         obtain ⟨g16,g17,hm⟩ := go2 hm
         rcases bt ((r4.1.getD 2 Ar).min == 50) with h18 | h18
         ·replace hm := Az h18 hm
          obtain ⟨g19,g20,hm⟩ := go2 hm
          rcases bt ((r4.1.getD 3 Ar).min == 50) with h21 | h21
          ·replace hm := Az h21 hm
           rcases bt (((r5.1.length : Nat) : Int) == 4) with h22 | h22
           ·replace hm := Az h22 hm
            obtain ⟨g23,g24,hm⟩ := go2 hm
            rcases bt ((r5.1.getD 2 Ar).min == 33) with h25 | h25
            ·replace hm := Az h25 hm
             obtain ⟨g26,g27,hm⟩ := go2 hm
             refine RK hnt (nn 5 (pT :: nn 3 (pT :: nn 3 (pT :: nn 3 (pT :: nn 4 (pT :: nn 6 (pT :: nn 6 (pT :: nn 6 (pT :: nn 4 (pT :: nn 6 (pT :: nn 6 (pT :: .no :: [])))))))))))) [(0,pB ((r5.1.getD 3 Ar).min == 66))] [] (an3 h7 (an3 h8 (an3 h9 (an3 h10 (an4 h11 (an2 h12 (an (nn0 1) (an (ltc g13) (an2 h12 (an g14 (an2 h12 (an2 h15 (an (nn0 2) (an (ltc g16) (an2 h15 (an g17 (an2 h15 (an2 h18 (an (nn0 3) (an (ltc g19) (an2 h18 (an g20 (an2 h18 (an4 h21 (an2 h22 (an (nn0 2) (an (ltc g23) (an2 h22 (an g24 (an2 h22 (an2 h25 (an (nn0 3) (an (ltc g26) (an2 h25 (an g27 (an2 h25 tv)))))))))))))))))))))))))))))))))))) ?_
             exact jD ((r5.1.getD 3 Ar).min == 66) hm .refl
            ·replace hm := Ba h25 hm
             refine RK hnt (nn 5 (pT :: nn 3 (pT :: nn 3 (pT :: nn 3 (pT :: nn 4 (pT :: nn 6 (pT :: nn 6 (pT :: nn 6 (pT :: nn 4 (pT :: nn 6 (pT :: .no :: sk 5 (pF :: .no :: [])))))))))))) [(0,pB false)] [] (an3 h7 (an3 h8 (an3 h9 (an3 h10 (an4 h11 (an2 h12 (an (nn0 1) (an (ltc g13) (an2 h12 (an g14 (an2 h12 (an2 h15 (an (nn0 2) (an (ltc g16) (an2 h15 (an g17 (an2 h15 (an2 h18 (an (nn0 3) (an (ltc g19) (an2 h18 (an g20 (an2 h18 (an4 h21 (an2 h22 (an (nn0 2) (an (ltc g23) (an2 h22 (an g24 (an2 h22 (an6 h25 tv))))))))))))))))))))))))))))))) ?_
             exact jD false hm .refl
           ·replace hm := Ba h22 hm
            refine RK hnt (nn 5 (pT :: nn 3 (pT :: nn 3 (pT :: nn 3 (pT :: nn 4 (pT :: nn 6 (pT :: nn 6 (pT :: nn 6 (pT :: nn 4 (pT :: .no :: sk 5 (pF :: .no :: sk 5 (pF :: .no :: [])))))))))))) [(0,pB false)] [] (an3 h7 (an3 h8 (an3 h9 (an3 h10 (an4 h11 (an2 h12 (an (nn0 1) (an (ltc g13) (an2 h12 (an g14 (an2 h12 (an2 h15 (an (nn0 2) (an (ltc g16) (an2 h15 (an g17 (an2 h15 (an2 h18 (an (nn0 3) (an (ltc g19) (an2 h18 (an g20 (an2 h18 (an4 h21 (an6 h22 (an6 ff tv)))))))))))))))))))))))))) ?_
            exact jD false hm .refl
          ·replace hm := Ba h21 hm
           refine RK hnt (nn 5 (pT :: nn 3 (pT :: nn 3 (pT :: nn 3 (pT :: nn 4 (pT :: nn 6 (pT :: nn 6 (pT :: nn 6 (pT :: .no :: sk 3 (pF :: .no :: sk 5 (pF :: .no :: sk 5 (pF :: .no :: [])))))))))))) [(0,pB false)] [] (an3 h7 (an3 h8 (an3 h9 (an3 h10 (an4 h11 (an2 h12 (an (nn0 1) (an (ltc g13) (an2 h12 (an g14 (an2 h12 (an2 h15 (an (nn0 2) (an (ltc g16) (an2 h15 (an g17 (an2 h15 (an2 h18 (an (nn0 3) (an (ltc g19) (an2 h18 (an g20 (an2 h18 (an4 h21 (an6 ff (an6 ff tv)))))))))))))))))))))))))) ?_
           exact jD false hm .refl
         ·replace hm := Ba h18 hm
          refine RK hnt (nn 5 (pT :: nn 3 (pT :: nn 3 (pT :: nn 3 (pT :: nn 4 (pT :: nn 6 (pT :: nn 6 (pT :: .no :: sk 5 (pF :: .no :: sk 3 (pF :: .no :: sk 5 (pF :: .no :: sk 5 (pF :: .no :: [])))))))))))) [(0,pB false)] [] (an3 h7 (an3 h8 (an3 h9 (an3 h10 (an4 h11 (an2 h12 (an (nn0 1) (an (ltc g13) (an2 h12 (an g14 (an2 h12 (an2 h15 (an (nn0 2) (an (ltc g16) (an2 h15 (an g17 (an2 h15 (an6 h18 (an4 ff (an6 ff (an6 ff tv))))))))))))))))))))) ?_
          exact jD false hm .refl
        ·replace hm := Ba h15 hm
         refine RK hnt (nn 5 (pT :: nn 3 (pT :: nn 3 (pT :: nn 3 (pT :: nn 4 (pT :: nn 6 (pT :: .no :: sk 5 (pF :: .no :: sk 5 (pF :: .no :: sk 3 (pF :: .no :: sk 5 (pF :: .no :: sk 5 (pF :: .no :: [])))))))))))) [(0,pB false)] [] (an3 h7 (an3 h8 (an3 h9 (an3 h10 (an4 h11 (an2 h12 (an (nn0 1) (an (ltc g13) (an2 h12 (an g14 (an2 h12 (an6 h15 (an4 ff (an6 ff (an6 ff (an6 ff tv)))))))))))))))) ?_
         exact jD false hm .refl
       ·replace hm := Ba h12 hm
        refine RK hnt (nn 5 (pT :: nn 3 (pT :: nn 3 (pT :: nn 3 (pT :: nn 4 (pT :: .no :: sk 5 (pF :: .no :: sk 5 (pF :: .no :: sk 5 (pF :: .no :: sk 3 (pF :: .no :: sk 5 (pF :: .no :: sk 5 (pF :: .no :: [])))))))))))) [(0,pB false)] [] (an3 h7 (an3 h8 (an3 h9 (an3 h10 (an4 h11 (an6 h12 (an4 ff (an6 ff (an6 ff (an6 ff (an6 ff tv))))))))))) ?_
        exact jD false hm .refl
      ·replace hm := Ba h11 hm
       refine RK hnt (nn 5 (pT :: nn 3 (pT :: nn 3 (pT :: nn 3 (pT :: .no :: sk 3 (pF :: .no :: sk 5 (pF :: .no :: sk 5 (pF :: .no :: sk 5 (pF :: .no :: sk 3 (pF :: .no :: sk 5 (pF :: .no :: sk 5 (pF :: .no :: [])))))))))))) [(0,pB false)] [] (an3 h7 (an3 h8 (an3 h9 (an3 h10 (an4 h11 (an4 ff (an6 ff (an6 ff (an6 ff (an6 ff (an6 ff tv))))))))))) ?_
       exact jD false hm .refl
     ·replace hm := Ba h10 hm
      refine RK hnt (nn 5 (pT :: nn 3 (pT :: nn 3 (pT :: .no :: sk 2 (pF :: .no :: sk 3 (pF :: .no :: sk 5 (pF :: .no :: sk 5 (pF :: .no :: sk 5 (pF :: .no :: sk 3 (pF :: .no :: sk 5 (pF :: .no :: sk 5 (pF :: .no :: [])))))))))))) [(0,pB false)] [] (an3 h7 (an3 h8 (an3 h9 (an3 h10 (an2 ff (an6 ff (an6 ff (an6 ff (an6 ff (an6 ff (an6 ff tv))))))))))) ?_
      exact jD false hm .refl
    ·replace hm := Ba h9 hm
     refine RK hnt (nn 5 (pT :: nn 3 (pT :: .no :: sk 2 (pF :: .no :: sk 2 (pF :: .no :: sk 3 (pF :: .no :: sk 5 (pF :: .no :: sk 5 (pF :: .no :: sk 5 (pF :: .no :: sk 3 (pF :: .no :: sk 5 (pF :: .no :: sk 5 (pF :: .no :: [])))))))))))) [(0,pB false)] [] (an3 h7 (an3 h8 (an3 h9 (an5 ff (an6 ff (an6 ff (an6 ff (an6 ff (an6 ff (an6 ff tv)))))))))) ?_
     exact jD false hm .refl
   ·replace hm := Ba h8 hm
    refine RK hnt (nn 5 (pT :: .no :: sk 2 (pF :: .no :: sk 2 (pF :: .no :: sk 2 (pF :: .no :: sk 3 (pF :: .no :: sk 5 (pF :: .no :: sk 5 (pF :: .no :: sk 5 (pF :: .no :: sk 3 (pF :: .no :: sk 5 (pF :: .no :: sk 5 (pF :: .no :: [])))))))))))) [(0,pB false)] [] (an3 h7 (an3 h8 (an2 ff (an6 ff (an6 ff (an6 ff (an6 ff (an6 ff (an6 ff (an6 ff tv)))))))))) ?_
    exact jD false hm .refl
  ·replace hm := Ba h7 hm
   refine RK hnt (nn 3 (sk 2 (pF :: .no :: sk 2 (pF :: .no :: sk 2 (pF :: .no :: sk 2 (pF :: .no :: sk 3 (pF :: .no :: sk 5 (pF :: .no :: sk 5 (pF :: .no :: sk 5 (pF :: .no :: sk 3 (pF :: .no :: sk 5 (pF :: .no :: sk 5 (pF :: .no :: []))))))))))))) [(0,pB false)] [] (an3 h7 (an5 ff (an6 ff (an6 ff (an6 ff (an6 ff (an6 ff (an6 ff (an6 ff tv))))))))) ?_
   exact jD false hm .refl
abbrev o3 (ks : List Nat) (b : Bool) (RES : Bool) : Orc := .call 6 ks b (pB RES) [] []

theorem Adi (p0 : List Int) (RES : Ao) (hm : Zw p0 = some RES) : Spec Try.prog 7 [.p (slI p0)] [] (rr 0) [] [.box (pm (Ap RES))] := by
 unfold Zw at hm
 refine SO Try.func7 rfl rfl [(0,.p (slI p0))] [] ?_
 intro cx hnt
 refine Sq (RK hnt (.no :: []) [(0,.p (slI p0))] [] tv ?_)
 refine Sq (RK hnt (nn 4 []) [(2,rr 1040)] [(1040,bx [.p (slI p0),pI 0])] tv ?_)
 obtain rfl := sj hm
 exact DW.ret (Am [.box [.p (slI p0),pI 0]] [1040] (rr 0))
abbrev o49 (ks : List Nat) (b : Bool) (RES : Ao) : Orc := .call 7 ks b (rr 0) [] [.box (pm (Ap RES))]

abbrev AaM := ({ id := 1,parent := 0,name := ByteArray.empty,control := 0,kind := 0,owner := 0 } : Ac)
theorem AdE (RES : Aa) (hm : Yg = some RES) : Spec Try.prog 27 [] [] (.agg [ow 0 RES.nodes.length,pI RES.next]) [] [Bs RES.nodes] := by
 unfold Yg at hm
 refine SO Try.func27 rfl rfl [] [] ?_
 intro cx hnt
 refine Sq (RK hnt (.no :: []) [(0,rr 1000)] [(1000,bx [.p (.sl .nil 0 0 (fun _ => [])),pI 0])] tv ?_)
 refine Sq (RN hnt (nn 4 []) [(0,rr 1000)] [(1000,bx [ow 1016 [(AaM)].length,pI 2]),(1016,ob0 (Bs [(AaM)]))] [] [(1000,.box [ow 1016 1,pI 2]),(1016,.row 6 1 (cut 6 [vi 1,vi 0,vs ByteArray.empty,vi 0,vi 0,vi 0]))] tv (by kernel_rfl) .nil (.cons rfl (.box (.cons (MLe.ownLen (enc := Ax) (d := Br) (f := (cut 6 [vi 1,vi 0,vs ByteArray.empty,vi 0,vi 0,vi 0])) (RowIs.lit (enc := Ax) (d := Br) (n := 1) (f := (cut 6 [vi 1,vi 0,vs ByteArray.empty,vi 0,vi 0,vi 0])) [(AaM)] rfl (fun | 0,_ => rfl | n + 1,h => absurd h (by omega)))) (.cons .rfl .nil))) (.cons rfl (BLe.typed (RowIs.lit (enc := Ax) (d := Br) (n := 1) (f := (cut 6 [vi 1,vi 0,vs ByteArray.empty,vi 0,vi 0,vi 0])) [(AaM)] rfl (fun | 0,_ => rfl | n + 1,h => absurd h (by omega)))) .nil)) ?_)
 obtain rfl := sj hm
 exact DW.ret (Am [Bs [(AaM)]] [1016] (.agg [ow 0 [(AaM)].length,pI 2]))
abbrev o51 (ks : List Nat) (b : Bool) (RES : Aa) : Orc := .call 27 ks b (.agg [ow 0 RES.nodes.length,pI RES.next]) [] [Bs RES.nodes]

abbrev c52e1 (p0 : Ao) := (p0.l.getD (Int.toNat (w64 ((w64 (p0.atF + 1)) - 1))) 0)
theorem Db (p0 : Ao) (p1 : Int) (RES : Int × Ao) (hm : Cr p0 p1 = some RES) : Spec Try.prog 11 [rr 0,pI p1] [.box (pm (Ap p0))] (pI RES.1) [.box (pm (Ap RES.2))] [] := by
 unfold Cr at hm
 refine SO Try.func11 rfl rfl [(0,rr 0),(1,pI p1)] [(0,bx (pm (Ap p0)))] ?_
 intro cx hnt
 refine Sq (RD hnt (.no :: []) [] [] [] [] tv ?_)
 refine Sq (Sq (DW.regJ (sl2 := [(0,rr 0),(1,pI p1),(19,pB ((decide (p0.atF ≥ ((p0.l.length : Nat) : Int))) || (decide (p1 < 1))))]) (ob2 := [(0,bx (pm (Ap p0)))]) ?_ ?_))
 ·rcases bt (decide (p0.atF ≥ ((p0.l.length : Nat) : Int))) with h1 | h1
  ·exact RT hnt (nn 11 (sk 2 (pT :: []))) [(19,pB true)] (an3 h1 tv) (by kernel_rfl) (.cons rfl (.of_eq (by rw [h1]; try rfl)) .nil)
  ·exact RT hnt (nn 13 (pF :: [])) [(19,pB (decide (p1 < 1)))] (an3 h1 tv) (by kernel_rfl) (.cons rfl (.of_eq (by rw [h1]; try rfl)) .nil)
 ·refine Ak hm ?_ ?_
  ·intro h2 hm
   refine Sq (RD hnt (.no :: []) [0,1,19] [(4,pI 0)] [] [] tv ?_)
   obtain rfl := sj hm
   exact DW.ret (Am [.box (pm (Ap p0))] [] (pI 0))
  ·intro h2 hm
   refine Sk ?_
   refine Sq (RD hnt (nn 8 []) [19] [] [] [(0,bx [.p (slI p0.l),pI (w64 (p0.atF + 1))])] tv ?_)
   obtain ⟨g3,g4,hm⟩ := go2 hm
   refine Sq (RD hnt (nn 14 []) [0] [(5,pI (Int.tmod (c52e1 p0) p1))] [] [] (an g3.1 (an g3.2 (an g4 tv))) ?_)
   refine Sq (Sq (RD hnt (nn 2 []) [] [(41,pB (decide ((Int.tmod (c52e1 p0) p1) < 0)))] [] [] tv ?_))
   refine Jn (ι := Int) (fun (y1 : Int) => Ai [(5,pI y1)] [(0,bx [.p (slI p0.l),pI (w64 (p0.atF + 1))])]) (fun y1 => (Jm p0) y1 = some RES) ?_ ?_
   ·intro y1 hm
    unfold Jm at hm
    refine Sq (RD hnt (nn 2 []) [5] [(4,pI y1)] [] [] tv ?_)
    obtain rfl := sj hm
    exact DW.ret (Am [.box [.p (slI p0.l),pI (w64 (p0.atF + 1))]] [] (pI y1))
   ·refine Ak hm ?_ ?_
    ·intro h5 hm
     refine RD hnt (nn 4 []) [1,41] [(5,pI (w64 ((Int.tmod (c52e1 p0) p1) + p1)))] [] [] tv ?_
     exact jD (w64 ((Int.tmod (c52e1 p0) p1) + p1)) hm Conv.eqK
    ·intro h5 hm
     refine Sk ?_
     exact jD (Int.tmod (c52e1 p0) p1) hm Conv.t0
abbrev o52 (ks : List Nat) (b : Bool) (RES : Int × Ao) : Orc := .call 11 ks b (pI RES.1) [.box (pm (Ap RES.2))] []

theorem Aad (p0 : Ao) (RES : ByteArray × Ao) (hm : Kr p0 = some RES) : Spec Try.prog 29 [rr 0] [.box (pm (Ap p0))] (pS RES.1) [.box (pm (Ap RES.2))] [] := by
 unfold Kr at hm
 refine SO Try.func29 rfl rfl [(0,rr 0)] [(0,bx (pm (Ap p0)))] ?_
 intro cx hnt
 refine Sq (RD hnt (.no :: []) [] [] [] [] tv ?_)
 obtain ⟨r3,hr3,hm⟩ := bo hm
 obtain ⟨g4,g5,hm⟩ := go2 hm
 refine Sq (RK hnt (.asR (ow 1024 [(bs [97]),(bs [98]),(bs [99]),(bs [119,101,98]),(bs [100,98,45,49]),(bs [88,95,57])].length) [(bs [97]),(bs [98]),(bs [99]),(bs [119,101,98]),(bs [100,98,45,49]),(bs [88,95,57])].length (elems encS ByteArray.empty [(bs [97]),(bs [98]),(bs [99]),(bs [119,101,98]),(bs [100,98,45,49]),(bs [88,95,57])]) :: .no :: o52 [0] true r3 :: nn 3 []) [(2,pS ([(bs [97]),(bs [98]),(bs [99]),(bs [119,101,98]),(bs [100,98,45,49]),(bs [88,95,57])].getD (Int.toNat r3.1) ByteArray.empty))] [(0,bx (pm (Ap r3.2)))] (an (congrArg (MV.own 1024 0 0) (RowIs.asP (enc := encS) (d := ByteArray.empty) (L := [(bs [97]),(bs [98]),(bs [99]),(bs [119,101,98]),(bs [100,98,45,49]),(bs [88,95,57])]) (RowIs.lit (enc := encS) (d := ByteArray.empty) (n := 6) (f := (cut 1 [vs (bs [97]),vs (bs [98]),vs (bs [99]),vs (bs [119,101,98]),vs (bs [100,98,45,49]),vs (bs [88,95,57])])) [(bs [97]),(bs [98]),(bs [99]),(bs [119,101,98]),(bs [100,98,45,49]),(bs [88,95,57])] rfl (fun | 0,_ => rfl | 1,_ => rfl | 2,_ => rfl | 3,_ => rfl | 4,_ => rfl | 5,_ => rfl | n + 6,h => absurd h (by omega)))).1) (an (RowIs.asP (enc := encS) (d := ByteArray.empty) (L := [(bs [97]),(bs [98]),(bs [99]),(bs [119,101,98]),(bs [100,98,45,49]),(bs [88,95,57])]) (RowIs.lit (enc := encS) (d := ByteArray.empty) (n := 6) (f := (cut 1 [vs (bs [97]),vs (bs [98]),vs (bs [99]),vs (bs [119,101,98]),vs (bs [100,98,45,49]),vs (bs [88,95,57])])) [(bs [97]),(bs [98]),(bs [99]),(bs [119,101,98]),(bs [100,98,45,49]),(bs [88,95,57])] rfl (fun | 0,_ => rfl | 1,_ => rfl | 2,_ => rfl | 3,_ => rfl | 4,_ => rfl | 5,_ => rfl | n + 6,h => absurd h (by omega)))) (an (Db p0 6 r3 hr3) (an tv (an g4.1 (an g4.2 (an g5 tv))))))) ?_)
 obtain rfl := sj hm
 exact DW.ret (Am [.box (pm (Ap r3.2))] [] (pS ([(bs [97]),(bs [98]),(bs [99]),(bs [119,101,98]),(bs [100,98,45,49]),(bs [88,95,57])].getD (Int.toNat r3.1) ByteArray.empty)))
abbrev o53 (ks : List Nat) (b : Bool) (RES : ByteArray × Ao) : Orc := .call 29 ks b (pS RES.1) [.box (pm (Ap RES.2))] []

abbrev Wt (p0 : ByteArray) (k1 : Int) : Nat × MV := (57,pB (!((((Bb p0 (Int.toNat k1)) : Nat) : Int) == 45)))
theorem Xm (p0 : ByteArray) (RES : Bool) (hm : Oe p0 = some RES) : Spec Try.prog 55 [pS p0] [] (pB RES) [] [] := by
 unfold Oe at hm
 refine SO Try.func55 rfl rfl [(0,pS p0)] [] ?_
 intro cx hnt
 refine Sq (RK hnt (.no :: []) [(0,pS p0)] [] tv ?_)
 refine Sq (Sq ?_)
 refine Jn (ι := Bool) (fun (y1 : Bool) => Ai [(0,pS p0),(17,pB y1)] []) (fun y1 => (Kq p0) y1 = some RES) ?_ ?_
 ·intro y1 hm
  unfold Kq at hm
  refine Ak hm ?_ ?_
  ·intro h4 hm
   refine Sq (RK hnt (.no :: []) [(2,pB false)] [] tv ?_)
   obtain rfl := sj hm
   exact DW.ret (Am [] [] (pB false))
  ·intro h4 hm
   refine Sk ?_
   refine Sq (Sq (RK hnt (.no :: []) [(0,pS p0),(3,pI 0)] [] tv ?_))
   refine Bk ?_
   obtain ⟨hc1,hm⟩ := go1 hm
   refine DW.forO (fun (k1 : Int) (s1 : Unit) => Ai [(0,pS p0),(3,pI k1)] []) (lo := 0) (hi := ((p0.size : Nat) : Int)) hm .refl ?_
   intro k1 s1 n1 hk1 hs1 he1
   refine Sq (Sq (RD hnt (nn 4 []) [] [(21,pB (decide (k1 < ((p0.size : Nat) : Int))))] [] [] tv ?_))
   refine Ch (decide (k1 < ((p0.size : Nat) : Int))) ?_ ?_
   ·intro h55
    have hlt1 : k1 < ((p0.size : Nat) : Int) := by have := of_decide_eq_true h55; omega
    have hm := hs1 hlt1
    unfold Vh at hm
    refine Sk ?_
    refine Sq (Bk ?_)
    obtain ⟨g56,hm⟩ := go1 hm
    refine Sq (RD hnt (nn 4 []) [21] [(4,.p (vk .u8 (((Bb p0 (Int.toNat k1)) : Nat) : Int)))] [] [] (an g56.1 (an g56.2 tv)) ?_)
    refine Sq (DW.regJ (sl2 := [(0,pS p0),(3,pI k1),(57,pB (!((((((decide ((((Bb p0 (Int.toNat k1)) : Nat) : Int) ≥ 97)) && (decide ((((Bb p0 (Int.toNat k1)) : Nat) : Int) ≤ 122))) || ((decide ((((Bb p0 (Int.toNat k1)) : Nat) : Int) ≥ 65)) && (decide ((((Bb p0 (Int.toNat k1)) : Nat) : Int) ≤ 90)))) || ((decide ((((Bb p0 (Int.toNat k1)) : Nat) : Int) ≥ 48)) && (decide ((((Bb p0 (Int.toNat k1)) : Nat) : Int) ≤ 57)))) || ((((Bb p0 (Int.toNat k1)) : Nat) : Int) == 95)) || ((((Bb p0 (Int.toNat k1)) : Nat) : Int) == 45))))]) (ob2 := []) ?_ ?_)
    ·rcases bt (decide ((((Bb p0 (Int.toNat k1)) : Nat) : Int) ≥ 97)) with h57 | h57
     ·rcases bt (decide ((((Bb p0 (Int.toNat k1)) : Nat) : Int) ≤ 122)) with h58 | h58
      ·exact RT hnt (nn 5 (pT :: .no :: sk 6 (pT :: .no :: sk 6 (pT :: .no :: sk 2 (pT :: .no :: sk 2 (pT :: .no :: [])))))) [(57,pB false)] (an3 h57 (an5 h58 (an5 tt (an6 tt tv)))) (by kernel_rfl) (.cons rfl (.of_eq (by rw [h57,h58]; try rfl)) .nil)
      ·rcases bt (decide ((((Bb p0 (Int.toNat k1)) : Nat) : Int) ≥ 65)) with h59 | h59
       ·rcases bt (decide ((((Bb p0 (Int.toNat k1)) : Nat) : Int) ≤ 90)) with h60 | h60
        ·exact RT hnt (nn 5 (pT :: nn 6 (pT :: pF :: .no :: sk 6 (pT :: .no :: sk 2 (pT :: .no :: sk 2 (pT :: .no :: [])))))) [(57,pB false)] (an3 h57 (an3 h58 (an2 h59 (an h58 (an h59 (an h58 (an5 h60 (an6 tt tv)))))))) (by kernel_rfl) (.cons rfl (.of_eq (by rw [h57,h58,h59,h60]; try rfl)) .nil)
        ·rcases bt (decide ((((Bb p0 (Int.toNat k1)) : Nat) : Int) ≥ 48)) with h61 | h61
         ·rcases bt (decide ((((Bb p0 (Int.toNat k1)) : Nat) : Int) ≤ 57)) with h62 | h62
          ·exact RT hnt (nn 5 (pT :: nn 6 (pT :: pF :: nn 6 (pT :: pF :: .no :: sk 2 (pT :: .no :: sk 2 (pT :: .no :: [])))))) [(57,pB false)] (an3 h57 (an3 h58 (an2 h59 (an h58 (an h59 (an h58 (an3 h60 (an2 h61 (an h60 (an h61 (an h60 (an3 h62 (an3 tt tv))))))))))))) (by kernel_rfl) (.cons rfl (.of_eq (by rw [h57,h58,h59,h60,h61,h62]; try rfl)) .nil)
          ·rcases bt ((((Bb p0 (Int.toNat k1)) : Nat) : Int) == 95) with h63 | h63
           ·exact RT hnt (nn 5 (pT :: nn 6 (pT :: pF :: nn 6 (pT :: pF :: nn 3 (pF :: .no :: sk 2 (pT :: .no :: [])))))) [(57,pB false)] (an3 h57 (an3 h58 (an2 h59 (an h58 (an h59 (an h58 (an3 h60 (an2 h61 (an h60 (an h61 (an h60 (an3 h62 (an3 h63 tv))))))))))))) (by kernel_rfl) (.cons rfl (.of_eq (by rw [h57,h58,h59,h60,h61,h62,h63]; try rfl)) .nil)
           ·exact RT hnt (nn 5 (pT :: nn 6 (pT :: pF :: nn 6 (pT :: pF :: nn 3 (pF :: nn 3 (pF :: .no :: [])))))) [(Wt p0 k1)] (an3 h57 (an3 h58 (an2 h59 (an h58 (an h59 (an h58 (an3 h60 (an2 h61 (an h60 (an h61 (an h60 (an3 h62 (an3 h63 tv))))))))))))) (by kernel_rfl) (.cons rfl (.of_eq (by rw [h57,h58,h59,h60,h61,h62,h63]; try rfl)) .nil)
         ·rcases bt ((((Bb p0 (Int.toNat k1)) : Nat) : Int) == 95) with h64 | h64
          ·exact RT hnt (nn 5 (pT :: nn 6 (pT :: pF :: nn 4 (sk 2 (pF :: pF :: nn 3 (pF :: .no :: sk 2 (pT :: .no :: []))))))) [(57,pB false)] (an3 h57 (an3 h58 (an2 h59 (an h58 (an h59 (an h58 (an3 h60 (an2 h61 (an h60 (an h61 (an h60 (an3 ff (an3 h64 tv))))))))))))) (by kernel_rfl) (.cons rfl (.of_eq (by rw [h57,h58,h59,h60,h61,h64]; try rfl)) .nil)
          ·exact RT hnt (nn 5 (pT :: nn 6 (pT :: pF :: nn 4 (sk 2 (pF :: pF :: nn 3 (pF :: nn 3 (pF :: .no :: []))))))) [(Wt p0 k1)] (an3 h57 (an3 h58 (an2 h59 (an h58 (an h59 (an h58 (an3 h60 (an2 h61 (an h60 (an h61 (an h60 (an3 ff (an3 h64 tv))))))))))))) (by kernel_rfl) (.cons rfl (.of_eq (by rw [h57,h58,h59,h60,h61,h64]; try rfl)) .nil)
       ·rcases bt (decide ((((Bb p0 (Int.toNat k1)) : Nat) : Int) ≥ 48)) with h65 | h65
        ·rcases bt (decide ((((Bb p0 (Int.toNat k1)) : Nat) : Int) ≤ 57)) with h66 | h66
         ·exact RT hnt (nn 5 (pT :: nn 4 (sk 2 (pF :: pF :: nn 6 (pT :: pF :: .no :: sk 2 (pT :: .no :: sk 2 (pT :: .no :: []))))))) [(57,pB false)] (an3 h57 (an3 h58 (an2 h59 (an h58 (an h59 (an h58 (an3 ff (an2 h65 (an ff (an h65 (an ff (an3 h66 (an3 tt tv))))))))))))) (by kernel_rfl) (.cons rfl (.of_eq (by rw [h57,h58,h59,h65,h66]; try rfl)) .nil)
         ·rcases bt ((((Bb p0 (Int.toNat k1)) : Nat) : Int) == 95) with h67 | h67
          ·exact RT hnt (nn 5 (pT :: nn 4 (sk 2 (pF :: pF :: nn 6 (pT :: pF :: nn 3 (pF :: .no :: sk 2 (pT :: .no :: []))))))) [(57,pB false)] (an3 h57 (an3 h58 (an2 h59 (an h58 (an h59 (an h58 (an3 ff (an2 h65 (an ff (an h65 (an ff (an3 h66 (an3 h67 tv))))))))))))) (by kernel_rfl) (.cons rfl (.of_eq (by rw [h57,h58,h59,h65,h66,h67]; try rfl)) .nil)
          ·exact RT hnt (nn 5 (pT :: nn 4 (sk 2 (pF :: pF :: nn 6 (pT :: pF :: nn 3 (pF :: nn 3 (pF :: .no :: []))))))) [(Wt p0 k1)] (an3 h57 (an3 h58 (an2 h59 (an h58 (an h59 (an h58 (an3 ff (an2 h65 (an ff (an h65 (an ff (an3 h66 (an3 h67 tv))))))))))))) (by kernel_rfl) (.cons rfl (.of_eq (by rw [h57,h58,h59,h65,h66,h67]; try rfl)) .nil)
        ·rcases bt ((((Bb p0 (Int.toNat k1)) : Nat) : Int) == 95) with h68 | h68
         ·exact RT hnt (nn 5 (pT :: nn 4 (sk 2 (pF :: pF :: nn 4 (sk 2 (pF :: pF :: nn 3 (pF :: .no :: sk 2 (pT :: .no :: [])))))))) [(57,pB false)] (an3 h57 (an3 h58 (an2 h59 (an h58 (an h59 (an h58 (an3 ff (an2 h65 (an ff (an h65 (an4 ff (an3 h68 tv)))))))))))) (by kernel_rfl) (.cons rfl (.of_eq (by rw [h57,h58,h59,h65,h68]; try rfl)) .nil)
         ·exact RT hnt (nn 5 (pT :: nn 4 (sk 2 (pF :: pF :: nn 4 (sk 2 (pF :: pF :: nn 3 (pF :: nn 3 (pF :: .no :: [])))))))) [(Wt p0 k1)] (an3 h57 (an3 h58 (an2 h59 (an h58 (an h59 (an h58 (an3 ff (an2 h65 (an ff (an h65 (an4 ff (an3 h68 tv)))))))))))) (by kernel_rfl) (.cons rfl (.of_eq (by rw [h57,h58,h59,h65,h68]; try rfl)) .nil)
     ·rcases bt (decide ((((Bb p0 (Int.toNat k1)) : Nat) : Int) ≥ 65)) with h69 | h69
      ·rcases bt (decide ((((Bb p0 (Int.toNat k1)) : Nat) : Int) ≤ 90)) with h70 | h70
       ·exact RT hnt (nn 3 (sk 2 (pF :: nn 6 (pT :: pF :: .no :: sk 6 (pT :: .no :: sk 2 (pT :: .no :: sk 2 (pT :: .no :: []))))))) [(57,pB false)] (an3 h57 (an3 ff (an2 h69 (an ff (an h69 (an ff (an5 h70 (an6 tt tv)))))))) (by kernel_rfl) (.cons rfl (.of_eq (by rw [h57,h69,h70]; try rfl)) .nil)
       ·rcases bt (decide ((((Bb p0 (Int.toNat k1)) : Nat) : Int) ≥ 48)) with h71 | h71
        ·rcases bt (decide ((((Bb p0 (Int.toNat k1)) : Nat) : Int) ≤ 57)) with h72 | h72
         ·exact RT hnt (nn 3 (sk 2 (pF :: nn 6 (pT :: pF :: nn 6 (pT :: pF :: .no :: sk 2 (pT :: .no :: sk 2 (pT :: .no :: []))))))) [(57,pB false)] (an3 h57 (an3 ff (an2 h69 (an ff (an h69 (an ff (an3 h70 (an2 h71 (an h70 (an h71 (an h70 (an3 h72 (an3 tt tv))))))))))))) (by kernel_rfl) (.cons rfl (.of_eq (by rw [h57,h69,h70,h71,h72]; try rfl)) .nil)
         ·rcases bt ((((Bb p0 (Int.toNat k1)) : Nat) : Int) == 95) with h73 | h73
          ·exact RT hnt (nn 3 (sk 2 (pF :: nn 6 (pT :: pF :: nn 6 (pT :: pF :: nn 3 (pF :: .no :: sk 2 (pT :: .no :: []))))))) [(57,pB false)] (an3 h57 (an3 ff (an2 h69 (an ff (an h69 (an ff (an3 h70 (an2 h71 (an h70 (an h71 (an h70 (an3 h72 (an3 h73 tv))))))))))))) (by kernel_rfl) (.cons rfl (.of_eq (by rw [h57,h69,h70,h71,h72,h73]; try rfl)) .nil)
          ·exact RT hnt (nn 3 (sk 2 (pF :: nn 6 (pT :: pF :: nn 6 (pT :: pF :: nn 3 (pF :: nn 3 (pF :: .no :: []))))))) [(Wt p0 k1)] (an3 h57 (an3 ff (an2 h69 (an ff (an h69 (an ff (an3 h70 (an2 h71 (an h70 (an h71 (an h70 (an3 h72 (an3 h73 tv))))))))))))) (by kernel_rfl) (.cons rfl (.of_eq (by rw [h57,h69,h70,h71,h72,h73]; try rfl)) .nil)
        ·rcases bt ((((Bb p0 (Int.toNat k1)) : Nat) : Int) == 95) with h74 | h74
         ·exact RT hnt (nn 3 (sk 2 (pF :: nn 6 (pT :: pF :: nn 4 (sk 2 (pF :: pF :: nn 3 (pF :: .no :: sk 2 (pT :: .no :: [])))))))) [(57,pB false)] (an3 h57 (an3 ff (an2 h69 (an ff (an h69 (an ff (an3 h70 (an2 h71 (an h70 (an h71 (an h70 (an3 ff (an3 h74 tv))))))))))))) (by kernel_rfl) (.cons rfl (.of_eq (by rw [h57,h69,h70,h71,h74]; try rfl)) .nil)
         ·exact RT hnt (nn 3 (sk 2 (pF :: nn 6 (pT :: pF :: nn 4 (sk 2 (pF :: pF :: nn 3 (pF :: nn 3 (pF :: .no :: [])))))))) [(Wt p0 k1)] (an3 h57 (an3 ff (an2 h69 (an ff (an h69 (an ff (an3 h70 (an2 h71 (an h70 (an h71 (an h70 (an3 ff (an3 h74 tv))))))))))))) (by kernel_rfl) (.cons rfl (.of_eq (by rw [h57,h69,h70,h71,h74]; try rfl)) .nil)
      ·rcases bt (decide ((((Bb p0 (Int.toNat k1)) : Nat) : Int) ≥ 48)) with h75 | h75
       ·rcases bt (decide ((((Bb p0 (Int.toNat k1)) : Nat) : Int) ≤ 57)) with h76 | h76
        ·exact RT hnt (nn 3 (sk 2 (pF :: nn 4 (sk 2 (pF :: pF :: nn 6 (pT :: pF :: .no :: sk 2 (pT :: .no :: sk 2 (pT :: .no :: [])))))))) [(57,pB false)] (an3 h57 (an3 ff (an2 h69 (an ff (an h69 (an4 ff (an2 h75 (an ff (an h75 (an ff (an3 h76 (an3 tt tv)))))))))))) (by kernel_rfl) (.cons rfl (.of_eq (by rw [h57,h69,h75,h76]; try rfl)) .nil)
        ·rcases bt ((((Bb p0 (Int.toNat k1)) : Nat) : Int) == 95) with h77 | h77
         ·exact RT hnt (nn 3 (sk 2 (pF :: nn 4 (sk 2 (pF :: pF :: nn 6 (pT :: pF :: nn 3 (pF :: .no :: sk 2 (pT :: .no :: [])))))))) [(57,pB false)] (an3 h57 (an3 ff (an2 h69 (an ff (an h69 (an4 ff (an2 h75 (an ff (an h75 (an ff (an3 h76 (an3 h77 tv)))))))))))) (by kernel_rfl) (.cons rfl (.of_eq (by rw [h57,h69,h75,h76,h77]; try rfl)) .nil)
         ·exact RT hnt (nn 3 (sk 2 (pF :: nn 4 (sk 2 (pF :: pF :: nn 6 (pT :: pF :: nn 3 (pF :: nn 3 (pF :: .no :: [])))))))) [(Wt p0 k1)] (an3 h57 (an3 ff (an2 h69 (an ff (an h69 (an4 ff (an2 h75 (an ff (an h75 (an ff (an3 h76 (an3 h77 tv)))))))))))) (by kernel_rfl) (.cons rfl (.of_eq (by rw [h57,h69,h75,h76,h77]; try rfl)) .nil)
       ·rcases bt ((((Bb p0 (Int.toNat k1)) : Nat) : Int) == 95) with h78 | h78
        ·exact RT hnt (nn 3 (sk 2 (pF :: nn 4 (sk 2 (pF :: pF :: nn 4 (sk 2 (pF :: pF :: nn 3 (pF :: .no :: sk 2 (pT :: .no :: []))))))))) [(57,pB false)] (an3 h57 (an3 ff (an2 h69 (an ff (an h69 (an4 ff (an2 h75 (an ff (an h75 (an4 ff (an3 h78 tv))))))))))) (by kernel_rfl) (.cons rfl (.of_eq (by rw [h57,h69,h75,h78]; try rfl)) .nil)
        ·exact RT hnt (nn 3 (sk 2 (pF :: nn 4 (sk 2 (pF :: pF :: nn 4 (sk 2 (pF :: pF :: nn 3 (pF :: nn 3 (pF :: .no :: []))))))))) [(Wt p0 k1)] (an3 h57 (an3 ff (an2 h69 (an ff (an h69 (an4 ff (an2 h75 (an ff (an h75 (an4 ff (an3 h78 tv))))))))))) (by kernel_rfl) (.cons rfl (.of_eq (by rw [h57,h69,h75,h78]; try rfl)) .nil)
    ·refine Ak hm ?_ ?_
     ·intro h79 hm
      refine Sq (RK hnt (.no :: []) [(2,pB false)] [] tv ?_)
      obtain rfl := sj hm
      exact DW.ret (Am [] [] (pB false))
     ·intro h79 hm
      refine Sk ?_
      refine DW.done ?_
      show DW _ _ _ _ _
      refine RK hnt (nn 3 []) [(0,pS p0),(3,pI (w64 (k1 + 1)))] [] tv ?_
      exact jD () ⟨hlt1,hm⟩ (Conv.tp [(3,pI (w64 (k1 + 1)))] [] (by kernel_rfl) (.cons rfl (.of_eq (congrArg pI (Uk (lo := 0) (hi := ((p0.size : Nat) : Int)) (by omega) hk1 hlt1 (by omega)))) .nil) .nil)
   ·intro h55
    have hge1 : ¬ k1 < ((p0.size : Nat) : Int) := by have := of_decide_eq_false h55; omega
    have hm := he1 hge1
    unfold Aaf at hm
    refine DW.exit ?_
    refine Aj ?_
    refine Aq ?_
    refine Af ?_
    show DW _ _ _ _ _
    refine Sq (RK hnt (.no :: []) [(2,pB true)] [] tv ?_)
    obtain rfl := sj hm
    exact DW.ret (Am [] [] (pB true))
 ·rcases bt (((p0.size : Nat) : Int) == 0) with h1 | h1
  ·replace hm := Az h1 hm
   refine RK hnt (nn 4 (sk 3 (pT :: .no :: sk 3 (pT :: [])))) [(0,pS p0),(17,pB true)] [] (an4 h1 (an4 tt tv)) ?_
   exact jD true hm .refl
  ·replace hm := Ba h1 hm
   rcases bt (decide (((p0.size : Nat) : Int) > 32)) with h2 | h2
   ·replace hm := Az h2 hm
    refine RK hnt (nn 7 (pF :: .no :: sk 3 (pT :: []))) [(0,pS p0),(17,pB true)] [] (an4 h1 (an4 h2 tv)) ?_
    exact jD true hm .refl
   ·replace hm := Ba h2 hm
    obtain ⟨g3,hm⟩ := go1 hm
    refine RK hnt (nn 7 (pF :: nn 4 (pF :: []))) [(0,pS p0),(17,pB ((((Bb p0 0) : Nat) : Int) == 45))] [] (an4 h1 (an2 h2 (an (nn0 0) (an (ltc g3) (an2 h2 tv))))) ?_
    exact jD ((((Bb p0 0) : Nat) : Int) == 45) hm .refl
abbrev o57 (ks : List Nat) (b : Bool) (RES : Bool) : Orc := .call 55 ks b (pB RES) [] []
end Go.Dm

