/- Texts of the proof of FreezeExact: the data machine, the models of the Go functions, their contracts. -/
import Derived.Test.YtkkeddafdmjhlaaGreatFreezeExactA3
set_option linter.unusedVariables false
set_option linter.unusedSimpArgs false
/- Go functions compute their models, printed by a program. -/
namespace Go.Dm
open Go.Proofs
set_option linter.unusedVariables false
theorem Ahh (p0 : List Int) (RES : Bool) (hm : Zn p0 = some RES) : Spec Tryz.prog 8 [.p (slI p0)] [] (pB RES) [] [] := by
 unfold Zn at hm
 refine SO Tryz.func8 rfl rfl [(0,.p (slI p0))] [] ?_
 intro cx hnt
 refine Sq (RK hnt (.no :: []) [(0,.p (slI p0))] [] tv ?_)
 refine Sq (RK hnt (nn 4 []) [(2,pB (decide (((p0.length : Nat) : Int) ≤ 600)))] [] tv ?_)
 obtain rfl := sj hm
 exact DW.ret (Ai [] [] (pB (decide (((p0.length : Nat) : Int) ≤ 600))))
abbrev o2 (ks : List Nat) (b : Bool) (RES : Bool) (sm : List Nat := []) : Orc := .call 8 ks b (pB RES) [] [] sm

abbrev c4e1 := ({ id := 1,parent := 0,name := ByteArray.empty,control := 0,kind := 0,owner := 0 } : Ao)
abbrev c4e2 := ({ id := 2,parent := 1,name := (bs [97]),control := 0,kind := 0,owner := 0 } : Ao)
abbrev c4e3 := ({ id := 3,parent := 2,name := (bs [98]),control := 0,kind := 0,owner := 0 } : Ao)
abbrev c4e4 := ({ id := 1,process := 1,group := 3,user := 0 } : Aw)
theorem Ahz (RES : Aa) (hm : AcS = some RES) : Spec Tryz.prog 57 [] [] (.agg [ow 0 RES.tree.nodes.length,pI RES.tree.next,ow 1 RES.tasks.length,pI RES.next]) [] [Ak RES.tree.nodes,At RES.tasks] := by
 unfold AcS at hm
 refine SO Tryz.func57 rfl rfl [] [] ?_
 intro cx hnt
 refine Sq (RK hnt (.no :: []) [(0,rr 1000)] [(1000,bx [.p (.sl .nil 0 0 (fun _ => [])),pI 0,.p (.sl .nil 0 0 (fun _ => [])),pI 0])] tv ?_)
 refine Sq (RN hnt (nn 9 []) [(0,rr 1000)] [(1000,bx [ow 1032 [(c4e1),(c4e2),(c4e3)].length,pI 4,ow 1056 [(c4e4)].length,pI 2]),(1032,ob0 (Ak [(c4e1),(c4e2),(c4e3)])),(1056,ob0 (At [(c4e4)]))] [] [(1000,.box [ow 1032 3,pI 4,ow 1056 1,pI 2]),(1032,.row 6 3 (cut 6 [vi 1,vi 0,vs ByteArray.empty,vi 0,vi 0,vi 0,vi 2,vi 1,vs (bs [97]),vi 0,vi 0,vi 0,vi 3,vi 2,vs (bs [98]),vi 0,vi 0,vi 0])),(1056,.row 4 1 (cut 4 [vi 1,vi 1,vi 3,vi 0]))] tv (by kernel_rfl) .nil (.cons rfl (.box (.cons (MLe.ownLen (enc := Ar) (d := Bm) (f := (cut 6 [vi 1,vi 0,vs ByteArray.empty,vi 0,vi 0,vi 0,vi 2,vi 1,vs (bs [97]),vi 0,vi 0,vi 0,vi 3,vi 2,vs (bs [98]),vi 0,vi 0,vi 0])) (RowIs.lit (enc := Ar) (d := Bm) (n := 3) (f := (cut 6 [vi 1,vi 0,vs ByteArray.empty,vi 0,vi 0,vi 0,vi 2,vi 1,vs (bs [97]),vi 0,vi 0,vi 0,vi 3,vi 2,vs (bs [98]),vi 0,vi 0,vi 0])) [(c4e1),(c4e2),(c4e3)] rfl (fun | 0,_ => rfl | 1,_ => rfl | 2,_ => rfl | n + 3,h => absurd h (by omega)))) (.cons .rfl (.cons (MLe.ownLen (enc := Az) (d := Bu) (f := (cut 4 [vi 1,vi 1,vi 3,vi 0])) (RowIs.lit (enc := Az) (d := Bu) (n := 1) (f := (cut 4 [vi 1,vi 1,vi 3,vi 0])) [(c4e4)] rfl (fun | 0,_ => rfl | n + 1,h => absurd h (by omega)))) (.cons .rfl .nil))))) (.cons rfl (BLe.typed (RowIs.lit (enc := Ar) (d := Bm) (n := 3) (f := (cut 6 [vi 1,vi 0,vs ByteArray.empty,vi 0,vi 0,vi 0,vi 2,vi 1,vs (bs [97]),vi 0,vi 0,vi 0,vi 3,vi 2,vs (bs [98]),vi 0,vi 0,vi 0])) [(c4e1),(c4e2),(c4e3)] rfl (fun | 0,_ => rfl | 1,_ => rfl | 2,_ => rfl | n + 3,h => absurd h (by omega)))) (.cons rfl (BLe.typed (RowIs.lit (enc := Az) (d := Bu) (n := 1) (f := (cut 4 [vi 1,vi 1,vi 3,vi 0])) [(c4e4)] rfl (fun | 0,_ => rfl | n + 1,h => absurd h (by omega)))) .nil))) ?_)
 obtain rfl := sj hm
 exact DW.ret (Ai [Ak [(c4e1),(c4e2),(c4e3)],At [(c4e4)]] [1032,1056] (.agg [ow 0 [(c4e1),(c4e2),(c4e3)].length,pI 4,ow 1 [(c4e4)].length,pI 2]))
abbrev o4 (ks : List Nat) (b : Bool) (RES : Aa) (sm : List Nat := []) : Orc := .call 57 ks b (.agg [ow 0 RES.tree.nodes.length,pI RES.tree.next,ow 1 RES.tasks.length,pI RES.next]) [] [Ak RES.tree.nodes,At RES.tasks] sm

theorem Aia (p0 : Ao) (RES : Bool) (hm : Abi p0 = some RES) : Spec Tryz.prog 175 [.p (.agg (Ar p0))] [] (pB RES) [] [] := by
 unfold Abi at hm
 refine SO Tryz.func175 rfl rfl [(0,.p (.agg (Ar p0)))] [] ?_
 intro cx hnt
 refine Sq (RK hnt (nn 2 []) [(1,rr 1008)] [(1008,bx (pm (Ar p0)))] tv ?_)
 refine Sq (DW.regJ (sl2 := [(2,pB ((((p0.id == 1) && (p0.parent == 0)) && (Ea p0.name ByteArray.empty)) && (p0.kind == 0)))]) (ob2 := []) ?_ ?_)
 ·rcases bt (p0.id == 1) with h1 | h1
  ·rcases bt (p0.parent == 0) with h2 | h2
   ·rcases bt (Ea p0.name ByteArray.empty) with h3 | h3
    ·exact RT hnt (nn 7 (pT :: nn 4 (pT :: nn 4 (pT :: .no :: [])))) [(2,pB (p0.kind == 0))] (an4 h1 (an4 h2 (an4 h3 tv))) (by kernel_rfl) (.cons rfl (.of_eq (by rw [h1,h2,h3]; try rfl)) .nil)
    ·exact RT hnt (nn 7 (pT :: nn 4 (pT :: .no :: sk 3 (pF :: .no :: [])))) [(2,pB false)] (an4 h1 (an4 h2 (an4 h3 tv))) (by kernel_rfl) (.cons rfl (.of_eq (by rw [h1,h2,h3]; try rfl)) .nil)
   ·exact RT hnt (nn 7 (pT :: .no :: sk 3 (pF :: .no :: sk 3 (pF :: .no :: [])))) [(2,pB false)] (an4 h1 (an4 h2 (an4 ff tv))) (by kernel_rfl) (.cons rfl (.of_eq (by rw [h1,h2]; try rfl)) .nil)
  ·exact RT hnt (nn 4 (sk 3 (pF :: .no :: sk 3 (pF :: .no :: sk 3 (pF :: .no :: []))))) [(2,pB false)] (an4 h1 (an2 ff (an6 ff tv))) (by kernel_rfl) (.cons rfl (.of_eq (by rw [h1]; try rfl)) .nil)
 ·refine DW.ret ?_
  obtain rfl := sj hm
  exact Ai [] [] (pB ((((p0.id == 1) && (p0.parent == 0)) && (Ea p0.name ByteArray.empty)) && (p0.kind == 0)))
abbrev o8 (ks : List Nat) (b : Bool) (RES : Bool) (sm : List Nat := []) : Orc := .call 175 ks b (pB RES) [] [] sm

theorem AgW (p0 : Int) (RES : Bool) (hm : Zp p0 = some RES) : Spec Tryz.prog 209 [.p (vk .u8 p0)] [] (pB RES) [] [] := by
 unfold Zp at hm
 refine SO Tryz.func209 rfl rfl [(0,.p (vk .u8 p0))] [] ?_
 intro cx hnt
 refine Sq (RD hnt (.no :: []) [] [] [] [] tv ?_)
 refine Sq (DW.regJ (sl2 := [(2,pB ((((((decide (p0 ≥ 97)) && (decide (p0 ≤ 122))) || ((decide (p0 ≥ 65)) && (decide (p0 ≤ 90)))) || ((decide (p0 ≥ 48)) && (decide (p0 ≤ 57)))) || (p0 == 95)) || (p0 == 45)))]) (ob2 := []) ?_ ?_)
 ·rcases bt (decide (p0 ≥ 97)) with h1 | h1
  ·rcases bt (decide (p0 ≤ 122)) with h2 | h2
   ·exact RT hnt (nn 5 (pT :: .no :: sk 6 (pT :: .no :: sk 6 (pT :: .no :: sk 2 (pT :: .no :: sk 2 (pT :: .no :: [])))))) [(2,pB true)] (an3 h1 (an5 h2 (an5 tt (an6 tt tv)))) (by kernel_rfl) (.cons rfl (.of_eq (by rw [h1,h2]; try rfl)) .nil)
   ·rcases bt (decide (p0 ≥ 65)) with h3 | h3
    ·rcases bt (decide (p0 ≤ 90)) with h4 | h4
     ·exact RT hnt (nn 5 (pT :: nn 6 (pT :: pF :: .no :: sk 6 (pT :: .no :: sk 2 (pT :: .no :: sk 2 (pT :: .no :: [])))))) [(2,pB true)] (an3 h1 (an3 h2 (an2 h3 (an h2 (an h3 (an h2 (an5 h4 (an6 tt tv)))))))) (by kernel_rfl) (.cons rfl (.of_eq (by rw [h1,h2,h3,h4]; try rfl)) .nil)
     ·rcases bt (decide (p0 ≥ 48)) with h5 | h5
      ·rcases bt (decide (p0 ≤ 57)) with h6 | h6
       ·exact RT hnt (nn 5 (pT :: nn 6 (pT :: pF :: nn 6 (pT :: pF :: .no :: sk 2 (pT :: .no :: sk 2 (pT :: .no :: [])))))) [(2,pB true)] (an3 h1 (an3 h2 (an2 h3 (an h2 (an h3 (an h2 (an3 h4 (an2 h5 (an h4 (an h5 (an h4 (an3 h6 (an3 tt tv))))))))))))) (by kernel_rfl) (.cons rfl (.of_eq (by rw [h1,h2,h3,h4,h5,h6]; try rfl)) .nil)
       ·rcases bt (p0 == 95) with h7 | h7
        ·exact RT hnt (nn 5 (pT :: nn 6 (pT :: pF :: nn 6 (pT :: pF :: nn 3 (pF :: .no :: sk 2 (pT :: .no :: [])))))) [(2,pB true)] (an3 h1 (an3 h2 (an2 h3 (an h2 (an h3 (an h2 (an3 h4 (an2 h5 (an h4 (an h5 (an h4 (an3 h6 (an3 h7 tv))))))))))))) (by kernel_rfl) (.cons rfl (.of_eq (by rw [h1,h2,h3,h4,h5,h6,h7]; try rfl)) .nil)
        ·exact RT hnt (nn 5 (pT :: nn 6 (pT :: pF :: nn 6 (pT :: pF :: nn 3 (pF :: nn 3 (pF :: .no :: [])))))) [(2,pB (p0 == 45))] (an3 h1 (an3 h2 (an2 h3 (an h2 (an h3 (an h2 (an3 h4 (an2 h5 (an h4 (an h5 (an h4 (an3 h6 (an3 h7 tv))))))))))))) (by kernel_rfl) (.cons rfl (.of_eq (by rw [h1,h2,h3,h4,h5,h6,h7]; try rfl)) .nil)
      ·rcases bt (p0 == 95) with h8 | h8
       ·exact RT hnt (nn 5 (pT :: nn 6 (pT :: pF :: nn 4 (sk 2 (pF :: pF :: nn 3 (pF :: .no :: sk 2 (pT :: .no :: []))))))) [(2,pB true)] (an3 h1 (an3 h2 (an2 h3 (an h2 (an h3 (an h2 (an3 h4 (an2 h5 (an h4 (an h5 (an h4 (an3 ff (an3 h8 tv))))))))))))) (by kernel_rfl) (.cons rfl (.of_eq (by rw [h1,h2,h3,h4,h5,h8]; try rfl)) .nil)
       ·exact RT hnt (nn 5 (pT :: nn 6 (pT :: pF :: nn 4 (sk 2 (pF :: pF :: nn 3 (pF :: nn 3 (pF :: .no :: []))))))) [(2,pB (p0 == 45))] (an3 h1 (an3 h2 (an2 h3 (an h2 (an h3 (an h2 (an3 h4 (an2 h5 (an h4 (an h5 (an h4 (an3 ff (an3 h8 tv))))))))))))) (by kernel_rfl) (.cons rfl (.of_eq (by rw [h1,h2,h3,h4,h5,h8]; try rfl)) .nil)
    ·rcases bt (decide (p0 ≥ 48)) with h9 | h9
     ·rcases bt (decide (p0 ≤ 57)) with h10 | h10
      ·exact RT hnt (nn 5 (pT :: nn 4 (sk 2 (pF :: pF :: nn 6 (pT :: pF :: .no :: sk 2 (pT :: .no :: sk 2 (pT :: .no :: []))))))) [(2,pB true)] (an3 h1 (an3 h2 (an2 h3 (an h2 (an h3 (an h2 (an3 ff (an2 h9 (an ff (an h9 (an ff (an3 h10 (an3 tt tv))))))))))))) (by kernel_rfl) (.cons rfl (.of_eq (by rw [h1,h2,h3,h9,h10]; try rfl)) .nil)
      ·rcases bt (p0 == 95) with h11 | h11
       ·exact RT hnt (nn 5 (pT :: nn 4 (sk 2 (pF :: pF :: nn 6 (pT :: pF :: nn 3 (pF :: .no :: sk 2 (pT :: .no :: []))))))) [(2,pB true)] (an3 h1 (an3 h2 (an2 h3 (an h2 (an h3 (an h2 (an3 ff (an2 h9 (an ff (an h9 (an ff (an3 h10 (an3 h11 tv))))))))))))) (by kernel_rfl) (.cons rfl (.of_eq (by rw [h1,h2,h3,h9,h10,h11]; try rfl)) .nil)
       ·exact RT hnt (nn 5 (pT :: nn 4 (sk 2 (pF :: pF :: nn 6 (pT :: pF :: nn 3 (pF :: nn 3 (pF :: .no :: []))))))) [(2,pB (p0 == 45))] (an3 h1 (an3 h2 (an2 h3 (an h2 (an h3 (an h2 (an3 ff (an2 h9 (an ff (an h9 (an ff (an3 h10 (an3 h11 tv))))))))))))) (by kernel_rfl) (.cons rfl (.of_eq (by rw [h1,h2,h3,h9,h10,h11]; try rfl)) .nil)
     ·rcases bt (p0 == 95) with h12 | h12
      ·exact RT hnt (nn 5 (pT :: nn 4 (sk 2 (pF :: pF :: nn 4 (sk 2 (pF :: pF :: nn 3 (pF :: .no :: sk 2 (pT :: .no :: [])))))))) [(2,pB true)] (an3 h1 (an3 h2 (an2 h3 (an h2 (an h3 (an h2 (an3 ff (an2 h9 (an ff (an h9 (an4 ff (an3 h12 tv)))))))))))) (by kernel_rfl) (.cons rfl (.of_eq (by rw [h1,h2,h3,h9,h12]; try rfl)) .nil)
      ·exact RT hnt (nn 5 (pT :: nn 4 (sk 2 (pF :: pF :: nn 4 (sk 2 (pF :: pF :: nn 3 (pF :: nn 3 (pF :: .no :: [])))))))) [(2,pB (p0 == 45))] (an3 h1 (an3 h2 (an2 h3 (an h2 (an h3 (an h2 (an3 ff (an2 h9 (an ff (an h9 (an4 ff (an3 h12 tv)))))))))))) (by kernel_rfl) (.cons rfl (.of_eq (by rw [h1,h2,h3,h9,h12]; try rfl)) .nil)
  ·rcases bt (decide (p0 ≥ 65)) with h13 | h13
   ·rcases bt (decide (p0 ≤ 90)) with h14 | h14
    ·exact RT hnt (nn 3 (sk 2 (pF :: nn 6 (pT :: pF :: .no :: sk 6 (pT :: .no :: sk 2 (pT :: .no :: sk 2 (pT :: .no :: []))))))) [(2,pB true)] (an3 h1 (an3 ff (an2 h13 (an ff (an h13 (an ff (an5 h14 (an6 tt tv)))))))) (by kernel_rfl) (.cons rfl (.of_eq (by rw [h1,h13,h14]; try rfl)) .nil)
    ·rcases bt (decide (p0 ≥ 48)) with h15 | h15
     ·rcases bt (decide (p0 ≤ 57)) with h16 | h16
      ·exact RT hnt (nn 3 (sk 2 (pF :: nn 6 (pT :: pF :: nn 6 (pT :: pF :: .no :: sk 2 (pT :: .no :: sk 2 (pT :: .no :: []))))))) [(2,pB true)] (an3 h1 (an3 ff (an2 h13 (an ff (an h13 (an ff (an3 h14 (an2 h15 (an h14 (an h15 (an h14 (an3 h16 (an3 tt tv))))))))))))) (by kernel_rfl) (.cons rfl (.of_eq (by rw [h1,h13,h14,h15,h16]; try rfl)) .nil)
      ·rcases bt (p0 == 95) with h17 | h17
       ·exact RT hnt (nn 3 (sk 2 (pF :: nn 6 (pT :: pF :: nn 6 (pT :: pF :: nn 3 (pF :: .no :: sk 2 (pT :: .no :: []))))))) [(2,pB true)] (an3 h1 (an3 ff (an2 h13 (an ff (an h13 (an ff (an3 h14 (an2 h15 (an h14 (an h15 (an h14 (an3 h16 (an3 h17 tv))))))))))))) (by kernel_rfl) (.cons rfl (.of_eq (by rw [h1,h13,h14,h15,h16,h17]; try rfl)) .nil)
       ·exact RT hnt (nn 3 (sk 2 (pF :: nn 6 (pT :: pF :: nn 6 (pT :: pF :: nn 3 (pF :: nn 3 (pF :: .no :: []))))))) [(2,pB (p0 == 45))] (an3 h1 (an3 ff (an2 h13 (an ff (an h13 (an ff (an3 h14 (an2 h15 (an h14 (an h15 (an h14 (an3 h16 (an3 h17 tv))))))))))))) (by kernel_rfl) (.cons rfl (.of_eq (by rw [h1,h13,h14,h15,h16,h17]; try rfl)) .nil)
     ·rcases bt (p0 == 95) with h18 | h18
      ·exact RT hnt (nn 3 (sk 2 (pF :: nn 6 (pT :: pF :: nn 4 (sk 2 (pF :: pF :: nn 3 (pF :: .no :: sk 2 (pT :: .no :: [])))))))) [(2,pB true)] (an3 h1 (an3 ff (an2 h13 (an ff (an h13 (an ff (an3 h14 (an2 h15 (an h14 (an h15 (an h14 (an3 ff (an3 h18 tv))))))))))))) (by kernel_rfl) (.cons rfl (.of_eq (by rw [h1,h13,h14,h15,h18]; try rfl)) .nil)
      ·exact RT hnt (nn 3 (sk 2 (pF :: nn 6 (pT :: pF :: nn 4 (sk 2 (pF :: pF :: nn 3 (pF :: nn 3 (pF :: .no :: [])))))))) [(2,pB (p0 == 45))] (an3 h1 (an3 ff (an2 h13 (an ff (an h13 (an ff (an3 h14 (an2 h15 (an h14 (an h15 (an h14 (an3 ff (an3 h18 tv))))))))))))) (by kernel_rfl) (.cons rfl (.of_eq (by rw [h1,h13,h14,h15,h18]; try rfl)) .nil)
   ·rcases bt (decide (p0 ≥ 48)) with h19 | h19
    ·rcases bt (decide (p0 ≤ 57)) with h20 | h20
     ·exact RT hnt (nn 3 (sk 2 (pF :: nn 4 (sk 2 (pF :: pF :: nn 6 (pT :: pF :: .no :: sk 2 (pT :: .no :: sk 2 (pT :: .no :: [])))))))) [(2,pB true)] (an3 h1 (an3 ff (an2 h13 (an ff (an h13 (an4 ff (an2 h19 (an ff (an h19 (an ff (an3 h20 (an3 tt tv)))))))))))) (by kernel_rfl) (.cons rfl (.of_eq (by rw [h1,h13,h19,h20]; try rfl)) .nil)
     ·rcases bt (p0 == 95) with h21 | h21
      ·exact RT hnt (nn 3 (sk 2 (pF :: nn 4 (sk 2 (pF :: pF :: nn 6 (pT :: pF :: nn 3 (pF :: .no :: sk 2 (pT :: .no :: [])))))))) [(2,pB true)] (an3 h1 (an3 ff (an2 h13 (an ff (an h13 (an4 ff (an2 h19 (an ff (an h19 (an ff (an3 h20 (an3 h21 tv)))))))))))) (by kernel_rfl) (.cons rfl (.of_eq (by rw [h1,h13,h19,h20,h21]; try rfl)) .nil)
      ·exact RT hnt (nn 3 (sk 2 (pF :: nn 4 (sk 2 (pF :: pF :: nn 6 (pT :: pF :: nn 3 (pF :: nn 3 (pF :: .no :: [])))))))) [(2,pB (p0 == 45))] (an3 h1 (an3 ff (an2 h13 (an ff (an h13 (an4 ff (an2 h19 (an ff (an h19 (an ff (an3 h20 (an3 h21 tv)))))))))))) (by kernel_rfl) (.cons rfl (.of_eq (by rw [h1,h13,h19,h20,h21]; try rfl)) .nil)
    ·rcases bt (p0 == 95) with h22 | h22
     ·exact RT hnt (nn 3 (sk 2 (pF :: nn 4 (sk 2 (pF :: pF :: nn 4 (sk 2 (pF :: pF :: nn 3 (pF :: .no :: sk 2 (pT :: .no :: []))))))))) [(2,pB true)] (an3 h1 (an3 ff (an2 h13 (an ff (an h13 (an4 ff (an2 h19 (an ff (an h19 (an4 ff (an3 h22 tv))))))))))) (by kernel_rfl) (.cons rfl (.of_eq (by rw [h1,h13,h19,h22]; try rfl)) .nil)
     ·exact RT hnt (nn 3 (sk 2 (pF :: nn 4 (sk 2 (pF :: pF :: nn 4 (sk 2 (pF :: pF :: nn 3 (pF :: nn 3 (pF :: .no :: []))))))))) [(2,pB (p0 == 45))] (an3 h1 (an3 ff (an2 h13 (an ff (an h13 (an4 ff (an2 h19 (an ff (an h19 (an4 ff (an3 h22 tv))))))))))) (by kernel_rfl) (.cons rfl (.of_eq (by rw [h1,h13,h19,h22]; try rfl)) .nil)
 ·refine DW.ret ?_
  obtain rfl := sj hm
  exact Ai [] [] (pB ((((((decide (p0 ≥ 97)) && (decide (p0 ≤ 122))) || ((decide (p0 ≥ 65)) && (decide (p0 ≤ 90)))) || ((decide (p0 ≥ 48)) && (decide (p0 ≤ 57)))) || (p0 == 95)) || (p0 == 45)))
abbrev o11 (ks : List Nat) (b : Bool) (RES : Bool) (sm : List Nat := []) : Orc := .call 209 ks b (pB RES) [] [] sm

theorem Wn (p0 : ByteArray) (RES : Bool) (hm : Uw p0 = some RES) : Spec Tryz.prog 200 [pS p0] [] (pB RES) [] [] := by
 unfold Uw at hm
 refine SO Tryz.func200 rfl rfl [(0,pS p0)] [] ?_
 intro cx hnt
 refine Sq (RK hnt (.no :: []) [(0,pS p0)] [] tv ?_)
 refine Sq (Sq (RN hnt (nn 4 []) [(0,pS p0),(6,.p (Mp 1 (encK .u8) 0 (Iy p0))),(7,pI ((p0.size : Nat) : Int)),(8,pI 0)] [] [(6,.p (.sl .unk 1 p0.size (Acb p0)))] [] tv (by kernel_rfl) (.cons rfl (MLe.typed RowIs.bytes) .nil) .nil ?_))
 refine Bk ?_
 obtain ⟨hc1,hm⟩ := go1 hm
 refine DW.rangeO (fun (k1 : Nat) (s1 : Unit) => Aj [(0,pS p0),(6,.p (Mp 1 (encK .u8) 0 (Iy p0))),(7,pI ((p0.size : Nat) : Int)),(8,pI ((k1 : Nat) : Int))] []) 0 hm .refl ?_
 intro k1 s1 n1 hk1 hs1 he1
 refine Sq (RD hnt (.no :: []) [] [(9,pB (decide (((k1 : Nat) : Int) < ((p0.size : Nat) : Int))))] [] [] tv ?_)
 refine Sq (Cd (decide (((k1 : Nat) : Int) < ((p0.size : Nat) : Int))) ?_ ?_)
 ·intro h15
  have hlt1 : k1 < (Iy p0).length := by have := of_decide_eq_true h15; have := Pu p0; omega
  have hm := hs1 hlt1
  unfold AaF at hm
  refine Sk ?_
  refine Sq (Bk ?_)
  refine Sq (RD hnt (nn 3 []) [9] [(4,.p (vk .u8 ((Iy p0).getD k1 0)))] [] [] (an (nn0 k1) (an (ltc hlt1) tv)) ?_)
  obtain ⟨r16,hr16,hm⟩ := bo hm
  refine Sq (RD hnt (.no :: o11 [] true r16 :: .no :: []) [4] [(14,pB (!r16))] [] [] (an (AgW ((Iy p0).getD k1 0) r16 hr16) tv) ?_)
  refine Ah hm ?_ ?_
  ·intro h17 hm
   refine Sq (RK hnt (.no :: []) [(2,pB false)] [] tv ?_)
   obtain rfl := sj hm
   exact DW.ret (Ai [] [] (pB false))
  ·intro h17 hm
   refine Sk ?_
   refine DW.done ?_
   show DW _ _ _ _ _
   refine RD hnt (nn 2 []) [14] [(8,pI (w64 (((k1 : Nat) : Int) + 1)))] [] [] tv ?_
   exact jD () ⟨hlt1,hm⟩ (Conv.tp [(8,pI (w64 (((k1 : Nat) : Int) + 1)))] [] (by kernel_rfl) (.cons rfl (.of_eq (congrArg pI (Bo hlt1 hc1))) .nil) .nil)
 ·intro h15
  have hge1 : ¬ k1 < (Iy p0).length := by have := of_decide_eq_false h15; have := Pu p0; omega
  have hm := he1 hge1
  unfold Aau at hm
  refine DW.exit ?_
  refine Ap ?_
  refine Au ?_
  refine Am ?_
  show DW _ _ _ _ _
  refine Sq ?_
  refine Jn (ι := Bool) (fun (y3 : Bool) => Aj [(2,pB y3)] []) (fun y3 => Ox y3 = some RES) ?_ ?_
  ·intro y3 hm
   unfold Ox at hm
   obtain rfl := sj hm
   exact DW.ret (Ai [] [] (pB y3))
  ·rcases bt (!(Ea p0 ByteArray.empty)) with h18 | h18
   ·replace hm := Bg h18 hm
    rcases bt (decide (((p0.size : Nat) : Int) ≤ 32)) with h19 | h19
    ·replace hm := Bg h19 hm
     obtain ⟨g20,hm⟩ := go1 hm
     refine RK hnt (nn 6 (pT :: nn 4 (pT :: .no :: []))) [(2,pB ((((Br p0 0) : Nat) : Int) != 45))] [] (an4 h18 (an2 h19 (an (nn0 0) (an (ltc g20) (an2 h19 tv))))) ?_
     exact jD ((((Br p0 0) : Nat) : Int) != 45) hm .refl
    ·replace hm := Bf h19 hm
     refine RK hnt (nn 6 (pT :: .no :: sk 3 (pF :: .no :: []))) [(2,pB false)] [] (an4 h18 (an4 h19 tv)) ?_
     exact jD false hm .refl
   ·replace hm := Bf h18 hm
    refine RK hnt (nn 3 (sk 3 (pF :: .no :: sk 3 (pF :: .no :: [])))) [(2,pB false)] [] (an4 h18 (an4 ff tv)) ?_
    exact jD false hm .refl
abbrev o10 (ks : List Nat) (b : Bool) (RES : Bool) (sm : List Nat := []) : Orc := .call 200 ks b (pB RES) [] [] sm

abbrev c9e1 (p0 : List Ao) (k1 : Nat) := (p0.getD k1 (default : Ao))
abbrev c9e2 (p1 : Ao) : Nat × Obj := (1024,bx (pm (Ar p1)))
abbrev c9e3 (p0 : List Ao) : Nat × MV := (35,pI ((p0.length : Nat) : Int))
theorem Ain (p0 : List Ao) (p1 : Ao) (RES : Bool) (hm : Xv p0 p1 = some RES) : Spec Tryz.prog 176 [.p (Ba p0),.p (.agg (Ar p1))] [] (pB RES) [] [] := by
 unfold Xv at hm
 refine SO Tryz.func176 rfl rfl [(0,.p (Ba p0)),(1,.p (.agg (Ar p1)))] [] ?_
 intro cx hnt
 refine Sq (RD hnt (nn 2 []) [1] [(3,rr 1024)] [] [(c9e2 p1)] tv ?_)
 obtain ⟨g1,hm⟩ := go1 hm
 refine Sq (Sq ?_)
 refine Jn (ι := Bool) (fun (y1 : Bool) => Aj [(0,.p (Ba p0)),(3,rr 1024),(33,pB y1)] [(c9e2 p1)]) (fun y1 => (Kg p0 p1) y1 = some RES) ?_ ?_
 ·intro y1 hm
  unfold Kg at hm
  refine Ah hm ?_ ?_
  ·intro h6 hm
   refine Sq (RK hnt (.no :: []) [(4,pB false)] [] tv ?_)
   obtain rfl := sj hm
   exact DW.ret (Ai [] [] (pB false))
  ·intro h6 hm
   refine Sk ?_
   refine Sq (RD hnt (.no :: []) [33] [(5,pB false)] [] [] tv ?_)
   refine Sq (Sq (RD hnt (nn 3 []) [0] [(34,.p (Ba p0)),(c9e3 p0),(36,pI 0)] [] [] tv ?_))
   refine Bk ?_
   obtain ⟨hc1,hm⟩ := go1 hm
   refine DW.rangeO (fun (k1 : Nat) (s1 : Bool) => Aj [(3,rr 1024),(5,pB s1),(34,.p (Ba p0)),(c9e3 p0),(36,pI ((k1 : Nat) : Int))] [(c9e2 p1)]) Bm hm Conv.eqK ?_
   intro k1 s1 n1 hk1 hs1 he1
   refine Sq (RD hnt (.no :: []) [] [(37,pB (decide (((k1 : Nat) : Int) < ((p0.length : Nat) : Int))))] [] [] tv ?_)
   refine Sq (Cd (decide (((k1 : Nat) : Int) < ((p0.length : Nat) : Int))) ?_ ?_)
   ·intro h16
    have hlt1 : k1 < p0.length := by have := of_decide_eq_true h16; omega
    have hm := hs1 hlt1
    unfold AbH at hm
    refine Sk ?_
    refine Sq (Bk ?_)
    refine Sq (RD hnt (nn 4 []) [37] [(7,rr 1056)] [] [(1056,bx (pm (Ar (c9e1 p0 k1))))] (an (nn0 k1) (an (ltc hlt1) tv)) ?_)
    refine Sq (DW.regJ (sl2 := [(3,rr 1024),(5,pB (s1 || ((c9e1 p0 k1).id == p1.parent))),(7,rr 1056),(34,.p (Ba p0)),(c9e3 p0),(36,pI ((k1 : Nat) : Int))]) (ob2 := [(c9e2 p1),(1056,bx (pm (Ar (c9e1 p0 k1))))]) ?_ ?_)
    ·rcases bt s1 with h17 | h17
     ·exact RT hnt (nn 2 (sk 5 (pT :: .no :: []))) [(5,pB true)] (an6 h17 tv) (by kernel_rfl) (.cons rfl (.of_eq (by rw [h17]; try rfl)) .nil)
     ·exact RT hnt (nn 7 (pF :: .no :: [])) [(5,pB ((c9e1 p0 k1).id == p1.parent))] (an6 h17 tv) (by kernel_rfl) (.cons rfl (.of_eq (by rw [h17]; try rfl)) .nil)
    ·refine Sq (DW.regJ (sl2 := [(3,rr 1024),(5,pB (s1 || ((c9e1 p0 k1).id == p1.parent))),(34,.p (Ba p0)),(c9e3 p0),(36,pI ((k1 : Nat) : Int)),(59,pB (((c9e1 p0 k1).parent == p1.parent) && (Ea (c9e1 p0 k1).name p1.name)))]) (ob2 := [(c9e2 p1)]) ?_ ?_)
     ·rcases bt ((c9e1 p0 k1).parent == p1.parent) with h18 | h18
      ·exact RT hnt (nn 11 (pT :: [])) [(59,pB (Ea (c9e1 p0 k1).name p1.name))] (an6 h18 tv) (by kernel_rfl) (.cons rfl (.of_eq (by rw [h18]; try rfl)) .nil)
      ·exact RT hnt (nn 6 (sk 5 (pF :: []))) [(59,pB false)] (an6 h18 tv) (by kernel_rfl) (.cons rfl (.of_eq (by rw [h18]; try rfl)) .nil)
     ·refine Ah hm ?_ ?_
      ·intro h19 hm
       refine Sq (RK hnt (.no :: []) [(4,pB false)] [] tv ?_)
       obtain rfl := sj hm
       exact DW.ret (Ai [] [] (pB false))
      ·intro h19 hm
       refine Sk ?_
       refine DW.done ?_
       show DW _ _ _ _ _
       refine RD hnt (nn 2 []) [59] [(36,pI (w64 (((k1 : Nat) : Int) + 1)))] [] [] tv ?_
       exact jD (s1 || ((c9e1 p0 k1).id == p1.parent)) ⟨hlt1,hm⟩ (Conv.tp [(36,pI (w64 (((k1 : Nat) : Int) + 1)))] [] (by kernel_rfl) (.cons rfl (.of_eq (congrArg pI (Bo hlt1 hc1))) .nil) .nil)
   ·intro h16
    have hge1 : ¬ k1 < p0.length := by have := of_decide_eq_false h16; omega
    have hm := he1 hge1
    unfold Afy at hm
    refine DW.exit ?_
    refine Ap ?_
    refine Au ?_
    refine Am ?_
    show DW _ _ _ _ _
    refine Sq (RK hnt (nn 2 []) [(4,pB s1)] [] tv ?_)
    obtain rfl := sj hm
    exact DW.ret (Ai [] [] (pB s1))
 ·rcases bt (decide (p1.id ≤ (p0.getD (Int.toNat (w64 (((p0.length : Nat) : Int) - 1))) Bm).id)) with h2 | h2
  ·replace hm := Bg h2 hm
   refine RD hnt (nn 11 (sk 4 (pT :: .no :: sk 8 (pT :: [])))) [] [(33,pB true)] [] [] (an g1.1 (an g1.2 (an5 h2 (an6 tt tv)))) ?_
   exact jD true hm Conv.eqK
  ·replace hm := Bf h2 hm
   obtain ⟨r3,hr3,hm⟩ := bo hm
   rcases bt (!r3) with h4 | h4
   ·replace hm := Bg h4 hm
    refine RD hnt (nn 13 (o10 [] true r3 :: .no :: pF :: .no :: sk 8 (pT :: []))) [] [(33,pB true)] [] [] (an g1.1 (an g1.2 (an3 h2 (an (Wn p1.name r3 hr3) (an2 h2 (an6 h4 tv)))))) ?_
    exact jD true hm Conv.eqK
   ·replace hm := Bf h4 hm
    rcases bt (p1.kind != 0) with h5 | h5
    ·replace hm := Bg h5 hm
     refine RD hnt (nn 13 (o10 [] true r3 :: .no :: pF :: nn 8 (pT :: pF :: []))) [] [(33,pB (p1.kind != 1))] [] [] (an g1.1 (an g1.2 (an3 h2 (an (Wn p1.name r3 hr3) (an2 h2 (an4 h4 (an3 h5 (an h4 (an h5 (an h4 tv)))))))))) ?_
     exact jD (p1.kind != 1) hm Conv.eqK
    ·replace hm := Bf h5 hm
     refine RD hnt (nn 13 (o10 [] true r3 :: .no :: pF :: nn 5 (sk 3 (pF :: pF :: [])))) [] [(33,pB false)] [] [] (an g1.1 (an g1.2 (an3 h2 (an (Wn p1.name r3 hr3) (an2 h2 (an4 h4 (an3 h5 (an h4 (an h5 (an h4 tv)))))))))) ?_
     exact jD false hm Conv.eqK
abbrev o9 (ks : List Nat) (b : Bool) (RES : Bool) (sm : List Nat := []) : Orc := .call 176 ks b (pB RES) [] [] sm

abbrev Qr (p0 : Ag) (k1 : Nat) := (p0.nodes.getD k1 (default : Ao))
abbrev c7e2 (s1 : IMap Int) (p0 : Ag) (k1 : Nat) := (s1.set (Qr p0 k1).id (w64 ((s1.get (Qr p0 k1).parent) + 1)))
abbrev c7e3 (p0 : Ag) : Nat × MV := (27,pI ((p0.nodes.length : Nat) : Int))
abbrev c7e4 (p0 : Ag) : Nat × Obj := (1008,bx (pm (As p0)))
theorem Wg (p0 : Ag) (RES : Bool) (hm : Ni p0 = some RES) : Spec Tryz.prog 136 [.p (.agg (As p0))] [] (pB RES) [] [] := by
 unfold Ni at hm
 refine SO Tryz.func136 rfl rfl [(0,.p (.agg (As p0)))] [] ?_
 intro cx hnt
 refine Sq (RK hnt (nn 2 []) [(1,rr 1008)] [(c7e4 p0)] tv ?_)
 refine Sq (Sq ?_)
 refine Jn (ι := Bool) (fun (y1 : Bool) => Aj [(1,rr 1008),(23,pB y1)] [(c7e4 p0)]) (fun y1 => (On p0) y1 = some RES) ?_ ?_
 ·intro y1 hm
  unfold On at hm
  refine Ah hm ?_ ?_
  ·intro h5 hm
   refine Sq (RK hnt (.no :: []) [(2,pB false)] [] tv ?_)
   obtain rfl := sj hm
   exact DW.ret (Ai [] [] (pB false))
  ·intro h5 hm
   refine Sk ?_
   refine Sq (RD hnt (nn 2 []) [23] [(3,.mref 1192 0)] [] [(1192,ob0 (mapOf vi (vi 0) (IMap.empty 0)))] tv ?_)
   refine Sq (Sq (RD hnt (nn 4 []) [] [(26,.p (Ba p0.nodes)),(c7e3 p0),(28,pI 0)] [] [] tv ?_))
   refine Bk ?_
   obtain ⟨hc1,hm⟩ := go1 hm
   refine DW.rangeO (fun (k1 : Nat) (s1 : IMap Int) => Aj [(1,rr 1008),(3,.mref 1192 0),(26,.p (Ba p0.nodes)),(c7e3 p0),(28,pI ((k1 : Nat) : Int))] [(c7e4 p0),(1192,ob0 (mapOf vi (vi 0) s1))]) Bm hm Conv.eqK ?_
   intro k1 s1 n1 hk1 hs1 he1
   refine Sq (RD hnt (.no :: []) [] [(29,pB (decide (((k1 : Nat) : Int) < ((p0.nodes.length : Nat) : Int))))] [] [] tv ?_)
   refine Sq (Cd (decide (((k1 : Nat) : Int) < ((p0.nodes.length : Nat) : Int))) ?_ ?_)
   ·intro h36
    have hlt1 : k1 < p0.nodes.length := by have := of_decide_eq_true h36; omega
    have hm := hs1 hlt1
    unfold Aay at hm
    refine Sk ?_
    refine Sq (Bk ?_)
    refine Sq (RD hnt (nn 6 []) [29] [(4,pI ((k1 : Nat) : Int)),(5,rr 1040)] [] [(1040,bx (pm (Ar (Qr p0 k1))))] (an (nn0 k1) (an (ltc hlt1) tv)) ?_)
    refine Sq (Sq ?_)
    refine Jn (ι := Bool) (fun (y8 : Bool) => Aj [(1,rr 1008),(3,.mref 1192 0),(4,pI ((k1 : Nat) : Int)),(5,rr 1040),(26,.p (Ba p0.nodes)),(c7e3 p0),(28,pI ((k1 : Nat) : Int)),(64,pB y8)] [(c7e4 p0),(1040,bx (pm (Ar (Qr p0 k1)))),(1192,ob0 (mapOf vi (vi 0) s1))]) (fun y8 => (Gx k1 (Qr p0 k1) s1 n1) y8 = some RES) ?_ ?_
    ·intro y8 hm
     unfold Gx at hm
     refine Ah hm ?_ ?_
     ·intro h44 hm
      refine Sq (RK hnt (.no :: []) [(2,pB false)] [] tv ?_)
      obtain rfl := sj hm
      exact DW.ret (Ai [] [] (pB false))
     ·intro h44 hm
      refine Sk ?_
      refine Sq (Sq (RD hnt (nn 2 []) [4,64] [(66,pB (decide (((k1 : Nat) : Int) > 0)))] [] [] tv ?_))
      refine Jn (ι := IMap Int) (fun (y9 : IMap Int) => Aj [(1,rr 1008),(3,.mref 1192 0),(5,rr 1040),(26,.p (Ba p0.nodes)),(c7e3 p0),(28,pI ((k1 : Nat) : Int))] [(c7e4 p0),(1040,bx (pm (Ar (Qr p0 k1)))),(1192,ob0 (mapOf vi (vi 0) y9))]) (fun y9 => (Rl (Qr p0 k1) n1) y9 = some RES) ?_ ?_
      ·intro y9 hm
       unfold Rl at hm
       refine Sq (RD hnt (nn 5 []) [5] [(79,pB (decide ((y9.get (Qr p0 k1).id) > 8)))] [1040] [] (an (rfl : vi 0 = vi 0) tv) ?_)
       refine Ah hm ?_ ?_
       ·intro h46 hm
        refine Sq (RK hnt (.no :: []) [(2,pB false)] [] tv ?_)
        obtain rfl := sj hm
        exact DW.ret (Ai [] [] (pB false))
       ·intro h46 hm
        refine Sk ?_
        refine DW.done ?_
        show DW _ _ _ _ _
        refine RD hnt (nn 2 []) [79] [(28,pI (w64 (((k1 : Nat) : Int) + 1)))] [] [] tv ?_
        exact jD y9 ⟨hlt1,hm⟩ (Conv.tp [(28,pI (w64 (((k1 : Nat) : Int) + 1)))] [] (by kernel_rfl) (.cons rfl (.of_eq (congrArg pI (Bo hlt1 hc1))) .nil) .nil)
      ·refine Ah hm ?_ ?_
       ·intro h45 hm
        refine RD hnt (nn 8 (.asM (c7e2 s1 p0 k1).has (fun j => vi ((c7e2 s1 p0 k1).get j)) :: [])) [66] [] [] [(1192,ob0 (mapOf vi (vi 0) (c7e2 s1 p0 k1)))] (an (rfl : vi 0 = vi 0) (an (mset_has s1 (Qr p0 k1).id (w64 ((s1.get (Qr p0 k1).parent) + 1))) (an (mset_get vi s1 (Qr p0 k1).id (w64 ((s1.get (Qr p0 k1).parent) + 1))) tv))) ?_
        exact jD (c7e2 s1 p0 k1) hm Conv.eqK
       ·intro h45 hm
        refine Sk ?_
        exact jD s1 hm Conv.t0
    ·rcases bt (decide ((Qr p0 k1).control < 0)) with h37 | h37
     ·replace hm := Bg h37 hm
      refine RD hnt (nn 4 (sk 4 (pT :: .no :: sk 3 (pT :: .no :: sk 3 (pT :: .no :: sk 11 (pT :: [])))))) [] [(64,pB true)] [] [] (an5 h37 (an tt (an6 tt (an6 tt tv)))) ?_
      exact jD true hm Conv.eqK
     ·replace hm := Bf h37 hm
      rcases bt ((Ek .i64 (Qr p0 k1).control 31) != 0) with h38 | h38
      ·replace hm := Bg h38 hm
       refine RD hnt (nn 8 (pF :: .no :: sk 3 (pT :: .no :: sk 3 (pT :: .no :: sk 11 (pT :: []))))) [] [(64,pB true)] [] [] (an5 h37 (an4 h38 (an3 tt (an6 tt tv)))) ?_
       exact jD true hm Conv.eqK
      ·replace hm := Bf h38 hm
       rcases bt (decide ((Qr p0 k1).owner < 0)) with h39 | h39
       ·replace hm := Bg h39 hm
        refine RD hnt (nn 8 (pF :: nn 4 (pF :: .no :: sk 3 (pT :: .no :: sk 11 (pT :: []))))) [] [(64,pB true)] [] [] (an5 h37 (an4 h38 (an4 h39 (an5 tt tv)))) ?_
        exact jD true hm Conv.eqK
       ·replace hm := Bf h39 hm
        rcases bt (decide ((Qr p0 k1).owner > 1048576)) with h40 | h40
        ·replace hm := Bg h40 hm
         refine RD hnt (nn 8 (pF :: nn 4 (pF :: nn 4 (pF :: .no :: sk 11 (pT :: []))))) [] [(64,pB true)] [] [] (an5 h37 (an4 h38 (an4 h39 (an5 h40 tv)))) ?_
         exact jD true hm Conv.eqK
        ·replace hm := Bf h40 hm
         rcases bt (decide (((k1 : Nat) : Int) > 0)) with h41 | h41
         ·replace hm := Bg h41 hm
          obtain ⟨g42,hm⟩ := go1 hm
          obtain ⟨r43,hr43,hm⟩ := bo hm
          refine RD hnt (nn 8 (pF :: nn 4 (pF :: nn 4 (pF :: nn 9 (o9 [] true r43 :: .no :: pT :: pF :: []))))) [] [(64,pB (!r43))] [] [] (an5 h37 (an4 h38 (an4 h39 (an3 h40 (an4 h41 (an (by omega : (0 : Int) ≤ 0) (an (by omega : (0 : Int) ≤ ((k1 : Nat) : Int)) (an (by omega : ((k1 : Nat) : Int) ≤ ((p0.nodes.length : Nat) : Int)) (an2 h41 (an (Spec.args (xs := [.p (.sl .unk 6 k1 (Xu p0.nodes)),.p (.agg (Ar (Qr p0 k1)))]) (Ain (p0.nodes.take k1) (Qr p0 k1) r43 hr43) (.cons (.p (PLe.typed (RowIs.elems.take (by omega)))) (.cons .rfl .nil))) (an h41 (an h40 (an h41 (an h40 tv)))))))))))))) ?_
          exact jD (!r43) hm Conv.eqK
         ·replace hm := Bf h41 hm
          refine RD hnt (nn 8 (pF :: nn 4 (pF :: nn 4 (pF :: nn 4 (sk 7 (pF :: pF :: [])))))) [] [(64,pB false)] [] [] (an5 h37 (an4 h38 (an4 h39 (an3 h40 (an h41 (an6 h41 (an h40 (an h41 (an h40 tv))))))))) ?_
          exact jD false hm Conv.eqK
   ·intro h36
    have hge1 : ¬ k1 < p0.nodes.length := by have := of_decide_eq_false h36; omega
    have hm := he1 hge1
    unfold Aar at hm
    refine DW.exit ?_
    refine Ap ?_
    refine Au ?_
    refine Am ?_
    show DW _ _ _ _ _
    obtain ⟨g47,hm⟩ := go1 hm
    refine Sq ?_
    refine Jn (ι := Bool) (fun (y10 : Bool) => Aj [(2,pB y10)] []) (fun y10 => Px y10 = some RES) ?_ ?_
    ·intro y10 hm
     unfold Px at hm
     obtain rfl := sj hm
     exact DW.ret (Ai [] [] (pB y10))
    ·rcases bt (decide (p0.next > (p0.nodes.getD (Int.toNat (w64 (((p0.nodes.length : Nat) : Int) - 1))) Bm).id)) with h48 | h48
     ·replace hm := Bg h48 hm
      refine RK hnt (nn 16 (pT :: .no :: [])) [(2,pB (decide (p0.next ≤ 2147483648)))] [] (an g47.1 (an g47.2 (an4 h48 tv))) ?_
      exact jD (decide (p0.next ≤ 2147483648)) hm .refl
     ·replace hm := Bf h48 hm
      refine RK hnt (nn 13 (sk 3 (pF :: .no :: []))) [(2,pB false)] [] (an g47.1 (an g47.2 (an4 h48 tv))) ?_
      exact jD false hm .refl
 ·rcases bt (decide (((p0.nodes.length : Nat) : Int) < 1)) with h1 | h1
  ·replace hm := Bg h1 hm
   refine RD hnt (nn 5 (sk 4 (pT :: .no :: sk 6 (pT :: [])))) [] [(23,pB true)] [] [] (an5 h1 (an tt (an6 tt tv))) ?_
   exact jD true hm Conv.eqK
  ·replace hm := Bf h1 hm
   rcases bt (decide (((p0.nodes.length : Nat) : Int) > 64)) with h2 | h2
   ·replace hm := Bg h2 hm
    refine RD hnt (nn 9 (pF :: .no :: sk 6 (pT :: []))) [] [(23,pB true)] [] [] (an5 h1 (an h2 (an6 h2 tv))) ?_
    exact jD true hm Conv.eqK
   ·replace hm := Bf h2 hm
    obtain ⟨g3,hm⟩ := go1 hm
    obtain ⟨r4,hr4,hm⟩ := bo hm
    refine RD hnt (nn 9 (pF :: nn 5 (o8 [] true r4 :: .no :: pF :: []))) [] [(23,pB (!r4))] [] [] (an5 h1 (an3 h2 (an (nn0 0) (an (ltc g3) (an2 h2 (an (Aia (p0.nodes.getD 0 Bm) r4 hr4) (an2 h2 tv))))))) ?_
    exact jD (!r4) hm Conv.eqK
abbrev o7 (ks : List Nat) (b : Bool) (RES : Bool) (sm : List Nat := []) : Orc := .call 136 ks b (pB RES) [] [] sm

theorem AhY (p0 : Aw) (p1 : Int) (RES : Bool) (hm : AdU p0 p1 = some RES) : Spec Tryz.prog 208 [.p (.agg (Az p0)),rr 0] [.box [pI p1]] (pB RES) [.box [pI p1]] [] := by
 unfold AdU at hm
 refine SO Tryz.func208 rfl rfl [(0,.p (.agg (Az p0))),(1,rr 0)] [(0,bx [pI p1])] ?_
 intro cx hnt
 refine Sq (RD hnt (nn 2 []) [0] [(2,rr 1016)] [] [(1016,bx (pm (Az p0)))] tv ?_)
 refine Sq (RK hnt (nn 5 []) [(3,pB (p0.id == p1))] [(0,bx [pI p1])] tv ?_)
 obtain rfl := sj hm
 exact DW.ret (Ai [.box [pI p1]] [] (pB (p0.id == p1)))

theorem Sp (p0 : List Aw) (p1c0 : Int) (RES : Int) (hm : Gg p0 p1c0 = some RES) : Spec Tryz.prog 207 [.p (Be p0),.fn 208 [rr 0]] [.box [pI p1c0]] (pI RES) [.box [pI p1c0]] [] := by
 unfold Gg at hm
 refine SO Tryz.func207 rfl rfl [(0,.p (Be p0)),(1,.fn 208 [rr 0])] [(0,bx [pI p1c0])] ?_
 intro cx hnt
 refine Sq (RD hnt (.no :: []) [] [] [] [] tv ?_)
 refine Sq (Sq (RD hnt (nn 3 []) [] [(7,pI ((p0.length : Nat) : Int)),(8,pI 0)] [] [] tv ?_))
 refine Bk ?_
 obtain ⟨hc1,hm⟩ := go1 hm
 refine DW.rangeO (fun (k1 : Nat) (s1 : Unit) => Aj [(0,.p (Be p0)),(1,.fn 208 [rr 0]),(7,pI ((p0.length : Nat) : Int)),(8,pI ((k1 : Nat) : Int))] [(0,bx [pI p1c0])]) Bu hm Conv.eqK ?_
 intro k1 s1 n1 hk1 hs1 he1
 refine Sq (RD hnt (.no :: []) [] [(9,pB (decide (((k1 : Nat) : Int) < ((p0.length : Nat) : Int))))] [] [] tv ?_)
 refine Sq (Cd (decide (((k1 : Nat) : Int) < ((p0.length : Nat) : Int))) ?_ ?_)
 ·intro h9
  have hlt1 : k1 < p0.length := by have := of_decide_eq_true h9; omega
  have hm := hs1 hlt1
  unfold Lq at hm
  refine Sk ?_
  refine Sq (Bk ?_)
  refine Sq (RD hnt (nn 2 []) [9] [(5,pI ((k1 : Nat) : Int))] [] [] tv ?_)
  obtain ⟨r10,hr10,hm⟩ := bo hm
  refine Sq (RD hnt (nn 5 (.call 208 [0] true (pB r10) [.box [pI p1c0]] [] [] :: [])) [] [(16,pB r10)] [] [] (an (nn0 k1) (an (ltc hlt1) (an (AhY (p0.getD k1 (default : Aw)) p1c0 r10 hr10) (an tv tv)))) ?_)
  refine Ah hm ?_ ?_
  ·intro h11 hm
   refine Sq (RK hnt (nn 2 []) [(4,pI ((k1 : Nat) : Int))] [(0,bx [pI p1c0])] tv ?_)
   obtain rfl := sj hm
   exact DW.ret (Ai [.box [pI p1c0]] [] (pI ((k1 : Nat) : Int)))
  ·intro h11 hm
   refine Sk ?_
   refine DW.done ?_
   show DW _ _ _ _ _
   refine RD hnt (nn 2 []) [5,16] [(8,pI (w64 (((k1 : Nat) : Int) + 1)))] [] [] tv ?_
   exact jD () ⟨hlt1,hm⟩ (Conv.tp [(8,pI (w64 (((k1 : Nat) : Int) + 1)))] [] (by kernel_rfl) (.cons rfl (.of_eq (congrArg pI (Bo hlt1 hc1))) .nil) .nil)
 ·intro h9
  have hge1 : ¬ k1 < p0.length := by have := of_decide_eq_false h9; omega
  have hm := he1 hge1
  unfold Lo at hm
  refine DW.exit ?_
  refine Ap ?_
  refine Au ?_
  refine Am ?_
  show DW _ _ _ _ _
  refine Sq (RK hnt (.no :: []) [(4,pI (-1))] [(0,bx [pI p1c0])] tv ?_)
  obtain rfl := sj hm
  exact DW.ret (Ai [.box [pI p1c0]] [] (pI (-1)))

theorem Ajn (p0 : Aa) (p1 : Int) (RES : Int) (hm : Acj p0 p1 = some RES) : Spec Tryz.prog 199 [.p (.agg (Ab p0)),pI p1] [] (pI RES) [] [] := by
 unfold Acj at hm
 refine SO Tryz.func199 rfl rfl [(0,.p (.agg (Ab p0))),(1,pI p1)] [] ?_
 intro cx hnt
 refine Sq (RK hnt (nn 3 []) [(2,rr 1016),(3,rr 1024)] [(1016,bx (pm (Ab p0))),(1024,bx [pI p1])] tv ?_)
 obtain ⟨r1,hr1,hm⟩ := bo hm
 refine Sq (RK hnt (nn 3 (.call 207 [1024] true (pI r1) [.box [pI p1]] [] [] :: .no :: [])) [(4,pI r1)] [] (an (Sp p0.tasks p1 r1 hr1) (an tv tv)) ?_)
 obtain rfl := sj hm
 exact DW.ret (Ai [] [] (pI r1))
abbrev o14 (ks : List Nat) (b : Bool) (RES : Int) (sm : List Nat := []) : Orc := .call 199 ks b (pI RES) [] [] sm

theorem Adg (p0 : Aa) (p1 : Int) (RES : Aw × Bool) (hm : Rj p0 p1 = some RES) : Spec Tryz.prog 173 [.p (.agg (Ab p0)),pI p1] [] (.p (.tup [.agg (Az RES.1),vb RES.2])) [] [] := by
 unfold Rj at hm
 refine SO Tryz.func173 rfl rfl [(0,.p (.agg (Ab p0))),(1,pI p1)] [] ?_
 intro cx hnt
 refine Sq (RK hnt (nn 3 []) [(1,pI p1),(2,rr 1016),(4,rr 1032)] [(1016,bx (pm (Ab p0))),(1032,bx [pI 0,pI 0,pI 0,pI 0])] tv ?_)
 obtain ⟨r1,hr1,hm⟩ := bo hm
 refine Sq (RD hnt (nn 2 (o14 [] true r1 :: .no :: [])) [1] [(6,pI r1)] [] [] (an (Ajn p0 p1 r1 hr1) tv) ?_)
 refine Sq (Sq (RD hnt (nn 2 []) [] [(11,pB (decide (r1 < 0)))] [] [] tv ?_))
 refine Ah hm ?_ ?_
 ·intro h2 hm
  refine Sq (RD hnt (nn 3 []) [2,6,11] [(5,pB false)] [1016] [] tv ?_)
  obtain rfl := sj hm
  exact DW.ret (Ai [] [] (.p (.tup [.agg [vi 0,vi 0,vi 0,vi 0],vb false])))
 ·intro h2 hm
  refine Sk ?_
  obtain ⟨g3,hm⟩ := go1 hm
  refine Sq (RK hnt (nn 7 []) [(4,rr 1032),(5,pB true)] [(1032,bx (pm (Az (p0.tasks.getD (Int.toNat r1) Bu))))] (an g3.1 (an g3.2 tv)) ?_)
  obtain rfl := sj hm
  exact DW.ret (Ai [] [] (.p (.tup [.agg (Az (p0.tasks.getD (Int.toNat r1) Bu)),vb true])))
abbrev o13 (ks : List Nat) (b : Bool) (RES : Aw × Bool) (sm : List Nat := []) : Orc := .call 173 ks b (.p (.tup [.agg (Az RES.1),vb RES.2])) [] [] sm

theorem AgG (p0 : Ao) (p1 : Int) (RES : Bool) (hm : AbP p0 p1 = some RES) : Spec Tryz.prog 202 [.p (.agg (Ar p0)),rr 0] [.box [pI p1]] (pB RES) [.box [pI p1]] [] := by
 unfold AbP at hm
 refine SO Tryz.func202 rfl rfl [(0,.p (.agg (Ar p0))),(1,rr 0)] [(0,bx [pI p1])] ?_
 intro cx hnt
 refine Sq (RD hnt (nn 2 []) [0] [(2,rr 1016)] [] [(1016,bx (pm (Ar p0)))] tv ?_)
 refine Sq (RK hnt (nn 5 []) [(3,pB (p0.id == p1))] [(0,bx [pI p1])] tv ?_)
 obtain rfl := sj hm
 exact DW.ret (Ai [.box [pI p1]] [] (pB (p0.id == p1)))

theorem Rc (p0 : List Ao) (p1c0 : Int) (RES : Int) (hm : Fq p0 p1c0 = some RES) : Spec Tryz.prog 201 [.p (Ba p0),.fn 202 [rr 0]] [.box [pI p1c0]] (pI RES) [.box [pI p1c0]] [] := by
 unfold Fq at hm
 refine SO Tryz.func201 rfl rfl [(0,.p (Ba p0)),(1,.fn 202 [rr 0])] [(0,bx [pI p1c0])] ?_
 intro cx hnt
 refine Sq (RD hnt (.no :: []) [] [] [] [] tv ?_)
 refine Sq (Sq (RD hnt (nn 3 []) [] [(7,pI ((p0.length : Nat) : Int)),(8,pI 0)] [] [] tv ?_))
 refine Bk ?_
 obtain ⟨hc1,hm⟩ := go1 hm
 refine DW.rangeO (fun (k1 : Nat) (s1 : Unit) => Aj [(0,.p (Ba p0)),(1,.fn 202 [rr 0]),(7,pI ((p0.length : Nat) : Int)),(8,pI ((k1 : Nat) : Int))] [(0,bx [pI p1c0])]) Bm hm Conv.eqK ?_
 intro k1 s1 n1 hk1 hs1 he1
 refine Sq (RD hnt (.no :: []) [] [(9,pB (decide (((k1 : Nat) : Int) < ((p0.length : Nat) : Int))))] [] [] tv ?_)
 refine Sq (Cd (decide (((k1 : Nat) : Int) < ((p0.length : Nat) : Int))) ?_ ?_)
 ·intro h9
  have hlt1 : k1 < p0.length := by have := of_decide_eq_true h9; omega
  have hm := hs1 hlt1
  unfold Kv at hm
  refine Sk ?_
  refine Sq (Bk ?_)
  refine Sq (RD hnt (nn 2 []) [9] [(5,pI ((k1 : Nat) : Int))] [] [] tv ?_)
  obtain ⟨r10,hr10,hm⟩ := bo hm
  refine Sq (RD hnt (nn 5 (.call 202 [0] true (pB r10) [.box [pI p1c0]] [] [] :: [])) [] [(16,pB r10)] [] [] (an (nn0 k1) (an (ltc hlt1) (an (AgG (p0.getD k1 (default : Ao)) p1c0 r10 hr10) (an tv tv)))) ?_)
  refine Ah hm ?_ ?_
  ·intro h11 hm
   refine Sq (RK hnt (nn 2 []) [(4,pI ((k1 : Nat) : Int))] [(0,bx [pI p1c0])] tv ?_)
   obtain rfl := sj hm
   exact DW.ret (Ai [.box [pI p1c0]] [] (pI ((k1 : Nat) : Int)))
  ·intro h11 hm
   refine Sk ?_
   refine DW.done ?_
   show DW _ _ _ _ _
   refine RD hnt (nn 2 []) [5,16] [(8,pI (w64 (((k1 : Nat) : Int) + 1)))] [] [] tv ?_
   exact jD () ⟨hlt1,hm⟩ (Conv.tp [(8,pI (w64 (((k1 : Nat) : Int) + 1)))] [] (by kernel_rfl) (.cons rfl (.of_eq (congrArg pI (Bo hlt1 hc1))) .nil) .nil)
 ·intro h9
  have hge1 : ¬ k1 < p0.length := by have := of_decide_eq_false h9; omega
  have hm := he1 hge1
  unfold Ku at hm
  refine DW.exit ?_
  refine Ap ?_
  refine Au ?_
  refine Am ?_
  show DW _ _ _ _ _
  refine Sq (RK hnt (.no :: []) [(4,pI (-1))] [(0,bx [pI p1c0])] tv ?_)
  obtain rfl := sj hm
  exact DW.ret (Ai [.box [pI p1c0]] [] (pI (-1)))

theorem Zc (p0 : Ag) (p1 : Int) (RES : Int) (hm : Pb p0 p1 = some RES) : Spec Tryz.prog 178 [.p (.agg (As p0)),pI p1] [] (pI RES) [] [] := by
 unfold Pb at hm
 refine SO Tryz.func178 rfl rfl [(0,.p (.agg (As p0))),(1,pI p1)] [] ?_
 intro cx hnt
 refine Sq (RK hnt (nn 3 []) [(2,rr 1016),(3,rr 1024)] [(1016,bx (pm (As p0))),(1024,bx [pI p1])] tv ?_)
 obtain ⟨r1,hr1,hm⟩ := bo hm
 refine Sq (RK hnt (nn 3 (.call 201 [1024] true (pI r1) [.box [pI p1]] [] [] :: .no :: [])) [(4,pI r1)] [] (an (Rc p0.nodes p1 r1 hr1) (an tv tv)) ?_)
 obtain rfl := sj hm
 exact DW.ret (Ai [] [] (pI r1))
abbrev o17 (ks : List Nat) (b : Bool) (RES : Int) (sm : List Nat := []) : Orc := .call 178 ks b (pI RES) [] [] sm

theorem Aga (p0 : Aa) (p1 : Aw) (RES : Bool) (hm : Tp p0 p1 = some RES) : Spec Tryz.prog 167 [.p (.agg (Ab p0)),.p (.agg (Az p1))] [] (pB RES) [] [] := by
 unfold Tp at hm
 refine SO Tryz.func167 rfl rfl [(0,.p (.agg (Ab p0))),(1,.p (.agg (Az p1)))] [] ?_
 intro cx hnt
 refine Sq (RK hnt (nn 3 []) [(2,rr 1016),(3,rr 1024)] [(1016,bx (pm (Ab p0))),(1024,bx (pm (Az p1)))] tv ?_)
 obtain ⟨r1,hr1,hm⟩ := bo hm
 refine Sq (RD hnt (nn 3 (o13 [] true r1 :: nn 6 [])) [] [(5,rr 1040),(6,pB r1.2)] [] [(1040,bx (pm (Az r1.1)))] (an (Adg p0 p1.process r1 hr1) tv) ?_)
 refine Sq ?_
 refine Jn (ι := Bool) (fun (y1 : Bool) => Aj [(4,pB y1)] []) (fun y1 => Hw y1 = some RES) ?_ ?_
 ·intro y1 hm
  unfold Hw at hm
  obtain rfl := sj hm
  exact DW.ret (Ai [] [] (pB y1))
 ·rcases bt (decide (p1.user ≥ 0)) with h2 | h2
  ·replace hm := Bg h2 hm
   rcases bt (decide (p1.user ≤ 1048576)) with h3 | h3
   ·replace hm := Bg h3 hm
    rcases bt r1.2 with h4 | h4
    ·replace hm := Bg h4 hm
     rcases bt (r1.1.process == r1.1.id) with h5 | h5
     ·replace hm := Bg h5 hm
      rcases bt (r1.1.user == p1.user) with h6 | h6
      ·replace hm := Bg h6 hm
       obtain ⟨r7,hr7,hm⟩ := bo hm
       refine RK hnt (nn 7 (pT :: nn 2 (pT :: nn 6 (pT :: nn 6 (pT :: nn 5 (o17 [] true r7 :: .no :: pT :: .no :: [])))))) [(4,pB (decide (r7 ≥ 0)))] [] (an4 h2 (an2 h3 (an6 h4 (an6 h5 (an5 h6 (an (Zc p0.tree p1.group r7 hr7) (an2 h6 tv))))))) ?_
       exact jD (decide (r7 ≥ 0)) hm .refl
      ·replace hm := Bf h6 hm
       refine RK hnt (nn 7 (pT :: nn 2 (pT :: nn 6 (pT :: nn 6 (pT :: .no :: sk 6 (pF :: .no :: [])))))) [(4,pB false)] [] (an4 h2 (an2 h3 (an6 h4 (an6 h5 (an h6 (an6 h6 tv)))))) ?_
       exact jD false hm .refl
     ·replace hm := Bf h5 hm
      refine RK hnt (nn 7 (pT :: nn 2 (pT :: nn 6 (pT :: .no :: sk 5 (pF :: .no :: sk 6 (pF :: .no :: [])))))) [(4,pB false)] [] (an4 h2 (an2 h3 (an6 h4 (an6 h5 (an ff (an6 ff tv)))))) ?_
      exact jD false hm .refl
    ·replace hm := Bf h4 hm
     refine RK hnt (nn 7 (pT :: nn 2 (pT :: .no :: sk 5 (pF :: .no :: sk 5 (pF :: .no :: sk 6 (pF :: .no :: [])))))) [(4,pB false)] [] (an4 h2 (an2 h3 (an6 h4 (an ff (an6 ff (an6 ff tv)))))) ?_
     exact jD false hm .refl
   ·replace hm := Bf h3 hm
    refine RK hnt (nn 7 (pT :: .no :: .skip :: pF :: .no :: sk 5 (pF :: .no :: sk 5 (pF :: .no :: sk 6 (pF :: .no :: []))))) [(4,pB false)] [] (an4 h2 (an2 h3 (an ff (an6 ff (an6 ff (an6 ff tv)))))) ?_
    exact jD false hm .refl
  ·replace hm := Bf h2 hm
   refine RK hnt (nn 4 (sk 3 (pF :: .no :: .skip :: pF :: .no :: sk 5 (pF :: .no :: sk 5 (pF :: .no :: sk 6 (pF :: .no :: [])))))) [(4,pB false)] [] (an4 h2 (an3 ff (an6 ff (an6 ff (an6 ff tv))))) ?_
   exact jD false hm .refl
abbrev o12 (ks : List Nat) (b : Bool) (RES : Bool) (sm : List Nat := []) : Orc := .call 167 ks b (pB RES) [] [] sm

abbrev c6e1 (p0 : Aa) (k1 : Nat) := (p0.tasks.getD k1 (default : Aw))
theorem Pg (p0 : Aa) (RES : Bool) (hm : Iu p0 = some RES) : Spec Tryz.prog 114 [.p (.agg (Ab p0))] [] (pB RES) [] [] := by
 unfold Iu at hm
 refine SO Tryz.func114 rfl rfl [(0,.p (.agg (Ab p0)))] [] ?_
 intro cx hnt
 refine Sq (RK hnt (nn 2 []) [(1,rr 1008)] [(1008,bx (pm (Ab p0)))] tv ?_)
 refine Sq (Sq ?_)
 refine Jn (ι := Bool) (fun (y1 : Bool) => Aj [(1,rr 1008),(20,pB y1)] [(1008,bx (pm (Ab p0)))]) (fun y1 => (Ly p0) y1 = some RES) ?_ ?_
 ·intro y1 hm
  unfold Ly at hm
  refine Ah hm ?_ ?_
  ·intro h4 hm
   refine Sq (RK hnt (.no :: []) [(2,pB false)] [] tv ?_)
   obtain rfl := sj hm
   exact DW.ret (Ai [] [] (pB false))
  ·intro h4 hm
   refine Sk ?_
   refine Sq (RD hnt (.no :: []) [20] [(3,pI 0)] [] [] tv ?_)
   refine Sq (Sq (RD hnt (nn 4 []) [] [(22,.p (Be p0.tasks)),(23,pI ((p0.tasks.length : Nat) : Int)),(24,pI 0)] [] [] tv ?_))
   refine Bk ?_
   obtain ⟨hc1,hm⟩ := go1 hm
   refine DW.rangeO (fun (k1 : Nat) (s1 : Int) => Aj [(1,rr 1008),(3,pI s1),(22,.p (Be p0.tasks)),(23,pI ((p0.tasks.length : Nat) : Int)),(24,pI ((k1 : Nat) : Int))] [(1008,bx (pm (Ab p0)))]) Bu hm Conv.eqK ?_
   intro k1 s1 n1 hk1 hs1 he1
   refine Sq (RD hnt (.no :: []) [] [(25,pB (decide (((k1 : Nat) : Int) < ((p0.tasks.length : Nat) : Int))))] [] [] tv ?_)
   refine Sq (Cd (decide (((k1 : Nat) : Int) < ((p0.tasks.length : Nat) : Int))) ?_ ?_)
   ·intro h15
    have hlt1 : k1 < p0.tasks.length := by have := of_decide_eq_true h15; omega
    have hm := hs1 hlt1
    unfold Wq at hm
    refine Sk ?_
    refine Sq (Bk ?_)
    refine Sq (RD hnt (nn 4 []) [25] [(5,rr 1040)] [] [(1040,bx (pm (Az (c6e1 p0 k1))))] (an (nn0 k1) (an (ltc hlt1) tv)) ?_)
    refine Sq (Sq ?_)
    refine Jn (ι := Bool) (fun (y4 : Bool) => Aj [(1,rr 1008),(5,rr 1040),(22,.p (Be p0.tasks)),(23,pI ((p0.tasks.length : Nat) : Int)),(24,pI ((k1 : Nat) : Int)),(37,pB y4)] [(1008,bx (pm (Ab p0))),(1040,bx (pm (Az (c6e1 p0 k1))))]) (fun y4 => (Nr (c6e1 p0 k1) n1) y4 = some RES) ?_ ?_
    ·intro y4 hm
     unfold Nr at hm
     refine Ah hm ?_ ?_
     ·intro h18 hm
      refine Sq (RK hnt (.no :: []) [(2,pB false)] [] tv ?_)
      obtain rfl := sj hm
      exact DW.ret (Ai [] [] (pB false))
     ·intro h18 hm
      refine Sk ?_
      refine RD hnt (nn 3 []) [5,37] [(3,pI (c6e1 p0 k1).id)] [1040] [] tv ?_
      refine DW.done ?_
      show DW _ _ _ _ _
      refine RD hnt (nn 2 []) [] [(24,pI (w64 (((k1 : Nat) : Int) + 1)))] [] [] tv ?_
      exact jD (c6e1 p0 k1).id ⟨hlt1,hm⟩ (Conv.tp [(24,pI (w64 (((k1 : Nat) : Int) + 1)))] [] (by kernel_rfl) (.cons rfl (.of_eq (congrArg pI (Bo hlt1 hc1))) .nil) .nil)
    ·rcases bt (decide ((c6e1 p0 k1).id ≤ s1)) with h16 | h16
     ·replace hm := Bg h16 hm
      refine RD hnt (nn 5 (sk 4 (pT :: []))) [3] [(37,pB true)] [] [] (an5 h16 tv) ?_
      exact jD true hm Conv.eqK
     ·replace hm := Bf h16 hm
      obtain ⟨r17,hr17,hm⟩ := bo hm
      refine RD hnt (nn 7 (o12 [] true r17 :: .no :: pF :: [])) [3] [(37,pB (!r17))] [] [] (an3 h16 (an (Aga p0 (c6e1 p0 k1) r17 hr17) (an2 h16 tv))) ?_
      exact jD (!r17) hm Conv.eqK
   ·intro h15
    have hge1 : ¬ k1 < p0.tasks.length := by have := of_decide_eq_false h15; omega
    have hm := he1 hge1
    unfold AbU at hm
    refine DW.exit ?_
    refine Ap ?_
    refine Au ?_
    refine Am ?_
    show DW _ _ _ _ _
    refine Sq (RK hnt (nn 5 []) [(2,pB (decide (p0.next > s1)))] [] tv ?_)
    obtain rfl := sj hm
    exact DW.ret (Ai [] [] (pB (decide (p0.next > s1))))
 ·rcases bt (decide (((p0.tasks.length : Nat) : Int) > 128)) with h1 | h1
  ·replace hm := Bg h1 hm
   refine RD hnt (nn 5 (sk 3 (pT :: .no :: sk 4 (pT :: [])))) [] [(20,pB true)] [] [] (an4 h1 (an5 tt tv)) ?_
   exact jD true hm Conv.eqK
  ·replace hm := Bf h1 hm
   rcases bt (decide (p0.next > 2147483648)) with h2 | h2
   ·replace hm := Bg h2 hm
    refine RD hnt (nn 8 (pF :: .no :: sk 4 (pT :: []))) [] [(20,pB true)] [] [] (an4 h1 (an5 h2 tv)) ?_
    exact jD true hm Conv.eqK
   ·replace hm := Bf h2 hm
    obtain ⟨r3,hr3,hm⟩ := bo hm
    refine RD hnt (nn 8 (pF :: nn 3 (o7 [] true r3 :: .no :: pF :: []))) [] [(20,pB (!r3))] [] [] (an4 h1 (an3 h2 (an (Wg p0.tree r3 hr3) (an2 h2 tv)))) ?_
    exact jD (!r3) hm Conv.eqK
abbrev o6 (ks : List Nat) (b : Bool) (RES : Bool) (sm : List Nat := []) : Orc := .call 114 ks b (pB RES) [] [] sm

abbrev c5e1 (p0 : Aa) (k1 : Nat) := ({ group := (p0.tree.nodes.getD k1 (default : Ao)).id,want := false,frozen := false,changes := 0 } : Ae)
abbrev c5e2 : Nat × Obj := (1016,bx [.p (.sl .nil 0 0 (fun _ => [])),.p (.sl .nil 0 0 (fun _ => []))])
abbrev c5e3 (p0 : Aa) (k1 : Nat) := (p0.tree.nodes.getD k1 (default : Ao))
theorem Wm (p0 : Aa) (RES : Ac) (hm : Ln p0 = some RES) : Spec Tryz.prog 59 [.p (.agg (Ab p0))] [] (.agg [ow 0 RES.frosts.length,ow 1 RES.stopped.length]) [] [Af RES.frosts,roI RES.stopped] := by
 unfold Ln at hm
 refine SO Tryz.func59 rfl rfl [(0,.p (.agg (Ab p0)))] [] ?_
 intro cx hnt
 refine Sq (RK hnt (nn 2 []) [(1,rr 1008),(2,rr 1016)] [(1008,bx (pm (Ab p0))),(c5e2)] tv ?_)
 obtain ⟨r1,hr1,hm⟩ := bo hm
 refine Sq (Sq (RD hnt (.no :: o6 [] true r1 :: .no :: []) [] [(8,pB (!r1))] [] [] (an (Pg p0 r1 hr1) tv) ?_))
 refine Ah hm ?_ ?_
 ·intro h2 hm
  refine Sq (RD hnt (nn 2 []) [1,8] [] [1008] [] tv ?_)
  refine DW.cv [] [] [] [(1016,bx [ow 100000 0,ow 100001 0]),(100000,ob0 (Af [])),(100001,ob0 (roI []))] (Conv.ads [(.o 1016 0,100000,4,elems Bd Bc []),(.o 1016 1,100001,1,elems Bi 0 [])]) ?_
  obtain rfl := sj hm
  exact DW.ret (Ai [Af [],roI []] [100000,100001] (.agg [ow 0 0,ow 1 0]))
 ·intro h2 hm
  refine Sk ?_
  refine Sq (RD hnt (.no :: []) [8] [(3,rr 1024)] [] [(1024,bx [.p (.sl .nil 0 0 (fun _ => [])),.p (.sl .nil 0 0 (fun _ => []))])] tv ?_)
  refine Sq (Sq (RD hnt (nn 5 []) [1] [(12,.p (Ba p0.tree.nodes)),(13,pI ((p0.tree.nodes.length : Nat) : Int)),(14,pI 0)] [1008] [] tv ?_))
  refine Bk ?_
  obtain ⟨hc1,hm⟩ := go1 hm
  refine DW.rangeO (fun (k1 : Nat) (s1 : List Ae) => Aj [(2,rr 1016),(3,rr 1024),(12,.p (Ba p0.tree.nodes)),(13,pI ((p0.tree.nodes.length : Nat) : Int)),(14,pI ((k1 : Nat) : Int))] [(c5e2),(1024,bx [ow 1192 s1.length,.p (.sl .nil 0 0 (fun _ => []))]),(1192,ob0 (Af s1))]) Bm hm (Conv.ads [(.o 1024 0,1192,4,elems Bd Bc [])]) ?_
  intro k1 s1 n1 hk1 hs1 he1
  refine Sq (RD hnt (.no :: []) [] [(15,pB (decide (((k1 : Nat) : Int) < ((p0.tree.nodes.length : Nat) : Int))))] [] [] tv ?_)
  refine Sq (Cd (decide (((k1 : Nat) : Int) < ((p0.tree.nodes.length : Nat) : Int))) ?_ ?_)
  ·intro h8
   have hlt1 : k1 < p0.tree.nodes.length := by have := of_decide_eq_true h8; omega
   have hm := hs1 hlt1
   unfold AaR at hm
   refine Sk ?_
   refine Sq (Bk ?_)
   refine Sq (RD hnt (nn 4 []) [15] [(5,rr 1040)] [] [(1040,bx (pm (Ar (c5e3 p0 k1))))] (an (nn0 k1) (an (ltc hlt1) tv)) ?_)
   obtain ⟨g9,hm⟩ := go1 hm
   refine RN hnt (nn 9 []) [(2,rr 1016),(3,rr 1024),(12,.p (Ba p0.tree.nodes)),(13,pI ((p0.tree.nodes.length : Nat) : Int)),(14,pI ((k1 : Nat) : Int))] [(c5e2),(1024,bx [ow 1192 (s1 ++ [(c5e1 p0 k1)]).length,.p (.sl .nil 0 0 (fun _ => []))]),(1192,ob0 (Af (s1 ++ [(c5e1 p0 k1)])))] [] [(1024,.box [ow 1192 (s1.length + 1),.p (.sl .nil 0 0 (fun _ => []))]),(1192,.row 4 (s1.length + 1) (Cp s1.length (Hq s1) (cut 4 [vi (c5e3 p0 k1).id,vb false,vb false,vi 0])))] (an (by omega : (s1.length + 1) * 24 ≤ 140737488355328) tv) (by kernel_rfl) .nil (.cons rfl (.box (.cons (MLe.ownLen (enc := Bd) (d := Bc) (f := (Cp s1.length (Hq s1) (cut 4 [vi (c5e3 p0 k1).id,vb false,vb false,vi 0]))) (RowIs.cat RowIs.elems (RowIs.lit (enc := Bd) (d := Bc) (n := 1) (f := (cut 4 [vi (c5e3 p0 k1).id,vb false,vb false,vi 0])) [(c5e1 p0 k1)] rfl (fun | 0,_ => rfl | n + 1,h => absurd h (by omega))))) (.cons .rfl .nil))) (.cons rfl (BLe.typed (RowIs.cat RowIs.elems (RowIs.lit (enc := Bd) (d := Bc) (n := 1) (f := (cut 4 [vi (c5e3 p0 k1).id,vb false,vb false,vi 0])) [(c5e1 p0 k1)] rfl (fun | 0,_ => rfl | n + 1,h => absurd h (by omega))))) .nil)) ?_
   refine DW.done ?_
   show DW _ _ _ _ _
   refine RD hnt (nn 2 []) [] [(14,pI (w64 (((k1 : Nat) : Int) + 1)))] [] [] tv ?_
   exact jD (s1 ++ [(c5e1 p0 k1)]) ⟨hlt1,hm⟩ (Conv.tp [(14,pI (w64 (((k1 : Nat) : Int) + 1)))] [] (by kernel_rfl) (.cons rfl (.of_eq (congrArg pI (Bo hlt1 hc1))) .nil) .nil)
  ·intro h8
   have hge1 : ¬ k1 < p0.tree.nodes.length := by have := of_decide_eq_false h8; omega
   have hm := he1 hge1
   unfold Aao at hm
   refine DW.exit ?_
   refine Ap ?_
   refine Au ?_
   refine Am ?_
   show DW _ _ _ _ _
   refine Sq (RD hnt (nn 2 []) [3,12,13,14,15] [] [1024] [(1016,bx [ow 1192 s1.length,.p (.sl .nil 0 0 (fun _ => []))])] tv ?_)
   refine DW.cv [] [] [] [(1016,bx [ow 1192 s1.length,ow 100000 0]),(100000,ob0 (roI []))] (Conv.ads [(.o 1016 1,100000,1,elems Bi 0 [])]) ?_
   obtain rfl := sj hm
   exact DW.ret (Ai [Af s1,roI []] [1192,100000] (.agg [ow 0 s1.length,ow 1 0]))
abbrev o5 (ks : List Nat) (b : Bool) (RES : Ac) (sm : List Nat := []) : Orc := .call 59 ks b (.agg [ow 0 RES.frosts.length,ow 1 RES.stopped.length]) [] [Af RES.frosts,roI RES.stopped] sm

theorem AgF (p0 : Ag) (p1 : Int) (RES : Ao × Bool) (hm : Tn p0 p1 = some RES) : Spec Tryz.prog 141 [.p (.agg (As p0)),pI p1] [] (.p (.tup [.agg (Ar RES.1),vb RES.2])) [] [] := by
 unfold Tn at hm
 refine SO Tryz.func141 rfl rfl [(0,.p (.agg (As p0))),(1,pI p1)] [] ?_
 intro cx hnt
 refine Sq (RK hnt (nn 3 []) [(1,pI p1),(2,rr 1016),(4,rr 1032)] [(1016,bx (pm (As p0))),(1032,bx [pI 0,pI 0,pS ByteArray.empty,pI 0,pI 0,pI 0])] tv ?_)
 obtain ⟨r1,hr1,hm⟩ := bo hm
 refine Sq (RD hnt (nn 2 (o17 [] true r1 :: .no :: [])) [1] [(6,pI r1)] [] [] (an (Zc p0 p1 r1 hr1) tv) ?_)
 refine Sq (Sq (RD hnt (nn 2 []) [] [(11,pB (decide (r1 < 0)))] [] [] tv ?_))
 refine Ah hm ?_ ?_
 ·intro h2 hm
  refine Sq (RD hnt (nn 3 []) [2,6,11] [(5,pB false)] [1016] [] tv ?_)
  obtain rfl := sj hm
  exact DW.ret (Ai [] [] (.p (.tup [.agg [vi 0,vi 0,vs ByteArray.empty,vi 0,vi 0,vi 0],vb false])))
 ·intro h2 hm
  refine Sk ?_
  obtain ⟨g3,hm⟩ := go1 hm
  refine Sq (RK hnt (nn 7 []) [(4,rr 1032),(5,pB true)] [(1032,bx (pm (Ar (p0.nodes.getD (Int.toNat r1) Bm))))] (an g3.1 (an g3.2 tv)) ?_)
  obtain rfl := sj hm
  exact DW.ret (Ai [] [] (.p (.tup [.agg (Ar (p0.nodes.getD (Int.toNat r1) Bm)),vb true])))
abbrev o25 (ks : List Nat) (b : Bool) (RES : Ao × Bool) (sm : List Nat := []) : Orc := .call 141 ks b (.p (.tup [.agg (Ar RES.1),vb RES.2])) [] [] sm

theorem AcO (p0 : Ag) (p1 : Int) (RES : List Int) (hm : Ma p0 p1 = some RES) : Spec Tryz.prog 89 [.p (.agg (As p0)),pI p1] [] (ow 0 RES.length) [] [roI RES] := by
 unfold Ma at hm
 refine SO Tryz.func89 rfl rfl [(0,.p (.agg (As p0))),(1,pI p1)] [] ?_
 intro cx hnt
 refine Sq (RK hnt (nn 2 []) [(1,pI p1),(2,rr 1016)] [(1016,bx (pm (As p0)))] tv ?_)
 refine Sq (RD hnt (.no :: []) [] [(5,.p (.sl .nil 0 0 (fun _ => [])))] [] [] tv ?_)
 refine Sq (Sq (RD hnt (nn 4 []) [] [(10,pI ((p0.nodes.length : Nat) : Int)),(11,pI 0)] [] [] tv ?_))
 refine Jn (ι := List Int) (fun (y1 : List Int) => Aj [(5,ow 1192 y1.length)] [(1192,ob0 (roI y1))]) (fun y1 => Kj y1 = some RES) ?_ ?_
 ·intro y1 hm
  unfold Kj at hm
  refine Sq (RD hnt (nn 2 []) [5] [(4,ow 1192 y1.length)] [] [] tv ?_)
  obtain rfl := sj hm
  exact DW.ret (Ai [roI y1] [1192] (ow 0 y1.length))
 ·refine Bk ?_
  obtain ⟨hc1,hm⟩ := go1 hm
  refine DW.rangeO (fun (k1 : Nat) (s1 : (List Int) × Int) => Aj [(1,pI s1.2),(2,rr 1016),(5,ow 1192 s1.1.length),(10,pI ((p0.nodes.length : Nat) : Int)),(11,pI ((k1 : Nat) : Int))] [(1016,bx (pm (As p0))),(1192,ob0 (roI s1.1))]) Bm hm (Conv.ads [(.s 5,1192,1,elems Bi 0 [])]) ?_
  intro k1 s1 n1 hk1 hs1 he1
  refine Sq (RD hnt (.no :: []) [] [(12,pB (decide (((k1 : Nat) : Int) < ((p0.nodes.length : Nat) : Int))))] [] [] tv ?_)
  refine Sq (Cd (decide (((k1 : Nat) : Int) < ((p0.nodes.length : Nat) : Int))) ?_ ?_)
  ·intro h8
   have hlt1 : k1 < p0.nodes.length := by have := of_decide_eq_true h8; omega
   have hm := hs1 hlt1
   unfold Rd at hm
   refine Sk ?_
   refine Sq (Bk ?_)
   obtain ⟨r9,hr9,hm⟩ := bo hm
   refine Sq (RD hnt (nn 2 (o25 [] true r9 :: nn 6 [])) [12] [(6,rr 1048),(7,pB r9.2)] [] [(1048,bx (pm (Ar r9.1)))] (an (AgF p0 s1.2 r9 hr9) tv) ?_)
   refine Sq (Sq (RD hnt (nn 2 []) [7] [(20,pB (!r9.2))] [] [] tv ?_))
   refine Ah hm ?_ ?_
   ·intro h10 hm
    refine DW.exit ?_
    refine Oc (by decide) ?_
    refine Au ?_
    refine Ap ?_
    refine Au ?_
    exact Am (joinKQ s1.1 hm Conv.t0)
   ·intro h10 hm
    refine Sk ?_
    obtain ⟨g11,hm⟩ := go1 hm
    refine Sq (RN hnt (nn 5 []) [(2,rr 1016),(5,ow 1192 (s1.1 ++ [s1.2]).length),(6,rr 1048),(10,pI ((p0.nodes.length : Nat) : Int)),(11,pI ((k1 : Nat) : Int))] [(1016,bx (pm (As p0))),(1048,bx (pm (Ar r9.1))),(1192,ob0 (roI (s1.1 ++ [s1.2])))] [(5,ow 1192 (s1.1.length + 1))] [(1192,.row 1 (s1.1.length + 1) (Cp s1.1.length (elI s1.1) (cut 1 [vi s1.2])))] (an (by omega : (s1.1.length + 1) * 8 ≤ 140737488355328) tv) (by kernel_rfl) (.cons rfl (MLe.ownLen (enc := Bi) (d := 0) (f := (Cp s1.1.length (elI s1.1) (cut 1 [vi s1.2]))) (RowIs.cat RowIs.elems (RowIs.lit (enc := Bi) (d := 0) (n := 1) (f := (cut 1 [vi s1.2])) [s1.2] rfl (fun | 0,_ => rfl | n + 1,h => absurd h (by omega))))) .nil) (.cons rfl (BLe.typed (RowIs.cat RowIs.elems (RowIs.lit (enc := Bi) (d := 0) (n := 1) (f := (cut 1 [vi s1.2])) [s1.2] rfl (fun | 0,_ => rfl | n + 1,h => absurd h (by omega))))) .nil) ?_)
    refine RD hnt (nn 3 []) [6] [(1,pI r9.1.parent)] [1048] [] tv ?_
    refine DW.done ?_
    show DW _ _ _ _ _
    refine RD hnt (nn 2 []) [] [(11,pI (w64 (((k1 : Nat) : Int) + 1)))] [] [] tv ?_
    exact jD ((s1.1 ++ [s1.2]),r9.1.parent) ⟨hlt1,hm⟩ (Conv.tp [(11,pI (w64 (((k1 : Nat) : Int) + 1)))] [] (by kernel_rfl) (.cons rfl (.of_eq (congrArg pI (Bo hlt1 hc1))) .nil) .nil)
  ·intro h8
   have hge1 : ¬ k1 < p0.nodes.length := by have := of_decide_eq_false h8; omega
   have hm := he1 hge1
   unfold Ya at hm
   refine DW.exit ?_
   refine Ap ?_
   refine Au ?_
   exact Am (joinKQ s1.1 hm Conv.t0)
abbrev o24 (ks : List Nat) (b : Bool) (RES : List Int) (sm : List Nat := []) : Orc := .call 89 ks b (ow 0 RES.length) [] [roI RES] sm

theorem Ax (p0 : Ac) (p1 : Int) (RES : Ae) (hm : Hd p0 p1 = some RES) : Spec Tryz.prog 61 [.p (.agg (Al p0)),pI p1] [] (.p (.agg (Bd RES))) [] [] := by
 unfold Hd at hm
 refine SO Tryz.func61 rfl rfl [(0,.p (.agg (Al p0))),(1,pI p1)] [] ?_
 intro cx hnt
 refine Sq (RK hnt (nn 2 []) [(1,pI p1),(2,rr 1016),(4,rr 1032)] [(1016,bx (pm (Al p0))),(1032,bx [pI 0,pB false,pB false,pI 0])] tv ?_)
 refine Sq (Sq (RD hnt (nn 4 []) [2] [(8,.p (En p0.frosts)),(9,pI ((p0.frosts.length : Nat) : Int)),(10,pI 0)] [1016] [] tv ?_))
 refine Bk ?_
 obtain ⟨hc1,hm⟩ := go1 hm
 refine DW.rangeO (fun (k1 : Nat) (s1 : Unit) => Aj [(1,pI p1),(4,rr 1032),(8,.p (En p0.frosts)),(9,pI ((p0.frosts.length : Nat) : Int)),(10,pI ((k1 : Nat) : Int))] [(1032,bx [pI 0,pB false,pB false,pI 0])]) Bc hm Conv.eqK ?_
 intro k1 s1 n1 hk1 hs1 he1
 refine Sq (RD hnt (.no :: []) [] [(11,pB (decide (((k1 : Nat) : Int) < ((p0.frosts.length : Nat) : Int))))] [] [] tv ?_)
 refine Sq (Cd (decide (((k1 : Nat) : Int) < ((p0.frosts.length : Nat) : Int))) ?_ ?_)
 ·intro h7
  have hlt1 : k1 < p0.frosts.length := by have := of_decide_eq_true h7; omega
  have hm := hs1 hlt1
  unfold Adz at hm
  refine Sk ?_
  refine Sq (Bk ?_)
  refine Sq (RD hnt (nn 4 []) [11] [(6,rr 1048)] [] [(1048,bx (pm (Bd (p0.frosts.getD k1 (default : Ae)))))] (an (nn0 k1) (an (ltc hlt1) tv)) ?_)
  refine Sq (RD hnt (nn 4 []) [] [(17,pB ((p0.frosts.getD k1 (default : Ae)).group == p1))] [] [] tv ?_)
  refine Ah hm ?_ ?_
  ·intro h8 hm
   refine Sq (RK hnt (nn 2 []) [(4,rr 1032)] [(1032,bx (pm (Bd (p0.frosts.getD k1 (default : Ae)))))] tv ?_)
   obtain rfl := sj hm
   exact DW.ret (Ai [] [] (.p (.agg (Bd (p0.frosts.getD k1 (default : Ae))))))
  ·intro h8 hm
   refine Sk ?_
   refine DW.done ?_
   show DW _ _ _ _ _
   refine RD hnt (nn 2 []) [6,17] [(10,pI (w64 (((k1 : Nat) : Int) + 1)))] [1048] [] tv ?_
   exact jD () ⟨hlt1,hm⟩ (Conv.tp [(10,pI (w64 (((k1 : Nat) : Int) + 1)))] [] (by kernel_rfl) (.cons rfl (.of_eq (congrArg pI (Bo hlt1 hc1))) .nil) .nil)
 ·intro h7
  have hge1 : ¬ k1 < p0.frosts.length := by have := of_decide_eq_false h7; omega
  have hm := he1 hge1
  unfold Aeu at hm
  refine DW.exit ?_
  refine Ap ?_
  refine Au ?_
  refine Am ?_
  show DW _ _ _ _ _
  refine Sq (RK hnt (nn 3 []) [(4,rr 1032)] [(1032,bx [pI p1,pB false,pB false,pI 0])] tv ?_)
  obtain rfl := sj hm
  exact DW.ret (Ai [] [] (.p (.agg [vi p1,vb false,vb false,vi 0])))
abbrev o26 (ks : List Nat) (b : Bool) (RES : Ae) (sm : List Nat := []) : Orc := .call 61 ks b (.p (.agg (Bd RES))) [] [] sm

theorem Jp (p0 : Ag) (p1 : Ac) (p2 : Int) (RES : Bool) (hm : Kn p0 p1 p2 = some RES) : Spec Tryz.prog 115 [.p (.agg (As p0)),.p (.agg (Al p1)),pI p2] [] (pB RES) [] [] := by
 unfold Kn at hm
 refine SO Tryz.func115 rfl rfl [(0,.p (.agg (As p0))),(1,.p (.agg (Al p1))),(2,pI p2)] [] ?_
 intro cx hnt
 refine Sq (RK hnt (nn 3 []) [(2,pI p2),(3,rr 1024),(4,rr 1032)] [(1024,bx (pm (As p0))),(1032,bx (pm (Al p1)))] tv ?_)
 obtain ⟨r1,hr1,hm⟩ := bo hm
 refine Sq (Sq (RD hnt (nn 2 (o24 [] true r1 :: nn 2 [])) [2,3] [(11,ow 1088 r1.length),(12,pI ((r1.length : Nat) : Int)),(13,pI 0)] [1024] [(1088,ob0 (roI r1))] (an (AcO p0 p2 r1 hr1) tv) ?_))
 refine Bk ?_
 obtain ⟨hc1,hm⟩ := go1 hm
 refine DW.rangeO (fun (k1 : Nat) (s1 : Unit) => Aj [(4,rr 1032),(11,ow 1088 r1.length),(12,pI ((r1.length : Nat) : Int)),(13,pI ((k1 : Nat) : Int))] [(1032,bx (pm (Al p1))),(1088,ob0 (roI r1))]) 0 hm Conv.eqK ?_
 intro k1 s1 n1 hk1 hs1 he1
 refine Sq (RD hnt (.no :: []) [] [(14,pB (decide (((k1 : Nat) : Int) < ((r1.length : Nat) : Int))))] [] [] tv ?_)
 refine Sq (Cd (decide (((k1 : Nat) : Int) < ((r1.length : Nat) : Int))) ?_ ?_)
 ·intro h12
  have hlt1 : k1 < r1.length := by have := of_decide_eq_true h12; omega
  have hm := hs1 hlt1
  unfold Wl at hm
  refine Sk ?_
  refine Sq (Bk ?_)
  refine Sq (RD hnt (nn 3 []) [14] [(8,pI (r1.getD k1 0))] [] [] (an (nn0 k1) (an (ltc hlt1) (an (by omega : k1 < r1.length) tv))) ?_)
  obtain ⟨r13,hr13,hm⟩ := bo hm
  refine Sq (RD hnt (nn 2 (o26 [] true r13 :: .no :: [])) [8] [(20,pB r13.want)] [] [] (an (Ax p1 (r1.getD k1 0) r13 hr13) tv) ?_)
  refine Ah hm ?_ ?_
  ·intro h14 hm
   refine Sq (RK hnt (.no :: []) [(6,pB true)] [] tv ?_)
   obtain rfl := sj hm
   exact DW.ret (Ai [] [] (pB true))
  ·intro h14 hm
   refine Sk ?_
   refine DW.done ?_
   show DW _ _ _ _ _
   refine RD hnt (nn 2 []) [20] [(13,pI (w64 (((k1 : Nat) : Int) + 1)))] [] [] tv ?_
   exact jD () ⟨hlt1,hm⟩ (Conv.tp [(13,pI (w64 (((k1 : Nat) : Int) + 1)))] [] (by kernel_rfl) (.cons rfl (.of_eq (congrArg pI (Bo hlt1 hc1))) .nil) .nil)
 ·intro h12
  have hge1 : ¬ k1 < r1.length := by have := of_decide_eq_false h12; omega
  have hm := he1 hge1
  unfold Ach at hm
  refine DW.exit ?_
  refine Ap ?_
  refine Au ?_
  refine Am ?_
  show DW _ _ _ _ _
  refine Sq (RK hnt (.no :: []) [(6,pB false)] [] tv ?_)
  obtain rfl := sj hm
  exact DW.ret (Ai [] [] (pB false))
abbrev o23 (ks : List Nat) (b : Bool) (RES : Bool) (sm : List Nat := []) : Orc := .call 115 ks b (pB RES) [] [] sm

theorem Sx (p0 : Aa) (p1 : Ac) (p2 : Int) (RES : Bool) (hm : Hx p0 p1 p2 = some RES) : Spec Tryz.prog 133 [.p (.agg (Ab p0)),.p (.agg (Al p1)),pI p2] [] (pB RES) [] [] := by
 unfold Hx at hm
 refine SO Tryz.func133 rfl rfl [(0,.p (.agg (Ab p0))),(1,.p (.agg (Al p1))),(2,pI p2)] [] ?_
 intro cx hnt
 refine Sq (RK hnt (nn 3 []) [(2,pI p2),(3,rr 1024),(4,rr 1032)] [(1024,bx (pm (Ab p0))),(1032,bx (pm (Al p1)))] tv ?_)
 obtain ⟨r1,hr1,hm⟩ := bo hm
 refine Sq (RD hnt (nn 2 (o13 [] true r1 :: nn 6 [])) [2] [(7,rr 1056),(8,pB r1.2)] [] [(1056,bx (pm (Az r1.1)))] (an (Adg p0 p2 r1 hr1) tv) ?_)
 refine Sq ?_
 refine Jn (ι := Bool) (fun (y1 : Bool) => Aj [(6,pB y1)] []) (fun y1 => Qz y1 = some RES) ?_ ?_
 ·intro y1 hm
  unfold Qz at hm
  obtain rfl := sj hm
  exact DW.ret (Ai [] [] (pB y1))
 ·rcases bt r1.2 with h2 | h2
  ·replace hm := Bg h2 hm
   obtain ⟨r3,hr3,hm⟩ := bo hm
   refine RK hnt (nn 7 (o23 [] true r3 :: pT :: .no :: [])) [(6,pB r3)] [] (an6 h2 (an (Jp p0.tree p1 r1.1.group r3 hr3) (an h2 tv))) ?_
   exact jD r3 hm .refl
  ·replace hm := Bf h2 hm
   refine RK hnt (nn 2 (sk 6 (pF :: .no :: []))) [(6,pB false)] [] (an h2 (an6 h2 tv)) ?_
   exact jD false hm .refl
abbrev o22 (ks : List Nat) (b : Bool) (RES : Bool) (sm : List Nat := []) : Orc := .call 133 ks b (pB RES) [] [] sm

abbrev Vh (p0 : Ag) (k1 : Nat) := (p0.nodes.getD k1 (default : Ao))
abbrev c29e2 (p0 : Ag) : Nat × MV := (10,pI ((p0.nodes.length : Nat) : Int))
theorem Adp (p0 : Ag) (p1 : Int) (RES : List Int) (hm : Nf p0 p1 = some RES) : Spec Tryz.prog 150 [.p (.agg (As p0)),pI p1] [] (ow 0 RES.length) [] [roI RES] := by
 unfold Nf at hm
 refine SO Tryz.func150 rfl rfl [(0,.p (.agg (As p0))),(1,pI p1)] [] ?_
 intro cx hnt
 refine Sq (RK hnt (nn 2 []) [(1,pI p1),(2,rr 1016)] [(1016,bx (pm (As p0)))] tv ?_)
 refine Sq (RD hnt (.no :: []) [] [(5,.p (.sl .nil 0 0 (fun _ => [])))] [] [] tv ?_)
 refine Sq (Sq (RD hnt (nn 4 []) [2] [(9,.p (Ba p0.nodes)),(c29e2 p0),(11,pI 0)] [1016] [] tv ?_))
 refine Bk ?_
 obtain ⟨hc1,hm⟩ := go1 hm
 refine DW.rangeO (fun (k1 : Nat) (s1 : List Int) => Aj [(1,pI p1),(5,ow 1184 s1.length),(9,.p (Ba p0.nodes)),(c29e2 p0),(11,pI ((k1 : Nat) : Int))] [(1184,ob0 (roI s1))]) Bm hm (Conv.ads [(.s 5,1184,1,elems Bi 0 [])]) ?_
 intro k1 s1 n1 hk1 hs1 he1
 refine Sq (RD hnt (.no :: []) [] [(12,pB (decide (((k1 : Nat) : Int) < ((p0.nodes.length : Nat) : Int))))] [] [] tv ?_)
 refine Sq (Cd (decide (((k1 : Nat) : Int) < ((p0.nodes.length : Nat) : Int))) ?_ ?_)
 ·intro h8
  have hlt1 : k1 < p0.nodes.length := by have := of_decide_eq_true h8; omega
  have hm := hs1 hlt1
  unfold Sz at hm
  refine Sk ?_
  refine Sq ?_
  refine Jn (ι := List Int) (fun (y3 : List Int) => Aj [(1,pI p1),(5,ow 1184 y3.length),(9,.p (Ba p0.nodes)),(c29e2 p0),(11,pI ((k1 : Nat) : Int))] [(1184,ob0 (roI y3))]) (fun y3 => (Le n1) y3 = some RES) ?_ ?_
  ·intro y3 hm
   unfold Le at hm
   refine RD hnt (nn 2 []) [] [(11,pI (w64 (((k1 : Nat) : Int) + 1)))] [] [] tv ?_
   exact jD y3 ⟨hlt1,hm⟩ (Conv.tp [(11,pI (w64 (((k1 : Nat) : Int) + 1)))] [] (by kernel_rfl) (.cons rfl (.of_eq (congrArg pI (Bo hlt1 hc1))) .nil) .nil)
  ·refine Bk ?_
   refine Sq (RD hnt (nn 4 []) [12] [(7,rr 1056)] [] [(1056,bx (pm (Ar (Vh p0 k1))))] (an (nn0 k1) (an (ltc hlt1) tv)) ?_)
   refine Sq (RD hnt (nn 4 []) [] [(18,pB ((Vh p0 k1).parent == p1))] [] [] tv ?_)
   refine Ah hm ?_ ?_
   ·intro h9 hm
    obtain ⟨g10,hm⟩ := go1 hm
    refine RN hnt (nn 6 []) [(1,pI p1),(5,ow 1184 (s1 ++ [(Vh p0 k1).id]).length),(9,.p (Ba p0.nodes)),(c29e2 p0),(11,pI ((k1 : Nat) : Int))] [(1184,ob0 (roI (s1 ++ [(Vh p0 k1).id])))] [(5,ow 1184 (s1.length + 1))] [(1184,.row 1 (s1.length + 1) (Cp s1.length (elI s1) (cut 1 [vi (Vh p0 k1).id])))] (an (by omega : (s1.length + 1) * 8 ≤ 140737488355328) tv) (by kernel_rfl) (.cons rfl (MLe.ownLen (enc := Bi) (d := 0) (f := (Cp s1.length (elI s1) (cut 1 [vi (Vh p0 k1).id]))) (RowIs.cat RowIs.elems (RowIs.lit (enc := Bi) (d := 0) (n := 1) (f := (cut 1 [vi (Vh p0 k1).id])) [(Vh p0 k1).id] rfl (fun | 0,_ => rfl | n + 1,h => absurd h (by omega))))) .nil) (.cons rfl (BLe.typed (RowIs.cat RowIs.elems (RowIs.lit (enc := Bi) (d := 0) (n := 1) (f := (cut 1 [vi (Vh p0 k1).id])) [(Vh p0 k1).id] rfl (fun | 0,_ => rfl | n + 1,h => absurd h (by omega))))) .nil) ?_
    exact bD (s1 ++ [(Vh p0 k1).id]) hm .refl
   ·intro h9 hm
    refine Sk ?_
    exact bD s1 hm Conv.t0
 ·intro h8
  have hge1 : ¬ k1 < p0.nodes.length := by have := of_decide_eq_false h8; omega
  have hm := he1 hge1
  unfold Zf at hm
  refine DW.exit ?_
  refine Ap ?_
  refine Au ?_
  refine Am ?_
  show DW _ _ _ _ _
  refine Sq (RK hnt (nn 2 []) [(4,ow 1184 s1.length)] [(1184,ob0 (roI s1))] tv ?_)
  obtain rfl := sj hm
  exact DW.ret (Ai [roI s1] [1184] (ow 0 s1.length))
abbrev o29 (ks : List Nat) (b : Bool) (RES : List Int) (sm : List Nat := []) : Orc := .call 150 ks b (ow 0 RES.length) [] [roI RES] sm

abbrev Acu (p0 : Ag) : Nat × Obj := (1016,bx (pm (As p0)))
abbrev c28e2 : Nat × MV := (5,.p (.sl .nil 0 0 (fun _ => [])))
theorem AdD (p0 : Ag) (p1 : Int) (RES : List Int) (hm : Nz p0 p1 = some RES) : Spec Tryz.prog 174 [.p (.agg (As p0)),pI p1] [] (ow 0 RES.length) [] [roI RES] := by
 unfold Nz at hm
 refine SO Tryz.func174 rfl rfl [(0,.p (.agg (As p0))),(1,pI p1)] [] ?_
 intro cx hnt
 refine Sq (RK hnt (nn 2 []) [(1,pI p1),(2,rr 1016)] [(Acu p0)] tv ?_)
 obtain ⟨r1,hr1,hm⟩ := bo hm
 refine Sq (Sq (RD hnt (nn 2 (o17 [] true r1 :: .no :: [])) [] [(10,pB (decide (r1 < 0)))] [] [] (an (Zc p0 p1 r1 hr1) tv) ?_))
 refine Ah hm ?_ ?_
 ·intro h2 hm
  refine Sq (RK hnt (.no :: []) [(4,.p (.sl .nil 0 0 (fun _ => [])))] [] tv ?_)
  refine DW.cv [] [(4,ow 100000 0)] [] [(100000,ob0 (roI []))] (Conv.ads [(.s 4,100000,1,elems Bi 0 [])]) ?_
  obtain rfl := sj hm
  exact DW.ret (Ai [roI []] [100000] (ow 0 0))
 ·intro h2 hm
  refine Sk ?_
  refine Sq (RD hnt (.no :: []) [10] [(c28e2)] [] [] tv ?_)
  refine Sq (Sq (RN hnt (nn 3 []) [(2,rr 1016),(c28e2),(6,ow 1096 [p1].length)] [(Acu p0),(1096,ob0 (roI [p1]))] [(6,ow 1096 1)] [(1096,.row 1 1 (cut 1 [vi p1]))] tv (by kernel_rfl) (.cons rfl (MLe.ownLen (enc := Bi) (d := 0) (f := (cut 1 [vi p1])) (RowIs.lit (enc := Bi) (d := 0) (n := 1) (f := (cut 1 [vi p1])) [p1] rfl (fun | 0,_ => rfl | n + 1,h => absurd h (by omega)))) .nil) (.cons rfl (BLe.typed (RowIs.lit (enc := Bi) (d := 0) (n := 1) (f := (cut 1 [vi p1])) [p1] rfl (fun | 0,_ => rfl | n + 1,h => absurd h (by omega)))) .nil) ?_))
  refine Bk ?_
  refine DW.whileO (fun (s1 : (List Int) × (List Int)) => Aj [(2,rr 1016),(5,ow 1232 s1.1.length),(6,.p (slI s1.2))] [(Acu p0),(1232,ob0 (roI s1.1))]) hm (Conv.trans (τ := Aj [(2,rr 1016),(c28e2),(6,.p (slI [p1]))] [(Acu p0)]) (Conv.frz [1096]) (Conv.ads [(.s 5,1232,1,elems Bi 0 [])])) ?_
  intro s1 n1 hm
  unfold Uf at hm
  refine Sq (Sq (DW.regJ (sl2 := [(2,rr 1016),(5,ow 1232 s1.1.length),(6,.p (slI s1.2)),(23,pB ((decide (((s1.2.length : Nat) : Int) > 0)) && (decide (((s1.1.length : Nat) : Int) < ((p0.nodes.length : Nat) : Int)))))]) (ob2 := [(Acu p0),(1232,ob0 (roI s1.1))]) ?_ ?_))
  ·rcases bt (decide (((s1.2.length : Nat) : Int) > 0)) with h12 | h12
   ·exact RT hnt (nn 10 (pT :: [])) [(23,pB (decide (((s1.1.length : Nat) : Int) < ((p0.nodes.length : Nat) : Int))))] (an h12 (an6 h12 tv)) (by kernel_rfl) (.cons rfl (.of_eq (by rw [h12]; try rfl)) .nil)
   ·exact RT hnt (nn 4 (sk 6 (pF :: []))) [(23,pB false)] (an h12 (an6 h12 tv)) (by kernel_rfl) (.cons rfl (.of_eq (by rw [h12]; try rfl)) .nil)
  ·refine Ah hm ?_ ?_
   ·intro h13 hm
    refine Sk ?_
    refine Bk ?_
    obtain ⟨g14,g15,hm⟩ := go2 hm
    refine Sq (RN hnt (nn 7 []) [(2,rr 1016),(5,ow 1232 (s1.1 ++ [(s1.2.getD 0 0)]).length),(6,.p (slI s1.2))] [(Acu p0),(1232,ob0 (roI (s1.1 ++ [(s1.2.getD 0 0)])))] [(5,ow 1232 (s1.1.length + 1))] [(1232,.row 1 (s1.1.length + 1) (Cp s1.1.length (elI s1.1) (cut 1 [vi (s1.2.getD 0 0)])))] (an (nn0 0) (an (ltc g14) (an (by omega : (s1.1.length + 1) * 8 ≤ 140737488355328) tv))) (by kernel_rfl) (.cons rfl (MLe.ownLen (enc := Bi) (d := 0) (f := (Cp s1.1.length (elI s1.1) (cut 1 [vi (s1.2.getD 0 0)]))) (RowIs.cat RowIs.elems (RowIs.lit (enc := Bi) (d := 0) (n := 1) (f := (cut 1 [vi (s1.2.getD 0 0)])) [(s1.2.getD 0 0)] rfl (fun | 0,_ => rfl | n + 1,h => absurd h (by omega))))) .nil) (.cons rfl (BLe.typed (RowIs.cat RowIs.elems (RowIs.lit (enc := Bi) (d := 0) (n := 1) (f := (cut 1 [vi (s1.2.getD 0 0)])) [(s1.2.getD 0 0)] rfl (fun | 0,_ => rfl | n + 1,h => absurd h (by omega))))) .nil) ?_)
    obtain ⟨g16,hm⟩ := go1 hm
    obtain ⟨r17,hr17,hm⟩ := bo hm
    obtain ⟨g18,g19,hm⟩ := go2 hm
    refine RN hnt (nn 4 (o29 [] true r17 :: nn 4 [])) [(2,rr 1016),(5,ow 1232 (s1.1 ++ [(s1.2.getD 0 0)]).length),(6,ow 1272 (r17 ++ (s1.2.drop 1)).length)] [(Acu p0),(1232,ob0 (roI (s1.1 ++ [(s1.2.getD 0 0)]))),(1272,ob0 (roI (r17 ++ (s1.2.drop 1))))] [(6,ow 1272 (r17.length + (Fz s1.2.length 1)))] [(1272,.row 1 (r17.length + (Fz s1.2.length 1)) (Cp r17.length (elI r17) (shF 1 (elI s1.2))))] (an (nn0 0) (an (ltc g16) (an (Adp p0 (s1.2.getD 0 0) r17 hr17) (an (by omega : (0 : Int) ≤ 1) (an (by omega : 1 ≤ ((s1.2.length : Nat) : Int)) (an (by omega : ((s1.2.length : Nat) : Int) ≤ ((s1.2.length : Nat) : Int)) (an (by omega : (r17.length + (Fz s1.2.length 1)) * 8 ≤ 140737488355328) tv))))))) (by kernel_rfl) (.cons rfl (MLe.ownLen (enc := Bi) (d := 0) (f := (Cp r17.length (elI r17) (shF 1 (elI s1.2)))) (RowIs.cat RowIs.elems (RowIs.elems.drop (Nv _ _) (by omega)))) .nil) (.cons rfl (BLe.typed (RowIs.cat RowIs.elems (RowIs.elems.drop (Nv _ _) (by omega)))) .nil) ?_
    refine DW.done ?_
    show DW _ _ _ _ _
    exact jD ((s1.1 ++ [(s1.2.getD 0 0)]),(r17 ++ (s1.2.drop 1))) hm (Conv.frz [1272])
   ·intro h13 hm
    refine DW.exit ?_
    refine Ap ?_
    refine Au ?_
    refine Am ?_
    show DW _ _ _ _ _
    refine Sq (RK hnt (nn 2 []) [(4,ow 1232 s1.1.length)] [(1232,ob0 (roI s1.1))] tv ?_)
    obtain rfl := sj hm
    exact DW.ret (Ai [roI s1.1] [1232] (ow 0 s1.1.length))
abbrev o28 (ks : List Nat) (b : Bool) (RES : List Int) (sm : List Nat := []) : Orc := .call 174 ks b (ow 0 RES.length) [] [roI RES] sm

theorem AcU (p0 : List Int) (p1 : Int) (RES : Int) (hm : Mi p0 p1 = some RES) : Spec Tryz.prog 148 [.p (slI p0),pI p1] [] (pI RES) [] [] := by
 unfold Mi at hm
 refine SO Tryz.func148 rfl rfl [(0,.p (slI p0)),(1,pI p1)] [] ?_
 intro cx hnt
 refine Sq (RD hnt (.no :: []) [] [] [] [] tv ?_)
 refine Sq (Sq (RD hnt (nn 3 []) [] [(7,pI ((p0.length : Nat) : Int)),(8,pI 0)] [] [] tv ?_))
 refine Bk ?_
 obtain ⟨hc1,hm⟩ := go1 hm
 refine DW.rangeO (fun (k1 : Nat) (s1 : Unit) => Aj [(0,.p (slI p0)),(1,pI p1),(7,pI ((p0.length : Nat) : Int)),(8,pI ((k1 : Nat) : Int))] []) 0 hm Conv.eqK ?_
 intro k1 s1 n1 hk1 hs1 he1
 refine Sq (RD hnt (.no :: []) [] [(9,pB (decide (((k1 : Nat) : Int) < ((p0.length : Nat) : Int))))] [] [] tv ?_)
 refine Sq (Cd (decide (((k1 : Nat) : Int) < ((p0.length : Nat) : Int))) ?_ ?_)
 ·intro h7
  have hlt1 : k1 < p0.length := by have := of_decide_eq_true h7; omega
  have hm := hs1 hlt1
  unfold Yb at hm
  refine Sk ?_
  refine Sq (Bk ?_)
  refine Sq (RD hnt (nn 2 []) [9] [(5,pI ((k1 : Nat) : Int))] [] [] tv ?_)
  refine Sq (RD hnt (nn 6 []) [] [(16,pB (p1 == (p0.getD k1 0)))] [] [] (an (nn0 k1) (an (ltc hlt1) tv)) ?_)
  refine Ah hm ?_ ?_
  ·intro h8 hm
   refine Sq (RK hnt (nn 2 []) [(4,pI ((k1 : Nat) : Int))] [] tv ?_)
   obtain rfl := sj hm
   exact DW.ret (Ai [] [] (pI ((k1 : Nat) : Int)))
  ·intro h8 hm
   refine Sk ?_
   refine DW.done ?_
   show DW _ _ _ _ _
   refine RD hnt (nn 2 []) [5,16] [(8,pI (w64 (((k1 : Nat) : Int) + 1)))] [] [] tv ?_
   exact jD () ⟨hlt1,hm⟩ (Conv.tp [(8,pI (w64 (((k1 : Nat) : Int) + 1)))] [] (by kernel_rfl) (.cons rfl (.of_eq (congrArg pI (Bo hlt1 hc1))) .nil) .nil)
 ·intro h7
  have hge1 : ¬ k1 < p0.length := by have := of_decide_eq_false h7; omega
  have hm := he1 hge1
  unfold Xw at hm
  refine DW.exit ?_
  refine Ap ?_
  refine Au ?_
  refine Am ?_
  show DW _ _ _ _ _
  refine Sq (RK hnt (.no :: []) [(4,pI (-1))] [] tv ?_)
  obtain rfl := sj hm
  exact DW.ret (Ai [] [] (pI (-1)))
abbrev o31 (ks : List Nat) (b : Bool) (RES : Int) (sm : List Nat := []) : Orc := .call 148 ks b (pI RES) [] [] sm

theorem Hh (p0 : List Int) (p1 : Int) (RES : Bool) (hm : Ec p0 p1 = some RES) : Spec Tryz.prog 96 [.p (slI p0),pI p1] [] (pB RES) [] [] := by
 unfold Ec at hm
 refine SO Tryz.func96 rfl rfl [(0,.p (slI p0)),(1,pI p1)] [] ?_
 intro cx hnt
 refine Sq (RD hnt (.no :: []) [] [] [] [] tv ?_)
 obtain ⟨r1,hr1,hm⟩ := bo hm
 refine Sq (RK hnt (nn 2 (o31 [] true r1 :: nn 2 [])) [(4,pB (decide (r1 ≥ 0)))] [] (an (AcU p0 p1 r1 hr1) tv) ?_)
 obtain rfl := sj hm
 exact DW.ret (Ai [] [] (pB (decide (r1 ≥ 0))))
abbrev o30 (ks : List Nat) (b : Bool) (RES : Bool) (sm : List Nat := []) : Orc := .call 96 ks b (pB RES) [] [] sm

theorem Cn (p0 : Ac) (p1 : Int) (RES : Bool) (hm : Ig p0 p1 = some RES) : Spec Tryz.prog 63 [.p (.agg (Al p0)),pI p1] [] (pB RES) [] [] := by
 unfold Ig at hm
 refine SO Tryz.func63 rfl rfl [(0,.p (.agg (Al p0))),(1,pI p1)] [] ?_
 intro cx hnt
 refine Sq (RK hnt (nn 2 []) [(1,pI p1),(2,rr 1016)] [(1016,bx (pm (Al p0)))] tv ?_)
 obtain ⟨r1,hr1,hm⟩ := bo hm
 refine Sq (RK hnt (nn 3 (o30 [] true r1 :: .no :: [])) [(4,pB r1)] [] (an (Hh p0.stopped p1 r1 hr1) tv) ?_)
 obtain rfl := sj hm
 exact DW.ret (Ai [] [] (pB r1))
abbrev o32 (ks : List Nat) (b : Bool) (RES : Bool) (sm : List Nat := []) : Orc := .call 63 ks b (pB RES) [] [] sm

theorem AaZ (p0 : Aa) (p1 : Ac) (p2 : Int) (RES : Bool) (hm : No p0 p1 p2 = some RES) : Spec Tryz.prog 134 [.p (.agg (Ab p0)),.p (.agg (Al p1)),pI p2] [] (pB RES) [] [] := by
 unfold No at hm
 refine SO Tryz.func134 rfl rfl [(0,.p (.agg (Ab p0))),(1,.p (.agg (Al p1))),(2,pI p2)] [] ?_
 intro cx hnt
 refine Sq (RK hnt (nn 3 []) [(2,pI p2),(3,rr 1024),(4,rr 1032)] [(1024,bx (pm (Ab p0))),(1032,bx (pm (Al p1)))] tv ?_)
 obtain ⟨r1,hr1,hm⟩ := bo hm
 refine Sq (Sq (RD hnt (nn 4 (o23 [] true r1 :: .no :: [])) [] [(15,pB (!r1))] [] [] (an (Jp p0.tree p1 p2 r1 hr1) tv) ?_))
 refine Ah hm ?_ ?_
 ·intro h2 hm
  refine Sq (RK hnt (.no :: []) [(6,pB false)] [] tv ?_)
  obtain rfl := sj hm
  exact DW.ret (Ai [] [] (pB false))
 ·intro h2 hm
  refine Sk ?_
  obtain ⟨r3,hr3,hm⟩ := bo hm
  refine Sq (RD hnt (nn 3 (o28 [] true r3 :: .no :: [])) [2,15] [(7,ow 1152 r3.length)] [] [(1152,ob0 (roI r3))] (an (AdD p0.tree p2 r3 hr3) tv) ?_)
  refine Sq (Sq (RD hnt (nn 4 []) [3] [(21,.p (Be p0.tasks)),(22,pI ((p0.tasks.length : Nat) : Int)),(23,pI 0)] [1024] [] tv ?_))
  refine Bk ?_
  obtain ⟨hc1,hm⟩ := go1 hm
  refine DW.rangeO (fun (k1 : Nat) (s1 : Unit) => Aj [(4,rr 1032),(7,ow 1152 r3.length),(21,.p (Be p0.tasks)),(22,pI ((p0.tasks.length : Nat) : Int)),(23,pI ((k1 : Nat) : Int))] [(1032,bx (pm (Al p1))),(1152,ob0 (roI r3))]) Bu hm Conv.eqK ?_
  intro k1 s1 n1 hk1 hs1 he1
  refine Sq (RD hnt (.no :: []) [] [(24,pB (decide (((k1 : Nat) : Int) < ((p0.tasks.length : Nat) : Int))))] [] [] tv ?_)
  refine Sq (Cd (decide (((k1 : Nat) : Int) < ((p0.tasks.length : Nat) : Int))) ?_ ?_)
  ·intro h16
   have hlt1 : k1 < p0.tasks.length := by have := of_decide_eq_true h16; omega
   have hm := hs1 hlt1
   unfold Yw at hm
   refine Sk ?_
   refine Sq (Bk ?_)
   refine Sq (RD hnt (nn 4 []) [24] [(9,rr 1072)] [] [(1072,bx (pm (Az (p0.tasks.getD k1 (default : Aw)))))] (an (nn0 k1) (an (ltc hlt1) tv)) ?_)
   obtain ⟨r17,hr17,hm⟩ := bo hm
   refine Sq ?_
   refine Jn (ι := Bool) (fun (y3 : Bool) => Aj [(4,rr 1032),(7,ow 1152 r3.length),(21,.p (Be p0.tasks)),(22,pI ((p0.tasks.length : Nat) : Int)),(23,pI ((k1 : Nat) : Int)),(37,pB y3)] [(1032,bx (pm (Al p1))),(1152,ob0 (roI r3))]) (fun y3 => (Qd n1) y3 = some RES) ?_ ?_
   ·intro y3 hm
    unfold Qd at hm
    refine Ah hm ?_ ?_
    ·intro h20 hm
     refine Sq (RK hnt (.no :: []) [(6,pB false)] [] tv ?_)
     obtain rfl := sj hm
     exact DW.ret (Ai [] [] (pB false))
    ·intro h20 hm
     refine Sk ?_
     refine DW.done ?_
     show DW _ _ _ _ _
     refine RD hnt (nn 2 []) [37] [(23,pI (w64 (((k1 : Nat) : Int) + 1)))] [] [] tv ?_
     exact jD () ⟨hlt1,hm⟩ (Conv.tp [(23,pI (w64 (((k1 : Nat) : Int) + 1)))] [] (by kernel_rfl) (.cons rfl (.of_eq (congrArg pI (Bo hlt1 hc1))) .nil) .nil)
   ·rcases bt r17 with h18 | h18
    ·replace hm := Bg h18 hm
     obtain ⟨r19,hr19,hm⟩ := bo hm
     refine RD hnt (nn 3 (o30 [] true r17 :: nn 4 (o32 [] true r19 :: .no :: pT :: []))) [9] [(37,pB (!r19))] [1072] [] (an (Hh r3 (p0.tasks.getD k1 (default : Aw)).group r17 hr17) (an4 h18 (an (Cn p1 (p0.tasks.getD k1 (default : Aw)).id r19 hr19) (an2 h18 tv)))) ?_
     exact jD (!r19) hm Conv.eqK
    ·replace hm := Bf h18 hm
     refine RD hnt (nn 3 (o30 [] true r17 :: .no :: sk 5 (pF :: []))) [9] [(37,pB false)] [1072] [] (an (Hh r3 (p0.tasks.getD k1 (default : Aw)).group r17 hr17) (an6 h18 tv)) ?_
     exact jD false hm Conv.eqK
  ·intro h16
   have hge1 : ¬ k1 < p0.tasks.length := by have := of_decide_eq_false h16; omega
   have hm := he1 hge1
   unfold Adc at hm
   refine DW.exit ?_
   refine Ap ?_
   refine Au ?_
   refine Am ?_
   show DW _ _ _ _ _
   refine Sq (RK hnt (.no :: []) [(6,pB true)] [] tv ?_)
   obtain rfl := sj hm
   exact DW.ret (Ai [] [] (pB true))
abbrev o27 (ks : List Nat) (b : Bool) (RES : Bool) (sm : List Nat := []) : Orc := .call 134 ks b (pB RES) [] [] sm

abbrev AcF (p0 : Aa) : Nat × Obj := (1016,bx (pm (Ab p0)))
abbrev AcG (p1 : Ac) : Nat × Obj := (1024,bx (pm (Al p1)))
abbrev c21e3 (p1 : Ac) (k1 : Nat) := (p1.frosts.getD k1 (default : Ae))
theorem Db (p0 : Aa) (p1 : Ac) (RES : Bool) (hm : Hv p0 p1 = some RES) : Spec Tryz.prog 77 [.p (.agg (Ab p0)),.p (.agg (Al p1))] [] (pB RES) [] [] := by
 unfold Hv at hm
 refine SO Tryz.func77 rfl rfl [(0,.p (.agg (Ab p0))),(1,.p (.agg (Al p1)))] [] ?_
 intro cx hnt
 refine Sq (RK hnt (nn 3 []) [(2,rr 1016),(3,rr 1024)] [(AcF p0),(AcG p1)] tv ?_)
 obtain ⟨r1,hr1,hm⟩ := bo hm
 refine Sq (Sq ?_)
 refine Jn (ι := Bool) (fun (y1 : Bool) => Aj [(2,rr 1016),(3,rr 1024),(23,pB y1)] [(AcF p0),(AcG p1)]) (fun y1 => (Oe p0 p1) y1 = some RES) ?_ ?_
 ·intro y1 hm
  unfold Oe at hm
  refine Ah hm ?_ ?_
  ·intro h3 hm
   refine Sq (RK hnt (.no :: []) [(4,pB false)] [] tv ?_)
   obtain rfl := sj hm
   exact DW.ret (Ai [] [] (pB false))
  ·intro h3 hm
   refine Sk ?_
   refine Sq (Sq (RD hnt (nn 4 []) [23] [(25,.p (En p1.frosts)),(26,pI ((p1.frosts.length : Nat) : Int)),(27,pI 0)] [] [] tv ?_))
   refine Bk ?_
   obtain ⟨hc1,hm⟩ := go1 hm
   refine DW.rangeO (fun (k1 : Nat) (s1 : Unit) => Aj [(2,rr 1016),(3,rr 1024),(25,.p (En p1.frosts)),(26,pI ((p1.frosts.length : Nat) : Int)),(27,pI ((k1 : Nat) : Int))] [(AcF p0),(AcG p1)]) Bc hm Conv.eqK ?_
   intro k1 s1 n1 hk1 hs1 he1
   refine Sq (RD hnt (.no :: []) [] [(28,pB (decide (((k1 : Nat) : Int) < ((p1.frosts.length : Nat) : Int))))] [] [] tv ?_)
   refine Sq (Cd (decide (((k1 : Nat) : Int) < ((p1.frosts.length : Nat) : Int))) ?_ ?_)
   ·intro h97
    have hlt1 : k1 < p1.frosts.length := by have := of_decide_eq_true h97; omega
    have hm := hs1 hlt1
    unfold Wc at hm
    refine Sk ?_
    refine Sq (Bk ?_)
    refine Sq (RD hnt (nn 6 []) [28] [(5,pI ((k1 : Nat) : Int)),(6,rr 1048)] [] [(1048,bx (pm (Bd (c21e3 p1 k1))))] (an (nn0 k1) (an (ltc hlt1) tv)) ?_)
    obtain ⟨g98,hm⟩ := go1 hm
    refine Sq ?_
    refine Jn (ι := Bool) (fun (y10 : Bool) => Aj [(2,rr 1016),(3,rr 1024),(25,.p (En p1.frosts)),(26,pI ((p1.frosts.length : Nat) : Int)),(27,pI ((k1 : Nat) : Int)),(51,pB y10)] [(AcF p0),(AcG p1)]) (fun y10 => (Kw n1) y10 = some RES) ?_ ?_
    ·intro y10 hm
     unfold Kw at hm
     refine Ah hm ?_ ?_
     ·intro h102 hm
      refine Sq (RK hnt (.no :: []) [(4,pB false)] [] tv ?_)
      obtain rfl := sj hm
      exact DW.ret (Ai [] [] (pB false))
     ·intro h102 hm
      refine Sk ?_
      refine DW.done ?_
      show DW _ _ _ _ _
      refine RD hnt (nn 2 []) [51] [(27,pI (w64 (((k1 : Nat) : Int) + 1)))] [] [] tv ?_
      exact jD () ⟨hlt1,hm⟩ (Conv.tp [(27,pI (w64 (((k1 : Nat) : Int) + 1)))] [] (by kernel_rfl) (.cons rfl (.of_eq (congrArg pI (Bo hlt1 hc1))) .nil) .nil)
    ·rcases bt ((c21e3 p1 k1).group != (p0.tree.nodes.getD k1 Bm).id) with h99 | h99
     ·replace hm := Bg h99 hm
      refine RD hnt (nn 11 (sk 3 (pT :: .no :: sk 3 (pT :: [])))) [5,6] [(51,pB true)] [1048] [] (an (nn0 k1) (an (ltc g98) (an4 h99 (an4 tt tv)))) ?_
      exact jD true hm Conv.eqK
     ·replace hm := Bf h99 hm
      rcases bt (decide ((c21e3 p1 k1).changes < 0)) with h100 | h100
      ·replace hm := Bg h100 hm
       refine RD hnt (nn 14 (pF :: .no :: sk 3 (pT :: []))) [5,6] [(51,pB true)] [1048] [] (an (nn0 k1) (an (ltc g98) (an4 h99 (an4 h100 tv)))) ?_
       exact jD true hm Conv.eqK
      ·replace hm := Bf h100 hm
       refine RD hnt (nn 14 (pF :: nn 4 (pF :: []))) [5,6] [(51,pB (decide ((c21e3 p1 k1).changes > 1099511627776)))] [1048] [] (an (nn0 k1) (an (ltc g98) (an4 h99 (an4 h100 tv)))) ?_
       exact jD (decide ((c21e3 p1 k1).changes > 1099511627776)) hm Conv.eqK
   ·intro h97
    have hge1 : ¬ k1 < p1.frosts.length := by have := of_decide_eq_false h97; omega
    have hm := he1 hge1
    unfold Wx at hm
    refine DW.exit ?_
    refine Ap ?_
    refine Au ?_
    refine Am ?_
    show DW _ _ _ _ _
    refine Sq (Sq (RD hnt (nn 4 []) [25,26,27,28] [(54,.p (slI p1.stopped)),(55,pI ((p1.stopped.length : Nat) : Int)),(56,pI 0)] [] [] tv ?_))
    refine Bk ?_
    obtain ⟨hc10,hm⟩ := go1 hm
    refine DW.rangeO (fun (k10 : Nat) (s10 : Unit) => Aj [(2,rr 1016),(3,rr 1024),(54,.p (slI p1.stopped)),(55,pI ((p1.stopped.length : Nat) : Int)),(56,pI ((k10 : Nat) : Int))] [(AcF p0),(AcG p1)]) 0 hm Conv.eqK ?_
    intro k10 s10 n10 hk10 hs10 he10
    refine Sq (RD hnt (.no :: []) [] [(57,pB (decide (((k10 : Nat) : Int) < ((p1.stopped.length : Nat) : Int))))] [] [] tv ?_)
    refine Sq (Cd (decide (((k10 : Nat) : Int) < ((p1.stopped.length : Nat) : Int))) ?_ ?_)
    ·intro h141
     have hlt10 : k10 < p1.stopped.length := by have := of_decide_eq_true h141; omega
     have hm := hs10 hlt10
     unfold Vn at hm
     refine Sk ?_
     refine Sq (Bk ?_)
     refine Sq (RD hnt (nn 5 []) [57] [(7,pI ((k10 : Nat) : Int)),(8,pI (p1.stopped.getD k10 0))] [] [] (an (nn0 k10) (an (ltc hlt10) tv)) ?_)
     refine Sq ?_
     refine Jn (ι := Bool) (fun (y13 : Bool) => Aj [(2,rr 1016),(3,rr 1024),(54,.p (slI p1.stopped)),(55,pI ((p1.stopped.length : Nat) : Int)),(56,pI ((k10 : Nat) : Int)),(79,pB y13)] [(AcF p0),(AcG p1)]) (fun y13 => (Jc n10) y13 = some RES) ?_ ?_
     ·intro y13 hm
      unfold Jc at hm
      refine Ah hm ?_ ?_
      ·intro h147 hm
       refine Sq (RK hnt (.no :: []) [(4,pB false)] [] tv ?_)
       obtain rfl := sj hm
       exact DW.ret (Ai [] [] (pB false))
      ·intro h147 hm
       refine Sk ?_
       refine DW.done ?_
       show DW _ _ _ _ _
       refine RD hnt (nn 2 []) [79] [(56,pI (w64 (((k10 : Nat) : Int) + 1)))] [] [] tv ?_
       exact jD () ⟨hlt10,hm⟩ (Conv.tp [(56,pI (w64 (((k10 : Nat) : Int) + 1)))] [] (by kernel_rfl) (.cons rfl (.of_eq (congrArg pI (Bo hlt10 hc10))) .nil) .nil)
     ·rcases bt (decide (((k10 : Nat) : Int) > 0)) with h142 | h142
      ·replace hm := Bg h142 hm
       obtain ⟨g143,hm⟩ := go1 hm
       rcases bt (decide ((p1.stopped.getD k10 0) ≤ (p1.stopped.getD (Int.toNat (w64 (((k10 : Nat) : Int) - 1))) 0))) with h144 | h144
       ·replace hm := Bg h144 hm
        refine RD hnt (nn 11 (pT :: .no :: sk 5 (pT :: []))) [7,8] [(79,pB true)] [] [] (an6 h142 (an g143.1 (an g143.2 (an3 h142 (an6 h144 tv))))) ?_
        exact jD true hm Conv.eqK
       ·replace hm := Bf h144 hm
        obtain ⟨r145,hr145,hm⟩ := bo hm
        refine RD hnt (nn 11 (pT :: nn 4 (o22 [] true r145 :: .no :: pF :: []))) [7,8] [(79,pB (!r145))] [] [] (an6 h142 (an g143.1 (an g143.2 (an3 h142 (an4 h144 (an (Sx p0 p1 (p1.stopped.getD k10 0) r145 hr145) (an2 h144 tv))))))) ?_
        exact jD (!r145) hm Conv.eqK
      ·replace hm := Bf h142 hm
       obtain ⟨r146,hr146,hm⟩ := bo hm
       refine RD hnt (nn 3 (sk 8 (pF :: nn 4 (o22 [] true r146 :: .no :: pF :: [])))) [7,8] [(79,pB (!r146))] [] [] (an3 h142 (an6 h142 (an4 ff (an (Sx p0 p1 (p1.stopped.getD k10 0) r146 hr146) (an2 ff tv))))) ?_
       exact jD (!r146) hm Conv.eqK
    ·intro h141
     have hge10 : ¬ k10 < p1.stopped.length := by have := of_decide_eq_false h141; omega
     have hm := he10 hge10
     unfold Vv at hm
     refine DW.exit ?_
     refine Ap ?_
     refine Au ?_
     refine Am ?_
     show DW _ _ _ _ _
     refine Sq (Sq (RD hnt (nn 4 []) [54,55,56,57] [(82,.p (En p1.frosts)),(83,pI ((p1.frosts.length : Nat) : Int)),(84,pI 0)] [] [] tv ?_))
     refine Bk ?_
     obtain ⟨hc13,hm⟩ := go1 hm
     refine DW.rangeO (fun (k13 : Nat) (s13 : Unit) => Aj [(2,rr 1016),(3,rr 1024),(82,.p (En p1.frosts)),(83,pI ((p1.frosts.length : Nat) : Int)),(84,pI ((k13 : Nat) : Int))] [(AcF p0),(AcG p1)]) Bc hm Conv.eqK ?_
     intro k13 s13 n13 hk13 hs13 he13
     refine Sq (RD hnt (.no :: []) [] [(85,pB (decide (((k13 : Nat) : Int) < ((p1.frosts.length : Nat) : Int))))] [] [] tv ?_)
     refine Sq (Cd (decide (((k13 : Nat) : Int) < ((p1.frosts.length : Nat) : Int))) ?_ ?_)
     ·intro h156
      have hlt13 : k13 < p1.frosts.length := by have := of_decide_eq_true h156; omega
      have hm := hs13 hlt13
      unfold Vr at hm
      refine Sk ?_
      refine Sq (Bk ?_)
      refine Sq (RD hnt (nn 4 []) [85] [(10,rr 1080)] [] [(1080,bx (pm (Bd (p1.frosts.getD k13 (default : Ae)))))] (an (nn0 k13) (an (ltc hlt13) tv)) ?_)
      obtain ⟨r157,hr157,hm⟩ := bo hm
      refine Sq (RD hnt (nn 6 (o27 [] true r157 :: .no :: [])) [10] [(95,pB ((p1.frosts.getD k13 (default : Ae)).frozen != r157))] [1080] [] (an (AaZ p0 p1 (p1.frosts.getD k13 (default : Ae)).group r157 hr157) tv) ?_)
      refine Ah hm ?_ ?_
      ·intro h158 hm
       refine Sq (RK hnt (.no :: []) [(4,pB false)] [] tv ?_)
       obtain rfl := sj hm
       exact DW.ret (Ai [] [] (pB false))
      ·intro h158 hm
       refine Sk ?_
       refine DW.done ?_
       show DW _ _ _ _ _
       refine RD hnt (nn 2 []) [95] [(84,pI (w64 (((k13 : Nat) : Int) + 1)))] [] [] tv ?_
       exact jD () ⟨hlt13,hm⟩ (Conv.tp [(84,pI (w64 (((k13 : Nat) : Int) + 1)))] [] (by kernel_rfl) (.cons rfl (.of_eq (congrArg pI (Bo hlt13 hc13))) .nil) .nil)
     ·intro h156
      have hge13 : ¬ k13 < p1.frosts.length := by have := of_decide_eq_false h156; omega
      have hm := he13 hge13
      unfold Abr at hm
      refine DW.exit ?_
      refine Ap ?_
      refine Au ?_
      refine Am ?_
      show DW _ _ _ _ _
      refine Sq (RK hnt (.no :: []) [(4,pB true)] [] tv ?_)
      obtain rfl := sj hm
      exact DW.ret (Ai [] [] (pB true))
 ·rcases bt (!r1) with h2 | h2
  ·replace hm := Bg h2 hm
   refine RD hnt (.no :: o6 [] true r1 :: nn 2 (sk 8 (pT :: []))) [] [(23,pB true)] [] [] (an (Pg p0 r1 hr1) (an3 h2 (an6 h2 tv))) ?_
   exact jD true hm Conv.eqK
  ·replace hm := Bf h2 hm
   refine RD hnt (.no :: o6 [] true r1 :: nn 10 (pF :: [])) [] [(23,pB (((p1.frosts.length : Nat) : Int) != ((p0.tree.nodes.length : Nat) : Int)))] [] [] (an (Pg p0 r1 hr1) (an3 h2 (an6 h2 tv))) ?_
   exact jD (((p1.frosts.length : Nat) : Int) != ((p0.tree.nodes.length : Nat) : Int)) hm Conv.eqK
abbrev o21 (ks : List Nat) (b : Bool) (RES : Bool) (sm : List Nat := []) : Orc := .call 77 ks b (pB RES) [] [] sm

theorem AfX (p0 : Ae) (p1 : Int) (RES : Bool) (hm : AaO p0 p1 = some RES) : Spec Tryz.prog 110 [.p (.agg (Bd p0)),rr 0] [.box [pI p1]] (pB RES) [.box [pI p1]] [] := by
 unfold AaO at hm
 refine SO Tryz.func110 rfl rfl [(0,.p (.agg (Bd p0))),(1,rr 0)] [(0,bx [pI p1])] ?_
 intro cx hnt
 refine Sq (RD hnt (nn 2 []) [0] [(2,rr 1016)] [] [(1016,bx (pm (Bd p0)))] tv ?_)
 refine Sq (RK hnt (nn 5 []) [(3,pB (p0.group == p1))] [(0,bx [pI p1])] tv ?_)
 obtain rfl := sj hm
 exact DW.ret (Ai [.box [pI p1]] [] (pB (p0.group == p1)))

theorem Qa (p0 : List Ae) (p1c0 : Int) (RES : Int) (hm : Fb p0 p1c0 = some RES) : Spec Tryz.prog 109 [.p (En p0),.fn 110 [rr 0]] [.box [pI p1c0]] (pI RES) [.box [pI p1c0]] [] := by
 unfold Fb at hm
 refine SO Tryz.func109 rfl rfl [(0,.p (En p0)),(1,.fn 110 [rr 0])] [(0,bx [pI p1c0])] ?_
 intro cx hnt
 refine Sq (RD hnt (.no :: []) [] [] [] [] tv ?_)
 refine Sq (Sq (RD hnt (nn 3 []) [] [(7,pI ((p0.length : Nat) : Int)),(8,pI 0)] [] [] tv ?_))
 refine Bk ?_
 obtain ⟨hc1,hm⟩ := go1 hm
 refine DW.rangeO (fun (k1 : Nat) (s1 : Unit) => Aj [(0,.p (En p0)),(1,.fn 110 [rr 0]),(7,pI ((p0.length : Nat) : Int)),(8,pI ((k1 : Nat) : Int))] [(0,bx [pI p1c0])]) Bc hm Conv.eqK ?_
 intro k1 s1 n1 hk1 hs1 he1
 refine Sq (RD hnt (.no :: []) [] [(9,pB (decide (((k1 : Nat) : Int) < ((p0.length : Nat) : Int))))] [] [] tv ?_)
 refine Sq (Cd (decide (((k1 : Nat) : Int) < ((p0.length : Nat) : Int))) ?_ ?_)
 ·intro h9
  have hlt1 : k1 < p0.length := by have := of_decide_eq_true h9; omega
  have hm := hs1 hlt1
  unfold Kb at hm
  refine Sk ?_
  refine Sq (Bk ?_)
  refine Sq (RD hnt (nn 2 []) [9] [(5,pI ((k1 : Nat) : Int))] [] [] tv ?_)
  obtain ⟨r10,hr10,hm⟩ := bo hm
  refine Sq (RD hnt (nn 5 (.call 110 [0] true (pB r10) [.box [pI p1c0]] [] [] :: [])) [] [(16,pB r10)] [] [] (an (nn0 k1) (an (ltc hlt1) (an (AfX (p0.getD k1 (default : Ae)) p1c0 r10 hr10) (an tv tv)))) ?_)
  refine Ah hm ?_ ?_
  ·intro h11 hm
   refine Sq (RK hnt (nn 2 []) [(4,pI ((k1 : Nat) : Int))] [(0,bx [pI p1c0])] tv ?_)
   obtain rfl := sj hm
   exact DW.ret (Ai [.box [pI p1c0]] [] (pI ((k1 : Nat) : Int)))
  ·intro h11 hm
   refine Sk ?_
   refine DW.done ?_
   show DW _ _ _ _ _
   refine RD hnt (nn 2 []) [5,16] [(8,pI (w64 (((k1 : Nat) : Int) + 1)))] [] [] tv ?_
   exact jD () ⟨hlt1,hm⟩ (Conv.tp [(8,pI (w64 (((k1 : Nat) : Int) + 1)))] [] (by kernel_rfl) (.cons rfl (.of_eq (congrArg pI (Bo hlt1 hc1))) .nil) .nil)
 ·intro h9
  have hge1 : ¬ k1 < p0.length := by have := of_decide_eq_false h9; omega
  have hm := he1 hge1
  unfold Kc at hm
  refine DW.exit ?_
  refine Ap ?_
  refine Au ?_
  refine Am ?_
  show DW _ _ _ _ _
  refine Sq (RK hnt (.no :: []) [(4,pI (-1))] [(0,bx [pI p1c0])] tv ?_)
  obtain rfl := sj hm
  exact DW.ret (Ai [.box [pI p1c0]] [] (pI (-1)))

theorem AaG (p0 : List Ae) (RES : List Ae) (hm : Gu p0 = some RES) : Spec Tryz.prog 164 [.p (.sl .nn 4 p0.length (elems Bd (default : Ae) p0))] [] (ow 0 RES.length) [] [Af RES] := by
 unfold Gu at hm
 refine SO Tryz.func164 rfl rfl [(0,.p (.sl .nn 4 p0.length (elems Bd (default : Ae) p0)))] [] ?_
 intro cx hnt
 refine Sq (RD hnt (.no :: []) [] [] [] [] tv ?_)
 refine Sq (Sq (RD hnt (nn 2 []) [] [(4,pB false)] [] [] tv ?_))
 refine condF ff ?_
 refine Sk ?_
 obtain ⟨g1,hm⟩ := go1 hm
 refine Sq (RN hnt (nn 4 []) [(2,ow 1040 p0.length)] [(1040,ob0 (Af p0))] [(2,ow 1040 (0 + p0.length))] [(1040,.row 4 (0 + p0.length) (Cp 0 (cut 4 []) (Hq p0)))] (an (by omega : (0 + p0.length) * 24 ≤ 140737488355328) tv) (by kernel_rfl) (.cons rfl (MLe.ownLen (enc := Bd) (d := Bc) (f := (Cp 0 (cut 4 []) (Hq p0))) (RowIs.cat RowIs.nil RowIs.elems)) .nil) (.cons rfl (BLe.typed (RowIs.cat RowIs.nil RowIs.elems)) .nil) ?_)
 obtain rfl := sj hm
 exact DW.ret (Ai [Af p0] [1040] (ow 0 p0.length))

theorem Zj (p0 : List Ae) (RES : List Ae) (hm : Og p0 = some RES) : Spec Tryz.prog 164 [.p (.sl .nil 4 0 (elems Bd (default : Ae) p0))] [] (ow 0 RES.length) [] [Af RES] := by
 unfold Og at hm
 refine SO Tryz.func164 rfl rfl [(0,.p (.sl .nil 4 0 (elems Bd (default : Ae) p0)))] [] ?_
 intro cx hnt
 refine Sq (RD hnt (.no :: []) [] [] [] [] tv ?_)
 refine Sq (Sq (RD hnt (nn 2 []) [] [(4,pB true)] [] [] tv ?_))
 refine condT tt ?_
 refine Sq (RK hnt (.no :: []) [(2,.p (.sl .nil 0 0 (fun _ => [])))] [] tv ?_)
 refine DW.cv [] [(2,ow 100000 0)] [] [(100000,ob0 (Af []))] (Conv.ads [(.s 2,100000,4,elems Bd Bc [])]) ?_
 obtain rfl := sj hm
 exact DW.ret (Ai [Af []] [100000] (ow 0 0))

theorem AbA (p0 : List Ae) (RES : List Ae) (hm : Gu p0 = some RES) : Spec Tryz.prog 164 [.p (En p0)] [] (ow 0 RES.length) [] [Af RES] :=
  Spec.unk (fun h => Zj p0 RES (by have e : p0 = [] := List.eq_nil_of_length_eq_zero h; subst e; simpa [Gu,Og] using hm)) (AaG p0 RES hm)
abbrev o36 (ks : List Nat) (b : Bool) (RES : List Ae) (sm : List Nat := []) : Orc := .call 164 ks b (ow 0 RES.length) [] [Af RES] sm

theorem AbO (p0 : List Int) (RES : List Int) (hm : Ha p0 = some RES) : Spec Tryz.prog 53 [.p (.sl .nn 1 p0.length (elems Bi 0 p0))] [] (ow 0 RES.length) [] [roI RES] := by
 unfold Ha at hm
 refine SO Tryz.func53 rfl rfl [(0,.p (.sl .nn 1 p0.length (elems Bi 0 p0)))] [] ?_
 intro cx hnt
 refine Sq (RD hnt (.no :: []) [] [] [] [] tv ?_)
 refine Sq (Sq (RD hnt (nn 2 []) [] [(4,pB false)] [] [] tv ?_))
 refine condF ff ?_
 refine Sk ?_
 obtain ⟨g1,hm⟩ := go1 hm
 refine Sq (RN hnt (nn 4 []) [(2,ow 1040 p0.length)] [(1040,ob0 (roI p0))] [(2,ow 1040 (0 + p0.length))] [(1040,.row 1 (0 + p0.length) (Cp 0 (cut 1 []) (elI p0)))] (an (by omega : (0 + p0.length) * 8 ≤ 140737488355328) tv) (by kernel_rfl) (.cons rfl (MLe.ownLen (enc := Bi) (d := 0) (f := (Cp 0 (cut 1 []) (elI p0))) (RowIs.cat RowIs.nil RowIs.elems)) .nil) (.cons rfl (BLe.typed (RowIs.cat RowIs.nil RowIs.elems)) .nil) ?_)
 obtain rfl := sj hm
 exact DW.ret (Ai [roI p0] [1040] (ow 0 p0.length))

theorem AaT (p0 : List Int) (RES : List Int) (hm : Qm p0 = some RES) : Spec Tryz.prog 53 [.p (.sl .nil 1 0 (elems Bi 0 p0))] [] (ow 0 RES.length) [] [roI RES] := by
 unfold Qm at hm
 refine SO Tryz.func53 rfl rfl [(0,.p (.sl .nil 1 0 (elems Bi 0 p0)))] [] ?_
 intro cx hnt
 refine Sq (RD hnt (.no :: []) [] [] [] [] tv ?_)
 refine Sq (Sq (RD hnt (nn 2 []) [] [(4,pB true)] [] [] tv ?_))
 refine condT tt ?_
 refine Sq (RK hnt (.no :: []) [(2,.p (.sl .nil 0 0 (fun _ => [])))] [] tv ?_)
 refine DW.cv [] [(2,ow 100000 0)] [] [(100000,ob0 (roI []))] (Conv.ads [(.s 2,100000,1,elems Bi 0 [])]) ?_
 obtain rfl := sj hm
 exact DW.ret (Ai [roI []] [100000] (ow 0 0))

theorem Vu (p0 : List Int) (RES : List Int) (hm : Ha p0 = some RES) : Spec Tryz.prog 53 [.p (slI p0)] [] (ow 0 RES.length) [] [roI RES] :=
  Spec.unk (fun h => AaT p0 RES (by have e : p0 = [] := List.eq_nil_of_length_eq_zero h; subst e; simpa [Ha,Qm] using hm)) (AbO p0 RES hm)
abbrev o37 (ks : List Nat) (b : Bool) (RES : List Int) (sm : List Nat := []) : Orc := .call 53 ks b (ow 0 RES.length) [] [roI RES] sm

theorem Abs (p0 : Aa) (p1 : Ac) (RES : freezer) (hm : Qg p0 p1 = some RES) : Spec Tryz.prog 111 [.p (.agg (Ab p0)),.p (.agg (Al p1))] [] (rr 0) [] [.box [.p (Ba RES.h.tree.nodes),pI RES.h.tree.next,.p (Be RES.h.tasks),pI RES.h.next,ow 1 RES.f.frosts.length,ow 2 RES.f.stopped.length],Af RES.f.frosts,roI RES.f.stopped] := by
 unfold Qg at hm
 refine SO Tryz.func111 rfl rfl [(0,.p (.agg (Ab p0))),(1,.p (.agg (Al p1)))] [] ?_
 intro cx hnt
 refine Sq (RK hnt (nn 3 []) [(2,rr 1016),(3,rr 1024)] [(1016,bx (pm (Ab p0))),(1024,bx (pm (Al p1)))] tv ?_)
 obtain ⟨r1,hr1,hm⟩ := bo hm
 obtain ⟨r2,hr2,hm⟩ := bo hm
 refine Sq (RK hnt (nn 3 (o36 [] true r1 :: nn 2 (o37 [] true r2 :: nn 4 []))) [(4,rr 1112)] [(1064,ob0 (Af r1)),(1088,ob0 (roI r2)),(1112,bx [.p (Ba p0.tree.nodes),pI p0.tree.next,.p (Be p0.tasks),pI p0.next,ow 1064 r1.length,ow 1088 r2.length])] (an (AbA p1.frosts r1 hr1) (an (Vu p1.stopped r2 hr2) tv)) ?_)
 obtain rfl := sj hm
 exact DW.ret (Ai [.box [.p (Ba p0.tree.nodes),pI p0.tree.next,.p (Be p0.tasks),pI p0.next,ow 1 r1.length,ow 2 r2.length],Af r1,roI r2] [1112,1064,1088] (rr 0))
abbrev o35 (ks : List Nat) (b : Bool) (RES : freezer) (sm : List Nat := []) : Orc := .call 111 ks b (rr 0) [] [.box [.p (Ba RES.h.tree.nodes),pI RES.h.tree.next,.p (Be RES.h.tasks),pI RES.h.next,ow 1 RES.f.frosts.length,ow 2 RES.f.stopped.length],Af RES.f.frosts,roI RES.f.stopped] sm

theorem Qb (p0 : Int) (p1 : freezer) (RES : Bool) (hm : Gl p0 p1 = some RES) : Spec Tryz.prog 166 [pI p0,rr 0] [.box [rr 1],.box [.p (Ba p1.h.tree.nodes),pI p1.h.tree.next,.p (Be p1.h.tasks),pI p1.h.next,ow 2 p1.f.frosts.length,ow 3 p1.f.stopped.length],Af p1.f.frosts,roI p1.f.stopped] (pB RES) [.box [rr 1],.box [.p (Ba p1.h.tree.nodes),pI p1.h.tree.next,.p (Be p1.h.tasks),pI p1.h.next,ow 2 p1.f.frosts.length,ow 3 p1.f.stopped.length],Af p1.f.frosts,roI p1.f.stopped] [] := by
 unfold Gl at hm
 refine SO Tryz.func166 rfl rfl [(0,pI p0),(1,rr 0)] [(0,bx [rr 1]),(1,bx [.p (Ba p1.h.tree.nodes),pI p1.h.tree.next,.p (Be p1.h.tasks),pI p1.h.next,ow 2 p1.f.frosts.length,ow 3 p1.f.stopped.length]),(2,ob0 (Af p1.f.frosts)),(3,ob0 (roI p1.f.stopped))] ?_
 intro cx hnt
 refine Sq (RD hnt (.no :: []) [] [] [] [] tv ?_)
 obtain ⟨r1,hr1,hm⟩ := bo hm
 refine Sq (RD hnt (nn 9 (o22 [] true r1 :: nn 2 [])) [0,1] [(3,pB (!r1))] [] [] (an (Sx p1.h p1.f p0 r1 hr1) tv) ?_)
 obtain rfl := sj hm
 exact DW.ret (Ai [.box [rr 1],.box [.p (Ba p1.h.tree.nodes),pI p1.h.tree.next,.p (Be p1.h.tasks),pI p1.h.next,ow 2 p1.f.frosts.length,ow 3 p1.f.stopped.length],Af p1.f.frosts,roI p1.f.stopped] [] (pB (!r1)))

abbrev c40e1 (p1c0 : freezer) (p0 : List Int) : Nat × Obj := (2,bx [.p (Ba p1c0.h.tree.nodes),pI p1c0.h.tree.next,.p (Be p1c0.h.tasks),pI p1c0.h.next,ow 3 p1c0.f.frosts.length,ow 0 p0.length])
theorem Mn (p0 : List Int) (p1c0 : freezer) (RES : Int) (hm : De p0 p1c0 = some RES) : Spec Tryz.prog 196 [ow 0 p0.length,.fn 166 [rr 1]] [roI p0,.box [rr 2],.box [.p (Ba p1c0.h.tree.nodes),pI p1c0.h.tree.next,.p (Be p1c0.h.tasks),pI p1c0.h.next,ow 3 p1c0.f.frosts.length,ow 0 p0.length],Af p1c0.f.frosts] (pI RES) [roI p0,.box [rr 2],.box [.p (Ba p1c0.h.tree.nodes),pI p1c0.h.tree.next,.p (Be p1c0.h.tasks),pI p1c0.h.next,ow 3 p1c0.f.frosts.length,ow 0 p0.length],Af p1c0.f.frosts] [] := by
 unfold De at hm
 refine SO Tryz.func196 rfl rfl [(0,ow 0 p0.length),(1,.fn 166 [rr 1])] [(0,ob0 (roI p0)),(1,bx [rr 2]),(c40e1 p1c0 p0),(3,ob0 (Af p1c0.f.frosts))] ?_
 intro cx hnt
 refine Sq (RD hnt (.no :: []) [] [] [] [] tv ?_)
 refine Sq (Sq (RD hnt (nn 3 []) [] [(7,pI ((p0.length : Nat) : Int)),(8,pI 0)] [] [] tv ?_))
 refine Bk ?_
 obtain ⟨hc1,hm⟩ := go1 hm
 refine DW.rangeO (fun (k1 : Nat) (s1 : Unit) => Aj [(0,ow 0 p0.length),(1,.fn 166 [rr 1]),(7,pI ((p0.length : Nat) : Int)),(8,pI ((k1 : Nat) : Int))] [(0,ob0 (roI p0)),(1,bx [rr 2]),(c40e1 p1c0 p0),(3,ob0 (Af p1c0.f.frosts))]) 0 hm Conv.eqK ?_
 intro k1 s1 n1 hk1 hs1 he1
 refine Sq (RD hnt (.no :: []) [] [(9,pB (decide (((k1 : Nat) : Int) < ((p0.length : Nat) : Int))))] [] [] tv ?_)
 refine Sq (Cd (decide (((k1 : Nat) : Int) < ((p0.length : Nat) : Int))) ?_ ?_)
 ·intro h11
  have hlt1 : k1 < p0.length := by have := of_decide_eq_true h11; omega
  have hm := hs1 hlt1
  unfold Es at hm
  refine Sk ?_
  refine Sq (Bk ?_)
  refine Sq (RD hnt (nn 2 []) [9] [(5,pI ((k1 : Nat) : Int))] [] [] tv ?_)
  obtain ⟨r12,hr12,hm⟩ := bo hm
  refine Sq (RD hnt (nn 5 (.call 166 [1,2,3,0] true (pB r12) [.box [rr 1],.box [.p (Ba p1c0.h.tree.nodes),pI p1c0.h.tree.next,.p (Be p1c0.h.tasks),pI p1c0.h.next,ow 2 p1c0.f.frosts.length,ow 3 p0.length],Af p1c0.f.frosts,roI p0] [] [] :: [])) [] [(16,pB r12)] [] [] (an (nn0 k1) (an (ltc hlt1) (an (by omega : k1 < p0.length) (an (Qb (p0.getD k1 0) ({ h := p1c0.h,f := ({ frosts := p1c0.f.frosts,stopped := p0 } : Ac) } : freezer) r12 hr12) (an2 tv (an (⟨rfl,rfl⟩ : Body.same (Af p1c0.f.frosts) (Af p1c0.f.frosts)) (an (⟨rfl,rfl⟩ : Body.same (roI p0) (roI p0)) tv))))))) ?_)
  refine Ah hm ?_ ?_
  ·intro h13 hm
   refine Sq (RD hnt (nn 2 []) [0,1,5,7,8,16] [(4,pI ((k1 : Nat) : Int))] [] [] tv ?_)
   obtain rfl := sj hm
   exact DW.ret (Ai [roI p0,.box [rr 2],.box [.p (Ba p1c0.h.tree.nodes),pI p1c0.h.tree.next,.p (Be p1c0.h.tasks),pI p1c0.h.next,ow 3 p1c0.f.frosts.length,ow 0 p0.length],Af p1c0.f.frosts] [] (pI ((k1 : Nat) : Int)))
  ·intro h13 hm
   refine Sk ?_
   refine DW.done ?_
   show DW _ _ _ _ _
   refine RD hnt (nn 2 []) [5,16] [(8,pI (w64 (((k1 : Nat) : Int) + 1)))] [] [] tv ?_
   exact jD () ⟨hlt1,hm⟩ (Conv.tp [(8,pI (w64 (((k1 : Nat) : Int) + 1)))] [] (by kernel_rfl) (.cons rfl (.of_eq (congrArg pI (Bo hlt1 hc1))) .nil) .nil)
 ·intro h11
  have hge1 : ¬ k1 < p0.length := by have := of_decide_eq_false h11; omega
  have hm := he1 hge1
  unfold Hk at hm
  refine DW.exit ?_
  refine Ap ?_
  refine Au ?_
  refine Am ?_
  show DW _ _ _ _ _
  refine Sq (RD hnt (.no :: []) [0,1,7,8,9] [(4,pI (-1))] [] [] tv ?_)
  obtain rfl := sj hm
  exact DW.ret (Ai [roI p0,.box [rr 2],.box [.p (Ba p1c0.h.tree.nodes),pI p1c0.h.tree.next,.p (Be p1c0.h.tasks),pI p1c0.h.next,ow 3 p1c0.f.frosts.length,ow 0 p0.length],Af p1c0.f.frosts] [] (pI (-1)))

abbrev c39e1 (s1 : (List Int) × Int × Int) := (Kt s1.1 (Int.toNat s1.2.1) (Fz s1.1.length (Int.toNat s1.2.1)) 0)
abbrev Zu (s1 : (List Int) × Int × Int) := (s1.1.getD (Int.toNat s1.2.2) 0)
abbrev c39e3 (p1c0 : freezer) (s1 : (List Int) × Int × Int) : Nat × Body := (2,.box [.p (Ba p1c0.h.tree.nodes),pI p1c0.h.tree.next,.p (Be p1c0.h.tasks),pI p1c0.h.next,ow 3 p1c0.f.frosts.length,ow 0 s1.1.length])
abbrev c39e4 (p1c0 : freezer) : Nat × Obj := (3,ob0 (Af p1c0.f.frosts))
abbrev c39e5 (s1 : (List Int) × Int × Int) := (s1.1.set (Int.toNat s1.2.1) (Zu s1))
theorem Md (p0 : List Int) (p1c0 : freezer) (RES : Nat × (List Int) × freezer) (hm : Ch p0 p1c0 = some RES) : Spec Tryz.prog 165 [ow 0 p0.length,.fn 166 [rr 1]] [roI p0,.box [rr 2],.box [.p (Ba p1c0.h.tree.nodes),pI p1c0.h.tree.next,.p (Be p1c0.h.tasks),pI p1c0.h.next,ow 3 p1c0.f.frosts.length,ow 0 p0.length],Af p1c0.f.frosts] (ow 0 RES.1) [roI RES.2.1,.box [rr 2],.box [.p (Ba RES.2.2.h.tree.nodes),pI RES.2.2.h.tree.next,.p (Be RES.2.2.h.tasks),pI RES.2.2.h.next,ow 3 RES.2.2.f.frosts.length,ow 0 RES.2.1.length],Af RES.2.2.f.frosts] [] := by
 unfold Ch at hm
 refine SO Tryz.func165 rfl rfl [(0,ow 0 p0.length),(1,.fn 166 [rr 1])] [(0,ob0 (roI p0)),(1,bx [rr 2]),(2,bx [.p (Ba p1c0.h.tree.nodes),pI p1c0.h.tree.next,.p (Be p1c0.h.tasks),pI p1c0.h.next,ow 3 p1c0.f.frosts.length,ow 0 p0.length]),(c39e4 p1c0)] ?_
 intro cx hnt
 refine Sq (RD hnt (.no :: []) [] [] [] [] tv ?_)
 obtain ⟨r1,hr1,hm⟩ := bo hm
 refine Sq (RD hnt (nn 2 (.call 196 [0,1,2,3] true (pI r1) [roI p0,.box [rr 2],.box [.p (Ba p1c0.h.tree.nodes),pI p1c0.h.tree.next,.p (Be p1c0.h.tasks),pI p1c0.h.next,ow 3 p1c0.f.frosts.length,ow 0 p0.length],Af p1c0.f.frosts] [] [] :: .no :: [])) [] [(5,pI r1)] [] [] (an (Mn p0 ({ h := p1c0.h,f := ({ frosts := p1c0.f.frosts,stopped := p0 } : Ac) } : freezer) r1 hr1) (an (⟨rfl,rfl⟩ : Body.same (roI p0) (roI p0)) (an2 tv (an (⟨rfl,rfl⟩ : Body.same (Af p1c0.f.frosts) (Af p1c0.f.frosts)) tv)))) ?_)
 refine Sq (Sq (RD hnt (nn 2 []) [] [(12,pB (r1 == (-1)))] [] [] tv ?_))
 refine Ah hm ?_ ?_
 ·intro h2 hm
  refine Sq (RD hnt (nn 2 []) [0,1,5,12] [(4,ow 0 p0.length)] [] [] tv ?_)
  obtain rfl := sj hm
  exact DW.ret (Ai [roI p0,.box [rr 2],.box [.p (Ba p1c0.h.tree.nodes),pI p1c0.h.tree.next,.p (Be p1c0.h.tasks),pI p1c0.h.next,ow 3 p1c0.f.frosts.length,ow 0 p0.length],Af p1c0.f.frosts] [] (ow 0 p0.length))
 ·intro h2 hm
  refine Sk ?_
  refine Sq (Sq (RD hnt (nn 3 []) [12] [(6,pI (w64 (r1 + 1)))] [] [] tv ?_))
  refine Bk ?_
  refine DW.whileO (fun (s1 : (List Int) × Int × Int) => Aj [(0,ow 0 s1.1.length),(1,.fn 166 [rr 1]),(5,pI s1.2.1),(6,pI s1.2.2)] [(0,ob0 (roI s1.1)),(1,bx [rr 2]),(2,bx [.p (Ba p1c0.h.tree.nodes),pI p1c0.h.tree.next,.p (Be p1c0.h.tasks),pI p1c0.h.next,ow 3 p1c0.f.frosts.length,ow 0 s1.1.length]),(c39e4 p1c0)]) hm Conv.eqK ?_
  intro s1 n1 hm
  unfold Cu at hm
  refine Sq (Sq (RD hnt (nn 4 []) [] [(19,pB (decide (s1.2.2 < ((s1.1.length : Nat) : Int))))] [] [] tv ?_))
  refine Ah hm ?_ ?_
  ·intro h13 hm
   refine Sk ?_
   refine Sq ?_
   refine Jn (ι := (List Int) × Int) (fun (y2 : (List Int) × Int) => Aj [(0,ow 0 y2.1.length),(1,.fn 166 [rr 1]),(5,pI y2.2),(6,pI s1.2.2)] [(0,ob0 (roI y2.1)),(1,bx [rr 2]),(2,bx [.p (Ba p1c0.h.tree.nodes),pI p1c0.h.tree.next,.p (Be p1c0.h.tasks),pI p1c0.h.next,ow 3 p1c0.f.frosts.length,ow 0 y2.1.length]),(c39e4 p1c0)]) (fun y2 => (Cf s1 n1) y2 = some RES) ?_ ?_
   ·intro y2 hm
    unfold Cf at hm
    refine RD hnt (nn 3 []) [] [(6,pI (w64 (s1.2.2 + 1)))] [] [] tv ?_
    exact jD (y2.1,y2.2,(w64 (s1.2.2 + 1))) hm Conv.eqK
   ·refine Bk ?_
    obtain ⟨g14,g15,hm⟩ := go2 hm
    refine Sq (RD hnt (nn 5 []) [19] [(7,pI (Zu s1))] [] [] (an g14.1 (an g14.2 (an g15 tv))) ?_)
    obtain ⟨r16,hr16,hm⟩ := bo hm
    refine Sq (RD hnt (nn 2 (.call 166 [1,2,3,0] true (pB r16) [.box [rr 1],.box [.p (Ba p1c0.h.tree.nodes),pI p1c0.h.tree.next,.p (Be p1c0.h.tasks),pI p1c0.h.next,ow 2 p1c0.f.frosts.length,ow 3 s1.1.length],Af p1c0.f.frosts,roI s1.1] [] [] :: .no :: [])) [] [(29,pB (!r16))] [] [] (an (Qb (Zu s1) ({ h := p1c0.h,f := ({ frosts := p1c0.f.frosts,stopped := s1.1 } : Ac) } : freezer) r16 hr16) (an2 tv (an (⟨rfl,rfl⟩ : Body.same (Af p1c0.f.frosts) (Af p1c0.f.frosts)) (an (⟨rfl,rfl⟩ : Body.same (roI s1.1) (roI s1.1)) tv)))) ?_)
    refine Ah hm ?_ ?_
    ·intro h17 hm
     obtain ⟨g18,g19,hm⟩ := go2 hm
     refine Sq (RN hnt (nn 5 []) [(0,ow 0 (c39e5 s1).length),(1,.fn 166 [rr 1]),(5,pI s1.2.1),(6,pI s1.2.2)] [(0,ob0 (roI (c39e5 s1))),(1,bx [rr 2]),(2,bx [.p (Ba p1c0.h.tree.nodes),pI p1c0.h.tree.next,.p (Be p1c0.h.tasks),pI p1c0.h.next,ow 3 p1c0.f.frosts.length,ow 0 (c39e5 s1).length]),(c39e4 p1c0)] [(0,ow 0 s1.1.length)] [(0,.row 1 s1.1.length (Ca (elI s1.1) (Int.toNat s1.2.1) [vi (Zu s1)])),(c39e3 p1c0 s1)] (an g18.1 (an g18.2 (an g19 tv))) (by kernel_rfl) (.cons rfl (MLe.ownLen (enc := Bi) (d := 0) (f := (Ca (elI s1.1) (Int.toNat s1.2.1) [vi (Zu s1)])) (RowIs.upd RowIs.elems (Zu s1) rfl)) .nil) (.cons rfl (BLe.typed (RowIs.upd RowIs.elems (Zu s1) rfl)) (.cons rfl (.box (.cons .rfl (.cons .rfl (.cons .rfl (.cons .rfl (.cons .rfl (.cons (MLe.ownLen (enc := Bi) (d := 0) (f := (Ca (elI s1.1) (Int.toNat s1.2.1) [vi (Zu s1)])) (RowIs.upd RowIs.elems (Zu s1) rfl)) .nil))))))) .nil)) ?_)
     refine RD hnt (nn 3 []) [] [(5,pI (w64 (s1.2.1 + 1)))] [] [] tv ?_
     exact bD ((c39e5 s1),(w64 (s1.2.1 + 1))) hm Conv.eqK
    ·intro h17 hm
     refine Sk ?_
     exact bD (s1.1,s1.2.1) hm Conv.t0
  ·intro h13 hm
   refine DW.exit ?_
   refine Ap ?_
   refine Au ?_
   refine Am ?_
   show DW _ _ _ _ _
   obtain ⟨g20,g21,hm⟩ := go2 hm
   refine Sq (RN hnt (nn 4 []) [(0,ow 0 (c39e1 s1).length),(5,pI s1.2.1)] [(0,ob0 (roI (c39e1 s1))),(1,bx [rr 2]),(2,bx [.p (Ba p1c0.h.tree.nodes),pI p1c0.h.tree.next,.p (Be p1c0.h.tasks),pI p1c0.h.next,ow 3 p1c0.f.frosts.length,ow 0 (c39e1 s1).length]),(c39e4 p1c0)] [(0,ow 0 s1.1.length)] [(0,.row 1 s1.1.length (Mm (elI s1.1) (Int.toNat s1.2.1) (Fz s1.1.length (Int.toNat s1.2.1)) (fun _ => [vi 0]))),(c39e3 p1c0 s1)] (an (by omega : (0 : Int) ≤ s1.2.1) (an (by omega : s1.2.1 ≤ ((s1.1.length : Nat) : Int)) (an (by omega : ((s1.1.length : Nat) : Int) ≤ ((s1.1.length : Nat) : Int)) (an g21 tv)))) (by kernel_rfl) (.cons rfl (MLe.ownLen (enc := Bi) (d := 0) (f := (Mm (elI s1.1) (Int.toNat s1.2.1) (Fz s1.1.length (Int.toNat s1.2.1)) (fun _ => [vi 0]))) (RowIs.fill RowIs.elems 0 rfl (by first | exact g21 | omega))) .nil) (.cons rfl (BLe.typed (RowIs.fill RowIs.elems 0 rfl (by first | exact g21 | omega))) (.cons rfl (.box (.cons .rfl (.cons .rfl (.cons .rfl (.cons .rfl (.cons .rfl (.cons (MLe.ownLen (enc := Bi) (d := 0) (f := (Mm (elI s1.1) (Int.toNat s1.2.1) (Fz s1.1.length (Int.toNat s1.2.1)) (fun _ => [vi 0]))) (RowIs.fill RowIs.elems 0 rfl (by first | exact g21 | omega))) .nil))))))) .nil)) ?_)
   obtain ⟨g22,hm⟩ := go1 hm
   refine Sq (RD hnt (nn 4 []) [0,5] [(4,ow 0 (Int.toNat s1.2.1))] [] [] (an (by omega : (0 : Int) ≤ 0) (an (by omega : (0 : Int) ≤ s1.2.1) (an (by omega : s1.2.1 ≤ (((Kt s1.1 (Int.toNat s1.2.1) (Fz s1.1.length (Int.toNat s1.2.1)) 0).length : Nat) : Int)) tv))) ?_)
   obtain rfl := sj hm
   exact DW.ret (Ai [roI (c39e1 s1),.box [rr 2],.box [.p (Ba p1c0.h.tree.nodes),pI p1c0.h.tree.next,.p (Be p1c0.h.tasks),pI p1c0.h.next,ow 3 p1c0.f.frosts.length,ow 0 (c39e1 s1).length],Af p1c0.f.frosts] [] (ow 0 (Int.toNat s1.2.1)))
abbrev o39 (ks : List Nat) (b : Bool) (RES : Nat × (List Int) × freezer) (sm : List Nat := []) : Orc := .call 165 ks b (ow 0 RES.1) [roI RES.2.1,.box [rr 2],.box [.p (Ba RES.2.2.h.tree.nodes),pI RES.2.2.h.tree.next,.p (Be RES.2.2.h.tasks),pI RES.2.2.h.next,ow 3 RES.2.2.f.frosts.length,ow 0 RES.2.1.length],Af RES.2.2.f.frosts] [] sm
end Go.Dm


/- Go functions compute their models, printed by a program. -/
namespace Go.Dm
open Go.Proofs
set_option linter.unusedVariables false
theorem Rh (p0 : freezer) (RES : freezer × Nat) (hm : Hf p0 = some RES) : Spec Tryz.prog 112 [rr 0] [.box [.p (Ba p0.h.tree.nodes),pI p0.h.tree.next,.p (Be p0.h.tasks),pI p0.h.next,ow 1 p0.f.frosts.length,ow 2 p0.f.stopped.length],Af p0.f.frosts,roI p0.f.stopped] (.p (.tup [])) [.box [.p (Ba RES.1.h.tree.nodes),pI RES.1.h.tree.next,.p (Be RES.1.h.tasks),pI RES.1.h.next,ow 1 RES.1.f.frosts.length,ow 2 RES.2],Af RES.1.f.frosts,roI RES.1.f.stopped] [] := by
 unfold Hf at hm
 refine SO Tryz.func112 rfl rfl [(0,rr 0)] [(0,bx [.p (Ba p0.h.tree.nodes),pI p0.h.tree.next,.p (Be p0.h.tasks),pI p0.h.next,ow 1 p0.f.frosts.length,ow 2 p0.f.stopped.length]),(1,ob0 (Af p0.f.frosts)),(2,ob0 (roI p0.f.stopped))] ?_
 intro cx hnt
 refine Sq (RD hnt (.no :: []) [0] [(1,rr 1008)] [] [(1008,bx [rr 0])] tv ?_)
 obtain ⟨r1,hr1,hm⟩ := bo hm
 obtain ⟨g2,g3,g4,hm⟩ := go3 hm
 refine RK hnt (nn 7 (o39 [2,1008,0,1] true r1 [1008] :: nn 4 [])) [] [(0,bx [.p (Ba r1.2.2.h.tree.nodes),pI r1.2.2.h.tree.next,.p (Be r1.2.2.h.tasks),pI r1.2.2.h.next,ow 1 r1.2.2.f.frosts.length,ow 2 r1.1]),(1,ob0 (Af r1.2.2.f.frosts)),(2,ob0 (roI r1.2.1))] (an (Md p0.f.stopped p0 r1 hr1) (an (⟨rfl,g2⟩ : Body.same (roI p0.f.stopped) (roI r1.2.1)) (an2 tv (an (⟨rfl,g3⟩ : Body.same (Af p0.f.frosts) (Af r1.2.2.f.frosts)) (an (Eq.refl (some (bx [rr 0] : Obj))) tv))))) ?_
 refine DW.done ?_
 obtain rfl := sj hm
 exact endK [.box [.p (Ba r1.2.2.h.tree.nodes),pI r1.2.2.h.tree.next,.p (Be r1.2.2.h.tasks),pI r1.2.2.h.next,ow 1 r1.2.2.f.frosts.length,ow 2 r1.1],Af r1.2.2.f.frosts,roI r1.2.1] [] (.p (.tup []))
abbrev o38 (ks : List Nat) (b : Bool) (RES : freezer × Nat) (sm : List Nat := []) : Orc := .call 112 ks b (.p (.tup [])) [.box [.p (Ba RES.1.h.tree.nodes),pI RES.1.h.tree.next,.p (Be RES.1.h.tasks),pI RES.1.h.next,ow 1 RES.1.f.frosts.length,ow 2 RES.2],Af RES.1.f.frosts,roI RES.1.f.stopped] [] sm

abbrev c42e1 (s1 : List Ae) (k1 : Int) (r22 : Bool) := ({ group := ((s1.set (Int.toNat k1) ({ group := (s1.getD (Int.toNat k1) Bc).group,want := (s1.getD (Int.toNat k1) Bc).want,frozen := r22,changes := (s1.getD (Int.toNat k1) Bc).changes } : Ae)).getD (Int.toNat k1) Bc).group,want := ((s1.set (Int.toNat k1) ({ group := (s1.getD (Int.toNat k1) Bc).group,want := (s1.getD (Int.toNat k1) Bc).want,frozen := r22,changes := (s1.getD (Int.toNat k1) Bc).changes } : Ae)).getD (Int.toNat k1) Bc).want,frozen := ((s1.set (Int.toNat k1) ({ group := (s1.getD (Int.toNat k1) Bc).group,want := (s1.getD (Int.toNat k1) Bc).want,frozen := r22,changes := (s1.getD (Int.toNat k1) Bc).changes } : Ae)).getD (Int.toNat k1) Bc).frozen,changes := (Pc (w64 ((s1.getD (Int.toNat k1) Bc).changes + 1)) 1099511627776) } : Ae)
abbrev c42e2 (s1 : List Ae) (k1 : Int) (r22 : Bool) := ({ group := (s1.getD (Int.toNat k1) Bc).group,want := (s1.getD (Int.toNat k1) Bc).want,frozen := r22,changes := (s1.getD (Int.toNat k1) Bc).changes } : Ae)
abbrev c42e3 (s1 : List Ae) (k1 : Int) (r22 : Bool) := (Ca (Hq s1) (Int.toNat k1) [vi (s1.getD (Int.toNat k1) Bc).group,vb (s1.getD (Int.toNat k1) Bc).want,vb r22,vi (s1.getD (Int.toNat k1) Bc).changes])
abbrev c42e4 : Nat × Obj := (1016,bx [.p (.sl .nil 0 0 (fun _ => [])),.p (.sl .nil 0 0 (fun _ => []))])
abbrev c42e5 (s1 : List Ae) (k1 : Int) (r22 : Bool) := (Ca (c42e3 s1 k1 r22) (Int.toNat k1) (setRange ((c42e3 s1 k1 r22) (Int.toNat k1)) 3 [vi (Pc (w64 ((s1.getD (Int.toNat k1) Bc).changes + 1)) 1099511627776)]))
abbrev c42e6 (p0 : freezer) : Nat × MV := (11,pI ((p0.f.frosts.length : Nat) : Int))
abbrev c42e7 (s1 : List Ae) (k1 : Int) (r22 : Bool) := ((s1.set (Int.toNat k1) (c42e2 s1 k1 r22)).set (Int.toNat k1) (c42e1 s1 k1 r22))
theorem Li (p0 : freezer) (RES : Ac × freezer) (hm : Di p0 = some RES) : Spec Tryz.prog 113 [rr 0] [.box [.p (Ba p0.h.tree.nodes),pI p0.h.tree.next,.p (Be p0.h.tasks),pI p0.h.next,ow 1 p0.f.frosts.length,ow 2 p0.f.stopped.length],Af p0.f.frosts,roI p0.f.stopped] (.agg [ow 1 RES.2.f.frosts.length,ow 2 RES.2.f.stopped.length]) [.box [.p (Ba RES.2.h.tree.nodes),pI RES.2.h.tree.next,.p (Be RES.2.h.tasks),pI RES.2.h.next,ow 1 RES.2.f.frosts.length,ow 2 RES.2.f.stopped.length],Af RES.2.f.frosts,roI RES.2.f.stopped] [] := by
 unfold Di at hm
 refine SO Tryz.func113 rfl rfl [(0,rr 0)] [(0,bx [.p (Ba p0.h.tree.nodes),pI p0.h.tree.next,.p (Be p0.h.tasks),pI p0.h.next,ow 1 p0.f.frosts.length,ow 2 p0.f.stopped.length]),(1,ob0 (Af p0.f.frosts)),(2,ob0 (roI p0.f.stopped))] ?_
 intro cx hnt
 refine Sq (RD hnt (.no :: []) [] [(2,rr 1016)] [] [(c42e4)] tv ?_)
 refine Sq (Sq (RD hnt (nn 7 []) [] [(c42e6 p0),(12,pI 0)] [] [] tv ?_))
 refine Bk ?_
 obtain ⟨hc1,hm⟩ := go1 hm
 refine DW.forO (fun (k1 : Int) (s1 : List Ae) => Aj [(0,rr 0),(2,rr 1016),(c42e6 p0),(12,pI k1)] [(0,bx [.p (Ba p0.h.tree.nodes),pI p0.h.tree.next,.p (Be p0.h.tasks),pI p0.h.next,ow 1 s1.length,ow 2 p0.f.stopped.length]),(1,ob0 (Af s1)),(2,ob0 (roI p0.f.stopped)),(c42e4)]) (lo := 0) (hi := ((p0.f.frosts.length : Nat) : Int)) hm Conv.eqK ?_
 intro k1 s1 n1 hk1 hs1 he1
 refine Sq (RD hnt (.no :: []) [] [(13,pB (decide (k1 < ((p0.f.frosts.length : Nat) : Int))))] [] [] tv ?_)
 refine Sq (Cd (decide (k1 < ((p0.f.frosts.length : Nat) : Int))) ?_ ?_)
 ·intro h19
  have hlt1 : k1 < ((p0.f.frosts.length : Nat) : Int) := by have := of_decide_eq_true h19; omega
  have hm := hs1 hlt1
  unfold Mq at hm
  refine Sk ?_
  refine Sq ?_
  refine Jn (ι := List Ae) (fun (y3 : List Ae) => Aj [(0,rr 0),(2,rr 1016),(c42e6 p0),(12,pI k1)] [(0,bx [.p (Ba p0.h.tree.nodes),pI p0.h.tree.next,.p (Be p0.h.tasks),pI p0.h.next,ow 1 y3.length,ow 2 p0.f.stopped.length]),(1,ob0 (Af y3)),(2,ob0 (roI p0.f.stopped)),(c42e4)]) (fun y3 => (Hg n1) y3 = some RES) ?_ ?_
  ·intro y3 hm
   unfold Hg at hm
   refine RD hnt (nn 2 []) [] [(12,pI (w64 (k1 + 1)))] [] [] tv ?_
   exact jD y3 ⟨hlt1,hm⟩ (Conv.tp [(12,pI (w64 (k1 + 1)))] [] (by kernel_rfl) (.cons rfl (.of_eq (congrArg pI (Sn (lo := 0) (hi := ((p0.f.frosts.length : Nat) : Int)) (by omega) hk1 hlt1 (by omega)))) .nil) .nil)
  ·refine Bk ?_
   refine Sq (RD hnt (nn 2 []) [13] [(3,pI k1)] [] [] tv ?_)
   obtain ⟨g20,hm⟩ := go1 hm
   refine Sq (RD hnt (nn 8 []) [3] [(4,.eref 1 0 (Int.toNat k1) 0)] [] [] (an g20.1 (an g20.2 tv)) ?_)
   obtain ⟨g21,hm⟩ := go1 hm
   obtain ⟨r22,hr22,hm⟩ := bo hm
   refine Sq (RD hnt (nn 12 (o27 [] true r22 :: .no :: [])) [] [(5,pB r22)] [] [] (an g21 (an (AaZ p0.h ({ frosts := s1,stopped := p0.f.stopped } : Ac) (s1.getD (Int.toNat k1) Bc).group r22 hr22) tv)) ?_)
   obtain ⟨g23,hm⟩ := go1 hm
   refine Sq (RD hnt (nn 6 []) [] [(40,pB (r22 != (s1.getD (Int.toNat k1) Bc).frozen))] [] [] (an g23 tv) ?_)
   refine Ah hm ?_ ?_
   ·intro h24 hm
    obtain ⟨g25,g26,g27,hm⟩ := go3 hm
    refine RN hnt (nn 15 []) [(0,rr 0),(2,rr 1016),(c42e6 p0),(12,pI k1)] [(0,bx [.p (Ba p0.h.tree.nodes),pI p0.h.tree.next,.p (Be p0.h.tasks),pI p0.h.next,ow 1 (c42e7 s1 k1 r22).length,ow 2 p0.f.stopped.length]),(1,ob0 (Af (c42e7 s1 k1 r22))),(2,ob0 (roI p0.f.stopped)),(c42e4)] [] [(0,.box [.p (Ba p0.h.tree.nodes),pI p0.h.tree.next,.p (Be p0.h.tasks),pI p0.h.next,ow 1 s1.length,ow 2 p0.f.stopped.length]),(1,.row 4 s1.length (c42e5 s1 k1 r22))] (an g25 (an g26 (an g27 tv))) (by kernel_rfl) .nil (.cons rfl (.box (.cons .rfl (.cons .rfl (.cons .rfl (.cons .rfl (.cons (MLe.ownLen (enc := Bd) (d := Bc) (f := (c42e5 s1 k1 r22)) (RowIs.updR (RowIs.upd RowIs.elems (c42e2 s1 k1 r22) rfl) (by omega) (c42e1 s1 k1 r22) rfl)) (.cons .rfl .nil))))))) (.cons rfl (BLe.typed (RowIs.updR (RowIs.upd RowIs.elems (c42e2 s1 k1 r22) rfl) (by omega) (c42e1 s1 k1 r22) rfl)) .nil)) ?_
    exact bD (c42e7 s1 k1 r22) hm .refl
   ·intro h24 hm
    refine Sk ?_
    exact bD s1 hm Conv.t0
 ·intro h19
  have hge1 : ¬ k1 < ((p0.f.frosts.length : Nat) : Int) := by have := of_decide_eq_false h19; omega
  have hm := he1 hge1
  unfold Sv at hm
  refine DW.exit ?_
  refine Ap ?_
  refine Au ?_
  refine Am ?_
  show DW _ _ _ _ _
  refine Sq (RD hnt (nn 5 []) [0,11,12,13] [] [] [(1016,bx [ow 1 s1.length,ow 2 p0.f.stopped.length])] tv ?_)
  obtain rfl := sj hm
  exact DW.ret (Ai [.box [.p (Ba p0.h.tree.nodes),pI p0.h.tree.next,.p (Be p0.h.tasks),pI p0.h.next,ow 1 s1.length,ow 2 p0.f.stopped.length],Af s1,roI p0.f.stopped] [] (.agg [ow 1 s1.length,ow 2 p0.f.stopped.length]))
abbrev o42 (ks : List Nat) (b : Bool) (RES : Ac × freezer) (sm : List Nat := []) : Orc := .call 113 ks b (.agg [ow 1 RES.2.f.frosts.length,ow 2 RES.2.f.stopped.length]) [.box [.p (Ba RES.2.h.tree.nodes),pI RES.2.h.tree.next,.p (Be RES.2.h.tasks),pI RES.2.h.next,ow 1 RES.2.f.frosts.length,ow 2 RES.2.f.stopped.length],Af RES.2.f.frosts,roI RES.2.f.stopped] [] sm

abbrev AeN (r6 : freezer) (r3 : Int) (p3 : Bool) := ({ group := (r6.f.frosts.getD (Int.toNat r3) Bc).group,want := p3,frozen := (r6.f.frosts.getD (Int.toNat r3) Bc).frozen,changes := (r6.f.frosts.getD (Int.toNat r3) Bc).changes } : Ae)
abbrev c20e2 : Nat × Obj := (1064,bx [.p (.sl .nil 0 0 (fun _ => [])),.p (.sl .nil 0 0 (fun _ => []))])
abbrev c20e3 (r6 : freezer) (r3 : Int) (p3 : Bool) := (Ca (Hq r6.f.frosts) (Int.toNat r3) [vi (r6.f.frosts.getD (Int.toNat r3) Bc).group,vb p3,vb (r6.f.frosts.getD (Int.toNat r3) Bc).frozen,vi (r6.f.frosts.getD (Int.toNat r3) Bc).changes])
abbrev c20e4 (r9 : freezer × Nat) : Nat × Obj := (1232,bx [.p (Ba r9.1.h.tree.nodes),pI r9.1.h.tree.next,.p (Be r9.1.h.tasks),pI r9.1.h.next,ow 1233 r9.1.f.frosts.length,ow 1234 r9.2])
abbrev c20e5 : Nat × Obj := (1064,bx [ow 100000 0,ow 100001 0])
theorem Wo (p0 : Aa) (p1 : Ac) (p2 : Int) (p3 : Bool) (RES : Ac × Int) (hm : Kh p0 p1 p2 p3 = some RES) : Spec Tryz.prog 58 [.p (.agg (Ab p0)),.p (.agg (Al p1)),pI p2,pB p3] [] (.tup [.agg [ow 0 RES.1.frosts.length,ow 1 RES.1.stopped.length],pI RES.2]) [] [Af RES.1.frosts,roI RES.1.stopped] := by
 unfold Kh at hm
 refine SO Tryz.func58 rfl rfl [(0,.p (.agg (Ab p0))),(1,.p (.agg (Al p1))),(2,pI p2),(3,pB p3)] [] ?_
 intro cx hnt
 refine Sq (RK hnt (nn 5 []) [(3,pB p3),(4,rr 1032),(5,rr 1040),(6,rr 1048),(8,rr 1064)] [(1032,bx (pm (Ab p0))),(1040,bx (pm (Al p1))),(1048,bx [pI p2]),(c20e2)] tv ?_)
 obtain ⟨r1,hr1,hm⟩ := bo hm
 refine Sq (Sq (RD hnt (nn 2 (o21 [] true r1 :: .no :: [])) [] [(15,pB (!r1))] [] [] (an (Db p0 p1 r1 hr1) tv) ?_))
 refine Ah hm ?_ ?_
 ·intro h2 hm
  refine Sq (RD hnt (nn 3 []) [3,4,5,6,15] [(9,pI 1)] [1032,1040,1048] [] tv ?_)
  refine DW.cv [] [] [] [(c20e5),(100000,ob0 (Af [])),(100001,ob0 (roI []))] (Conv.ads [(.o 1064 0,100000,4,elems Bd Bc []),(.o 1064 1,100001,1,elems Bi 0 [])]) ?_
  obtain rfl := sj hm
  exact DW.ret (Ai [Af [],roI []] [100000,100001] (.tup [.agg [ow 0 0,ow 1 0],pI 1]))
 ·intro h2 hm
  refine Sk ?_
  obtain ⟨r3,hr3,hm⟩ := bo hm
  refine Sq (RD hnt (nn 3 (.call 109 [1048] true (pI r3) [.box [pI p2]] [] [] :: .no :: [])) [15] [(10,pI r3)] [] [] (an (Qa p1.frosts p2 r3 hr3) (an tv tv)) ?_)
  refine Sq (Sq (RD hnt (nn 2 []) [] [(22,pB (decide (r3 < 0)))] [] [] tv ?_))
  refine Ah hm ?_ ?_
  ·intro h4 hm
   refine Sq (RD hnt (nn 3 []) [3,4,5,6,10,22] [(9,pI 4)] [1032,1040,1048] [] tv ?_)
   refine DW.cv [] [] [] [(c20e5),(100000,ob0 (Af [])),(100001,ob0 (roI []))] (Conv.ads [(.o 1064 0,100000,4,elems Bd Bc []),(.o 1064 1,100001,1,elems Bi 0 [])]) ?_
   obtain rfl := sj hm
   exact DW.ret (Ai [Af [],roI []] [100000,100001] (.tup [.agg [ow 0 0,ow 1 0],pI 4]))
  ·intro h4 hm
   refine Sk ?_
   refine Sq (Sq (RD hnt (nn 2 []) [6,22] [(25,pB (p2 == 1))] [1048] [] tv ?_))
   refine Ah hm ?_ ?_
   ·intro h5 hm
    refine Sq (RD hnt (nn 3 []) [3,4,5,10,25] [(9,pI 9)] [1032,1040] [] tv ?_)
    refine DW.cv [] [] [] [(c20e5),(100000,ob0 (Af [])),(100001,ob0 (roI []))] (Conv.ads [(.o 1064 0,100000,4,elems Bd Bc []),(.o 1064 1,100001,1,elems Bi 0 [])]) ?_
    obtain rfl := sj hm
    exact DW.ret (Ai [Af [],roI []] [100000,100001] (.tup [.agg [ow 0 0,ow 1 0],pI 9]))
   ·intro h5 hm
    refine Sk ?_
    obtain ⟨r6,hr6,hm⟩ := bo hm
    refine Sq (RD hnt (nn 2 (o35 [] true r6 :: .no :: [])) [4,5,25] [(11,rr 1232)] [1032,1040] [(1232,bx [.p (Ba r6.h.tree.nodes),pI r6.h.tree.next,.p (Be r6.h.tasks),pI r6.h.next,ow 1233 r6.f.frosts.length,ow 1234 r6.f.stopped.length]),(1233,ob0 (Af r6.f.frosts)),(1234,ob0 (roI r6.f.stopped))] (an (Abs p0 p1 r6 hr6) tv) ?_)
    obtain ⟨g7,g8,hm⟩ := go2 hm
    refine Sq (RN hnt (nn 10 []) [(8,rr 1064),(11,rr 1232)] [(c20e2),(1232,bx [.p (Ba r6.h.tree.nodes),pI r6.h.tree.next,.p (Be r6.h.tasks),pI r6.h.next,ow 1233 (r6.f.frosts.set (Int.toNat r3) (AeN r6 r3 p3)).length,ow 1234 r6.f.stopped.length]),(1233,ob0 (Af (r6.f.frosts.set (Int.toNat r3) (AeN r6 r3 p3)))),(1234,ob0 (roI r6.f.stopped))] [] [(1232,.box [.p (Ba r6.h.tree.nodes),pI r6.h.tree.next,.p (Be r6.h.tasks),pI r6.h.next,ow 1233 r6.f.frosts.length,ow 1234 r6.f.stopped.length]),(1233,.row 4 r6.f.frosts.length (c20e3 r6 r3 p3))] (an g7.1 (an g7.2 (an g8 tv))) (by kernel_rfl) .nil (.cons rfl (.box (.cons .rfl (.cons .rfl (.cons .rfl (.cons .rfl (.cons (MLe.ownLen (enc := Bd) (d := Bc) (f := (c20e3 r6 r3 p3)) (RowIs.upd RowIs.elems (AeN r6 r3 p3) rfl)) (.cons .rfl .nil))))))) (.cons rfl (BLe.typed (RowIs.upd RowIs.elems (AeN r6 r3 p3) rfl)) .nil)) ?_)
    obtain ⟨r9,hr9,hm⟩ := bo hm
    obtain ⟨g10,g11,g12,hm⟩ := go3 hm
    refine Sq (RD hnt (.no :: o38 [1232,1233,1234] true r9 :: []) [] [] [] [(c20e4 r9),(1233,ob0 (Af r9.1.f.frosts)),(1234,ob0 (roI r9.1.f.stopped))] (an (Rh ({ h := r6.h,f := ({ frosts := (r6.f.frosts.set (Int.toNat r3) (AeN r6 r3 p3)),stopped := r6.f.stopped } : Ac) } : freezer) r9 hr9) (an tv (an (⟨rfl,g10⟩ : Body.same (Af (r6.f.frosts.set (Int.toNat r3) (AeN r6 r3 p3))) (Af r9.1.f.frosts)) (an (⟨rfl,g11⟩ : Body.same (roI r6.f.stopped) (roI r9.1.f.stopped)) tv)))) ?_)
    refine Sq (DW.conv (τ := Aj [(8,rr 1064),(11,rr 1232)] [(c20e2),(1232,bx [.p (Ba r9.1.h.tree.nodes),pI r9.1.h.tree.next,.p (Be r9.1.h.tasks),pI r9.1.h.next,ow 1233 r9.1.f.frosts.length,ow 1234 (r9.1.f.stopped.take r9.2).length]),(1233,ob0 (Af r9.1.f.frosts)),(1234,ob0 (roI (r9.1.f.stopped.take r9.2)))]) (Conv.trans (τ := Aj [(8,rr 1064),(11,rr 1232)] [(c20e2),(c20e4 r9),(1233,ob0 (Af r9.1.f.frosts)),(1234,ob0 (.row 1 r9.2 (elI r9.1.f.stopped)))]) (Conv.cut 1234 r9.2 (And.intro (show r9.2 ≤ r9.1.f.stopped.length by omega) (an (Nat.le_of_eq (Nat.zero_add r9.2)) tv))) (Conv.tp [] [(1232,.box [.p (Ba r9.1.h.tree.nodes),pI r9.1.h.tree.next,.p (Be r9.1.h.tasks),pI r9.1.h.next,ow 1233 r9.1.f.frosts.length,ow 1234 r9.2]),(1234,.row 1 r9.2 (elI r9.1.f.stopped))] (by kernel_rfl) .nil (.cons rfl (.box (.cons .rfl (.cons .rfl (.cons .rfl (.cons .rfl (.cons .rfl (.cons (MLe.ownLen (enc := Bi) (d := 0) (f := (elI r9.1.f.stopped)) (RowIs.elems.take (by omega))) .nil))))))) (.cons rfl (BLe.typed (RowIs.elems.take (by omega))) .nil)))) ?_)
    obtain ⟨r13,hr13,hm⟩ := bo hm
    obtain ⟨g14,g15,hm⟩ := go2 hm
    refine RK hnt (.no :: o42 [1232,1233,1234] true r13 :: nn 2 []) [(8,rr 1064),(9,pI 0)] [(1064,bx [ow 1233 r13.2.f.frosts.length,ow 1234 r13.2.f.stopped.length]),(1233,ob0 (Af r13.2.f.frosts)),(1234,ob0 (roI r13.2.f.stopped))] (an (Li ({ h := r9.1.h,f := ({ frosts := r9.1.f.frosts,stopped := (r9.1.f.stopped.take r9.2) } : Ac) } : freezer) r13 hr13) (an tv (an (⟨rfl,g14⟩ : Body.same (Af r9.1.f.frosts) (Af r13.2.f.frosts)) (an (⟨rfl,g15⟩ : Body.same (roI (r9.1.f.stopped.take r9.2)) (roI r13.2.f.stopped)) tv)))) ?_
    obtain rfl := sj hm
    exact DW.ret (Ai [Af r13.2.f.frosts,roI r13.2.f.stopped] [1233,1234] (.tup [.agg [ow 0 r13.2.f.frosts.length,ow 1 r13.2.f.stopped.length],pI 0]))
abbrev o20 (ks : List Nat) (b : Bool) (RES : Ac × Int) (sm : List Nat := []) : Orc := .call 58 ks b (.tup [.agg [ow 0 RES.1.frosts.length,ow 1 RES.1.stopped.length],pI RES.2]) [] [Af RES.1.frosts,roI RES.1.stopped] sm

abbrev c46e1 (y3 : Int × Int) := (w64 (y3.2 + (w64 (((Br (bs [0,1,2,2,3,3,3,3,4,4,4,4,4,4,4,4,5,5,5,5,5,5,5,5,5,5,5,5,5,5,5,5,6,6,6,6,6,6,6,6,6,6,6,6,6,6,6,6,6,6,6,6,6,6,6,6,6,6,6,6,6,6,6,6,7,7,7,7,7,7,7,7,7,7,7,7,7,7,7,7,7,7,7,7,7,7,7,7,7,7,7,7,7,7,7,7,7,7,7,7,7,7,7,7,7,7,7,7,7,7,7,7,7,7,7,7,7,7,7,7,7,7,7,7,7,7,7,7,8,8,8,8,8,8,8,8,8,8,8,8,8,8,8,8,8,8,8,8,8,8,8,8,8,8,8,8,8,8,8,8,8,8,8,8,8,8,8,8,8,8,8,8,8,8,8,8,8,8,8,8,8,8,8,8,8,8,8,8,8,8,8,8,8,8,8,8,8,8,8,8,8,8,8,8,8,8,8,8,8,8,8,8,8,8,8,8,8,8,8,8,8,8,8,8,8,8,8,8,8,8,8,8,8,8,8,8,8,8,8,8,8,8,8,8,8,8,8,8,8,8,8,8,8,8,8,8]) (Int.toNat (IntKind.u8.wrap y3.1))) : Nat) : Int))))
theorem Ahy (p0 : Int) (RES : Int) (hm : AcE p0 = some RES) : Spec Tryz.prog 163 [.p (vk .u64 p0)] [] (pI RES) [] [] := by
 unfold AcE at hm
 refine SO Tryz.func163 rfl rfl [(0,.p (vk .u64 p0))] [] ?_
 intro cx hnt
 refine Sq (RD hnt (.no :: []) [] [(2,pI 0)] [] [] tv ?_)
 refine Sq (Sq (RD hnt (nn 2 []) [] [(4,pB (decide (p0 ≥ 4294967296)))] [] [] tv ?_))
 refine Jn (ι := Int × Int) (fun (y1 : Int × Int) => Aj [(0,.p (vk .u64 y1.1)),(2,pI y1.2)] []) (fun y1 => Vm y1 = some RES) ?_ ?_
 ·intro y1 hm
  unfold Vm at hm
  refine Sq (Sq (RD hnt (nn 2 []) [] [(8,pB (decide (y1.1 ≥ 65536)))] [] [] tv ?_))
  refine Jn (ι := Int × Int) (fun (y2 : Int × Int) => Aj [(0,.p (vk .u64 y2.1)),(2,pI y2.2)] []) (fun y2 => Us y2 = some RES) ?_ ?_
  ·intro y2 hm
   unfold Us at hm
   refine Sq (Sq (RD hnt (nn 2 []) [] [(14,pB (decide (y2.1 ≥ 256)))] [] [] tv ?_))
   refine Jn (ι := Int × Int) (fun (y3 : Int × Int) => Aj [(0,.p (vk .u64 y3.1)),(2,pI y3.2)] []) (fun y3 => Uz y3 = some RES) ?_ ?_
   ·intro y3 hm
    unfold Uz at hm
    obtain ⟨g4,hm⟩ := go1 hm
    refine Sq (RK hnt (nn 7 []) [(2,pI (c46e1 y3))] [] (an g4.1 (an g4.2 tv)) ?_)
    obtain rfl := sj hm
    exact DW.ret (Ai [] [] (pI (c46e1 y3)))
   ·refine Ah hm ?_ ?_
    ·intro h3 hm
     refine Sq (RK hnt (nn 3 []) [(0,.p (vk .u64 (kshr .u64 y2.1 8))),(2,pI y2.2)] [] (an (by decide : (0 : Int) ≤ 8) tv) ?_)
     refine RD hnt (nn 3 []) [] [(2,pI (w64 (y2.2 + 8)))] [] [] tv ?_
     exact jD ((kshr .u64 y2.1 8),(w64 (y2.2 + 8))) hm Conv.eqK
    ·intro h3 hm
     refine Sk ?_
     exact jD (y2.1,y2.2) hm Conv.t0
  ·refine Ah hm ?_ ?_
   ·intro h2 hm
    refine Sq (RK hnt (nn 3 []) [(0,.p (vk .u64 (kshr .u64 y1.1 16))),(2,pI y1.2)] [] (an (by decide : (0 : Int) ≤ 16) tv) ?_)
    refine RD hnt (nn 3 []) [] [(2,pI (w64 (y1.2 + 16)))] [] [] tv ?_
    exact jD ((kshr .u64 y1.1 16),(w64 (y1.2 + 16))) hm Conv.eqK
   ·intro h2 hm
    refine Sk ?_
    exact jD (y1.1,y1.2) hm Conv.t0
 ·refine Ah hm ?_ ?_
  ·intro h1 hm
   refine Sq (RK hnt (nn 3 []) [(0,.p (vk .u64 (kshr .u64 p0 32)))] [] (an (by decide : (0 : Int) ≤ 32) tv) ?_)
   refine RD hnt (.no :: []) [] [(2,pI 32)] [] [] tv ?_
   exact jD ((kshr .u64 p0 32),32) hm Conv.eqK
  ·intro h1 hm
   refine Sk ?_
   exact jD (p0,0) hm Conv.t0
abbrev o46 (ks : List Nat) (b : Bool) (RES : Int) (sm : List Nat := []) : Orc := .call 163 ks b (pI RES) [] [] sm

theorem AdW (p0 : Int) (RES : Int) (hm : Uh p0 = some RES) : Spec Tryz.prog 106 [.p (vk .u64 p0)] [] (pI RES) [] [] := by
 unfold Uh at hm
 refine SO Tryz.func106 rfl rfl [(0,.p (vk .u64 p0))] [] ?_
 intro cx hnt
 refine Sq (RD hnt (.no :: []) [] [] [] [] tv ?_)
 refine Sq (condF ff ?_)
 refine Sk ?_
 obtain ⟨r1,hr1,hm⟩ := bo hm
 refine Sq (RK hnt (.no :: o46 [] true r1 :: .no :: []) [(2,pI r1)] [] (an (Ahy p0 r1 hr1) tv) ?_)
 obtain rfl := sj hm
 exact DW.ret (Ai [] [] (pI r1))
abbrev o45 (ks : List Nat) (b : Bool) (RES : Int) (sm : List Nat := []) : Orc := .call 106 ks b (pI RES) [] [] sm

theorem Lb (p0 : Int) (RES : Bool) (hm : Pv p0 = some RES) : Spec Tryz.prog 195 [pI p0] [] (pB RES) [] [] := by
 unfold Pv at hm
 refine SO Tryz.func195 rfl rfl [(0,pI p0)] [] ?_
 intro cx hnt
 refine Sq (RK hnt (.no :: []) [(0,pI p0)] [] tv ?_)
 refine Sq (RK hnt (nn 4 []) [(2,pB (p0 != p0))] [] tv ?_)
 obtain rfl := sj hm
 exact DW.ret (Ai [] [] (pB (p0 != p0)))
abbrev o50 (ks : List Nat) (b : Bool) (RES : Bool) (sm : List Nat := []) : Orc := .call 195 ks b (pB RES) [] [] sm

theorem Cs (p0 : Int) (p1 : Int) (RES : Bool) (hm : Cw p0 p1 = some RES) : Spec Tryz.prog 159 [pI p0,pI p1] [] (pB RES) [] [] := by
 unfold Cw at hm
 refine SO Tryz.func159 rfl rfl [(0,pI p0),(1,pI p1)] [] ?_
 intro cx hnt
 refine Sq (RD hnt (.no :: []) [] [] [] [] tv ?_)
 obtain ⟨r1,hr1,hm⟩ := bo hm
 refine Sq ?_
 refine Jn (ι := Bool) (fun (y1 : Bool) => Aj [(4,pB y1)] []) (fun y1 => Lw y1 = some RES) ?_ ?_
 ·intro y1 hm
  unfold Lw at hm
  obtain rfl := sj hm
  exact DW.ret (Ai [] [] (pB y1))
 ·rcases bt r1 with h2 | h2
  ·replace hm := Bg h2 hm
   obtain ⟨r3,hr3,hm⟩ := bo hm
   rcases bt (!r3) with h4 | h4
   ·replace hm := Bg h4 hm
    refine RK hnt (.no :: o50 [] true r1 :: nn 2 (o50 [] true r3 :: .no :: pT :: .no :: sk 3 (pT :: .no :: []))) [(4,pB true)] [] (an (Lb p0 r1 hr1) (an2 h2 (an (Lb p1 r3 hr3) (an2 h2 (an4 h4 tv))))) ?_
    exact jD true hm .refl
   ·replace hm := Bf h4 hm
    refine RK hnt (.no :: o50 [] true r1 :: nn 2 (o50 [] true r3 :: .no :: pT :: nn 4 (pF :: .no :: []))) [(4,pB (decide (p0 < p1)))] [] (an (Lb p0 r1 hr1) (an2 h2 (an (Lb p1 r3 hr3) (an2 h2 (an4 h4 tv))))) ?_
    exact jD (decide (p0 < p1)) hm .refl
  ·replace hm := Bf h2 hm
   refine RK hnt (.no :: o50 [] true r1 :: .no :: sk 3 (pF :: nn 4 (pF :: .no :: []))) [(4,pB (decide (p0 < p1)))] [] (an (Lb p0 r1 hr1) (an4 h2 (an4 ff tv))) ?_
   exact jD (decide (p0 < p1)) hm .refl
abbrev o49 (ks : List Nat) (b : Bool) (RES : Bool) (sm : List Nat := []) : Orc := .call 159 ks b (pB RES) [] [] sm

abbrev AeO (s4 : (List Int) × Int) := (s4.1.getD (Int.toNat (w64 (s4.2 - 1))) 0)
abbrev c48e2 (s4 : (List Int) × Int) := (Ca (Ca (elI s4.1) (Int.toNat s4.2) [vi (AeO s4)]) (Int.toNat (w64 (s4.2 - 1))) (setRange ((Ca (elI s4.1) (Int.toNat s4.2) [vi (AeO s4)]) (Int.toNat (w64 (s4.2 - 1)))) 0 [vi (s4.1.getD (Int.toNat s4.2) 0)]))
abbrev c48e3 (s4 : (List Int) × Int) := ((s4.1.set (Int.toNat s4.2) (AeO s4)).set (Int.toNat (w64 (s4.2 - 1))) (s4.1.getD (Int.toNat s4.2) 0))
theorem Sg (p0 : List Int) (p1 : Int) (p2 : Int) (RES : List Int) (hm : Eh p0 p1 p2 = some RES) : Spec Tryz.prog 153 [ow 0 p0.length,pI p1,pI p2] [roI p0] (.p (.tup [])) [roI RES] [] := by
 unfold Eh at hm
 refine SO Tryz.func153 rfl rfl [(0,ow 0 p0.length),(1,pI p1),(2,pI p2)] [(0,ob0 (roI p0))] ?_
 intro cx hnt
 refine Sq (RD hnt (nn 3 []) [] [(6,pI (w64 (p1 + 1)))] [] [] tv ?_)
 refine Bk ?_
 obtain ⟨hc1,hm⟩ := go1 hm
 refine DW.forO (fun (k1 : Int) (s1 : List Int) => Aj [(0,ow 0 s1.length),(1,pI p1),(2,pI p2),(6,pI k1)] [(0,ob0 (roI s1))]) (lo := (w64 (p1 + 1))) (hi := p2) hm Conv.eqK ?_
 intro k1 s1 n1 hk1 hs1 he1
 refine Sq (Sq (RD hnt (nn 3 []) [] [(12,pB (decide (k1 < p2)))] [] [] tv ?_))
 refine Cd (decide (k1 < p2)) ?_ ?_
 ·intro h75
  have hlt1 : k1 < p2 := by have := of_decide_eq_true h75; omega
  have hm := hs1 hlt1
  unfold Hr at hm
  refine Sk ?_
  refine Sq (Bk ?_)
  refine Sq (RD hnt (nn 2 []) [12] [(7,pI k1)] [] [] tv ?_)
  refine Bk ?_
  refine DW.whileO (fun (s4 : (List Int) × Int) => Aj [(0,ow 0 s4.1.length),(1,pI p1),(2,pI p2),(6,pI k1),(7,pI s4.2)] [(0,ob0 (roI s4.1))]) hm Conv.eqK ?_
  intro s4 n4 hm
  unfold Hs at hm
  refine Sq (Sq ?_)
  refine Jn (ι := Bool) (fun (y6 : Bool) => Aj [(0,ow 0 s4.1.length),(1,pI p1),(2,pI p2),(6,pI k1),(7,pI s4.2),(30,pB y6)] [(0,ob0 (roI s4.1))]) (fun y6 => (Dq n1 s4 n4) y6 = some RES) ?_ ?_
  ·intro y6 hm
   unfold Dq at hm
   refine Ah hm ?_ ?_
   ·intro h97 hm
    refine Sk ?_
    refine Sq (Bk ?_)
    obtain ⟨g98,g99,g100,g101,hm⟩ := go4 hm
    obtain ⟨g102,g103,g104,g105,hm⟩ := go4 hm
    refine RN hnt (nn 18 []) [(0,ow 0 (c48e3 s4).length),(1,pI p1),(2,pI p2),(6,pI k1),(7,pI s4.2)] [(0,ob0 (roI (c48e3 s4)))] [(0,ow 0 s4.1.length)] [(0,.row 1 s4.1.length (c48e2 s4))] (an g98.1 (an g98.2 (an g99 (an g100.1 (an g100.2 (an g101 (an g102.1 (an g102.2 (an g103 (an g104.1 (an g104.2 (an g105 tv)))))))))))) (by kernel_rfl) (.cons rfl (MLe.ownLen (enc := Bi) (d := 0) (f := (c48e2 s4)) (RowIs.updR (RowIs.upd RowIs.elems (AeO s4) rfl) (by omega) (s4.1.getD (Int.toNat s4.2) 0) rfl)) .nil) (.cons rfl (BLe.typed (RowIs.updR (RowIs.upd RowIs.elems (AeO s4) rfl) (by omega) (s4.1.getD (Int.toNat s4.2) 0) rfl)) .nil) ?_
    refine DW.done ?_
    show DW _ _ _ _ _
    refine RD hnt (nn 3 []) [] [(7,pI (w64 (s4.2 - 1)))] [] [] tv ?_
    exact jD ((c48e3 s4),(w64 (s4.2 - 1))) hm Conv.eqK
   ·intro h97 hm
    refine DW.exit ?_
    refine Ap ?_
    refine Au ?_
    refine Am ?_
    show DW _ _ _ _ _
    refine DW.done ?_
    show DW _ _ _ _ _
    refine RD hnt (nn 3 []) [7,30] [(6,pI (w64 (k1 + 1)))] [] [] tv ?_
    exact jD s4.1 ⟨hlt1,hm⟩ (Conv.tp [(6,pI (w64 (k1 + 1)))] [] (by kernel_rfl) (.cons rfl (.of_eq (congrArg pI (Sn (lo := (w64 (p1 + 1))) (hi := p2) (by omega) hk1 hlt1 (by omega)))) .nil) .nil)
  ·rcases bt (decide (s4.2 > p1)) with h91 | h91
   ·replace hm := Bg h91 hm
    obtain ⟨g92,g93,g94,g95,hm⟩ := go4 hm
    obtain ⟨r96,hr96,hm⟩ := bo hm
    refine RD hnt (nn 13 (o49 [] true r96 :: pT :: [])) [] [(30,pB r96)] [] [] (an3 h91 (an g92.1 (an g92.2 (an h91 (an g93 (an4 h91 (an g94.1 (an g94.2 (an h91 (an g95 (an h91 (an (Cs (s4.1.getD (Int.toNat s4.2) 0) (AeO s4) r96 hr96) (an h91 tv))))))))))))) ?_
    exact jD r96 hm Conv.eqK
   ·replace hm := Bf h91 hm
    refine RD hnt (nn 4 (sk 10 (pF :: []))) [] [(30,pB false)] [] [] (an5 h91 (an6 h91 tv)) ?_
    exact jD false hm Conv.eqK
 ·intro h75
  have hge1 : ¬ k1 < p2 := by have := of_decide_eq_false h75; omega
  have hm := he1 hge1
  unfold Lp at hm
  refine DW.exit ?_
  refine Ap ?_
  refine Au ?_
  refine Am ?_
  show DW _ _ _ _ _
  refine DW.done ?_
  obtain rfl := sj hm
  exact endK [roI s1] [] (.p (.tup []))
abbrev o48 (ks : List Nat) (b : Bool) (RES : List Int) (sm : List Nat := []) : Orc := .call 153 ks b (.p (.tup [])) [roI RES] [] sm

abbrev c52e1 (s1 : (List Int) × Int) (p3 : Int) (y4 : Int) := (Ca (Ca (elI s1.1) (Int.toNat (w64 (p3 + s1.2))) [vi (s1.1.getD (Int.toNat (w64 (p3 + y4))) 0)]) (Int.toNat (w64 (p3 + y4))) (setRange ((Ca (elI s1.1) (Int.toNat (w64 (p3 + s1.2))) [vi (s1.1.getD (Int.toNat (w64 (p3 + y4))) 0)]) (Int.toNat (w64 (p3 + y4)))) 0 [vi (s1.1.getD (Int.toNat (w64 (p3 + s1.2))) 0)]))
abbrev c52e2 (s1 : (List Int) × Int) (p3 : Int) (y4 : Int) := ((s1.1.set (Int.toNat (w64 (p3 + s1.2))) (s1.1.getD (Int.toNat (w64 (p3 + y4))) 0)).set (Int.toNat (w64 (p3 + y4))) (s1.1.getD (Int.toNat (w64 (p3 + s1.2))) 0))
abbrev Zg (s1 : (List Int) × Int) := (w64 ((w64 (2 * s1.2)) + 1))
theorem Nc (p0 : List Int) (p1 : Int) (p2 : Int) (p3 : Int) (RES : List Int) (hm : Em p0 p1 p2 p3 = some RES) : Spec Tryz.prog 190 [ow 0 p0.length,pI p1,pI p2,pI p3] [roI p0] (.p (.tup [])) [roI RES] [] := by
 unfold Em at hm
 refine SO Tryz.func190 rfl rfl [(0,ow 0 p0.length),(1,pI p1),(2,pI p2),(3,pI p3)] [(0,ob0 (roI p0))] ?_
 intro cx hnt
 refine Sq (RD hnt (nn 2 []) [1] [(8,pI p1)] [] [] tv ?_)
 refine Bk ?_
 refine DW.whileO (fun (s1 : (List Int) × Int) => Aj [(0,ow 0 s1.1.length),(2,pI p2),(3,pI p3),(8,pI s1.2)] [(0,ob0 (roI s1.1))]) hm Conv.eqK ?_
 intro s1 n1 hm
 unfold Jq at hm
 refine Bk ?_
 refine Sq (RD hnt (nn 4 []) [] [(9,pI (Zg s1))] [] [] tv ?_)
 refine Sq (Sq (RD hnt (nn 3 []) [] [(16,pB (decide ((Zg s1) ≥ p2)))] [] [] tv ?_))
 refine Ah hm ?_ ?_
 ·intro h23 hm
  refine DW.exit ?_
  refine Oc (by decide) ?_
  refine Au ?_
  refine Ap ?_
  refine Au ?_
  refine Am ?_
  show DW _ _ _ _ _
  refine DW.done ?_
  obtain rfl := sj hm
  exact endK [roI s1.1] [] (.p (.tup []))
 ·intro h23 hm
  refine Sk ?_
  refine Sq (Sq ?_)
  refine Jn (ι := Bool) (fun (y3 : Bool) => Aj [(0,ow 0 s1.1.length),(2,pI p2),(3,pI p3),(8,pI s1.2),(9,pI (Zg s1)),(36,pB y3)] [(0,ob0 (roI s1.1))]) (fun y3 => (Fh p3 s1 n1) y3 = some RES) ?_ ?_
  ·intro y3 hm
   unfold Fh at hm
   refine Jn (ι := Int) (fun (y4 : Int) => Aj [(0,ow 0 s1.1.length),(2,pI p2),(3,pI p3),(8,pI s1.2),(9,pI y4)] [(0,ob0 (roI s1.1))]) (fun y4 => (Dt p3 s1 n1) y4 = some RES) ?_ ?_
   ·intro y4 hm
    unfold Dt at hm
    obtain ⟨g31,g32,g33,g34,hm⟩ := go4 hm
    obtain ⟨r35,hr35,hm⟩ := bo hm
    refine Sq (Sq (RD hnt (nn 12 (o49 [] true r35 :: .no :: [])) [] [(52,pB (!r35))] [] [] (an g31.1 (an g31.2 (an g32 (an g33.1 (an g33.2 (an g34 (an (Cs (s1.1.getD (Int.toNat (w64 (p3 + s1.2))) 0) (s1.1.getD (Int.toNat (w64 (p3 + y4))) 0) r35 hr35) tv))))))) ?_))
    refine Ah hm ?_ ?_
    ·intro h36 hm
     obtain rfl := sj hm
     exact DW.ret (Ai [roI s1.1] [] (.p (.tup [])))
    ·intro h36 hm
     refine Sk ?_
     obtain ⟨g37,g38,g39,g40,hm⟩ := go4 hm
     obtain ⟨g41,g42,g43,g44,hm⟩ := go4 hm
     refine Sq (RN hnt (nn 24 []) [(0,ow 0 (c52e2 s1 p3 y4).length),(2,pI p2),(3,pI p3),(9,pI y4)] [(0,ob0 (roI (c52e2 s1 p3 y4)))] [(0,ow 0 s1.1.length)] [(0,.row 1 s1.1.length (c52e1 s1 p3 y4))] (an g37.1 (an g37.2 (an g38 (an g39.1 (an g39.2 (an g40 (an g41.1 (an g41.2 (an g42 (an g43.1 (an g43.2 (an g44 tv)))))))))))) (by kernel_rfl) (.cons rfl (MLe.ownLen (enc := Bi) (d := 0) (f := (c52e1 s1 p3 y4)) (RowIs.updR (RowIs.upd RowIs.elems (s1.1.getD (Int.toNat (w64 (p3 + y4))) 0) rfl) (by omega) (s1.1.getD (Int.toNat (w64 (p3 + s1.2))) 0) rfl)) .nil) (.cons rfl (BLe.typed (RowIs.updR (RowIs.upd RowIs.elems (s1.1.getD (Int.toNat (w64 (p3 + y4))) 0) rfl) (by omega) (s1.1.getD (Int.toNat (w64 (p3 + s1.2))) 0) rfl)) .nil) ?_)
     refine RD hnt (nn 2 []) [9] [(8,pI y4)] [] [] tv ?_
     refine DW.done ?_
     show DW _ _ _ _ _
     exact jD ((c52e2 s1 p3 y4),y4) hm Conv.eqK
   ·refine Ah hm ?_ ?_
    ·intro h30 hm
     refine RD hnt (nn 3 []) [36] [(9,pI (w64 ((Zg s1) + 1)))] [] [] tv ?_
     exact jD (w64 ((Zg s1) + 1)) hm Conv.eqK
    ·intro h30 hm
     refine Sk ?_
     exact jD (Zg s1) hm Conv.t0
  ·rcases bt (decide ((w64 ((Zg s1) + 1)) < p2)) with h24 | h24
   ·replace hm := Bg h24 hm
    obtain ⟨g25,g26,g27,g28,hm⟩ := go4 hm
    obtain ⟨r29,hr29,hm⟩ := bo hm
    refine RD hnt (nn 18 (o49 [] true r29 :: pT :: [])) [16] [(36,pB r29)] [] [] (an5 h24 (an g25.1 (an g25.2 (an h24 (an g26 (an6 h24 (an g27.1 (an g27.2 (an h24 (an g28 (an h24 (an (Cs (s1.1.getD (Int.toNat (w64 (p3 + (Zg s1)))) 0) (s1.1.getD (Int.toNat (w64 ((w64 (p3 + (Zg s1))) + 1))) 0) r29 hr29) (an h24 tv))))))))))))) ?_
    exact jD r29 hm Conv.eqK
   ·replace hm := Bf h24 hm
    refine RD hnt (nn 5 (sk 14 (pF :: []))) [16] [(36,pB false)] [] [] (an3 h24 (an6 h24 (an6 h24 tv))) ?_
    exact jD false hm Conv.eqK
abbrev o52 (ks : List Nat) (b : Bool) (RES : List Int) (sm : List Nat := []) : Orc := .call 190 ks b (.p (.tup [])) [roI RES] [] sm

abbrev c51e1 (s3 : (List Int) × Int) (p1 : Int) := ((s3.1.set (Int.toNat p1) (s3.1.getD (Int.toNat (w64 (p1 + s3.2))) 0)).set (Int.toNat (w64 (p1 + s3.2))) (s3.1.getD (Int.toNat p1) 0))
abbrev c51e2 (s3 : (List Int) × Int) (p1 : Int) := (Ca (Ca (elI s3.1) (Int.toNat p1) [vi (s3.1.getD (Int.toNat (w64 (p1 + s3.2))) 0)]) (Int.toNat (w64 (p1 + s3.2))) (setRange ((Ca (elI s3.1) (Int.toNat p1) [vi (s3.1.getD (Int.toNat (w64 (p1 + s3.2))) 0)]) (Int.toNat (w64 (p1 + s3.2)))) 0 [vi (s3.1.getD (Int.toNat p1) 0)]))
theorem Uv (p0 : List Int) (p1 : Int) (p2 : Int) (RES : List Int) (hm : Ge p0 p1 p2 = some RES) : Spec Tryz.prog 154 [ow 0 p0.length,pI p1,pI p2] [roI p0] (.p (.tup [])) [roI RES] [] := by
 unfold Ge at hm
 refine SO Tryz.func154 rfl rfl [(0,ow 0 p0.length),(1,pI p1),(2,pI p2)] [(0,ob0 (roI p0))] ?_
 intro cx hnt
 refine Sq (RD hnt (nn 2 []) [] [(6,pI p1)] [] [] tv ?_)
 refine Sq (RD hnt (.no :: []) [] [(7,pI 0)] [] [] tv ?_)
 refine Sq (RD hnt (nn 4 []) [1,2] [(8,pI (w64 (p2 - p1)))] [] [] tv ?_)
 refine Sq (Sq (RD hnt (nn 4 []) [] [(9,pI (w64 (Int.tdiv (w64 ((w64 (p2 - p1)) - 1)) 2)))] [] [] (an (by decide : (2 : Int) ≠ 0) tv) ?_))
 refine Bk ?_
 refine DW.whileO (fun (s1 : (List Int) × Int) => Aj [(0,ow 0 s1.1.length),(6,pI p1),(7,pI 0),(8,pI (w64 (p2 - p1))),(9,pI s1.2)] [(0,ob0 (roI s1.1))]) hm Conv.eqK ?_
 intro s1 n1 hm
 unfold Ju at hm
 refine Sq (Sq (RD hnt (nn 2 []) [] [(19,pB (decide (s1.2 ≥ 0)))] [] [] tv ?_))
 refine Ah hm ?_ ?_
 ·intro h26 hm
  refine Sk ?_
  refine Sq (Bk ?_)
  obtain ⟨r27,hr27,hm⟩ := bo hm
  obtain ⟨g28,hm⟩ := go1 hm
  refine RN hnt (nn 4 (o52 [0] true r27 :: [])) [(0,ow 0 r27.length),(6,pI p1),(7,pI 0),(8,pI (w64 (p2 - p1))),(9,pI s1.2)] [(0,ob0 (roI r27))] [(0,ow 0 s1.1.length)] [] (an (Nc s1.1 s1.2 (w64 (p2 - p1)) p1 r27 hr27) (an (⟨rfl,g28⟩ : Body.same (roI s1.1) (roI r27)) tv)) (by kernel_rfl) (.cons rfl (MLe.of_eq (congrArg (MV.own 0 0 0) g28)) .nil) .nil ?_
  refine DW.done ?_
  show DW _ _ _ _ _
  refine RD hnt (nn 3 []) [] [(9,pI (w64 (s1.2 - 1)))] [] [] tv ?_
  exact jD (r27,(w64 (s1.2 - 1))) hm Conv.eqK
 ·intro h26 hm
  refine DW.exit ?_
  refine Ap ?_
  refine Au ?_
  refine Am ?_
  show DW _ _ _ _ _
  refine Sq (RD hnt (nn 3 []) [8,9,19] [(10,pI (w64 ((w64 (p2 - p1)) - 1)))] [] [] tv ?_)
  refine Bk ?_
  refine DW.whileO (fun (s3 : (List Int) × Int) => Aj [(0,ow 0 s3.1.length),(6,pI p1),(7,pI 0),(10,pI s3.2)] [(0,ob0 (roI s3.1))]) hm Conv.eqK ?_
  intro s3 n3 hm
  unfold Ka at hm
  refine Sq (Sq (RD hnt (nn 2 []) [] [(30,pB (decide (s3.2 ≥ 0)))] [] [] tv ?_))
  refine Ah hm ?_ ?_
  ·intro h40 hm
   refine Sk ?_
   refine Sq (Bk ?_)
   obtain ⟨g41,g42,g43,g44,hm⟩ := go4 hm
   obtain ⟨g45,g46,g47,g48,hm⟩ := go4 hm
   refine Sq (RN hnt (nn 20 []) [(0,ow 0 (c51e1 s3 p1).length),(6,pI p1),(7,pI 0),(10,pI s3.2)] [(0,ob0 (roI (c51e1 s3 p1)))] [(0,ow 0 s3.1.length)] [(0,.row 1 s3.1.length (c51e2 s3 p1))] (an g41.1 (an g41.2 (an g42 (an g43.1 (an g43.2 (an g44 (an g45.1 (an g45.2 (an g46 (an g47.1 (an g47.2 (an g48 tv)))))))))))) (by kernel_rfl) (.cons rfl (MLe.ownLen (enc := Bi) (d := 0) (f := (c51e2 s3 p1)) (RowIs.updR (RowIs.upd RowIs.elems (s3.1.getD (Int.toNat (w64 (p1 + s3.2))) 0) rfl) (by omega) (s3.1.getD (Int.toNat p1) 0) rfl)) .nil) (.cons rfl (BLe.typed (RowIs.updR (RowIs.upd RowIs.elems (s3.1.getD (Int.toNat (w64 (p1 + s3.2))) 0) rfl) (by omega) (s3.1.getD (Int.toNat p1) 0) rfl)) .nil) ?_)
   obtain ⟨r49,hr49,hm⟩ := bo hm
   obtain ⟨g50,hm⟩ := go1 hm
   refine RN hnt (nn 4 (o52 [0] true r49 :: [])) [(0,ow 0 r49.length),(6,pI p1),(7,pI 0),(10,pI s3.2)] [(0,ob0 (roI r49))] [(0,ow 0 (c51e1 s3 p1).length)] [] (an (Nc (c51e1 s3 p1) 0 s3.2 p1 r49 hr49) (an (⟨rfl,g50⟩ : Body.same (roI (c51e1 s3 p1)) (roI r49)) tv)) (by kernel_rfl) (.cons rfl (MLe.of_eq (congrArg (MV.own 0 0 0) g50)) .nil) .nil ?_
   refine DW.done ?_
   show DW _ _ _ _ _
   refine RD hnt (nn 3 []) [] [(10,pI (w64 (s3.2 - 1)))] [] [] tv ?_
   exact jD (r49,(w64 (s3.2 - 1))) hm Conv.eqK
  ·intro h40 hm
   refine DW.exit ?_
   refine Ap ?_
   refine Au ?_
   refine Am ?_
   show DW _ _ _ _ _
   refine DW.done ?_
   obtain rfl := sj hm
   exact endK [roI s3.1] [] (.p (.tup []))
abbrev o51 (ks : List Nat) (b : Bool) (RES : List Int) (sm : List Nat := []) : Orc := .call 154 ks b (.p (.tup [])) [roI RES] [] sm

theorem Jw (p0 : List Int) (p1 : Int) (p2 : Int) (p3 : Int) (RES : Int × Int × Int) (hm : Dz p0 p1 p2 p3 = some RES) : Spec Tryz.prog 205 [.p (slI p0),pI p1,pI p2,rr 0] [.box [pI p3]] (.p (.tup [vi RES.1,vi RES.2.1])) [.box [pI RES.2.2]] [] := by
 unfold Dz at hm
 refine SO Tryz.func205 rfl rfl [(0,.p (slI p0)),(1,pI p1),(2,pI p2),(3,rr 0)] [(0,bx [pI p3])] ?_
 intro cx hnt
 refine Sq (RD hnt (nn 2 []) [] [] [] [] tv ?_)
 obtain ⟨g1,g2,hm⟩ := go2 hm
 obtain ⟨r3,hr3,hm⟩ := bo hm
 refine Sq (Sq (RD hnt (nn 8 (o49 [] true r3 :: [])) [0] [(18,pB r3)] [] [] (an g1.1 (an g1.2 (an g2.1 (an g2.2 (an (Cs (p0.getD (Int.toNat p2) 0) (p0.getD (Int.toNat p1) 0) r3 hr3) tv))))) ?_))
 refine Ah hm ?_ ?_
 ·intro h4 hm
  refine Sq (RD hnt (nn 6 []) [3,18] [] [] [(0,bx [pI (w64 (p3 + 1))])] tv ?_)
  refine Sq (RD hnt (nn 4 []) [1,2] [(8,pI p2),(9,pI p1)] [] [] tv ?_)
  obtain rfl := sj hm
  exact DW.ret (Ai [.box [pI (w64 (p3 + 1))]] [] (.p (.tup [vi p2,vi p1])))
 ·intro h4 hm
  refine Sk ?_
  refine Sq (RK hnt (nn 4 []) [(8,pI p1),(9,pI p2)] [(0,bx [pI p3])] tv ?_)
  obtain rfl := sj hm
  exact DW.ret (Ai [.box [pI p3]] [] (.p (.tup [vi p1,vi p2])))
abbrev o56 (ks : List Nat) (b : Bool) (RES : Int × Int × Int) (sm : List Nat := []) : Orc := .call 205 ks b (.p (.tup [vi RES.1,vi RES.2.1])) [.box [pI RES.2.2]] [] sm

theorem Nw (p0 : List Int) (p1 : Int) (p2 : Int) (p3 : Int) (p4 : Int) (RES : Int × Int) (hm : Fp p0 p1 p2 p3 p4 = some RES) : Spec Tryz.prog 194 [.p (slI p0),pI p1,pI p2,pI p3,rr 0] [.box [pI p4]] (pI RES.1) [.box [pI RES.2]] [] := by
 unfold Fp at hm
 refine SO Tryz.func194 rfl rfl [(0,.p (slI p0)),(1,pI p1),(2,pI p2),(3,pI p3),(4,rr 0)] [(0,bx [pI p4])] ?_
 intro cx hnt
 refine Sq (RD hnt (.no :: []) [] [] [] [] tv ?_)
 obtain ⟨r1,hr1,hm⟩ := bo hm
 refine Sq (RD hnt (nn 4 (o56 [0] true r1 :: nn 5 [])) [] [(1,pI r1.1),(2,pI r1.2.1)] [] [(0,bx [pI r1.2.2])] (an (Jw p0 p1 p2 p4 r1 hr1) (an tv tv)) ?_)
 obtain ⟨r2,hr2,hm⟩ := bo hm
 refine Sq (RD hnt (nn 4 (o56 [0] true r2 :: nn 5 [])) [3] [(2,pI r2.1)] [] [(0,bx [pI r2.2.2])] (an (Jw p0 r1.2.1 p3 r1.2.2 r2 hr2) (an tv tv)) ?_)
 obtain ⟨r3,hr3,hm⟩ := bo hm
 refine Sq (RK hnt (nn 4 (o56 [0] true r3 :: nn 5 [])) [(2,pI r3.2.1)] [(0,bx [pI r3.2.2])] (an (Jw p0 r1.1 r2.1 r2.2.2 r3 hr3) (an tv tv)) ?_)
 refine Sq (RD hnt (nn 2 []) [2] [(10,pI r3.2.1)] [] [] tv ?_)
 obtain rfl := sj hm
 exact DW.ret (Ai [.box [pI r3.2.2]] [] (pI r3.2.1))
abbrev o55 (ks : List Nat) (b : Bool) (RES : Int × Int) (sm : List Nat := []) : Orc := .call 194 ks b (pI RES.1) [.box [pI RES.2]] [] sm

theorem Gy (p0 : List Int) (p1 : Int) (p2 : Int) (RES : Int × Int) (hm : Ck p0 p1 p2 = some RES) : Spec Tryz.prog 193 [.p (slI p0),pI p1,rr 0] [.box [pI p2]] (pI RES.1) [.box [pI RES.2]] [] := by
 unfold Ck at hm
 refine SO Tryz.func193 rfl rfl [(0,.p (slI p0)),(1,pI p1),(2,rr 0)] [(0,bx [pI p2])] ?_
 intro cx hnt
 refine Sq (RD hnt (.no :: []) [] [] [] [] tv ?_)
 obtain ⟨r1,hr1,hm⟩ := bo hm
 refine Sq (RK hnt (nn 7 (o55 [0] true r1 :: .no :: [])) [(6,pI r1.1)] [(0,bx [pI r1.2])] (an (Nw p0 (w64 (p1 - 1)) p1 (w64 (p1 + 1)) p2 r1 hr1) (an tv tv)) ?_)
 obtain rfl := sj hm
 exact DW.ret (Ai [.box [pI r1.2]] [] (pI r1.1))
abbrev o54 (ks : List Nat) (b : Bool) (RES : Int × Int) (sm : List Nat := []) : Orc := .call 193 ks b (pI RES.1) [.box [pI RES.2]] [] sm

abbrev Abp (p2 : Int) (p1 : Int) := (w64 (Int.tdiv (w64 (p2 - p1)) 4))
abbrev c53e2 (p1 : Int) (p2 : Int) := (w64 (p1 + (w64 ((Abp p2 p1) * 2))))
theorem Tq (p0 : List Int) (p1 : Int) (p2 : Int) (RES : Int × Int) (hm : Fc p0 p1 p2 = some RES) : Spec Tryz.prog 156 [.p (slI p0),pI p1,pI p2] [] (.p (.tup [vi RES.1,vi RES.2])) [] [] := by
 unfold Fc at hm
 refine SO Tryz.func156 rfl rfl [(0,.p (slI p0)),(1,pI p1),(2,pI p2)] [] ?_
 intro cx hnt
 refine Sq (RD hnt (nn 2 []) [] [] [] [] tv ?_)
 refine Sq (RD hnt (nn 4 []) [2] [(8,pI (w64 (p2 - p1)))] [] [] tv ?_)
 refine Sq (RD hnt (.no :: []) [] [(9,rr 1072)] [] [(1072,bx [pI 0])] tv ?_)
 refine Sq (RD hnt (nn 6 []) [] [(10,pI (w64 (p1 + (w64 ((Abp p2 p1) * 1)))))] [] [] (an (by decide : (4 : Int) ≠ 0) tv) ?_)
 refine Sq (RD hnt (nn 6 []) [] [(11,pI (c53e2 p1 p2))] [] [] (an (by decide : (4 : Int) ≠ 0) tv) ?_)
 refine Sq (RD hnt (nn 6 []) [1] [(12,pI (w64 (p1 + (w64 ((Abp p2 p1) * 3)))))] [] [] (an (by decide : (4 : Int) ≠ 0) tv) ?_)
 refine Sq (Sq (RD hnt (nn 2 []) [] [(32,pB (decide ((w64 (p2 - p1)) ≥ 8)))] [] [] tv ?_))
 refine Jn (ι := Int × Int) (fun (y1 : Int × Int) => Aj [(9,rr 1072),(11,pI y1.2)] [(1072,bx [pI y1.1])]) (fun y1 => Dd y1 = some RES) ?_ ?_
 ·intro y1 hm
  unfold Dd at hm
  refine Sq (RK hnt (.no :: []) [(11,pI y1.2),(49,pI y1.1)] [] tv ?_)
  refine Bk ?_
  refine Sq (RD hnt (nn 2 []) [] [(51,pB (y1.1 == 0))] [] [] tv ?_)
  refine Ah hm ?_ ?_
  ·intro h7 hm
   refine Sq (RK hnt (nn 3 []) [(6,pI y1.2),(7,pI 1)] [] tv ?_)
   obtain rfl := sj hm
   exact DW.ret (Ai [] [] (.p (.tup [vi y1.2,vi 1])))
  ·intro h7 hm
   refine Sq (RK hnt (nn 2 []) [(11,pI y1.2),(54,pB (y1.1 == 12))] [] tv ?_)
   refine Ah hm ?_ ?_
   ·intro h8 hm
    refine Sq (RK hnt (nn 3 []) [(6,pI y1.2),(7,pI 2)] [] tv ?_)
    obtain rfl := sj hm
    exact DW.ret (Ai [] [] (.p (.tup [vi y1.2,vi 2])))
   ·intro h8 hm
    refine Sq (RK hnt (nn 3 []) [(6,pI y1.2),(7,pI 0)] [] tv ?_)
    obtain rfl := sj hm
    exact DW.ret (Ai [] [] (.p (.tup [vi y1.2,vi 0])))
 ·refine Ah hm ?_ ?_
  ·intro h1 hm
   refine Sq (Sq (RD hnt (nn 2 []) [8,32] [(34,pB (decide ((w64 (p2 - p1)) ≥ 50)))] [] [] tv ?_))
   refine Jn (ι := Int × Int × Int × Int) (fun (y2 : Int × Int × Int × Int) => Aj [(0,.p (slI p0)),(9,rr 1072),(10,pI y2.2.1),(11,pI y2.2.2.1),(12,pI y2.2.2.2)] [(1072,bx [pI y2.1])]) (fun y2 => (Dc p0) y2 = some RES) ?_ ?_
   ·intro y2 hm
    unfold Dc at hm
    obtain ⟨r6,hr6,hm⟩ := bo hm
    refine RK hnt (nn 4 (o55 [1072] true r6 :: .no :: [])) [(9,rr 1072),(11,pI r6.1)] [(1072,bx [pI r6.2])] (an (Nw p0 y2.2.1 y2.2.2.1 y2.2.2.2 y2.1 r6 hr6) (an tv tv)) ?_
    exact jD (r6.2,r6.1) hm .refl
   ·refine Ah hm ?_ ?_
    ·intro h2 hm
     obtain ⟨r3,hr3,hm⟩ := bo hm
     refine Sq (RK hnt (nn 2 (o54 [1072] true r3 :: .no :: [])) [(0,.p (slI p0)),(9,rr 1072),(10,pI r3.1),(11,pI (c53e2 p1 p2)),(12,pI (w64 (p1 + (w64 ((Abp p2 p1) * 3)))))] [(1072,bx [pI r3.2])] (an (Gy p0 (w64 (p1 + (w64 ((Abp p2 p1) * 1)))) 0 r3 hr3) (an tv tv)) ?_)
     obtain ⟨r4,hr4,hm⟩ := bo hm
     refine Sq (RD hnt (nn 2 (o54 [1072] true r4 :: .no :: [])) [] [(11,pI r4.1)] [] [(1072,bx [pI r4.2])] (an (Gy p0 (c53e2 p1 p2) r3.2 r4 hr4) (an tv tv)) ?_)
     obtain ⟨r5,hr5,hm⟩ := bo hm
     refine RD hnt (nn 2 (o54 [1072] true r5 :: .no :: [])) [] [(12,pI r5.1)] [] [(1072,bx [pI r5.2])] (an (Gy p0 (w64 (p1 + (w64 ((Abp p2 p1) * 3)))) r4.2 r5 hr5) (an tv tv)) ?_
     exact jD (r5.2,r3.1,r4.1,r5.1) hm Conv.eqK
    ·intro h2 hm
     refine Sk ?_
     exact jD (0,(w64 (p1 + (w64 ((Abp p2 p1) * 1)))),(c53e2 p1 p2),(w64 (p1 + (w64 ((Abp p2 p1) * 3))))) hm Conv.t0
  ·intro h1 hm
   refine Sk ?_
   exact jD (0,(c53e2 p1 p2)) hm Conv.t0
abbrev o53 (ks : List Nat) (b : Bool) (RES : Int × Int) (sm : List Nat := []) : Orc := .call 156 ks b (.p (.tup [vi RES.1,vi RES.2])) [] [] sm

abbrev c57e1 (s1 : (List Int) × Int × Int) := (Ca (Ca (elI s1.1) (Int.toNat s1.2.1) [vi (s1.1.getD (Int.toNat s1.2.2) 0)]) (Int.toNat s1.2.2) (setRange ((Ca (elI s1.1) (Int.toNat s1.2.1) [vi (s1.1.getD (Int.toNat s1.2.2) 0)]) (Int.toNat s1.2.2)) 0 [vi (s1.1.getD (Int.toNat s1.2.1) 0)]))
abbrev c57e2 (s1 : (List Int) × Int × Int) := ((s1.1.set (Int.toNat s1.2.1) (s1.1.getD (Int.toNat s1.2.2) 0)).set (Int.toNat s1.2.2) (s1.1.getD (Int.toNat s1.2.1) 0))
theorem Tb (p0 : List Int) (p1 : Int) (p2 : Int) (RES : List Int) (hm : Ew p0 p1 p2 = some RES) : Spec Tryz.prog 157 [ow 0 p0.length,pI p1,pI p2] [roI p0] (.p (.tup [])) [roI RES] [] := by
 unfold Ew at hm
 refine SO Tryz.func157 rfl rfl [(0,ow 0 p0.length),(1,pI p1),(2,pI p2)] [(0,ob0 (roI p0))] ?_
 intro cx hnt
 refine Sq (RD hnt (nn 2 []) [1] [(6,pI p1)] [] [] tv ?_)
 refine Sq (RD hnt (nn 3 []) [2] [(7,pI (w64 (p2 - 1)))] [] [] tv ?_)
 refine Bk ?_
 refine DW.whileO (fun (s1 : (List Int) × Int × Int) => Aj [(0,ow 0 s1.1.length),(6,pI s1.2.1),(7,pI s1.2.2)] [(0,ob0 (roI s1.1))]) hm Conv.eqK ?_
 intro s1 n1 hm
 unfold Ie at hm
 refine Sq (Sq (RD hnt (nn 3 []) [] [(13,pB (decide (s1.2.1 < s1.2.2)))] [] [] tv ?_))
 refine Ah hm ?_ ?_
 ·intro h10 hm
  refine Sk ?_
  refine Bk ?_
  obtain ⟨g11,g12,g13,g14,hm⟩ := go4 hm
  obtain ⟨g15,g16,g17,g18,hm⟩ := go4 hm
  refine Sq (RN hnt (nn 16 []) [(0,ow 0 (c57e2 s1).length),(6,pI s1.2.1),(7,pI s1.2.2)] [(0,ob0 (roI (c57e2 s1)))] [(0,ow 0 s1.1.length)] [(0,.row 1 s1.1.length (c57e1 s1))] (an g11.1 (an g11.2 (an g12 (an g13.1 (an g13.2 (an g14 (an g15.1 (an g15.2 (an g16 (an g17.1 (an g17.2 (an g18 tv)))))))))))) (by kernel_rfl) (.cons rfl (MLe.ownLen (enc := Bi) (d := 0) (f := (c57e1 s1)) (RowIs.updR (RowIs.upd RowIs.elems (s1.1.getD (Int.toNat s1.2.2) 0) rfl) (by omega) (s1.1.getD (Int.toNat s1.2.1) 0) rfl)) .nil) (.cons rfl (BLe.typed (RowIs.updR (RowIs.upd RowIs.elems (s1.1.getD (Int.toNat s1.2.2) 0) rfl) (by omega) (s1.1.getD (Int.toNat s1.2.1) 0) rfl)) .nil) ?_)
  refine Sq (RD hnt (nn 3 []) [] [(6,pI (w64 (s1.2.1 + 1)))] [] [] tv ?_)
  refine RD hnt (nn 3 []) [] [(7,pI (w64 (s1.2.2 - 1)))] [] [] tv ?_
  refine DW.done ?_
  show DW _ _ _ _ _
  exact jD ((c57e2 s1),(w64 (s1.2.1 + 1)),(w64 (s1.2.2 - 1))) hm Conv.eqK
 ·intro h10 hm
  refine DW.exit ?_
  refine Ap ?_
  refine Au ?_
  refine Am ?_
  show DW _ _ _ _ _
  refine DW.done ?_
  obtain rfl := sj hm
  exact endK [roI s1.1] [] (.p (.tup []))
abbrev o57 (ks : List Nat) (b : Bool) (RES : List Int) (sm : List Nat := []) : Orc := .call 157 ks b (.p (.tup [])) [roI RES] [] sm

abbrev AeX (s15 : (List Int) × Int) := (s15.1.getD (Int.toNat (w64 (s15.2 - 1))) 0)
abbrev c58e2 (s1 : (List Int) × Int) (s12 : Int) := (Ca (Ca (elI s1.1) (Int.toNat s12) [vi (s1.1.getD (Int.toNat (w64 (s12 - 1))) 0)]) (Int.toNat (w64 (s12 - 1))) (setRange ((Ca (elI s1.1) (Int.toNat s12) [vi (s1.1.getD (Int.toNat (w64 (s12 - 1))) 0)]) (Int.toNat (w64 (s12 - 1)))) 0 [vi (s1.1.getD (Int.toNat s12) 0)]))
abbrev c58e3 (s16 : List Int) (k16 : Int) := (Ca (Ca (elI s16) (Int.toNat k16) [vi (s16.getD (Int.toNat (w64 (k16 - 1))) 0)]) (Int.toNat (w64 (k16 - 1))) (setRange ((Ca (elI s16) (Int.toNat k16) [vi (s16.getD (Int.toNat (w64 (k16 - 1))) 0)]) (Int.toNat (w64 (k16 - 1)))) 0 [vi (s16.getD (Int.toNat k16) 0)]))
abbrev c58e4 (s1 : (List Int) × Int) (s12 : Int) := ((s1.1.set (Int.toNat s12) (s1.1.getD (Int.toNat (w64 (s12 - 1))) 0)).set (Int.toNat (w64 (s12 - 1))) (s1.1.getD (Int.toNat s12) 0))
abbrev c58e5 (s16 : List Int) (k16 : Int) := ((s16.set (Int.toNat k16) (s16.getD (Int.toNat (w64 (k16 - 1))) 0)).set (Int.toNat (w64 (k16 - 1))) (s16.getD (Int.toNat k16) 0))
abbrev c58e6 (s15 : (List Int) × Int) := (Ca (Ca (elI s15.1) (Int.toNat s15.2) [vi (AeX s15)]) (Int.toNat (w64 (s15.2 - 1))) (setRange ((Ca (elI s15.1) (Int.toNat s15.2) [vi (AeX s15)]) (Int.toNat (w64 (s15.2 - 1)))) 0 [vi (s15.1.getD (Int.toNat s15.2) 0)]))
abbrev c58e7 (s15 : (List Int) × Int) := ((s15.1.set (Int.toNat s15.2) (AeX s15)).set (Int.toNat (w64 (s15.2 - 1))) (s15.1.getD (Int.toNat s15.2) 0))
theorem Ns (p0 : List Int) (p1 : Int) (p2 : Int) (RES : Bool × (List Int)) (hm : Cz p0 p1 p2 = some RES) : Spec Tryz.prog 158 [ow 0 p0.length,pI p1,pI p2] [roI p0] (pB RES.1) [roI RES.2] [] := by
 unfold Cz at hm
 refine SO Tryz.func158 rfl rfl [(0,ow 0 p0.length),(1,pI p1),(2,pI p2)] [(0,ob0 (roI p0))] ?_
 intro cx hnt
 refine Sq (RD hnt (.no :: []) [] [] [] [] tv ?_)
 refine Sq (RD hnt (nn 3 []) [] [(7,pI (w64 (p1 + 1)))] [] [] tv ?_)
 refine Sq (Sq (RD hnt (.no :: []) [] [(8,pI 0)] [] [] tv ?_))
 refine Bk ?_
 refine DW.forO (fun (k1 : Int) (s1 : (List Int) × Int) => Aj [(0,ow 0 s1.1.length),(1,pI p1),(2,pI p2),(7,pI s1.2),(8,pI k1)] [(0,ob0 (roI s1.1))]) (lo := 0) (hi := 5) hm Conv.eqK ?_
 intro k1 s1 n1 hk1 hs1 he1
 refine Sq (Sq (RD hnt (nn 2 []) [] [(14,pB (decide (k1 < 5)))] [] [] tv ?_))
 refine Cd (decide (k1 < 5)) ?_ ?_
 ·intro h391
  have hlt1 : k1 < 5 := by have := of_decide_eq_true h391; omega
  have hm := hs1 hlt1
  unfold Gb at hm
  refine Sk ?_
  refine Sq ?_
  refine Jn (ι := (List Int) × Int) (fun (y11 : (List Int) × Int) => Aj [(0,ow 0 y11.1.length),(1,pI p1),(2,pI p2),(7,pI y11.2),(8,pI k1)] [(0,ob0 (roI y11.1))]) (fun y11 => (Bx n1) y11 = some RES) ?_ ?_
  ·intro y11 hm
   unfold Bx at hm
   refine RD hnt (nn 3 []) [] [(8,pI (w64 (k1 + 1)))] [] [] tv ?_
   exact jD (y11.1,y11.2) ⟨hlt1,hm⟩ (Conv.tp [(8,pI (w64 (k1 + 1)))] [] (by kernel_rfl) (.cons rfl (.of_eq (congrArg pI (Sn (lo := 0) (hi := 5) (by omega) hk1 hlt1 (by omega)))) .nil) .nil)
  ·refine Bk ?_
   refine Sq (Bk ?_)
   refine DW.whileO (fun (s12 : Int) => Aj [(0,ow 0 s1.1.length),(1,pI p1),(2,pI p2),(7,pI s12),(8,pI k1)] [(0,ob0 (roI s1.1))]) hm Conv.t0 ?_
   intro s12 n12 hm
   unfold Ft at hm
   refine Sq (Sq ?_)
   refine Jn (ι := Bool) (fun (y14 : Bool) => Aj [(0,ow 0 s1.1.length),(1,pI p1),(2,pI p2),(7,pI s12),(8,pI k1),(32,pB y14)] [(0,ob0 (roI s1.1))]) (fun y14 => (Bz p1 p2 s1 n1 s12 n12) y14 = some RES) ?_ ?_
   ·intro y14 hm
    unfold Bz at hm
    refine Ah hm ?_ ?_
    ·intro h492 hm
     refine Sk ?_
     refine Bk ?_
     refine RD hnt (nn 3 []) [32] [(7,pI (w64 (s12 + 1)))] [] [] tv ?_
     refine DW.done ?_
     show DW _ _ _ _ _
     exact jD (w64 (s12 + 1)) hm Conv.eqK
    ·intro h492 hm
     refine DW.exit ?_
     refine Ap ?_
     refine Au ?_
     refine Am ?_
     show DW _ _ _ _ _
     refine Sq (Sq (RD hnt (nn 3 []) [32] [(37,pB (s12 == p2))] [] [] tv ?_))
     refine Ah hm ?_ ?_
     ·intro h493 hm
      refine Sq (RK hnt (.no :: []) [(6,pB true)] [(0,ob0 (roI s1.1))] tv ?_)
      obtain rfl := sj hm
      exact DW.ret (Ai [roI s1.1] [] (pB true))
     ·intro h493 hm
      refine Sk ?_
      refine Sq (Sq (RD hnt (nn 4 []) [37] [(41,pB (decide ((w64 (p2 - p1)) < 50)))] [] [] tv ?_))
      refine Ah hm ?_ ?_
      ·intro h494 hm
       refine Sq (RK hnt (.no :: []) [(6,pB false)] [(0,ob0 (roI s1.1))] tv ?_)
       obtain rfl := sj hm
       exact DW.ret (Ai [roI s1.1] [] (pB false))
      ·intro h494 hm
       refine Sk ?_
       obtain ⟨g495,g496,g497,g498,hm⟩ := go4 hm
       obtain ⟨g499,g500,g501,g502,hm⟩ := go4 hm
       refine Sq (RN hnt (nn 18 []) [(0,ow 0 (c58e4 s1 s12).length),(1,pI p1),(2,pI p2),(7,pI s12),(8,pI k1)] [(0,ob0 (roI (c58e4 s1 s12)))] [(0,ow 0 s1.1.length)] [(0,.row 1 s1.1.length (c58e2 s1 s12))] (an g495.1 (an g495.2 (an g496 (an g497.1 (an g497.2 (an g498 (an g499.1 (an g499.2 (an g500 (an g501.1 (an g501.2 (an g502 tv)))))))))))) (by kernel_rfl) (.cons rfl (MLe.ownLen (enc := Bi) (d := 0) (f := (c58e2 s1 s12)) (RowIs.updR (RowIs.upd RowIs.elems (s1.1.getD (Int.toNat (w64 (s12 - 1))) 0) rfl) (by omega) (s1.1.getD (Int.toNat s12) 0) rfl)) .nil) (.cons rfl (BLe.typed (RowIs.updR (RowIs.upd RowIs.elems (s1.1.getD (Int.toNat (w64 (s12 - 1))) 0) rfl) (by omega) (s1.1.getD (Int.toNat s12) 0) rfl)) .nil) ?_)
       refine Sq (Sq (RD hnt (nn 4 []) [] [(61,pB (decide ((w64 (s12 - p1)) ≥ 2)))] [] [] tv ?_))
       refine Jn (ι := List Int) (fun (y15 : List Int) => Aj [(0,ow 0 y15.length),(1,pI p1),(2,pI p2),(7,pI s12),(8,pI k1)] [(0,ob0 (roI y15))]) (fun y15 => (Bt p2 n1 s12) y15 = some RES) ?_ ?_
       ·intro y15 hm
        unfold Bt at hm
        refine Sq (RD hnt (nn 4 []) [] [(98,pB (decide ((w64 (p2 - s12)) ≥ 2)))] [] [] tv ?_)
        refine Ah hm ?_ ?_
        ·intro h534 hm
         refine Sq (RD hnt (nn 3 []) [98] [(10,pI (w64 (s12 + 1)))] [] [] tv ?_)
         refine Bk ?_
         obtain ⟨hc16,hm⟩ := go1 hm
         refine DW.forO (fun (k16 : Int) (s16 : List Int) => Aj [(0,ow 0 s16.length),(1,pI p1),(2,pI p2),(7,pI s12),(8,pI k1),(10,pI k16)] [(0,ob0 (roI s16))]) (lo := (w64 (s12 + 1))) (hi := p2) hm Conv.eqK ?_
         intro k16 s16 n16 hk16 hs16 he16
         refine Sq (Sq (RD hnt (nn 3 []) [] [(103,pB (decide (k16 < p2)))] [] [] tv ?_))
         refine Cd (decide (k16 < p2)) ?_ ?_
         ·intro h565
          have hlt16 : k16 < p2 := by have := of_decide_eq_true h565; omega
          have hm := hs16 hlt16
          unfold Fv at hm
          refine Sk ?_
          refine Sq (Bk ?_)
          obtain ⟨g566,g567,g568,g569,hm⟩ := go4 hm
          obtain ⟨r570,hr570,hm⟩ := bo hm
          refine Sq (Sq (RD hnt (nn 9 (o49 [] true r570 :: .no :: [])) [103] [(116,pB (!r570))] [] [] (an g566.1 (an g566.2 (an g567 (an g568.1 (an g568.2 (an g569 (an (Cs (s16.getD (Int.toNat k16) 0) (s16.getD (Int.toNat (w64 (k16 - 1))) 0) r570 hr570) tv))))))) ?_))
          refine Ah hm ?_ ?_
          ·intro h571 hm
           refine DW.exit ?_
           refine Oc (by decide) ?_
           refine Au ?_
           refine Ap ?_
           refine Au ?_
           refine Am ?_
           show DW _ _ _ _ _
           exact bD (s16,s12) hm Conv.t0
          ·intro h571 hm
           refine Sk ?_
           obtain ⟨g572,g573,g574,g575,hm⟩ := go4 hm
           obtain ⟨g576,g577,g578,g579,hm⟩ := go4 hm
           refine RN hnt (nn 18 []) [(0,ow 0 (c58e5 s16 k16).length),(1,pI p1),(2,pI p2),(7,pI s12),(8,pI k1),(10,pI k16)] [(0,ob0 (roI (c58e5 s16 k16)))] [(0,ow 0 s16.length)] [(0,.row 1 s16.length (c58e3 s16 k16))] (an g572.1 (an g572.2 (an g573 (an g574.1 (an g574.2 (an g575 (an g576.1 (an g576.2 (an g577 (an g578.1 (an g578.2 (an g579 tv)))))))))))) (by kernel_rfl) (.cons rfl (MLe.ownLen (enc := Bi) (d := 0) (f := (c58e3 s16 k16)) (RowIs.updR (RowIs.upd RowIs.elems (s16.getD (Int.toNat (w64 (k16 - 1))) 0) rfl) (by omega) (s16.getD (Int.toNat k16) 0) rfl)) .nil) (.cons rfl (BLe.typed (RowIs.updR (RowIs.upd RowIs.elems (s16.getD (Int.toNat (w64 (k16 - 1))) 0) rfl) (by omega) (s16.getD (Int.toNat k16) 0) rfl)) .nil) ?_
           refine DW.done ?_
           show DW _ _ _ _ _
           refine RD hnt (nn 3 []) [] [(10,pI (w64 (k16 + 1)))] [] [] tv ?_
           exact jD (c58e5 s16 k16) ⟨hlt16,hm⟩ (Conv.tp [(10,pI (w64 (k16 + 1)))] [] (by kernel_rfl) (.cons rfl (.of_eq (congrArg pI (Sn (lo := (w64 (s12 + 1))) (hi := p2) (by omega) hk16 hlt16 (by omega)))) .nil) .nil)
         ·intro h565
          have hge16 : ¬ k16 < p2 := by have := of_decide_eq_false h565; omega
          have hm := he16 hge16
          unfold Im at hm
          refine DW.exit ?_
          refine Ap ?_
          refine Au ?_
          refine Am ?_
          show DW _ _ _ _ _
          exact bD (s16,s12) hm Conv.t0
        ·intro h534 hm
         refine Sk ?_
         exact bD (y15,s12) hm Conv.t0
       ·refine Ah hm ?_ ?_
        ·intro h503 hm
         refine Sq (RD hnt (nn 3 []) [61] [(9,pI (w64 (s12 - 1)))] [] [] tv ?_)
         refine Bk ?_
         refine DW.whileO (fun (s15 : (List Int) × Int) => Aj [(0,ow 0 s15.1.length),(1,pI p1),(2,pI p2),(7,pI s12),(8,pI k1),(9,pI s15.2)] [(0,ob0 (roI s15.1))]) hm Conv.eqK ?_
         intro s15 n15 hm
         unfold Fu at hm
         refine Sq (Sq (RD hnt (nn 2 []) [] [(65,pB (decide (s15.2 ≥ 1)))] [] [] tv ?_))
         refine Ah hm ?_ ?_
         ·intro h519 hm
          refine Sk ?_
          refine Sq (Bk ?_)
          obtain ⟨g520,g521,g522,g523,hm⟩ := go4 hm
          obtain ⟨r524,hr524,hm⟩ := bo hm
          refine Sq (Sq (RD hnt (nn 9 (o49 [] true r524 :: .no :: [])) [65] [(78,pB (!r524))] [] [] (an g520.1 (an g520.2 (an g521 (an g522.1 (an g522.2 (an g523 (an (Cs (s15.1.getD (Int.toNat s15.2) 0) (AeX s15) r524 hr524) tv))))))) ?_))
          refine Ah hm ?_ ?_
          ·intro h525 hm
           refine DW.exit ?_
           refine Oc (by decide) ?_
           refine Au ?_
           refine Ap ?_
           refine Au ?_
           refine Am ?_
           show DW _ _ _ _ _
           exact jD s15.1 hm Conv.t0
          ·intro h525 hm
           refine Sk ?_
           obtain ⟨g526,g527,g528,g529,hm⟩ := go4 hm
           obtain ⟨g530,g531,g532,g533,hm⟩ := go4 hm
           refine RN hnt (nn 18 []) [(0,ow 0 (c58e7 s15).length),(1,pI p1),(2,pI p2),(7,pI s12),(8,pI k1),(9,pI s15.2)] [(0,ob0 (roI (c58e7 s15)))] [(0,ow 0 s15.1.length)] [(0,.row 1 s15.1.length (c58e6 s15))] (an g526.1 (an g526.2 (an g527 (an g528.1 (an g528.2 (an g529 (an g530.1 (an g530.2 (an g531 (an g532.1 (an g532.2 (an g533 tv)))))))))))) (by kernel_rfl) (.cons rfl (MLe.ownLen (enc := Bi) (d := 0) (f := (c58e6 s15)) (RowIs.updR (RowIs.upd RowIs.elems (AeX s15) rfl) (by omega) (s15.1.getD (Int.toNat s15.2) 0) rfl)) .nil) (.cons rfl (BLe.typed (RowIs.updR (RowIs.upd RowIs.elems (AeX s15) rfl) (by omega) (s15.1.getD (Int.toNat s15.2) 0) rfl)) .nil) ?_
           refine DW.done ?_
           show DW _ _ _ _ _
           refine RD hnt (nn 3 []) [] [(9,pI (w64 (s15.2 - 1)))] [] [] tv ?_
           exact jD ((c58e7 s15),(w64 (s15.2 - 1))) hm Conv.eqK
         ·intro h519 hm
          refine DW.exit ?_
          refine Ap ?_
          refine Au ?_
          refine Am ?_
          show DW _ _ _ _ _
          exact jD s15.1 hm Conv.t0
        ·intro h503 hm
         refine Sk ?_
         exact jD (c58e4 s1 s12) hm Conv.t0
   ·rcases bt (decide (s12 < p2)) with h486 | h486
    ·replace hm := Bg h486 hm
     obtain ⟨g487,g488,g489,g490,hm⟩ := go4 hm
     obtain ⟨r491,hr491,hm⟩ := bo hm
     refine RD hnt (nn 13 (o49 [] true r491 :: .no :: pT :: [])) [] [(32,pB (!r491))] [] [] (an3 h486 (an g487.1 (an g487.2 (an h486 (an g488 (an4 h486 (an g489.1 (an g489.2 (an h486 (an g490 (an h486 (an (Cs (s1.1.getD (Int.toNat s12) 0) (s1.1.getD (Int.toNat (w64 (s12 - 1))) 0) r491 hr491) (an2 h486 tv))))))))))))) ?_
     exact jD (!r491) hm Conv.eqK
    ·replace hm := Bf h486 hm
     refine RD hnt (nn 4 (sk 11 (pF :: []))) [] [(32,pB false)] [] [] (an6 h486 (an6 h486 tv)) ?_
     exact jD false hm Conv.eqK
 ·intro h391
  have hge1 : ¬ k1 < 5 := by have := of_decide_eq_false h391; omega
  have hm := he1 hge1
  unfold Ix at hm
  refine DW.exit ?_
  refine Ap ?_
  refine Au ?_
  refine Am ?_
  show DW _ _ _ _ _
  refine Sq (RK hnt (.no :: []) [(6,pB false)] [(0,ob0 (roI s1.1))] tv ?_)
  obtain rfl := sj hm
  exact DW.ret (Ai [roI s1.1] [] (pB false))
abbrev o58 (ks : List Nat) (b : Bool) (RES : Bool × (List Int)) (sm : List Nat := []) : Orc := .call 158 ks b (pB RES.1) [roI RES.2] [] sm

abbrev c59e1 (p0 : List Int) (p1 : Int) (p3 : Int) := (Ca (Ca (elI p0) (Int.toNat p1) [vi (p0.getD (Int.toNat p3) 0)]) (Int.toNat p3) (setRange ((Ca (elI p0) (Int.toNat p1) [vi (p0.getD (Int.toNat p3) 0)]) (Int.toNat p3)) 0 [vi (p0.getD (Int.toNat p1) 0)]))
abbrev c59e2 (s1 : (List Int) × Int × Int) (s5 : Int) (s7 : Int) := (Ca (Ca (elI s1.1) (Int.toNat s5) [vi (s1.1.getD (Int.toNat s7) 0)]) (Int.toNat s7) (setRange ((Ca (elI s1.1) (Int.toNat s5) [vi (s1.1.getD (Int.toNat s7) 0)]) (Int.toNat s7)) 0 [vi (s1.1.getD (Int.toNat s5) 0)]))
abbrev c59e3 (s1 : (List Int) × Int × Int) (s5 : Int) (s7 : Int) := ((s1.1.set (Int.toNat s5) (s1.1.getD (Int.toNat s7) 0)).set (Int.toNat s7) (s1.1.getD (Int.toNat s5) 0))
theorem Rf (p0 : List Int) (p1 : Int) (p2 : Int) (p3 : Int) (RES : Int × (List Int)) (hm : Eb p0 p1 p2 p3 = some RES) : Spec Tryz.prog 160 [ow 0 p0.length,pI p1,pI p2,pI p3] [roI p0] (pI RES.1) [roI RES.2] [] := by
 unfold Eb at hm
 refine SO Tryz.func160 rfl rfl [(0,ow 0 p0.length),(1,pI p1),(2,pI p2),(3,pI p3)] [(0,ob0 (roI p0))] ?_
 intro cx hnt
 refine Sq (RD hnt (.no :: []) [] [] [] [] tv ?_)
 obtain ⟨g1,g2,g3,g4,hm⟩ := go4 hm
 obtain ⟨g5,g6,g7,g8,hm⟩ := go4 hm
 refine Sq (RN hnt (nn 16 []) [(0,ow 0 ((p0.set (Int.toNat p1) (p0.getD (Int.toNat p3) 0)).set (Int.toNat p3) (p0.getD (Int.toNat p1) 0)).length),(1,pI p1),(2,pI p2)] [(0,ob0 (roI ((p0.set (Int.toNat p1) (p0.getD (Int.toNat p3) 0)).set (Int.toNat p3) (p0.getD (Int.toNat p1) 0))))] [(0,ow 0 p0.length)] [(0,.row 1 p0.length (c59e1 p0 p1 p3))] (an g1.1 (an g1.2 (an g2 (an g3.1 (an g3.2 (an g4 (an g5.1 (an g5.2 (an g6 (an g7.1 (an g7.2 (an g8 tv)))))))))))) (by kernel_rfl) (.cons rfl (MLe.ownLen (enc := Bi) (d := 0) (f := (c59e1 p0 p1 p3)) (RowIs.updR (RowIs.upd RowIs.elems (p0.getD (Int.toNat p3) 0) rfl) (by omega) (p0.getD (Int.toNat p1) 0) rfl)) .nil) (.cons rfl (BLe.typed (RowIs.updR (RowIs.upd RowIs.elems (p0.getD (Int.toNat p3) 0) rfl) (by omega) (p0.getD (Int.toNat p1) 0) rfl)) .nil) ?_)
 refine Sq (RD hnt (nn 6 []) [2] [(9,pI (w64 (p1 + 1))),(10,pI (w64 (p2 - 1)))] [] [] tv ?_)
 refine Sq (Bk ?_)
 refine DW.whileO (fun (s1 : (List Int) × Int × Int) => Aj [(0,ow 0 s1.1.length),(1,pI p1),(9,pI s1.2.2),(10,pI s1.2.1)] [(0,ob0 (roI s1.1))]) hm Conv.eqK ?_
 intro s1 n1 hm
 unfold Hi at hm
 refine Bk ?_
 refine Sq (Bk ?_)
 refine DW.whileO (fun (s5 : Int) => Aj [(0,ow 0 s1.1.length),(1,pI p1),(9,pI s5),(10,pI s1.2.1)] [(0,ob0 (roI s1.1))]) hm .refl ?_
 intro s5 n5 hm
 unfold Hj at hm
 refine Sq (Sq ?_)
 refine Jn (ι := Bool) (fun (y10 : Bool) => Aj [(0,ow 0 s1.1.length),(1,pI p1),(9,pI s5),(10,pI s1.2.1),(43,pB y10)] [(0,ob0 (roI s1.1))]) (fun y10 => (Dh p1 s1 n1 s5 n5) y10 = some RES) ?_ ?_
 ·intro y10 hm
  unfold Dh at hm
  refine Ah hm ?_ ?_
  ·intro h156 hm
   refine Sk ?_
   refine Bk ?_
   refine RD hnt (nn 3 []) [43] [(9,pI (w64 (s5 + 1)))] [] [] tv ?_
   refine DW.done ?_
   show DW _ _ _ _ _
   exact jD (w64 (s5 + 1)) hm Conv.eqK
  ·intro h156 hm
   refine DW.exit ?_
   refine Ap ?_
   refine Au ?_
   refine Am ?_
   show DW _ _ _ _ _
   refine Sq (Bk ?_)
   refine DW.whileO (fun (s7 : Int) => Aj [(0,ow 0 s1.1.length),(1,pI p1),(9,pI s5),(10,pI s7)] [(0,ob0 (roI s1.1))]) hm Conv.t0 ?_
   intro s7 n7 hm
   unfold Ff at hm
   refine Sq (Sq ?_)
   refine Jn (ι := Bool) (fun (y12 : Bool) => Aj [(0,ow 0 s1.1.length),(1,pI p1),(9,pI s5),(10,pI s7),(59,pB y12)] [(0,ob0 (roI s1.1))]) (fun y12 => (Dg s1 n1 s5 s7 n7) y12 = some RES) ?_ ?_
   ·intro y12 hm
    unfold Dg at hm
    refine Ah hm ?_ ?_
    ·intro h179 hm
     refine Sk ?_
     refine Bk ?_
     refine RD hnt (nn 3 []) [59] [(10,pI (w64 (s7 - 1)))] [] [] tv ?_
     refine DW.done ?_
     show DW _ _ _ _ _
     exact jD (w64 (s7 - 1)) hm Conv.eqK
    ·intro h179 hm
     refine DW.exit ?_
     refine Ap ?_
     refine Au ?_
     refine Am ?_
     show DW _ _ _ _ _
     refine Sq (Sq (RD hnt (nn 3 []) [59] [(64,pB (decide (s5 > s7)))] [] [] tv ?_))
     refine Ah hm ?_ ?_
     ·intro h180 hm
      refine DW.exit ?_
      refine Oc (by decide) ?_
      refine Au ?_
      refine Ap ?_
      refine Au ?_
      refine Am ?_
      show DW _ _ _ _ _
      refine Sq (RK hnt (nn 2 []) [(8,pI s5)] [(0,ob0 (roI s1.1))] tv ?_)
      obtain rfl := sj hm
      exact DW.ret (Ai [roI s1.1] [] (pI s5))
     ·intro h180 hm
      refine Sk ?_
      obtain ⟨g181,g182,g183,g184,hm⟩ := go4 hm
      obtain ⟨g185,g186,g187,g188,hm⟩ := go4 hm
      refine Sq (RN hnt (nn 16 []) [(0,ow 0 (c59e3 s1 s5 s7).length),(1,pI p1),(9,pI s5),(10,pI s7)] [(0,ob0 (roI (c59e3 s1 s5 s7)))] [(0,ow 0 s1.1.length)] [(0,.row 1 s1.1.length (c59e2 s1 s5 s7))] (an g181.1 (an g181.2 (an g182 (an g183.1 (an g183.2 (an g184 (an g185.1 (an g185.2 (an g186 (an g187.1 (an g187.2 (an g188 tv)))))))))))) (by kernel_rfl) (.cons rfl (MLe.ownLen (enc := Bi) (d := 0) (f := (c59e2 s1 s5 s7)) (RowIs.updR (RowIs.upd RowIs.elems (s1.1.getD (Int.toNat s7) 0) rfl) (by omega) (s1.1.getD (Int.toNat s5) 0) rfl)) .nil) (.cons rfl (BLe.typed (RowIs.updR (RowIs.upd RowIs.elems (s1.1.getD (Int.toNat s7) 0) rfl) (by omega) (s1.1.getD (Int.toNat s5) 0) rfl)) .nil) ?_)
      refine Sq (RD hnt (nn 3 []) [] [(9,pI (w64 (s5 + 1)))] [] [] tv ?_)
      refine RD hnt (nn 3 []) [] [(10,pI (w64 (s7 - 1)))] [] [] tv ?_
      refine DW.done ?_
      show DW _ _ _ _ _
      exact jD ((c59e3 s1 s5 s7),(w64 (s7 - 1)),(w64 (s5 + 1))) hm Conv.eqK
   ·rcases bt (decide (s5 ≤ s7)) with h173 | h173
    ·replace hm := Bg h173 hm
     obtain ⟨g174,g175,g176,g177,hm⟩ := go4 hm
     obtain ⟨r178,hr178,hm⟩ := bo hm
     refine RD hnt (nn 12 (o49 [] true r178 :: pT :: [])) [] [(59,pB r178)] [] [] (an3 h173 (an g174.1 (an g174.2 (an h173 (an g175 (an3 h173 (an g176.1 (an g176.2 (an h173 (an g177 (an h173 (an (Cs (s1.1.getD (Int.toNat p1) 0) (s1.1.getD (Int.toNat s7) 0) r178 hr178) (an h173 tv))))))))))))) ?_
     exact jD r178 hm Conv.eqK
    ·replace hm := Bf h173 hm
     refine RD hnt (nn 4 (sk 9 (pF :: []))) [] [(59,pB false)] [] [] (an4 h173 (an6 h173 tv)) ?_
     exact jD false hm Conv.eqK
 ·rcases bt (decide (s5 ≤ s1.2.1)) with h150 | h150
  ·replace hm := Bg h150 hm
   obtain ⟨g151,g152,g153,g154,hm⟩ := go4 hm
   obtain ⟨r155,hr155,hm⟩ := bo hm
   refine RD hnt (nn 12 (o49 [] true r155 :: .no :: pT :: [])) [] [(43,pB (!r155))] [] [] (an3 h150 (an g151.1 (an g151.2 (an h150 (an g152 (an3 h150 (an g153.1 (an g153.2 (an h150 (an g154 (an h150 (an (Cs (s1.1.getD (Int.toNat p1) 0) (s1.1.getD (Int.toNat s5) 0) r155 hr155) (an2 h150 tv))))))))))))) ?_
   exact jD (!r155) hm Conv.eqK
  ·replace hm := Bf h150 hm
   refine RD hnt (nn 4 (sk 10 (pF :: []))) [] [(43,pB false)] [] [] (an5 h150 (an6 h150 tv)) ?_
   exact jD false hm Conv.eqK
abbrev o59 (ks : List Nat) (b : Bool) (RES : Int × (List Int)) (sm : List Nat := []) : Orc := .call 160 ks b (pI RES.1) [roI RES.2] [] sm

abbrev Cv (p0 : List Int) (p1 : Int) (p3 : Int) := ((p0.set (Int.toNat p1) (p0.getD (Int.toNat p3) 0)).set (Int.toNat p3) (p0.getD (Int.toNat p1) 0))
abbrev c60e2 (p0 : List Int) (p1 : Int) (p3 : Int) (s1 : Int) (s17 : Int) := (Ca (Ca (elI (Cv p0 p1 p3)) (Int.toNat s1) [vi ((Cv p0 p1 p3).getD (Int.toNat s17) 0)]) (Int.toNat s17) (setRange ((Ca (elI (Cv p0 p1 p3)) (Int.toNat s1) [vi ((Cv p0 p1 p3).getD (Int.toNat s17) 0)]) (Int.toNat s17)) 0 [vi ((Cv p0 p1 p3).getD (Int.toNat s1) 0)]))
abbrev c60e3 (p0 : List Int) (p1 : Int) (p3 : Int) := (Ca (Ca (elI p0) (Int.toNat p1) [vi (p0.getD (Int.toNat p3) 0)]) (Int.toNat p3) (setRange ((Ca (elI p0) (Int.toNat p1) [vi (p0.getD (Int.toNat p3) 0)]) (Int.toNat p3)) 0 [vi (p0.getD (Int.toNat p1) 0)]))
abbrev c60e4 (s25 : (List Int) × Int × Int) (s29 : Int) (s31 : Int) := (Ca (Ca (elI s25.1) (Int.toNat s29) [vi (s25.1.getD (Int.toNat s31) 0)]) (Int.toNat s31) (setRange ((Ca (elI s25.1) (Int.toNat s29) [vi (s25.1.getD (Int.toNat s31) 0)]) (Int.toNat s31)) 0 [vi (s25.1.getD (Int.toNat s29) 0)]))
abbrev c60e5 (s25 : (List Int) × Int × Int) (s29 : Int) (s31 : Int) := ((s25.1.set (Int.toNat s29) (s25.1.getD (Int.toNat s31) 0)).set (Int.toNat s31) (s25.1.getD (Int.toNat s29) 0))
theorem Um (p0 : List Int) (p1 : Int) (p2 : Int) (p3 : Int) (RES : Int × Bool × (List Int)) (hm : Fx p0 p1 p2 p3 = some RES) : Spec Tryz.prog 161 [ow 0 p0.length,pI p1,pI p2,pI p3] [roI p0] (.p (.tup [vi RES.1,vb RES.2.1])) [roI RES.2.2] [] := by
 unfold Fx at hm
 refine SO Tryz.func161 rfl rfl [(0,ow 0 p0.length),(1,pI p1),(2,pI p2),(3,pI p3)] [(0,ob0 (roI p0))] ?_
 intro cx hnt
 refine Sq (RD hnt (nn 2 []) [] [] [] [] tv ?_)
 obtain ⟨g1,g2,g3,g4,hm⟩ := go4 hm
 obtain ⟨g5,g6,g7,g8,hm⟩ := go4 hm
 refine Sq (RN hnt (nn 16 []) [(0,ow 0 (Cv p0 p1 p3).length),(1,pI p1),(2,pI p2)] [(0,ob0 (roI (Cv p0 p1 p3)))] [(0,ow 0 p0.length)] [(0,.row 1 p0.length (c60e3 p0 p1 p3))] (an g1.1 (an g1.2 (an g2 (an g3.1 (an g3.2 (an g4 (an g5.1 (an g5.2 (an g6 (an g7.1 (an g7.2 (an g8 tv)))))))))))) (by kernel_rfl) (.cons rfl (MLe.ownLen (enc := Bi) (d := 0) (f := (c60e3 p0 p1 p3)) (RowIs.updR (RowIs.upd RowIs.elems (p0.getD (Int.toNat p3) 0) rfl) (by omega) (p0.getD (Int.toNat p1) 0) rfl)) .nil) (.cons rfl (BLe.typed (RowIs.updR (RowIs.upd RowIs.elems (p0.getD (Int.toNat p3) 0) rfl) (by omega) (p0.getD (Int.toNat p1) 0) rfl)) .nil) ?_)
 refine Sq (RD hnt (nn 6 []) [2] [(10,pI (w64 (p1 + 1))),(11,pI (w64 (p2 - 1)))] [] [] tv ?_)
 refine Sq (Bk ?_)
 refine DW.whileO (fun (s1 : Int) => Aj [(0,ow 0 (Cv p0 p1 p3).length),(1,pI p1),(10,pI s1),(11,pI (w64 (p2 - 1)))] [(0,ob0 (roI (Cv p0 p1 p3)))]) hm Conv.eqK ?_
 intro s1 n1 hm
 unfold Jj at hm
 refine Sq (Sq ?_)
 refine Jn (ι := Bool) (fun (y28 : Bool) => Aj [(0,ow 0 (Cv p0 p1 p3).length),(1,pI p1),(10,pI s1),(11,pI (w64 (p2 - 1))),(43,pB y28)] [(0,ob0 (roI (Cv p0 p1 p3)))]) (fun y28 => (Eu p0 p1 p2 p3 s1 n1) y28 = some RES) ?_ ?_
 ·intro y28 hm
  unfold Eu at hm
  refine Ah hm ?_ ?_
  ·intro h588 hm
   refine Sk ?_
   refine Bk ?_
   refine RD hnt (nn 3 []) [43] [(10,pI (w64 (s1 + 1)))] [] [] tv ?_
   refine DW.done ?_
   show DW _ _ _ _ _
   exact jD (w64 (s1 + 1)) hm Conv.eqK
  ·intro h588 hm
   refine DW.exit ?_
   refine Ap ?_
   refine Au ?_
   refine Am ?_
   show DW _ _ _ _ _
   refine Sq (Bk ?_)
   refine DW.whileO (fun (s17 : Int) => Aj [(0,ow 0 (Cv p0 p1 p3).length),(1,pI p1),(10,pI s1),(11,pI s17)] [(0,ob0 (roI (Cv p0 p1 p3)))]) hm Conv.t0 ?_
   intro s17 n17 hm
   unfold Gq at hm
   refine Sq (Sq ?_)
   refine Jn (ι := Bool) (fun (y42 : Bool) => Aj [(0,ow 0 (Cv p0 p1 p3).length),(1,pI p1),(10,pI s1),(11,pI s17),(60,pB y42)] [(0,ob0 (roI (Cv p0 p1 p3)))]) (fun y42 => (Ev p0 p1 p3 s1 s17 n17) y42 = some RES) ?_ ?_
   ·intro y42 hm
    unfold Ev at hm
    refine Ah hm ?_ ?_
    ·intro h875 hm
     refine Sk ?_
     refine Bk ?_
     refine RD hnt (nn 3 []) [60] [(11,pI (w64 (s17 - 1)))] [] [] tv ?_
     refine DW.done ?_
     show DW _ _ _ _ _
     exact jD (w64 (s17 - 1)) hm Conv.eqK
    ·intro h875 hm
     refine DW.exit ?_
     refine Ap ?_
     refine Au ?_
     refine Am ?_
     show DW _ _ _ _ _
     refine Sq (Sq (RD hnt (nn 3 []) [60] [(65,pB (decide (s1 > s17)))] [] [] tv ?_))
     refine Ah hm ?_ ?_
     ·intro h876 hm
      obtain ⟨g877,g878,g879,g880,hm⟩ := go4 hm
      obtain ⟨g881,g882,g883,g884,hm⟩ := go4 hm
      refine Sq (RN hnt (nn 16 []) [(11,pI s17)] [(0,ob0 (roI (((Cv p0 p1 p3).set (Int.toNat s17) ((Cv p0 p1 p3).getD (Int.toNat p1) 0)).set (Int.toNat p1) ((Cv p0 p1 p3).getD (Int.toNat s17) 0))))] [] [(0,.row 1 (Cv p0 p1 p3).length (Ca (Ca (elI (Cv p0 p1 p3)) (Int.toNat s17) [vi ((Cv p0 p1 p3).getD (Int.toNat p1) 0)]) (Int.toNat p1) (setRange ((Ca (elI (Cv p0 p1 p3)) (Int.toNat s17) [vi ((Cv p0 p1 p3).getD (Int.toNat p1) 0)]) (Int.toNat p1)) 0 [vi ((Cv p0 p1 p3).getD (Int.toNat s17) 0)])))] (an g877.1 (an g877.2 (an g878 (an g879.1 (an g879.2 (an g880 (an g881.1 (an g881.2 (an g882 (an g883.1 (an g883.2 (an g884 tv)))))))))))) (by kernel_rfl) .nil (.cons rfl (BLe.typed (RowIs.updR (RowIs.upd RowIs.elems ((Cv p0 p1 p3).getD (Int.toNat p1) 0) rfl) (by omega) ((Cv p0 p1 p3).getD (Int.toNat s17) 0) rfl)) .nil) ?_)
      refine Sq (RD hnt (nn 3 []) [11] [(8,pI s17),(9,pB true)] [] [] tv ?_)
      obtain rfl := sj hm
      exact DW.ret (Ai [roI (((Cv p0 p1 p3).set (Int.toNat s17) ((Cv p0 p1 p3).getD (Int.toNat p1) 0)).set (Int.toNat p1) ((Cv p0 p1 p3).getD (Int.toNat s17) 0))] [] (.p (.tup [vi s17,vb true])))
     ·intro h876 hm
      refine Sk ?_
      obtain ⟨g885,g886,g887,g888,hm⟩ := go4 hm
      obtain ⟨g889,g890,g891,g892,hm⟩ := go4 hm
      refine Sq (RN hnt (nn 16 []) [(0,ow 0 (((Cv p0 p1 p3).set (Int.toNat s1) ((Cv p0 p1 p3).getD (Int.toNat s17) 0)).set (Int.toNat s17) ((Cv p0 p1 p3).getD (Int.toNat s1) 0)).length),(1,pI p1),(10,pI s1),(11,pI s17)] [(0,ob0 (roI (((Cv p0 p1 p3).set (Int.toNat s1) ((Cv p0 p1 p3).getD (Int.toNat s17) 0)).set (Int.toNat s17) ((Cv p0 p1 p3).getD (Int.toNat s1) 0))))] [(0,ow 0 (Cv p0 p1 p3).length)] [(0,.row 1 (Cv p0 p1 p3).length (c60e2 p0 p1 p3 s1 s17))] (an g885.1 (an g885.2 (an g886 (an g887.1 (an g887.2 (an g888 (an g889.1 (an g889.2 (an g890 (an g891.1 (an g891.2 (an g892 tv)))))))))))) (by kernel_rfl) (.cons rfl (MLe.ownLen (enc := Bi) (d := 0) (f := (c60e2 p0 p1 p3 s1 s17)) (RowIs.updR (RowIs.upd RowIs.elems ((Cv p0 p1 p3).getD (Int.toNat s17) 0) rfl) (by omega) ((Cv p0 p1 p3).getD (Int.toNat s1) 0) rfl)) .nil) (.cons rfl (BLe.typed (RowIs.updR (RowIs.upd RowIs.elems ((Cv p0 p1 p3).getD (Int.toNat s17) 0) rfl) (by omega) ((Cv p0 p1 p3).getD (Int.toNat s1) 0) rfl)) .nil) ?_)
      refine Sq (RD hnt (nn 3 []) [] [(10,pI (w64 (s1 + 1)))] [] [] tv ?_)
      refine Sq (RD hnt (nn 3 []) [] [(11,pI (w64 (s17 - 1)))] [] [] tv ?_)
      refine Sq (Bk ?_)
      refine DW.whileO (fun (s25 : (List Int) × Int × Int) => Aj [(0,ow 0 s25.1.length),(1,pI p1),(10,pI s25.2.1),(11,pI s25.2.2)] [(0,ob0 (roI s25.1))]) hm Conv.eqK ?_
      intro s25 n25 hm
      unfold Gp at hm
      refine Bk ?_
      refine Sq (Bk ?_)
      refine DW.whileO (fun (s29 : Int) => Aj [(0,ow 0 s25.1.length),(1,pI p1),(10,pI s29),(11,pI s25.2.2)] [(0,ob0 (roI s25.1))]) hm .refl ?_
      intro s29 n29 hm
      unfold It at hm
      refine Sq (Sq ?_)
      refine Jn (ι := Bool) (fun (y52 : Bool) => Aj [(0,ow 0 s25.1.length),(1,pI p1),(10,pI s29),(11,pI s25.2.2),(112,pB y52)] [(0,ob0 (roI s25.1))]) (fun y52 => (Ex p1 s25 n25 s29 n29) y52 = some RES) ?_ ?_
      ·intro y52 hm
       unfold Ex at hm
       refine Ah hm ?_ ?_
       ·intro h1088 hm
        refine Sk ?_
        refine Bk ?_
        refine RD hnt (nn 3 []) [112] [(10,pI (w64 (s29 + 1)))] [] [] tv ?_
        refine DW.done ?_
        show DW _ _ _ _ _
        exact jD (w64 (s29 + 1)) hm Conv.eqK
       ·intro h1088 hm
        refine DW.exit ?_
        refine Ap ?_
        refine Au ?_
        refine Am ?_
        show DW _ _ _ _ _
        refine Sq (Bk ?_)
        refine DW.whileO (fun (s31 : Int) => Aj [(0,ow 0 s25.1.length),(1,pI p1),(10,pI s29),(11,pI s31)] [(0,ob0 (roI s25.1))]) hm Conv.t0 ?_
        intro s31 n31 hm
        unfold Gr at hm
        refine Sq (Sq ?_)
        refine Jn (ι := Bool) (fun (y54 : Bool) => Aj [(0,ow 0 s25.1.length),(1,pI p1),(10,pI s29),(11,pI s31),(129,pB y54)] [(0,ob0 (roI s25.1))]) (fun y54 => (Er p1 s25 n25 s29 s31 n31) y54 = some RES) ?_ ?_
        ·intro y54 hm
         unfold Er at hm
         refine Ah hm ?_ ?_
         ·intro h1119 hm
          refine Sk ?_
          refine Bk ?_
          refine RD hnt (nn 3 []) [129] [(11,pI (w64 (s31 - 1)))] [] [] tv ?_
          refine DW.done ?_
          show DW _ _ _ _ _
          exact jD (w64 (s31 - 1)) hm Conv.eqK
         ·intro h1119 hm
          refine DW.exit ?_
          refine Ap ?_
          refine Au ?_
          refine Am ?_
          show DW _ _ _ _ _
          refine Sq (Sq (RD hnt (nn 3 []) [129] [(134,pB (decide (s29 > s31)))] [] [] tv ?_))
          refine Ah hm ?_ ?_
          ·intro h1120 hm
           refine DW.exit ?_
           refine Oc (by decide) ?_
           refine Au ?_
           refine Ap ?_
           refine Au ?_
           refine Am ?_
           show DW _ _ _ _ _
           obtain ⟨g1121,g1122,g1123,g1124,hm⟩ := go4 hm
           obtain ⟨g1125,g1126,g1127,g1128,hm⟩ := go4 hm
           refine Sq (RN hnt (nn 16 []) [(11,pI s31)] [(0,ob0 (roI ((s25.1.set (Int.toNat s31) (s25.1.getD (Int.toNat p1) 0)).set (Int.toNat p1) (s25.1.getD (Int.toNat s31) 0))))] [] [(0,.row 1 s25.1.length (Ca (Ca (elI s25.1) (Int.toNat s31) [vi (s25.1.getD (Int.toNat p1) 0)]) (Int.toNat p1) (setRange ((Ca (elI s25.1) (Int.toNat s31) [vi (s25.1.getD (Int.toNat p1) 0)]) (Int.toNat p1)) 0 [vi (s25.1.getD (Int.toNat s31) 0)])))] (an g1121.1 (an g1121.2 (an g1122 (an g1123.1 (an g1123.2 (an g1124 (an g1125.1 (an g1125.2 (an g1126 (an g1127.1 (an g1127.2 (an g1128 tv)))))))))))) (by kernel_rfl) .nil (.cons rfl (BLe.typed (RowIs.updR (RowIs.upd RowIs.elems (s25.1.getD (Int.toNat p1) 0) rfl) (by omega) (s25.1.getD (Int.toNat s31) 0) rfl)) .nil) ?_)
           refine Sq (RD hnt (nn 3 []) [11] [(8,pI s31),(9,pB false)] [] [] tv ?_)
           obtain rfl := sj hm
           exact DW.ret (Ai [roI ((s25.1.set (Int.toNat s31) (s25.1.getD (Int.toNat p1) 0)).set (Int.toNat p1) (s25.1.getD (Int.toNat s31) 0))] [] (.p (.tup [vi s31,vb false])))
          ·intro h1120 hm
           refine Sk ?_
           obtain ⟨g1129,g1130,g1131,g1132,hm⟩ := go4 hm
           obtain ⟨g1133,g1134,g1135,g1136,hm⟩ := go4 hm
           refine Sq (RN hnt (nn 16 []) [(0,ow 0 (c60e5 s25 s29 s31).length),(1,pI p1),(10,pI s29),(11,pI s31)] [(0,ob0 (roI (c60e5 s25 s29 s31)))] [(0,ow 0 s25.1.length)] [(0,.row 1 s25.1.length (c60e4 s25 s29 s31))] (an g1129.1 (an g1129.2 (an g1130 (an g1131.1 (an g1131.2 (an g1132 (an g1133.1 (an g1133.2 (an g1134 (an g1135.1 (an g1135.2 (an g1136 tv)))))))))))) (by kernel_rfl) (.cons rfl (MLe.ownLen (enc := Bi) (d := 0) (f := (c60e4 s25 s29 s31)) (RowIs.updR (RowIs.upd RowIs.elems (s25.1.getD (Int.toNat s31) 0) rfl) (by omega) (s25.1.getD (Int.toNat s29) 0) rfl)) .nil) (.cons rfl (BLe.typed (RowIs.updR (RowIs.upd RowIs.elems (s25.1.getD (Int.toNat s31) 0) rfl) (by omega) (s25.1.getD (Int.toNat s29) 0) rfl)) .nil) ?_)
           refine Sq (RD hnt (nn 3 []) [] [(10,pI (w64 (s29 + 1)))] [] [] tv ?_)
           refine RD hnt (nn 3 []) [] [(11,pI (w64 (s31 - 1)))] [] [] tv ?_
           refine DW.done ?_
           show DW _ _ _ _ _
           exact jD ((c60e5 s25 s29 s31),(w64 (s29 + 1)),(w64 (s31 - 1))) hm Conv.eqK
        ·rcases bt (decide (s29 ≤ s31)) with h1113 | h1113
         ·replace hm := Bg h1113 hm
          obtain ⟨g1114,g1115,g1116,g1117,hm⟩ := go4 hm
          obtain ⟨r1118,hr1118,hm⟩ := bo hm
          refine RD hnt (nn 12 (o49 [] true r1118 :: .no :: pT :: [])) [] [(129,pB (!r1118))] [] [] (an3 h1113 (an g1114.1 (an g1114.2 (an h1113 (an g1115 (an3 h1113 (an g1116.1 (an g1116.2 (an h1113 (an g1117 (an h1113 (an (Cs (s25.1.getD (Int.toNat s31) 0) (s25.1.getD (Int.toNat p1) 0) r1118 hr1118) (an2 h1113 tv))))))))))))) ?_
          exact jD (!r1118) hm Conv.eqK
         ·replace hm := Bf h1113 hm
          refine RD hnt (nn 4 (sk 10 (pF :: []))) [] [(129,pB false)] [] [] (an5 h1113 (an6 h1113 tv)) ?_
          exact jD false hm Conv.eqK
      ·rcases bt (decide (s29 ≤ s25.2.2)) with h1082 | h1082
       ·replace hm := Bg h1082 hm
        obtain ⟨g1083,g1084,g1085,g1086,hm⟩ := go4 hm
        obtain ⟨r1087,hr1087,hm⟩ := bo hm
        refine RD hnt (nn 12 (o49 [] true r1087 :: pT :: [])) [] [(112,pB r1087)] [] [] (an3 h1082 (an g1083.1 (an g1083.2 (an h1082 (an g1084 (an3 h1082 (an g1085.1 (an g1085.2 (an h1082 (an g1086 (an h1082 (an (Cs (s25.1.getD (Int.toNat s29) 0) (s25.1.getD (Int.toNat p1) 0) r1087 hr1087) (an h1082 tv))))))))))))) ?_
        exact jD r1087 hm Conv.eqK
       ·replace hm := Bf h1082 hm
        refine RD hnt (nn 4 (sk 9 (pF :: []))) [] [(112,pB false)] [] [] (an4 h1082 (an6 h1082 tv)) ?_
        exact jD false hm Conv.eqK
   ·rcases bt (decide (s1 ≤ s17)) with h869 | h869
    ·replace hm := Bg h869 hm
     obtain ⟨g870,g871,g872,g873,hm⟩ := go4 hm
     obtain ⟨r874,hr874,hm⟩ := bo hm
     refine RD hnt (nn 12 (o49 [] true r874 :: .no :: pT :: [])) [] [(60,pB (!r874))] [] [] (an3 h869 (an g870.1 (an g870.2 (an h869 (an g871 (an3 h869 (an g872.1 (an g872.2 (an h869 (an g873 (an h869 (an (Cs ((Cv p0 p1 p3).getD (Int.toNat s17) 0) ((Cv p0 p1 p3).getD (Int.toNat p1) 0) r874 hr874) (an2 h869 tv))))))))))))) ?_
     exact jD (!r874) hm Conv.eqK
    ·replace hm := Bf h869 hm
     refine RD hnt (nn 4 (sk 10 (pF :: []))) [] [(60,pB false)] [] [] (an5 h869 (an6 h869 tv)) ?_
     exact jD false hm Conv.eqK
 ·rcases bt (decide (s1 ≤ (w64 (p2 - 1)))) with h582 | h582
  ·replace hm := Bg h582 hm
   obtain ⟨g583,g584,g585,g586,hm⟩ := go4 hm
   obtain ⟨r587,hr587,hm⟩ := bo hm
   refine RD hnt (nn 12 (o49 [] true r587 :: pT :: [])) [] [(43,pB r587)] [] [] (an3 h582 (an g583.1 (an g583.2 (an h582 (an g584 (an3 h582 (an g585.1 (an g585.2 (an h582 (an g586 (an h582 (an (Cs ((Cv p0 p1 p3).getD (Int.toNat s1) 0) ((Cv p0 p1 p3).getD (Int.toNat p1) 0) r587 hr587) (an h582 tv))))))))))))) ?_
   exact jD r587 hm Conv.eqK
  ·replace hm := Bf h582 hm
   refine RD hnt (nn 4 (sk 9 (pF :: []))) [] [(43,pB false)] [] [] (an4 h582 (an6 h582 tv)) ?_
   exact jD false hm Conv.eqK
abbrev o60 (ks : List Nat) (b : Bool) (RES : Int × Bool × (List Int)) (sm : List Nat := []) : Orc := .call 161 ks b (.p (.tup [vi RES.1,vb RES.2.1])) [roI RES.2.2] [] sm

theorem Zt (p0 : Int) (RES : Int) (hm : Gt p0 = some RES) : Spec Tryz.prog 191 [pI p0] [] (.p (vk .u64 RES)) [] [] := by
 unfold Gt at hm
 refine SO Tryz.func191 rfl rfl [(0,pI p0)] [] ?_
 intro cx hnt
 refine Sq (RK hnt (.no :: []) [(0,pI p0)] [] tv ?_)
 obtain ⟨r1,hr1,hm⟩ := bo hm
 obtain ⟨g2,hm⟩ := go1 hm
 refine Sq (RK hnt (nn 2 (o45 [] true r1 :: nn 2 [])) [(2,.p (vk .u64 (kshl .u64 1 r1)))] [] (an (AdW (IntKind.u64.wrap p0) r1 hr1) (an g2 tv)) ?_)
 obtain rfl := sj hm
 exact DW.ret (Ai [] [] (.p (vk .u64 (kshl .u64 1 r1))))
abbrev o62 (ks : List Nat) (b : Bool) (RES : Int) (sm : List Nat := []) : Orc := .call 191 ks b (.p (vk .u64 RES)) [] [] sm

theorem Aaz (p0 : Int) (RES : Int × Int) (hm : Lj p0 = some RES) : Spec Tryz.prog 192 [rr 0] [.box [.p (vk .u64 p0)]] (.p (vk .u64 RES.1)) [.box [.p (vk .u64 RES.2)]] [] := by
 unfold Lj at hm
 refine SO Tryz.func192 rfl rfl [(0,rr 0)] [(0,bx [.p (vk .u64 p0)])] ?_
 intro cx hnt
 refine Sq (RD hnt (.no :: []) [] [] [] [] tv ?_)
 refine Sq (RK hnt (nn 10 []) [(0,rr 0)] [(0,bx [.p (vk .u64 (kxor .u64 p0 (kshl .u64 p0 13)))])] (an (by decide : (0 : Int) ≤ 13) tv) ?_)
 refine Sq (RK hnt (nn 10 []) [(0,rr 0)] [(0,bx [.p (vk .u64 (kxor .u64 (kxor .u64 p0 (kshl .u64 p0 13)) (kshr .u64 (kxor .u64 p0 (kshl .u64 p0 13)) 7)))])] (an (by decide : (0 : Int) ≤ 7) tv) ?_)
 refine Sq (RK hnt (nn 10 []) [(0,rr 0)] [(0,bx [.p (vk .u64 (kxor .u64 (kxor .u64 (kxor .u64 p0 (kshl .u64 p0 13)) (kshr .u64 (kxor .u64 p0 (kshl .u64 p0 13)) 7)) (kshl .u64 (kxor .u64 (kxor .u64 p0 (kshl .u64 p0 13)) (kshr .u64 (kxor .u64 p0 (kshl .u64 p0 13)) 7)) 17)))])] (an (by decide : (0 : Int) ≤ 17) tv) ?_)
 refine Sq (RD hnt (nn 4 []) [0] [(2,.p (vk .u64 (kxor .u64 (kxor .u64 (kxor .u64 p0 (kshl .u64 p0 13)) (kshr .u64 (kxor .u64 p0 (kshl .u64 p0 13)) 7)) (kshl .u64 (kxor .u64 (kxor .u64 p0 (kshl .u64 p0 13)) (kshr .u64 (kxor .u64 p0 (kshl .u64 p0 13)) 7)) 17))))] [] [] tv ?_)
 obtain rfl := sj hm
 exact DW.ret (Ai [.box [.p (vk .u64 (kxor .u64 (kxor .u64 (kxor .u64 p0 (kshl .u64 p0 13)) (kshr .u64 (kxor .u64 p0 (kshl .u64 p0 13)) 7)) (kshl .u64 (kxor .u64 (kxor .u64 p0 (kshl .u64 p0 13)) (kshr .u64 (kxor .u64 p0 (kshl .u64 p0 13)) 7)) 17)))]] [] (.p (vk .u64 (kxor .u64 (kxor .u64 (kxor .u64 p0 (kshl .u64 p0 13)) (kshr .u64 (kxor .u64 p0 (kshl .u64 p0 13)) 7)) (kshl .u64 (kxor .u64 (kxor .u64 p0 (kshl .u64 p0 13)) (kshr .u64 (kxor .u64 p0 (kshl .u64 p0 13)) 7)) 17)))))
abbrev o63 (ks : List Nat) (b : Bool) (RES : Int × Int) (sm : List Nat := []) : Orc := .call 192 ks b (.p (vk .u64 RES.1)) [.box [.p (vk .u64 RES.2)]] [] sm

abbrev c61e1 (s1 : (List Int) × Int × Int) (p1 : Int) (y2 : Int) := (Ca (Ca (elI s1.1) (Int.toNat s1.2.2) [vi (s1.1.getD (Int.toNat (w64 (p1 + y2))) 0)]) (Int.toNat (w64 (p1 + y2))) (setRange ((Ca (elI s1.1) (Int.toNat s1.2.2) [vi (s1.1.getD (Int.toNat (w64 (p1 + y2))) 0)]) (Int.toNat (w64 (p1 + y2)))) 0 [vi (s1.1.getD (Int.toNat s1.2.2) 0)]))
abbrev c61e2 (s1 : (List Int) × Int × Int) (p1 : Int) (y2 : Int) := ((s1.1.set (Int.toNat s1.2.2) (s1.1.getD (Int.toNat (w64 (p1 + y2))) 0)).set (Int.toNat (w64 (p1 + y2))) (s1.1.getD (Int.toNat s1.2.2) 0))
abbrev c61e3 (r15 : Int × Int) (r2 : Int) := (w64 (kand .u64 r15.1 (IntKind.u64.wrap (r2 - 1))))
theorem Sl (p0 : List Int) (p1 : Int) (p2 : Int) (RES : List Int) (hm : Eg p0 p1 p2 = some RES) : Spec Tryz.prog 155 [ow 0 p0.length,pI p1,pI p2] [roI p0] (.p (.tup [])) [roI RES] [] := by
 unfold Eg at hm
 refine SO Tryz.func155 rfl rfl [(0,ow 0 p0.length),(1,pI p1),(2,pI p2)] [(0,ob0 (roI p0))] ?_
 intro cx hnt
 refine Sq (RD hnt (nn 4 []) [2] [(6,pI (w64 (p2 - p1)))] [] [] tv ?_)
 refine Sq (RD hnt (nn 2 []) [] [(15,pB (decide ((w64 (p2 - p1)) ≥ 8)))] [] [] tv ?_)
 refine Ah hm ?_ ?_
 ·intro h1 hm
  refine Sq (RD hnt (nn 4 []) [15] [(7,rr 1056)] [] [(1056,bx [.p (vk .u64 (IntKind.u64.wrap (w64 (p2 - p1))))])] tv ?_)
  obtain ⟨r2,hr2,hm⟩ := bo hm
  refine Sq (RD hnt (.no :: o62 [] true r2 :: .no :: []) [] [(8,.p (vk .u64 r2))] [] [] (an (Zt (w64 (p2 - p1)) r2 hr2) tv) ?_)
  refine Sq (RD hnt (nn 7 []) [] [(9,pI (w64 ((w64 (p1 + (w64 ((w64 (Int.tdiv (w64 (p2 - p1)) 4)) * 2)))) - 1)))] [] [] (an (by decide : (4 : Int) ≠ 0) tv) ?_)
  refine Bk ?_
  refine DW.whileO (fun (s1 : (List Int) × Int × Int) => Aj [(0,ow 0 s1.1.length),(1,pI p1),(6,pI (w64 (p2 - p1))),(7,rr 1056),(8,.p (vk .u64 r2)),(9,pI s1.2.2)] [(0,ob0 (roI s1.1)),(1056,bx [.p (vk .u64 s1.2.1)])]) hm Conv.eqK ?_
  intro s1 n1 hm
  unfold Hu at hm
  refine Sq (Sq (RD hnt (nn 8 []) [] [(33,pB (decide (s1.2.2 ≤ (w64 ((w64 (p1 + (w64 ((w64 (Int.tdiv (w64 (p2 - p1)) 4)) * 2)))) + 1)))))] [] [] (an (by decide : (4 : Int) ≠ 0) tv) ?_))
  refine Ah hm ?_ ?_
  ·intro h14 hm
   refine Sk ?_
   refine Sq (Bk ?_)
   obtain ⟨r15,hr15,hm⟩ := bo hm
   refine Sq (RD hnt (o63 [1056] true r15 :: nn 5 []) [33] [(10,pI (c61e3 r15 r2))] [] [(1056,bx [.p (vk .u64 r15.2)])] (an (Aaz s1.2.1 r15 hr15) (an tv tv)) ?_)
   refine Sq (Sq (RD hnt (nn 3 []) [] [(43,pB (decide ((c61e3 r15 r2) ≥ (w64 (p2 - p1)))))] [] [] tv ?_))
   refine Jn (ι := Int) (fun (y2 : Int) => Aj [(0,ow 0 s1.1.length),(1,pI p1),(6,pI (w64 (p2 - p1))),(7,rr 1056),(8,.p (vk .u64 r2)),(9,pI s1.2.2),(10,pI y2)] [(0,ob0 (roI s1.1)),(1056,bx [.p (vk .u64 r15.2)])]) (fun y2 => (Ct p1 s1 n1 r15) y2 = some RES) ?_ ?_
   ·intro y2 hm
    unfold Ct at hm
    obtain ⟨g17,g18,g19,g20,hm⟩ := go4 hm
    obtain ⟨g21,g22,g23,g24,hm⟩ := go4 hm
    refine RN hnt (nn 20 []) [(0,ow 0 (c61e2 s1 p1 y2).length),(1,pI p1),(6,pI (w64 (p2 - p1))),(7,rr 1056),(8,.p (vk .u64 r2)),(9,pI s1.2.2)] [(0,ob0 (roI (c61e2 s1 p1 y2))),(1056,bx [.p (vk .u64 r15.2)])] [(0,ow 0 s1.1.length)] [(0,.row 1 s1.1.length (c61e1 s1 p1 y2))] (an g17.1 (an g17.2 (an g18 (an g19.1 (an g19.2 (an g20 (an g21.1 (an g21.2 (an g22 (an g23.1 (an g23.2 (an g24 tv)))))))))))) (by kernel_rfl) (.cons rfl (MLe.ownLen (enc := Bi) (d := 0) (f := (c61e1 s1 p1 y2)) (RowIs.updR (RowIs.upd RowIs.elems (s1.1.getD (Int.toNat (w64 (p1 + y2))) 0) rfl) (by omega) (s1.1.getD (Int.toNat s1.2.2) 0) rfl)) .nil) (.cons rfl (BLe.typed (RowIs.updR (RowIs.upd RowIs.elems (s1.1.getD (Int.toNat (w64 (p1 + y2))) 0) rfl) (by omega) (s1.1.getD (Int.toNat s1.2.2) 0) rfl)) .nil) ?_
    refine DW.done ?_
    show DW _ _ _ _ _
    refine RD hnt (nn 3 []) [] [(9,pI (w64 (s1.2.2 + 1)))] [] [] tv ?_
    exact jD ((c61e2 s1 p1 y2),r15.2,(w64 (s1.2.2 + 1))) hm Conv.eqK
   ·refine Ah hm ?_ ?_
    ·intro h16 hm
     refine RD hnt (nn 4 []) [43] [(10,pI (w64 ((c61e3 r15 r2) - (w64 (p2 - p1)))))] [] [] tv ?_
     exact jD (w64 ((c61e3 r15 r2) - (w64 (p2 - p1)))) hm Conv.eqK
    ·intro h16 hm
     refine Sk ?_
     exact jD (c61e3 r15 r2) hm Conv.t0
  ·intro h14 hm
   refine DW.exit ?_
   refine Ap ?_
   refine Au ?_
   refine Am ?_
   show DW _ _ _ _ _
   refine DW.done ?_
   obtain rfl := sj hm
   exact endK [roI s1.1] [] (.p (.tup []))
 ·intro h1 hm
  refine Sk ?_
  refine DW.done ?_
  obtain rfl := sj hm
  exact endK [roI p0] [] (.p (.tup []))
abbrev o61 (ks : List Nat) (b : Bool) (RES : List Int) (sm : List Nat := []) : Orc := .call 155 ks b (.p (.tup [])) [roI RES] [] sm

abbrev Xo (s1 : (List Int) × Int × Int × Int × Bool × Bool) : Nat × MV := (10,pI (w64 (s1.2.2.1 - s1.2.1)))
abbrev AcR (s1 : (List Int) × Int × Int × Int × Bool × Bool) := (w64 (Int.tdiv (w64 (s1.2.2.1 - s1.2.1)) 8))
theorem Vc (rec : (List Int) → Int → Int → Int → Option (List Int)) (ih : ∀ (p0 : List Int) (p1 : Int) (p2 : Int) (p3 : Int) (RES : List Int),rec p0 p1 p2 p3 = some RES → Spec Tryz.prog 105 [ow 0 p0.length,pI p1,pI p2,pI p3] [roI p0] (.p (.tup [])) [roI RES] []) (p0 : List Int) (p1 : Int) (p2 : Int) (p3 : Int) (RES : List Int) (hm : Hz rec p0 p1 p2 p3 = some RES) : Spec Tryz.prog 105 [ow 0 p0.length,pI p1,pI p2,pI p3] [roI p0] (.p (.tup [])) [roI RES] [] := by
 unfold Hz at hm
 refine SO Tryz.func105 rfl rfl [(0,ow 0 p0.length),(1,pI p1),(2,pI p2),(3,pI p3)] [(0,ob0 (roI p0))] ?_
 intro cx hnt
 refine Sq (RD hnt (.no :: []) [] [(8,pB true)] [] [] tv ?_)
 refine Sq (RD hnt (.no :: []) [] [(9,pB true)] [] [] tv ?_)
 refine Bk ?_
 refine DW.whileO (fun (s1 : (List Int) × Int × Int × Int × Bool × Bool) => Aj [(0,ow 0 s1.1.length),(1,pI s1.2.1),(2,pI s1.2.2.1),(3,pI s1.2.2.2.1),(8,pB s1.2.2.2.2.1),(9,pB s1.2.2.2.2.2)] [(0,ob0 (roI s1.1))]) hm Conv.eqK ?_
 intro s1 n1 hm
 unfold Ks at hm
 refine Bk ?_
 refine Sq (RD hnt (nn 4 []) [] [(Xo s1)] [] [] tv ?_)
 refine Sq (Sq (RD hnt (nn 2 []) [] [(23,pB (decide ((w64 (s1.2.2.1 - s1.2.1)) ≤ 12)))] [] [] tv ?_))
 refine Ah hm ?_ ?_
 ·intro h66 hm
  obtain ⟨r67,hr67,hm⟩ := bo hm
  obtain ⟨g68,hm⟩ := go1 hm
  refine Sq (RK hnt (nn 3 (o48 [0] true r67 :: [])) [] [(0,ob0 (roI r67))] (an (Sg s1.1 s1.2.1 s1.2.2.1 r67 hr67) (an (⟨rfl,g68⟩ : Body.same (roI s1.1) (roI r67)) tv)) ?_)
  obtain rfl := sj hm
  exact DW.ret (Ai [roI r67] [] (.p (.tup [])))
 ·intro h66 hm
  refine Sk ?_
  refine Sq (Sq (RD hnt (nn 2 []) [23] [(29,pB (s1.2.2.2.1 == 0))] [] [] tv ?_))
  refine Ah hm ?_ ?_
  ·intro h69 hm
   obtain ⟨r70,hr70,hm⟩ := bo hm
   obtain ⟨g71,hm⟩ := go1 hm
   refine Sq (RK hnt (nn 3 (o51 [0] true r70 :: [])) [] [(0,ob0 (roI r70))] (an (Uv s1.1 s1.2.1 s1.2.2.1 r70 hr70) (an (⟨rfl,g71⟩ : Body.same (roI s1.1) (roI r70)) tv)) ?_)
   obtain rfl := sj hm
   exact DW.ret (Ai [roI r70] [] (.p (.tup [])))
  ·intro h69 hm
   refine Sk ?_
   refine Sq (Sq (RD hnt (nn 2 []) [29] [(35,pB (!s1.2.2.2.2.1))] [] [] tv ?_))
   refine Jn (ι := (List Int) × Int) (fun (y8 : (List Int) × Int) => Aj [(0,ow 0 y8.1.length),(1,pI s1.2.1),(2,pI s1.2.2.1),(3,pI y8.2),(8,pB s1.2.2.2.2.1),(9,pB s1.2.2.2.2.2),(Xo s1)] [(0,ob0 (roI y8.1))]) (fun y8 => (Ee rec s1 n1) y8 = some RES) ?_ ?_
   ·intro y8 hm
    unfold Ee at hm
    obtain ⟨r75,hr75,hm⟩ := bo hm
    refine Sq (RD hnt (nn 3 (o53 [] true r75 :: nn 5 [])) [] [(11,pI r75.1),(12,pI r75.2)] [] [] (an (Tq y8.1 s1.2.1 s1.2.2.1 r75 hr75) tv) ?_)
    refine Sq (Sq (RD hnt (nn 2 []) [] [(50,pB (r75.2 == 2))] [] [] tv ?_))
    refine Jn (ι := (List Int) × Int × Int) (fun (y9 : (List Int) × Int × Int) => Aj [(0,ow 0 y9.1.length),(1,pI s1.2.1),(2,pI s1.2.2.1),(3,pI y8.2),(8,pB s1.2.2.2.2.1),(9,pB s1.2.2.2.2.2),(Xo s1),(11,pI y9.2.1),(12,pI y9.2.2)] [(0,ob0 (roI y9.1))]) (fun y9 => (Ed rec s1 n1 y8) y9 = some RES) ?_ ?_
    ·intro y9 hm
     unfold Ed at hm
     refine Sq (Sq (DW.regJ (sl2 := [(0,ow 0 y9.1.length),(1,pI s1.2.1),(2,pI s1.2.2.1),(3,pI y8.2),(8,pB s1.2.2.2.2.1),(9,pB s1.2.2.2.2.2),(Xo s1),(11,pI y9.2.1),(68,pB ((s1.2.2.2.2.1 && s1.2.2.2.2.2) && (y9.2.2 == 1)))]) (ob2 := [(0,ob0 (roI y9.1))]) ?_ ?_))
     ·rcases bt s1.2.2.2.2.1 with h79 | h79
      ·rcases bt s1.2.2.2.2.2 with h80 | h80
       ·exact RT hnt (nn 3 (pT :: nn 3 (pT :: []))) [(68,pB (y9.2.2 == 1))] (an2 h79 (an3 h80 tv)) (by kernel_rfl) (.cons rfl (.of_eq (by rw [h79,h80]; try rfl)) .nil)
       ·exact RT hnt (nn 3 (pT :: .no :: sk 2 (pF :: []))) [(68,pB false)] (an2 h79 (an3 h80 tv)) (by kernel_rfl) (.cons rfl (.of_eq (by rw [h79,h80]; try rfl)) .nil)
      ·exact RT hnt (nn 2 (.skip :: pF :: .no :: sk 2 (pF :: []))) [(68,pB false)] (an2 h79 (an3 ff tv)) (by kernel_rfl) (.cons rfl (.of_eq (by rw [h79]; try rfl)) .nil)
     ·refine Jn (ι := List Int) (fun (y10 : List Int) => Aj [(0,ow 0 y10.length),(1,pI s1.2.1),(2,pI s1.2.2.1),(3,pI y8.2),(8,pB s1.2.2.2.2.1),(9,pB s1.2.2.2.2.2),(Xo s1),(11,pI y9.2.1)] [(0,ob0 (roI y10))]) (fun y10 => (Du rec s1 n1 y8 y9) y10 = some RES) ?_ ?_
      ·intro y10 hm
       unfold Du at hm
       refine Sq (Sq ?_)
       refine Jn (ι := Bool) (fun (y11 : Bool) => Aj [(0,ow 0 y10.length),(1,pI s1.2.1),(2,pI s1.2.2.1),(3,pI y8.2),(8,pB s1.2.2.2.2.1),(9,pB s1.2.2.2.2.2),(Xo s1),(11,pI y9.2.1),(87,pB y11)] [(0,ob0 (roI y10))]) (fun y11 => (Dv rec s1 n1 y8 y9 y10) y11 = some RES) ?_ ?_
       ·intro y11 hm
        unfold Dv at hm
        refine Ah hm ?_ ?_
        ·intro h91 hm
         obtain ⟨r92,hr92,hm⟩ := bo hm
         obtain ⟨g93,hm⟩ := go1 hm
         refine Sq (RN hnt (nn 4 (o59 [0] true r92 :: .no :: [])) [(0,ow 0 r92.2.length),(2,pI s1.2.2.1),(3,pI y8.2),(8,pB s1.2.2.2.2.1),(9,pB s1.2.2.2.2.2),(13,pI r92.1)] [(0,ob0 (roI r92.2))] [(0,ow 0 y10.length)] [] (an (Rf y10 s1.2.1 s1.2.2.1 y9.2.1 r92 hr92) (an (⟨rfl,g93⟩ : Body.same (roI y10) (roI r92.2)) tv)) (by kernel_rfl) (.cons rfl (MLe.of_eq (congrArg (MV.own 0 0 0) g93)) .nil) .nil ?_)
         refine Sq (RD hnt (nn 2 []) [13] [(1,pI r92.1)] [] [] tv ?_)
         refine DW.exit ?_
         refine Am ?_
         show DW _ _ _ _ _
         exact jD (r92.2,r92.1,s1.2.2.1,y8.2,s1.2.2.2.2.1,s1.2.2.2.2.2) hm Conv.eqK
        ·intro h91 hm
         refine Sk ?_
         obtain ⟨r94,hr94,hm⟩ := bo hm
         obtain ⟨g95,hm⟩ := go1 hm
         refine Sq (RN hnt (nn 4 (o60 [0] true r94 :: nn 5 [])) [(0,ow 0 r94.2.2.length),(1,pI s1.2.1),(2,pI s1.2.2.1),(3,pI y8.2),(Xo s1),(14,pI r94.1),(15,pB r94.2.1)] [(0,ob0 (roI r94.2.2))] [(0,ow 0 y10.length)] [] (an (Um y10 s1.2.1 s1.2.2.1 y9.2.1 r94 hr94) (an (⟨rfl,g95⟩ : Body.same (roI y10) (roI r94.2.2)) tv)) (by kernel_rfl) (.cons rfl (MLe.of_eq (congrArg (MV.own 0 0 0) g95)) .nil) .nil ?_)
         refine Sq (RD hnt (nn 2 []) [15] [(9,pB r94.2.1)] [] [] tv ?_)
         refine Sq (RD hnt (nn 8 []) [] [(16,pI (w64 (r94.1 - s1.2.1))),(17,pI (w64 (s1.2.2.1 - r94.1)))] [] [] tv ?_)
         refine Sq (RD hnt (nn 3 []) [10] [(18,pI (AcR s1))] [] [] (an (by decide : (8 : Int) ≠ 0) tv) ?_)
         refine Sq (RD hnt (nn 3 []) [] [(113,pB (decide ((w64 (r94.1 - s1.2.1)) < (w64 (s1.2.2.1 - r94.1)))))] [] [] tv ?_)
         refine Ah hm ?_ ?_
         ·intro h96 hm
          refine Sq (RD hnt (nn 4 []) [16,17,18,113] [(8,pB (decide ((w64 (r94.1 - s1.2.1)) ≥ (AcR s1))))] [] [] tv ?_)
          obtain ⟨r97,hr97,hm⟩ := bo hm
          obtain ⟨g98,hm⟩ := go1 hm
          refine Sq (RN hnt (nn 4 (.call 105 [0] true (.p (.tup [])) [roI r97] [] [] :: [])) [(0,ow 0 r97.length),(2,pI s1.2.2.1),(3,pI y8.2),(8,pB (decide ((w64 (r94.1 - s1.2.1)) ≥ (AcR s1)))),(9,pB r94.2.1),(14,pI r94.1)] [(0,ob0 (roI r97))] [(0,ow 0 r94.2.2.length)] [] (an (ih r94.2.2 s1.2.1 r94.1 y8.2 r97 hr97) (an (⟨rfl,g98⟩ : Body.same (roI r94.2.2) (roI r97)) tv)) (by kernel_rfl) (.cons rfl (MLe.of_eq (congrArg (MV.own 0 0 0) g98)) .nil) .nil ?_)
          refine RD hnt (nn 3 []) [14] [(1,pI (w64 (r94.1 + 1)))] [] [] tv ?_
          refine DW.done ?_
          show DW _ _ _ _ _
          exact jD (r97,(w64 (r94.1 + 1)),s1.2.2.1,y8.2,(decide ((w64 (r94.1 - s1.2.1)) ≥ (AcR s1))),r94.2.1) hm Conv.eqK
         ·intro h96 hm
          refine Sq (RD hnt (nn 4 []) [16,17,18,113] [(8,pB (decide ((w64 (s1.2.2.1 - r94.1)) ≥ (AcR s1))))] [] [] tv ?_)
          obtain ⟨r99,hr99,hm⟩ := bo hm
          obtain ⟨g100,hm⟩ := go1 hm
          refine Sq (RN hnt (nn 5 (.call 105 [0] true (.p (.tup [])) [roI r99] [] [] :: [])) [(0,ow 0 r99.length),(1,pI s1.2.1),(3,pI y8.2),(8,pB (decide ((w64 (s1.2.2.1 - r94.1)) ≥ (AcR s1)))),(9,pB r94.2.1),(14,pI r94.1)] [(0,ob0 (roI r99))] [(0,ow 0 r94.2.2.length)] [] (an (ih r94.2.2 (w64 (r94.1 + 1)) s1.2.2.1 y8.2 r99 hr99) (an (⟨rfl,g100⟩ : Body.same (roI r94.2.2) (roI r99)) tv)) (by kernel_rfl) (.cons rfl (MLe.of_eq (congrArg (MV.own 0 0 0) g100)) .nil) .nil ?_)
          refine RD hnt (nn 2 []) [14] [(2,pI r94.1)] [] [] tv ?_
          refine DW.done ?_
          show DW _ _ _ _ _
          exact jD (r99,s1.2.1,r94.1,y8.2,(decide ((w64 (s1.2.2.1 - r94.1)) ≥ (AcR s1))),r94.2.1) hm Conv.eqK
       ·rcases bt (decide (s1.2.1 > 0)) with h85 | h85
        ·replace hm := Bg h85 hm
         obtain ⟨g86,g87,g88,g89,hm⟩ := go4 hm
         obtain ⟨r90,hr90,hm⟩ := bo hm
         refine RD hnt (nn 12 (o49 [] true r90 :: .no :: pT :: [])) [] [(87,pB (!r90))] [] [] (an4 h85 (an g86.1 (an g86.2 (an h85 (an g87 (an3 h85 (an g88.1 (an g88.2 (an h85 (an g89 (an h85 (an (Cs (y10.getD (Int.toNat (w64 (s1.2.1 - 1))) 0) (y10.getD (Int.toNat y9.2.1) 0) r90 hr90) (an2 h85 tv))))))))))))) ?_
         exact jD (!r90) hm Conv.eqK
        ·replace hm := Bf h85 hm
         refine RD hnt (nn 3 (sk 11 (pF :: []))) [] [(87,pB false)] [] [] (an6 h85 (an6 h85 tv)) ?_
         exact jD false hm Conv.eqK
      ·refine Ah hm ?_ ?_
       ·intro h81 hm
        obtain ⟨r82,hr82,hm⟩ := bo hm
        obtain ⟨g83,hm⟩ := go1 hm
        refine Sq (RN hnt (nn 3 (o58 [0] true r82 :: [])) [(0,ow 0 r82.2.length),(1,pI s1.2.1),(2,pI s1.2.2.1),(3,pI y8.2),(8,pB s1.2.2.2.2.1),(9,pB s1.2.2.2.2.2),(Xo s1),(11,pI y9.2.1),(72,pB r82.1)] [(0,ob0 (roI r82.2))] [(0,ow 0 y9.1.length)] [] (an (Ns y9.1 s1.2.1 s1.2.2.1 r82 hr82) (an (⟨rfl,g83⟩ : Body.same (roI y9.1) (roI r82.2)) tv)) (by kernel_rfl) (.cons rfl (MLe.of_eq (congrArg (MV.own 0 0 0) g83)) .nil) .nil ?_)
        refine Ah hm ?_ ?_
        ·intro h84 hm
         obtain rfl := sj hm
         exact DW.ret (Ai [roI r82.2] [] (.p (.tup [])))
        ·intro h84 hm
         refine Sk ?_
         exact jD r82.2 hm Conv.t0
       ·intro h81 hm
        refine Sk ?_
        exact jD y9.1 hm Conv.t0
    ·refine Ah hm ?_ ?_
     ·intro h76 hm
      obtain ⟨r77,hr77,hm⟩ := bo hm
      obtain ⟨g78,hm⟩ := go1 hm
      refine Sq (RN hnt (nn 3 (o57 [0] true r77 :: [])) [(0,ow 0 r77.length),(1,pI s1.2.1),(2,pI s1.2.2.1),(3,pI y8.2),(8,pB s1.2.2.2.2.1),(9,pB s1.2.2.2.2.2),(Xo s1),(11,pI r75.1)] [(0,ob0 (roI r77))] [(0,ow 0 y8.1.length)] [] (an (Tb y8.1 s1.2.1 s1.2.2.1 r77 hr77) (an (⟨rfl,g78⟩ : Body.same (roI y8.1) (roI r77)) tv)) (by kernel_rfl) (.cons rfl (MLe.of_eq (congrArg (MV.own 0 0 0) g78)) .nil) .nil ?_)
      refine Sq (RD hnt (nn 7 []) [] [(11,pI (w64 ((w64 (s1.2.2.1 - 1)) - (w64 (r75.1 - s1.2.1)))))] [] [] tv ?_)
      refine RD hnt (.no :: []) [] [(12,pI 1)] [] [] tv ?_
      exact jD (r77,(w64 ((w64 (s1.2.2.1 - 1)) - (w64 (r75.1 - s1.2.1)))),1) hm Conv.eqK
     ·intro h76 hm
      refine Sk ?_
      exact jD (y8.1,r75.1,r75.2) hm Conv.t0
   ·refine Ah hm ?_ ?_
    ·intro h72 hm
     obtain ⟨r73,hr73,hm⟩ := bo hm
     obtain ⟨g74,hm⟩ := go1 hm
     refine Sq (RN hnt (nn 3 (o61 [0] true r73 :: [])) [(0,ow 0 r73.length),(1,pI s1.2.1),(2,pI s1.2.2.1),(3,pI s1.2.2.2.1),(8,pB s1.2.2.2.2.1),(9,pB s1.2.2.2.2.2),(Xo s1)] [(0,ob0 (roI r73))] [(0,ow 0 s1.1.length)] [] (an (Sl s1.1 s1.2.1 s1.2.2.1 r73 hr73) (an (⟨rfl,g74⟩ : Body.same (roI s1.1) (roI r73)) tv)) (by kernel_rfl) (.cons rfl (MLe.of_eq (congrArg (MV.own 0 0 0) g74)) .nil) .nil ?_)
     refine RD hnt (nn 3 []) [] [(3,pI (w64 (s1.2.2.2.1 - 1)))] [] [] tv ?_
     exact jD (r73,(w64 (s1.2.2.2.1 - 1))) hm Conv.eqK
    ·intro h72 hm
     refine Sk ?_
     exact jD (s1.1,s1.2.2.2.1) hm Conv.t0
theorem My : ∀ (n : Nat) (p0 : List Int) (p1 : Int) (p2 : Int) (p3 : Int) (RES : List Int),Cc n p0 p1 p2 p3 = some RES → Spec Tryz.prog 105 [ow 0 p0.length,pI p1,pI p2,pI p3] [roI p0] (.p (.tup [])) [roI RES] []
  | 0,p0,p1,p2,p3,RES,hm => by simp [Cc] at hm
  | n + 1,p0,p1,p2,p3,RES,hm => Vc (Cc n) (My n) p0 p1 p2 p3 RES hm
theorem Vz (p0 : List Int) (p1 : Int) (p2 : Int) (p3 : Int) (RES : List Int) (hm : Lm p0 p1 p2 p3 = some RES) : Spec Tryz.prog 105 [ow 0 p0.length,pI p1,pI p2,pI p3] [roI p0] (.p (.tup [])) [roI RES] [] := My Ej p0 p1 p2 p3 RES hm
abbrev o47 (ks : List Nat) (b : Bool) (RES : List Int) (sm : List Nat := []) : Orc := .call 105 ks b (.p (.tup [])) [roI RES] [] sm

theorem Wa (p0 : List Int) (RES : List Int) (hm : Jd p0 = some RES) : Spec Tryz.prog 52 [ow 0 p0.length] [roI p0] (.p (.tup [])) [roI RES] [] := by
 unfold Jd at hm
 refine SO Tryz.func52 rfl rfl [(0,ow 0 p0.length)] [(0,ob0 (roI p0))] ?_
 intro cx hnt
 refine Sq (RD hnt (nn 3 []) [] [(2,pI ((p0.length : Nat) : Int))] [] [] tv ?_)
 obtain ⟨r1,hr1,hm⟩ := bo hm
 obtain ⟨r2,hr2,hm⟩ := bo hm
 obtain ⟨g3,hm⟩ := go1 hm
 refine RK hnt (nn 4 (o45 [] true r1 :: o47 [0] true r2 :: [])) [] [(0,ob0 (roI r2))] (an (AdW (IntKind.u64.wrap ((p0.length : Nat) : Int)) r1 hr1) (an (Vz p0 0 ((p0.length : Nat) : Int) r1 r2 hr2) (an (⟨rfl,g3⟩ : Body.same (roI p0) (roI r2)) tv))) ?_
 refine DW.done ?_
 obtain rfl := sj hm
 exact endK [roI r2] [] (.p (.tup []))
abbrev o44 (ks : List Nat) (b : Bool) (RES : List Int) (sm : List Nat := []) : Orc := .call 52 ks b (.p (.tup [])) [roI RES] [] sm

abbrev AeZ : Nat × Obj := (1048,bx [.p (.sl .nil 0 0 (fun _ => [])),.p (.sl .nil 0 0 (fun _ => []))])
abbrev Ml (p0 : Aa) (k1 : Nat) := (p0.tasks.getD k1 (default : Aw))
abbrev c43e3 (p0 : Aa) : Nat × MV := (21,pI ((p0.tasks.length : Nat) : Int))
abbrev AeL (r3 : freezer) : Nat × Obj := (1145,ob0 (Af r3.f.frosts))
abbrev c43e5 (r3 : freezer) (s1 : List Int) : Nat × Obj := (1144,bx [.p (Ba r3.h.tree.nodes),pI r3.h.tree.next,.p (Be r3.h.tasks),pI r3.h.next,ow 1145 r3.f.frosts.length,ow 1146 s1.length])
abbrev c43e6 (p0 : Aa) : Nat × Obj := (1024,bx (pm (Ab p0)))
abbrev c43e7 (p1 : Ac) : Nat × Obj := (1032,bx (pm (Al p1)))
theorem Vs (p0 : Aa) (p1 : Ac) (p2 : List Int) (RES : Ac × Int) (hm : Io p0 p1 p2 = some RES) : Spec Tryz.prog 60 [.p (.agg (Ab p0)),.p (.agg (Al p1)),.p (slI p2)] [] (.tup [.agg [ow 0 RES.1.frosts.length,ow 1 RES.1.stopped.length],pI RES.2]) [] [Af RES.1.frosts,roI RES.1.stopped] := by
 unfold Io at hm
 refine SO Tryz.func60 rfl rfl [(0,.p (.agg (Ab p0))),(1,.p (.agg (Al p1))),(2,.p (slI p2))] [] ?_
 intro cx hnt
 refine Sq (RK hnt (nn 4 []) [(2,.p (slI p2)),(3,rr 1024),(4,rr 1032),(6,rr 1048)] [(c43e6 p0),(c43e7 p1),(AeZ)] tv ?_)
 obtain ⟨r1,hr1,hm⟩ := bo hm
 refine Sq (Sq (RD hnt (nn 2 (o21 [] true r1 :: .no :: [])) [] [(14,pB (!r1))] [] [] (an (Db p0 p1 r1 hr1) tv) ?_))
 refine Ah hm ?_ ?_
 ·intro h2 hm
  refine Sq (RD hnt (nn 3 []) [2,3,4,14] [(7,pI 1)] [1024,1032] [] tv ?_)
  refine DW.cv [] [] [] [(1048,bx [ow 100000 0,ow 100001 0]),(100000,ob0 (Af [])),(100001,ob0 (roI []))] (Conv.ads [(.o 1048 0,100000,4,elems Bd Bc []),(.o 1048 1,100001,1,elems Bi 0 [])]) ?_
  obtain rfl := sj hm
  exact DW.ret (Ai [Af [],roI []] [100000,100001] (.tup [.agg [ow 0 0,ow 1 0],pI 1]))
 ·intro h2 hm
  refine Sk ?_
  obtain ⟨r3,hr3,hm⟩ := bo hm
  refine Sq (RD hnt (nn 2 (o35 [] true r3 :: .no :: [])) [14] [(8,rr 1144)] [] [(1144,bx [.p (Ba r3.h.tree.nodes),pI r3.h.tree.next,.p (Be r3.h.tasks),pI r3.h.next,ow 1145 r3.f.frosts.length,ow 1146 r3.f.stopped.length]),(AeL r3),(1146,ob0 (roI r3.f.stopped))] (an (Abs p0 p1 r3 hr3) tv) ?_)
  refine Sq (Sq (RD hnt (nn 4 []) [] [(20,.p (Be p0.tasks)),(c43e3 p0),(22,pI 0)] [] [] tv ?_))
  refine Bk ?_
  obtain ⟨hc1,hm⟩ := go1 hm
  refine DW.rangeO (fun (k1 : Nat) (s1 : List Int) => Aj [(2,.p (slI p2)),(3,rr 1024),(4,rr 1032),(6,rr 1048),(8,rr 1144),(20,.p (Be p0.tasks)),(c43e3 p0),(22,pI ((k1 : Nat) : Int))] [(c43e6 p0),(c43e7 p1),(AeZ),(c43e5 r3 s1),(AeL r3),(1146,ob0 (roI s1))]) Bu hm Conv.eqK ?_
  intro k1 s1 n1 hk1 hs1 he1
  refine Sq (RD hnt (.no :: []) [] [(23,pB (decide (((k1 : Nat) : Int) < ((p0.tasks.length : Nat) : Int))))] [] [] tv ?_)
  refine Sq (Cd (decide (((k1 : Nat) : Int) < ((p0.tasks.length : Nat) : Int))) ?_ ?_)
  ·intro h32
   have hlt1 : k1 < p0.tasks.length := by have := of_decide_eq_true h32; omega
   have hm := hs1 hlt1
   unfold Zb at hm
   refine Sk ?_
   refine Sq ?_
   refine Jn (ι := List Int) (fun (y5 : List Int) => Aj [(2,.p (slI p2)),(3,rr 1024),(4,rr 1032),(6,rr 1048),(8,rr 1144),(20,.p (Be p0.tasks)),(c43e3 p0),(22,pI ((k1 : Nat) : Int))] [(c43e6 p0),(c43e7 p1),(AeZ),(1144,bx [.p (Ba r3.h.tree.nodes),pI r3.h.tree.next,.p (Be r3.h.tasks),pI r3.h.next,ow 1145 r3.f.frosts.length,ow 1146 y5.length]),(AeL r3),(1146,ob0 (roI y5))]) (fun y5 => (Pz n1) y5 = some RES) ?_ ?_
   ·intro y5 hm
    unfold Pz at hm
    refine RD hnt (nn 2 []) [] [(22,pI (w64 (((k1 : Nat) : Int) + 1)))] [] [] tv ?_
    exact jD y5 ⟨hlt1,hm⟩ (Conv.tp [(22,pI (w64 (((k1 : Nat) : Int) + 1)))] [] (by kernel_rfl) (.cons rfl (.of_eq (congrArg pI (Bo hlt1 hc1))) .nil) .nil)
   ·refine Bk ?_
    refine Sq (RD hnt (nn 4 []) [23] [(10,rr 1080)] [] [(1080,bx (pm (Az (Ml p0 k1))))] (an (nn0 k1) (an (ltc hlt1) tv)) ?_)
    obtain ⟨r33,hr33,hm⟩ := bo hm
    refine Sq ?_
    refine Jn (ι := Bool) (fun (y6 : Bool) => Aj [(2,.p (slI p2)),(3,rr 1024),(4,rr 1032),(6,rr 1048),(8,rr 1144),(10,rr 1080),(20,.p (Be p0.tasks)),(c43e3 p0),(22,pI ((k1 : Nat) : Int)),(48,pB y6)] [(c43e6 p0),(c43e7 p1),(AeZ),(1080,bx (pm (Az (Ml p0 k1)))),(c43e5 r3 s1),(AeL r3),(1146,ob0 (roI s1))]) (fun y6 => (Mu (Ml p0 k1) s1 n1) y6 = some RES) ?_ ?_
    ·intro y6 hm
     unfold Mu at hm
     refine Ah hm ?_ ?_
     ·intro h38 hm
      obtain ⟨g39,hm⟩ := go1 hm
      refine RN hnt (nn 14 []) [(2,.p (slI p2)),(3,rr 1024),(4,rr 1032),(6,rr 1048),(8,rr 1144),(20,.p (Be p0.tasks)),(c43e3 p0),(22,pI ((k1 : Nat) : Int))] [(c43e6 p0),(c43e7 p1),(AeZ),(1144,bx [.p (Ba r3.h.tree.nodes),pI r3.h.tree.next,.p (Be r3.h.tasks),pI r3.h.next,ow 1145 r3.f.frosts.length,ow 1146 (s1 ++ [(Ml p0 k1).id]).length]),(AeL r3),(1146,ob0 (roI (s1 ++ [(Ml p0 k1).id])))] [] [(1144,.box [.p (Ba r3.h.tree.nodes),pI r3.h.tree.next,.p (Be r3.h.tasks),pI r3.h.next,ow 1145 r3.f.frosts.length,ow 1146 (s1.length + 1)]),(1146,.row 1 (s1.length + 1) (Cp s1.length (elI s1) (cut 1 [vi (Ml p0 k1).id])))] (an (by omega : (s1.length + 1) * 8 ≤ 140737488355328) tv) (by kernel_rfl) .nil (.cons rfl (.box (.cons .rfl (.cons .rfl (.cons .rfl (.cons .rfl (.cons .rfl (.cons (MLe.ownLen (enc := Bi) (d := 0) (f := (Cp s1.length (elI s1) (cut 1 [vi (Ml p0 k1).id]))) (RowIs.cat RowIs.elems (RowIs.lit (enc := Bi) (d := 0) (n := 1) (f := (cut 1 [vi (Ml p0 k1).id])) [(Ml p0 k1).id] rfl (fun | 0,_ => rfl | n + 1,h => absurd h (by omega))))) .nil))))))) (.cons rfl (BLe.typed (RowIs.cat RowIs.elems (RowIs.lit (enc := Bi) (d := 0) (n := 1) (f := (cut 1 [vi (Ml p0 k1).id])) [(Ml p0 k1).id] rfl (fun | 0,_ => rfl | n + 1,h => absurd h (by omega))))) .nil)) ?_
      exact bD (s1 ++ [(Ml p0 k1).id]) hm .refl
     ·intro h38 hm
      refine Sk ?_
      exact bD s1 hm Conv.t0
    ·rcases bt r33 with h34 | h34
     ·replace hm := Bg h34 hm
      obtain ⟨r35,hr35,hm⟩ := bo hm
      rcases bt (!r35) with h36 | h36
      ·replace hm := Bg h36 hm
       obtain ⟨r37,hr37,hm⟩ := bo hm
       refine RD hnt (nn 5 (o23 [] true r33 :: nn 4 (o30 [] true r35 :: .no :: pT :: nn 7 (o32 [] true r37 :: .no :: pT :: [])))) [] [(48,pB (!r37))] [] [] (an (Jp p0.tree p1 (Ml p0 k1).group r33 hr33) (an4 h34 (an (Hh p2 (Ml p0 k1).id r35 hr35) (an2 h34 (an h36 (an6 h36 (an (Cn ({ frosts := r3.f.frosts,stopped := s1 } : Ac) (Ml p0 k1).id r37 hr37) (an2 h36 tv)))))))) ?_
       exact jD (!r37) hm Conv.eqK
      ·replace hm := Bf h36 hm
       refine RD hnt (nn 5 (o23 [] true r33 :: nn 4 (o30 [] true r35 :: .no :: pT :: .no :: sk 8 (pF :: [])))) [] [(48,pB false)] [] [] (an (Jp p0.tree p1 (Ml p0 k1).group r33 hr33) (an4 h34 (an (Hh p2 (Ml p0 k1).id r35 hr35) (an2 h34 (an3 h36 (an6 h36 tv)))))) ?_
       exact jD false hm Conv.eqK
     ·replace hm := Bf h34 hm
      refine RD hnt (nn 5 (o23 [] true r33 :: .no :: sk 5 (pF :: .no :: sk 8 (pF :: [])))) [] [(48,pB false)] [] [] (an (Jp p0.tree p1 (Ml p0 k1).group r33 hr33) (an6 h34 (an3 ff (an6 ff tv)))) ?_
      exact jD false hm Conv.eqK
  ·intro h32
   have hge1 : ¬ k1 < p0.tasks.length := by have := of_decide_eq_false h32; omega
   have hm := he1 hge1
   unfold Yo at hm
   refine DW.exit ?_
   refine Ap ?_
   refine Au ?_
   refine Am ?_
   show DW _ _ _ _ _
   obtain ⟨r40,hr40,hm⟩ := bo hm
   obtain ⟨g41,hm⟩ := go1 hm
   refine Sq (RN hnt (nn 5 (o44 [1146] true r40 :: [])) [(6,rr 1048),(8,rr 1144)] [(AeZ),(1144,bx [.p (Ba r3.h.tree.nodes),pI r3.h.tree.next,.p (Be r3.h.tasks),pI r3.h.next,ow 1145 r3.f.frosts.length,ow 1146 r40.length]),(AeL r3),(1146,ob0 (roI r40))] [] [(1144,.box [.p (Ba r3.h.tree.nodes),pI r3.h.tree.next,.p (Be r3.h.tasks),pI r3.h.next,ow 1145 r3.f.frosts.length,ow 1146 s1.length])] (an (Wa s1 r40 hr40) (an (⟨rfl,g41⟩ : Body.same (roI s1) (roI r40)) tv)) (by kernel_rfl) .nil (.cons rfl (.box (.cons .rfl (.cons .rfl (.cons .rfl (.cons .rfl (.cons .rfl (.cons (MLe.of_eq (congrArg (MV.own 1146 0 0) g41)) .nil))))))) .nil) ?_)
   obtain ⟨r42,hr42,hm⟩ := bo hm
   obtain ⟨g43,g44,hm⟩ := go2 hm
   refine Sq (RK hnt (.no :: o42 [1144,1145,1146] true r42 :: nn 2 []) [(6,rr 1048),(7,pI 0)] [(1048,bx [ow 1145 r42.2.f.frosts.length,ow 1146 r42.2.f.stopped.length]),(1145,ob0 (Af r42.2.f.frosts)),(1146,ob0 (roI r42.2.f.stopped))] (an (Li ({ h := r3.h,f := ({ frosts := r3.f.frosts,stopped := r40 } : Ac) } : freezer) r42 hr42) (an tv (an (⟨rfl,g43⟩ : Body.same (Af r3.f.frosts) (Af r42.2.f.frosts)) (an (⟨rfl,g44⟩ : Body.same (roI r40) (roI r42.2.f.stopped)) tv)))) ?_)
   obtain rfl := sj hm
   exact DW.ret (Ai [Af r42.2.f.frosts,roI r42.2.f.stopped] [1145,1146] (.tup [.agg [ow 0 r42.2.f.frosts.length,ow 1 r42.2.f.stopped.length],pI 0]))
abbrev o43 (ks : List Nat) (b : Bool) (RES : Ac × Int) (sm : List Nat := []) : Orc := .call 60 ks b (.tup [.agg [ow 0 RES.1.frosts.length,ow 1 RES.1.stopped.length],pI RES.2]) [] [Af RES.1.frosts,roI RES.1.stopped] sm
end Go.Dm

