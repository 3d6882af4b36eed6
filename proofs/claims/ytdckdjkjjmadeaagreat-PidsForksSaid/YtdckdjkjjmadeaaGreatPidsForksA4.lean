/- Texts of the proof of PidsForks: the data machine, the models of the Go functions, their contracts. -/
import Derived.Test.YtdckdjkjjmadeaaGreatPidsForksA3
set_option linter.unusedVariables false
set_option linter.unusedSimpArgs false
/- Go functions compute their models, printed by a program. -/
namespace Go.Dm
open Go.Proofs
set_option linter.unusedVariables false
theorem Light_madeSpec (p0 : List Int) (RES : Bool) (hm : Light_made p0 = some RES) : Spec Tryz.prog 14 [.p (slI p0)] [] (pB RES) [] [] := by
 unfold Light_made at hm
 refine SO Tryz.func14 rfl rfl [(0, .p (slI p0))] [] ?_
 intro cx hnt
 refine Sq (RK hnt (.no :: []) [(0, .p (slI p0))] [] tv ?_)
 refine Sq (RK hnt (nn 4 []) [(2, pB (decide (((p0.length : Nat) : Int) ≤ 600)))] [] tv ?_)
 obtain rfl := sj hm
 exact DW.ret (retK [] [] (pB (decide (((p0.length : Nat) : Int) ≤ 600))))
abbrev o2 (ks : List Nat) (b : Bool) (RES : Bool) : Orc := .call 14 ks b (pB RES) [] []

abbrev c5e1 := ({ id := 1, parent := 0, name := ByteArray.empty, control := 0, kind := 0, owner := 0 } : Node)
theorem New_ref5Spec (RES : Tree) (hm : New_ref5 = some RES) : Spec Tryz.prog 120 [] [] (.agg [ow 0 RES.nodes.length, pI RES.next]) [] [roNode RES.nodes] := by
 unfold New_ref5 at hm
 refine SO Tryz.func120 rfl rfl [] [] ?_
 intro cx hnt
 refine Sq (RK hnt (.no :: []) [(0, rr 1000)] [(1000, bx [.p (.sl .nil 0 0 (fun _ => [])), pI 0])] tv ?_)
 refine Sq (RN hnt (nn 4 []) [(0, rr 1000)] [(1000, bx [ow 1016 [(c5e1)].length, pI 2]), (1016, ob0 (roNode [(c5e1)]))] [] [(1000, .box [ow 1016 1, pI 2]), (1016, .row 6 1 (cut 6 [vi 1, vi 0, vs ByteArray.empty, vi 0, vi 0, vi 0]))] tv (by kernel_rfl) .nil (.cons rfl (.box (.cons (MLe.ownLen (enc := encNode) (d := dNode) (f := (cut 6 [vi 1, vi 0, vs ByteArray.empty, vi 0, vi 0, vi 0])) (RowIs.lit (enc := encNode) (d := dNode) (n := 1) (f := (cut 6 [vi 1, vi 0, vs ByteArray.empty, vi 0, vi 0, vi 0])) [(c5e1)] rfl (fun | 0, _ => rfl | n + 1, h => absurd h (by omega)))) (.cons .rfl .nil))) (.cons rfl (BLe.typed (RowIs.lit (enc := encNode) (d := dNode) (n := 1) (f := (cut 6 [vi 1, vi 0, vs ByteArray.empty, vi 0, vi 0, vi 0])) [(c5e1)] rfl (fun | 0, _ => rfl | n + 1, h => absurd h (by omega)))) .nil)) ?_)
 obtain rfl := sj hm
 exact DW.ret (retK [roNode [(c5e1)]] [1016] (.agg [ow 0 [(c5e1)].length, pI 2]))
abbrev o5 (ks : List Nat) (b : Bool) (RES : Tree) : Orc := .call 120 ks b (.agg [ow 0 RES.nodes.length, pI RES.next]) [] [roNode RES.nodes]

theorem New_ref6Spec (RES : Hierarchy) (hm : New_ref6 = some RES) : Spec Tryz.prog 64 [] [] (.agg [ow 0 RES.tree.nodes.length, pI RES.tree.next, ow 1 RES.tasks.length, pI RES.next]) [] [roNode RES.tree.nodes, roTask RES.tasks] := by
 unfold New_ref6 at hm
 refine SO Tryz.func64 rfl rfl [] [] ?_
 intro cx hnt
 refine Sq (RK hnt (.no :: []) [(0, rr 1000)] [(1000, bx [.p (.sl .nil 0 0 (fun _ => [])), pI 0, .p (.sl .nil 0 0 (fun _ => [])), pI 0])] tv ?_)
 obtain ⟨r1, hr1, hm⟩ := bo hm
 refine Sq (RK hnt (o5 [] true r1 :: nn 2 []) [(0, rr 1000)] [(1000, bx [ow 1008 r1.nodes.length, pI r1.next, .p (.sl .nil 0 0 (fun _ => [])), pI 1]), (1008, ob0 (roNode r1.nodes))] (an (New_ref5Spec r1 hr1) tv) ?_)
 refine DW.cv [] [] [] [(1000, bx [ow 1008 r1.nodes.length, pI r1.next, ow 100000 0, pI 1]), (100000, ob0 (roTask []))] (Conv.ads [(.o 1000 2, 100000, 4, elems encTask dTask [])]) ?_
 obtain rfl := sj hm
 exact DW.ret (retK [roNode r1.nodes, roTask []] [1008, 100000] (.agg [ow 0 r1.nodes.length, pI r1.next, ow 1 0, pI 1]))
abbrev o4 (ks : List Nat) (b : Bool) (RES : Hierarchy) : Orc := .call 64 ks b (.agg [ow 0 RES.tree.nodes.length, pI RES.tree.next, ow 1 RES.tasks.length, pI RES.next]) [] [roNode RES.tree.nodes, roTask RES.tasks]

abbrev c12e1 (p0 : ByteArray) (k1 : Int) : Nat × MV := (57, pB (!((((byteAt p0 (Int.toNat k1)) : Nat) : Int) == 45)))
theorem Valid_ref1Spec (p0 : ByteArray) (RES : Bool) (hm : Valid_ref1 p0 = some RES) : Spec Tryz.prog 163 [pS p0] [] (pB RES) [] [] := by
 unfold Valid_ref1 at hm
 refine SO Tryz.func163 rfl rfl [(0, pS p0)] [] ?_
 intro cx hnt
 refine Sq (RK hnt (.no :: []) [(0, pS p0)] [] tv ?_)
 refine Sq (Sq ?_)
 refine Jn (ι := Bool) (fun (y1 : Bool) => mkSt [(0, pS p0), (17, pB y1)] []) (fun y1 => (Valid_ref1J1 p0) y1 = some RES) ?_ ?_
 ·intro y1 hm
  unfold Valid_ref1J1 at hm
  refine condM hm ?_ ?_
  ·intro h4 hm
   refine Sq (RK hnt (.no :: []) [(2, pB false)] [] tv ?_)
   obtain rfl := sj hm
   exact DW.ret (retK [] [] (pB false))
  ·intro h4 hm
   refine Sk ?_
   refine Sq (Sq (RK hnt (.no :: []) [(0, pS p0), (3, pI 0)] [] tv ?_))
   refine Bk ?_
   obtain ⟨hc1, hm⟩ := go1 hm
   refine DW.forO (fun (k1 : Int) (s1 : Unit) => mkSt [(0, pS p0), (3, pI k1)] []) (lo := 0) (hi := ((p0.size : Nat) : Int)) hm .refl ?_
   intro k1 s1 n1 hk1 hs1 he1
   refine Sq (Sq (RD hnt (nn 4 []) [] [(21, pB (decide (k1 < ((p0.size : Nat) : Int))))] [] [] tv ?_))
   refine condK (decide (k1 < ((p0.size : Nat) : Int))) ?_ ?_
   ·intro h55
    have hlt1 : k1 < ((p0.size : Nat) : Int) := by have := of_decide_eq_true h55; omega
    have hm := hs1 hlt1
    unfold Valid_ref1L1 at hm
    refine Sk ?_
    refine Sq (Bk ?_)
    obtain ⟨g56, hm⟩ := go1 hm
    refine Sq (RD hnt (nn 4 []) [21] [(4, .p (vk .u8 (((byteAt p0 (Int.toNat k1)) : Nat) : Int)))] [] [] (an g56.1 (an g56.2 tv)) ?_)
    refine Sq (DW.regJ (sl2 := [(0, pS p0), (3, pI k1), (57, pB (!((((((decide ((((byteAt p0 (Int.toNat k1)) : Nat) : Int) ≥ 97)) && (decide ((((byteAt p0 (Int.toNat k1)) : Nat) : Int) ≤ 122))) || ((decide ((((byteAt p0 (Int.toNat k1)) : Nat) : Int) ≥ 65)) && (decide ((((byteAt p0 (Int.toNat k1)) : Nat) : Int) ≤ 90)))) || ((decide ((((byteAt p0 (Int.toNat k1)) : Nat) : Int) ≥ 48)) && (decide ((((byteAt p0 (Int.toNat k1)) : Nat) : Int) ≤ 57)))) || ((((byteAt p0 (Int.toNat k1)) : Nat) : Int) == 95)) || ((((byteAt p0 (Int.toNat k1)) : Nat) : Int) == 45))))]) (ob2 := []) ?_ ?_)
    ·rcases bt (decide ((((byteAt p0 (Int.toNat k1)) : Nat) : Int) ≥ 97)) with h57 | h57
     ·rcases bt (decide ((((byteAt p0 (Int.toNat k1)) : Nat) : Int) ≤ 122)) with h58 | h58
      ·exact RT hnt (nn 5 (pT :: .no :: sk 6 (pT :: .no :: sk 6 (pT :: .no :: sk 2 (pT :: .no :: sk 2 (pT :: .no :: [])))))) [(57, pB false)] (an3 h57 (an5 h58 (an5 tt (an6 tt tv)))) (by kernel_rfl) (.cons rfl (.of_eq (by rw [h57, h58]; try rfl)) .nil)
      ·rcases bt (decide ((((byteAt p0 (Int.toNat k1)) : Nat) : Int) ≥ 65)) with h59 | h59
       ·rcases bt (decide ((((byteAt p0 (Int.toNat k1)) : Nat) : Int) ≤ 90)) with h60 | h60
        ·exact RT hnt (nn 5 (pT :: nn 6 (pT :: pF :: .no :: sk 6 (pT :: .no :: sk 2 (pT :: .no :: sk 2 (pT :: .no :: [])))))) [(57, pB false)] (an3 h57 (an3 h58 (an2 h59 (an h58 (an h59 (an h58 (an5 h60 (an6 tt tv)))))))) (by kernel_rfl) (.cons rfl (.of_eq (by rw [h57, h58, h59, h60]; try rfl)) .nil)
        ·rcases bt (decide ((((byteAt p0 (Int.toNat k1)) : Nat) : Int) ≥ 48)) with h61 | h61
         ·rcases bt (decide ((((byteAt p0 (Int.toNat k1)) : Nat) : Int) ≤ 57)) with h62 | h62
          ·exact RT hnt (nn 5 (pT :: nn 6 (pT :: pF :: nn 6 (pT :: pF :: .no :: sk 2 (pT :: .no :: sk 2 (pT :: .no :: [])))))) [(57, pB false)] (an3 h57 (an3 h58 (an2 h59 (an h58 (an h59 (an h58 (an3 h60 (an2 h61 (an h60 (an h61 (an h60 (an3 h62 (an3 tt tv))))))))))))) (by kernel_rfl) (.cons rfl (.of_eq (by rw [h57, h58, h59, h60, h61, h62]; try rfl)) .nil)
          ·rcases bt ((((byteAt p0 (Int.toNat k1)) : Nat) : Int) == 95) with h63 | h63
           ·exact RT hnt (nn 5 (pT :: nn 6 (pT :: pF :: nn 6 (pT :: pF :: nn 3 (pF :: .no :: sk 2 (pT :: .no :: [])))))) [(57, pB false)] (an3 h57 (an3 h58 (an2 h59 (an h58 (an h59 (an h58 (an3 h60 (an2 h61 (an h60 (an h61 (an h60 (an3 h62 (an3 h63 tv))))))))))))) (by kernel_rfl) (.cons rfl (.of_eq (by rw [h57, h58, h59, h60, h61, h62, h63]; try rfl)) .nil)
           ·exact RT hnt (nn 5 (pT :: nn 6 (pT :: pF :: nn 6 (pT :: pF :: nn 3 (pF :: nn 3 (pF :: .no :: [])))))) [(c12e1 p0 k1)] (an3 h57 (an3 h58 (an2 h59 (an h58 (an h59 (an h58 (an3 h60 (an2 h61 (an h60 (an h61 (an h60 (an3 h62 (an3 h63 tv))))))))))))) (by kernel_rfl) (.cons rfl (.of_eq (by rw [h57, h58, h59, h60, h61, h62, h63]; try rfl)) .nil)
         ·rcases bt ((((byteAt p0 (Int.toNat k1)) : Nat) : Int) == 95) with h64 | h64
          ·exact RT hnt (nn 5 (pT :: nn 6 (pT :: pF :: nn 4 (sk 2 (pF :: pF :: nn 3 (pF :: .no :: sk 2 (pT :: .no :: []))))))) [(57, pB false)] (an3 h57 (an3 h58 (an2 h59 (an h58 (an h59 (an h58 (an3 h60 (an2 h61 (an h60 (an h61 (an h60 (an3 ff (an3 h64 tv))))))))))))) (by kernel_rfl) (.cons rfl (.of_eq (by rw [h57, h58, h59, h60, h61, h64]; try rfl)) .nil)
          ·exact RT hnt (nn 5 (pT :: nn 6 (pT :: pF :: nn 4 (sk 2 (pF :: pF :: nn 3 (pF :: nn 3 (pF :: .no :: []))))))) [(c12e1 p0 k1)] (an3 h57 (an3 h58 (an2 h59 (an h58 (an h59 (an h58 (an3 h60 (an2 h61 (an h60 (an h61 (an h60 (an3 ff (an3 h64 tv))))))))))))) (by kernel_rfl) (.cons rfl (.of_eq (by rw [h57, h58, h59, h60, h61, h64]; try rfl)) .nil)
       ·rcases bt (decide ((((byteAt p0 (Int.toNat k1)) : Nat) : Int) ≥ 48)) with h65 | h65
        ·rcases bt (decide ((((byteAt p0 (Int.toNat k1)) : Nat) : Int) ≤ 57)) with h66 | h66
         ·exact RT hnt (nn 5 (pT :: nn 4 (sk 2 (pF :: pF :: nn 6 (pT :: pF :: .no :: sk 2 (pT :: .no :: sk 2 (pT :: .no :: []))))))) [(57, pB false)] (an3 h57 (an3 h58 (an2 h59 (an h58 (an h59 (an h58 (an3 ff (an2 h65 (an ff (an h65 (an ff (an3 h66 (an3 tt tv))))))))))))) (by kernel_rfl) (.cons rfl (.of_eq (by rw [h57, h58, h59, h65, h66]; try rfl)) .nil)
         ·rcases bt ((((byteAt p0 (Int.toNat k1)) : Nat) : Int) == 95) with h67 | h67
          ·exact RT hnt (nn 5 (pT :: nn 4 (sk 2 (pF :: pF :: nn 6 (pT :: pF :: nn 3 (pF :: .no :: sk 2 (pT :: .no :: []))))))) [(57, pB false)] (an3 h57 (an3 h58 (an2 h59 (an h58 (an h59 (an h58 (an3 ff (an2 h65 (an ff (an h65 (an ff (an3 h66 (an3 h67 tv))))))))))))) (by kernel_rfl) (.cons rfl (.of_eq (by rw [h57, h58, h59, h65, h66, h67]; try rfl)) .nil)
          ·exact RT hnt (nn 5 (pT :: nn 4 (sk 2 (pF :: pF :: nn 6 (pT :: pF :: nn 3 (pF :: nn 3 (pF :: .no :: []))))))) [(c12e1 p0 k1)] (an3 h57 (an3 h58 (an2 h59 (an h58 (an h59 (an h58 (an3 ff (an2 h65 (an ff (an h65 (an ff (an3 h66 (an3 h67 tv))))))))))))) (by kernel_rfl) (.cons rfl (.of_eq (by rw [h57, h58, h59, h65, h66, h67]; try rfl)) .nil)
        ·rcases bt ((((byteAt p0 (Int.toNat k1)) : Nat) : Int) == 95) with h68 | h68
         ·exact RT hnt (nn 5 (pT :: nn 4 (sk 2 (pF :: pF :: nn 4 (sk 2 (pF :: pF :: nn 3 (pF :: .no :: sk 2 (pT :: .no :: [])))))))) [(57, pB false)] (an3 h57 (an3 h58 (an2 h59 (an h58 (an h59 (an h58 (an3 ff (an2 h65 (an ff (an h65 (an4 ff (an3 h68 tv)))))))))))) (by kernel_rfl) (.cons rfl (.of_eq (by rw [h57, h58, h59, h65, h68]; try rfl)) .nil)
         ·exact RT hnt (nn 5 (pT :: nn 4 (sk 2 (pF :: pF :: nn 4 (sk 2 (pF :: pF :: nn 3 (pF :: nn 3 (pF :: .no :: [])))))))) [(c12e1 p0 k1)] (an3 h57 (an3 h58 (an2 h59 (an h58 (an h59 (an h58 (an3 ff (an2 h65 (an ff (an h65 (an4 ff (an3 h68 tv)))))))))))) (by kernel_rfl) (.cons rfl (.of_eq (by rw [h57, h58, h59, h65, h68]; try rfl)) .nil)
     ·rcases bt (decide ((((byteAt p0 (Int.toNat k1)) : Nat) : Int) ≥ 65)) with h69 | h69
      ·rcases bt (decide ((((byteAt p0 (Int.toNat k1)) : Nat) : Int) ≤ 90)) with h70 | h70
       ·exact RT hnt (nn 3 (sk 2 (pF :: nn 6 (pT :: pF :: .no :: sk 6 (pT :: .no :: sk 2 (pT :: .no :: sk 2 (pT :: .no :: []))))))) [(57, pB false)] (an3 h57 (an3 ff (an2 h69 (an ff (an h69 (an ff (an5 h70 (an6 tt tv)))))))) (by kernel_rfl) (.cons rfl (.of_eq (by rw [h57, h69, h70]; try rfl)) .nil)
       ·rcases bt (decide ((((byteAt p0 (Int.toNat k1)) : Nat) : Int) ≥ 48)) with h71 | h71
        ·rcases bt (decide ((((byteAt p0 (Int.toNat k1)) : Nat) : Int) ≤ 57)) with h72 | h72
         ·exact RT hnt (nn 3 (sk 2 (pF :: nn 6 (pT :: pF :: nn 6 (pT :: pF :: .no :: sk 2 (pT :: .no :: sk 2 (pT :: .no :: []))))))) [(57, pB false)] (an3 h57 (an3 ff (an2 h69 (an ff (an h69 (an ff (an3 h70 (an2 h71 (an h70 (an h71 (an h70 (an3 h72 (an3 tt tv))))))))))))) (by kernel_rfl) (.cons rfl (.of_eq (by rw [h57, h69, h70, h71, h72]; try rfl)) .nil)
         ·rcases bt ((((byteAt p0 (Int.toNat k1)) : Nat) : Int) == 95) with h73 | h73
          ·exact RT hnt (nn 3 (sk 2 (pF :: nn 6 (pT :: pF :: nn 6 (pT :: pF :: nn 3 (pF :: .no :: sk 2 (pT :: .no :: []))))))) [(57, pB false)] (an3 h57 (an3 ff (an2 h69 (an ff (an h69 (an ff (an3 h70 (an2 h71 (an h70 (an h71 (an h70 (an3 h72 (an3 h73 tv))))))))))))) (by kernel_rfl) (.cons rfl (.of_eq (by rw [h57, h69, h70, h71, h72, h73]; try rfl)) .nil)
          ·exact RT hnt (nn 3 (sk 2 (pF :: nn 6 (pT :: pF :: nn 6 (pT :: pF :: nn 3 (pF :: nn 3 (pF :: .no :: []))))))) [(c12e1 p0 k1)] (an3 h57 (an3 ff (an2 h69 (an ff (an h69 (an ff (an3 h70 (an2 h71 (an h70 (an h71 (an h70 (an3 h72 (an3 h73 tv))))))))))))) (by kernel_rfl) (.cons rfl (.of_eq (by rw [h57, h69, h70, h71, h72, h73]; try rfl)) .nil)
        ·rcases bt ((((byteAt p0 (Int.toNat k1)) : Nat) : Int) == 95) with h74 | h74
         ·exact RT hnt (nn 3 (sk 2 (pF :: nn 6 (pT :: pF :: nn 4 (sk 2 (pF :: pF :: nn 3 (pF :: .no :: sk 2 (pT :: .no :: [])))))))) [(57, pB false)] (an3 h57 (an3 ff (an2 h69 (an ff (an h69 (an ff (an3 h70 (an2 h71 (an h70 (an h71 (an h70 (an3 ff (an3 h74 tv))))))))))))) (by kernel_rfl) (.cons rfl (.of_eq (by rw [h57, h69, h70, h71, h74]; try rfl)) .nil)
         ·exact RT hnt (nn 3 (sk 2 (pF :: nn 6 (pT :: pF :: nn 4 (sk 2 (pF :: pF :: nn 3 (pF :: nn 3 (pF :: .no :: [])))))))) [(c12e1 p0 k1)] (an3 h57 (an3 ff (an2 h69 (an ff (an h69 (an ff (an3 h70 (an2 h71 (an h70 (an h71 (an h70 (an3 ff (an3 h74 tv))))))))))))) (by kernel_rfl) (.cons rfl (.of_eq (by rw [h57, h69, h70, h71, h74]; try rfl)) .nil)
      ·rcases bt (decide ((((byteAt p0 (Int.toNat k1)) : Nat) : Int) ≥ 48)) with h75 | h75
       ·rcases bt (decide ((((byteAt p0 (Int.toNat k1)) : Nat) : Int) ≤ 57)) with h76 | h76
        ·exact RT hnt (nn 3 (sk 2 (pF :: nn 4 (sk 2 (pF :: pF :: nn 6 (pT :: pF :: .no :: sk 2 (pT :: .no :: sk 2 (pT :: .no :: [])))))))) [(57, pB false)] (an3 h57 (an3 ff (an2 h69 (an ff (an h69 (an4 ff (an2 h75 (an ff (an h75 (an ff (an3 h76 (an3 tt tv)))))))))))) (by kernel_rfl) (.cons rfl (.of_eq (by rw [h57, h69, h75, h76]; try rfl)) .nil)
        ·rcases bt ((((byteAt p0 (Int.toNat k1)) : Nat) : Int) == 95) with h77 | h77
         ·exact RT hnt (nn 3 (sk 2 (pF :: nn 4 (sk 2 (pF :: pF :: nn 6 (pT :: pF :: nn 3 (pF :: .no :: sk 2 (pT :: .no :: [])))))))) [(57, pB false)] (an3 h57 (an3 ff (an2 h69 (an ff (an h69 (an4 ff (an2 h75 (an ff (an h75 (an ff (an3 h76 (an3 h77 tv)))))))))))) (by kernel_rfl) (.cons rfl (.of_eq (by rw [h57, h69, h75, h76, h77]; try rfl)) .nil)
         ·exact RT hnt (nn 3 (sk 2 (pF :: nn 4 (sk 2 (pF :: pF :: nn 6 (pT :: pF :: nn 3 (pF :: nn 3 (pF :: .no :: [])))))))) [(c12e1 p0 k1)] (an3 h57 (an3 ff (an2 h69 (an ff (an h69 (an4 ff (an2 h75 (an ff (an h75 (an ff (an3 h76 (an3 h77 tv)))))))))))) (by kernel_rfl) (.cons rfl (.of_eq (by rw [h57, h69, h75, h76, h77]; try rfl)) .nil)
       ·rcases bt ((((byteAt p0 (Int.toNat k1)) : Nat) : Int) == 95) with h78 | h78
        ·exact RT hnt (nn 3 (sk 2 (pF :: nn 4 (sk 2 (pF :: pF :: nn 4 (sk 2 (pF :: pF :: nn 3 (pF :: .no :: sk 2 (pT :: .no :: []))))))))) [(57, pB false)] (an3 h57 (an3 ff (an2 h69 (an ff (an h69 (an4 ff (an2 h75 (an ff (an h75 (an4 ff (an3 h78 tv))))))))))) (by kernel_rfl) (.cons rfl (.of_eq (by rw [h57, h69, h75, h78]; try rfl)) .nil)
        ·exact RT hnt (nn 3 (sk 2 (pF :: nn 4 (sk 2 (pF :: pF :: nn 4 (sk 2 (pF :: pF :: nn 3 (pF :: nn 3 (pF :: .no :: []))))))))) [(c12e1 p0 k1)] (an3 h57 (an3 ff (an2 h69 (an ff (an h69 (an4 ff (an2 h75 (an ff (an h75 (an4 ff (an3 h78 tv))))))))))) (by kernel_rfl) (.cons rfl (.of_eq (by rw [h57, h69, h75, h78]; try rfl)) .nil)
    ·refine condM hm ?_ ?_
     ·intro h79 hm
      refine Sq (RK hnt (.no :: []) [(2, pB false)] [] tv ?_)
      obtain rfl := sj hm
      exact DW.ret (retK [] [] (pB false))
     ·intro h79 hm
      refine Sk ?_
      refine DW.done ?_
      show DW _ _ _ _ _
      refine RK hnt (nn 3 []) [(0, pS p0), (3, pI (w64 (k1 + 1)))] [] tv ?_
      exact jD () ⟨hlt1, hm⟩ (Conv.tp [(3, pI (w64 (k1 + 1)))] [] (by kernel_rfl) (.cons rfl (.of_eq (congrArg pI (w64_for (lo := 0) (hi := ((p0.size : Nat) : Int)) (by omega) hk1 hlt1 (by omega)))) .nil) .nil)
   ·intro h55
    have hge1 : ¬ k1 < ((p0.size : Nat) : Int) := by have := of_decide_eq_false h55; omega
    have hm := he1 hge1
    unfold Valid_ref1D1 at hm
    refine DW.exit ?_
    refine joinQ_exit ?_
    refine KQ_exit ?_
    refine blockQ_exit ?_
    show DW _ _ _ _ _
    refine Sq (RK hnt (.no :: []) [(2, pB true)] [] tv ?_)
    obtain rfl := sj hm
    exact DW.ret (retK [] [] (pB true))
 ·rcases bt (((p0.size : Nat) : Int) == 0) with h1 | h1
  ·replace hm := if_t h1 hm
   refine RK hnt (nn 4 (sk 3 (pT :: .no :: sk 3 (pT :: [])))) [(0, pS p0), (17, pB true)] [] (an4 h1 (an4 tt tv)) ?_
   exact jD true hm .refl
  ·replace hm := if_f h1 hm
   rcases bt (decide (((p0.size : Nat) : Int) > 32)) with h2 | h2
   ·replace hm := if_t h2 hm
    refine RK hnt (nn 7 (pF :: .no :: sk 3 (pT :: []))) [(0, pS p0), (17, pB true)] [] (an4 h1 (an4 h2 tv)) ?_
    exact jD true hm .refl
   ·replace hm := if_f h2 hm
    obtain ⟨g3, hm⟩ := go1 hm
    refine RK hnt (nn 7 (pF :: nn 4 (pF :: []))) [(0, pS p0), (17, pB ((((byteAt p0 0) : Nat) : Int) == 45))] [] (an4 h1 (an2 h2 (an (nn0 0) (an (ltc g3) (an2 h2 tv))))) ?_
    exact jD ((((byteAt p0 0) : Nat) : Int) == 45) hm .refl
abbrev o12 (ks : List Nat) (b : Bool) (RES : Bool) : Orc := .call 163 ks b (pB RES) [] []

abbrev c11e1 (p0 : Tree) (p1 : Int) := (p0.nodes.getD (Int.toNat p1) dNode)
abbrev c11e2 (p0 : Tree) (p1 : Int) : Nat × Obj := (1040, bx (pm (encNode (c11e1 p0 p1))))
abbrev c11e3 (p0 : Tree) : Nat × Obj := (1016, bx (pm (encTree p0)))
abbrev c11e4 (p0 : Tree) (k1 : Int) := (p0.nodes.getD (Int.toNat k1) dNode)
theorem node_ref5Spec (p0 : Tree) (p1 : Int) (RES : Bool) (hm : node_ref5 p0 p1 = some RES) : Spec Tryz.prog 154 [.p (.agg (encTree p0)), pI p1] [] (pB RES) [] [] := by
 unfold node_ref5 at hm
 refine SO Tryz.func154 rfl rfl [(0, .p (.agg (encTree p0))), (1, pI p1)] [] ?_
 intro cx hnt
 refine Sq (RK hnt (nn 2 []) [(1, pI p1), (2, rr 1016)] [(c11e3 p0)] tv ?_)
 obtain ⟨g1, hm⟩ := go1 hm
 refine Sq (RD hnt (nn 7 []) [] [(5, rr 1040)] [] [(c11e2 p0 p1)] (an g1.1 (an g1.2 tv)) ?_)
 refine Sq (Sq (DW.regJ (sl2 := [(1, pI p1), (2, rr 1016), (5, rr 1040), (40, pB (((((((c11e1 p0 p1).kind != 0) && ((c11e1 p0 p1).kind != 1)) || (decide ((c11e1 p0 p1).control < 0))) || (decide ((c11e1 p0 p1).control > 31))) || (decide ((c11e1 p0 p1).owner < 0))) || (decide ((c11e1 p0 p1).owner > 1048576))))]) (ob2 := [(c11e3 p0), (c11e2 p0 p1)]) ?_ ?_))
 ·rcases bt ((c11e1 p0 p1).kind != 0) with h2 | h2
  ·rcases bt ((c11e1 p0 p1).kind != 1) with h3 | h3
   ·exact RT hnt (nn 7 (pT :: .no :: sk 3 (pT :: .no :: sk 3 (pT :: .no :: sk 3 (pT :: .no :: sk 3 (pT :: [])))))) [(40, pB true)] (an4 h2 (an4 h3 (an6 tt (an6 tt tv)))) (by kernel_rfl) (.cons rfl (.of_eq (by rw [h2, h3]; try rfl)) .nil)
   ·rcases bt (decide ((c11e1 p0 p1).control < 0)) with h4 | h4
    ·exact RT hnt (nn 7 (pT :: nn 4 (pF :: .no :: sk 3 (pT :: .no :: sk 3 (pT :: .no :: sk 3 (pT :: [])))))) [(40, pB true)] (an4 h2 (an4 h3 (an4 h4 (an2 tt (an6 tt tv))))) (by kernel_rfl) (.cons rfl (.of_eq (by rw [h2, h3, h4]; try rfl)) .nil)
    ·rcases bt (decide ((c11e1 p0 p1).control > 31)) with h5 | h5
     ·exact RT hnt (nn 7 (pT :: nn 4 (pF :: nn 4 (pF :: .no :: sk 3 (pT :: .no :: sk 3 (pT :: [])))))) [(40, pB true)] (an4 h2 (an4 h3 (an4 h4 (an4 h5 (an4 tt tv))))) (by kernel_rfl) (.cons rfl (.of_eq (by rw [h2, h3, h4, h5]; try rfl)) .nil)
     ·rcases bt (decide ((c11e1 p0 p1).owner < 0)) with h6 | h6
      ·exact RT hnt (nn 7 (pT :: nn 4 (pF :: nn 4 (pF :: nn 4 (pF :: .no :: sk 3 (pT :: [])))))) [(40, pB true)] (an4 h2 (an4 h3 (an4 h4 (an4 h5 (an4 h6 tv))))) (by kernel_rfl) (.cons rfl (.of_eq (by rw [h2, h3, h4, h5, h6]; try rfl)) .nil)
      ·exact RT hnt (nn 7 (pT :: nn 4 (pF :: nn 4 (pF :: nn 4 (pF :: nn 4 (pF :: [])))))) [(40, pB (decide ((c11e1 p0 p1).owner > 1048576)))] (an4 h2 (an4 h3 (an4 h4 (an4 h5 (an4 h6 tv))))) (by kernel_rfl) (.cons rfl (.of_eq (by rw [h2, h3, h4, h5, h6]; try rfl)) .nil)
  ·rcases bt (decide ((c11e1 p0 p1).control < 0)) with h7 | h7
   ·exact RT hnt (nn 4 (sk 3 (pF :: nn 4 (pF :: .no :: sk 3 (pT :: .no :: sk 3 (pT :: .no :: sk 3 (pT :: []))))))) [(40, pB true)] (an4 h2 (an4 ff (an4 h7 (an2 tt (an6 tt tv))))) (by kernel_rfl) (.cons rfl (.of_eq (by rw [h2, h7]; try rfl)) .nil)
   ·rcases bt (decide ((c11e1 p0 p1).control > 31)) with h8 | h8
    ·exact RT hnt (nn 4 (sk 3 (pF :: nn 4 (pF :: nn 4 (pF :: .no :: sk 3 (pT :: .no :: sk 3 (pT :: []))))))) [(40, pB true)] (an4 h2 (an4 ff (an4 h7 (an4 h8 (an4 tt tv))))) (by kernel_rfl) (.cons rfl (.of_eq (by rw [h2, h7, h8]; try rfl)) .nil)
    ·rcases bt (decide ((c11e1 p0 p1).owner < 0)) with h9 | h9
     ·exact RT hnt (nn 4 (sk 3 (pF :: nn 4 (pF :: nn 4 (pF :: nn 4 (pF :: .no :: sk 3 (pT :: []))))))) [(40, pB true)] (an4 h2 (an4 ff (an4 h7 (an4 h8 (an4 h9 tv))))) (by kernel_rfl) (.cons rfl (.of_eq (by rw [h2, h7, h8, h9]; try rfl)) .nil)
     ·exact RT hnt (nn 4 (sk 3 (pF :: nn 4 (pF :: nn 4 (pF :: nn 4 (pF :: nn 4 (pF :: []))))))) [(40, pB (decide ((c11e1 p0 p1).owner > 1048576)))] (an4 h2 (an4 ff (an4 h7 (an4 h8 (an4 h9 tv))))) (by kernel_rfl) (.cons rfl (.of_eq (by rw [h2, h7, h8, h9]; try rfl)) .nil)
 ·refine condM hm ?_ ?_
  ·intro h10 hm
   refine Sq (RK hnt (.no :: []) [(4, pB false)] [] tv ?_)
   obtain rfl := sj hm
   exact DW.ret (retK [] [] (pB false))
  ·intro h10 hm
   refine Sk ?_
   refine Sq (Sq (RD hnt (nn 2 []) [40] [(42, pB (p1 == 0))] [] [] tv ?_))
   refine condM hm ?_ ?_
   ·intro h11 hm
    refine Sq (DW.regJ (sl2 := [(4, pB (((((c11e1 p0 p1).id == 1) && ((c11e1 p0 p1).parent == 0)) && (beqS (c11e1 p0 p1).name ByteArray.empty)) && ((c11e1 p0 p1).kind == 0)))]) (ob2 := []) ?_ ?_)
    ·rcases bt ((c11e1 p0 p1).id == 1) with h12 | h12
     ·rcases bt ((c11e1 p0 p1).parent == 0) with h13 | h13
      ·rcases bt (beqS (c11e1 p0 p1).name ByteArray.empty) with h14 | h14
       ·exact RT hnt (nn 7 (pT :: nn 4 (pT :: nn 4 (pT :: .no :: [])))) [(4, pB ((c11e1 p0 p1).kind == 0))] (an4 h12 (an4 h13 (an4 h14 tv))) (by kernel_rfl) (.cons rfl (.of_eq (by rw [h12, h13, h14]; try rfl)) .nil)
       ·exact RT hnt (nn 7 (pT :: nn 4 (pT :: .no :: sk 3 (pF :: .no :: [])))) [(4, pB false)] (an4 h12 (an4 h13 (an4 h14 tv))) (by kernel_rfl) (.cons rfl (.of_eq (by rw [h12, h13, h14]; try rfl)) .nil)
      ·exact RT hnt (nn 7 (pT :: .no :: sk 3 (pF :: .no :: sk 3 (pF :: .no :: [])))) [(4, pB false)] (an4 h12 (an4 h13 (an4 ff tv))) (by kernel_rfl) (.cons rfl (.of_eq (by rw [h12, h13]; try rfl)) .nil)
     ·exact RT hnt (nn 4 (sk 3 (pF :: .no :: sk 3 (pF :: .no :: sk 3 (pF :: .no :: []))))) [(4, pB false)] (an4 h12 (an2 ff (an6 ff tv))) (by kernel_rfl) (.cons rfl (.of_eq (by rw [h12]; try rfl)) .nil)
    ·refine DW.ret ?_
     obtain rfl := sj hm
     exact retK [] [] (pB (((((c11e1 p0 p1).id == 1) && ((c11e1 p0 p1).parent == 0)) && (beqS (c11e1 p0 p1).name ByteArray.empty)) && ((c11e1 p0 p1).kind == 0)))
   ·intro h11 hm
    refine Sk ?_
    obtain ⟨g15, hm⟩ := go1 hm
    refine Sq (Sq ?_)
    refine Jn (ι := Bool) (fun (y1 : Bool) => mkSt [(1, pI p1), (2, rr 1016), (5, rr 1040), (76, pB y1)] [(c11e3 p0), (c11e2 p0 p1)]) (fun y1 => (node_ref5J1 p0 p1) y1 = some RES) ?_ ?_
    ·intro y1 hm
     unfold node_ref5J1 at hm
     refine condM hm ?_ ?_
     ·intro h18 hm
      refine Sq (RK hnt (.no :: []) [(4, pB false)] [] tv ?_)
      obtain rfl := sj hm
      exact DW.ret (retK [] [] (pB false))
     ·intro h18 hm
      refine Sk ?_
      refine Sq (RD hnt (.no :: []) [76] [(6, pB false)] [] [] tv ?_)
      refine Sq (Sq (RD hnt (.no :: []) [] [(7, pI 0)] [] [] tv ?_))
      refine Bk ?_
      obtain ⟨hc1, hm⟩ := go1 hm
      refine DW.forO (fun (k1 : Int) (s1 : Bool) => mkSt [(1, pI p1), (2, rr 1016), (5, rr 1040), (6, pB s1), (7, pI k1)] [(c11e3 p0), (c11e2 p0 p1)]) (lo := 0) (hi := p1) hm Conv.eqK ?_
      intro k1 s1 n1 hk1 hs1 he1
      refine Sq (Sq (RD hnt (nn 3 []) [] [(79, pB (decide (k1 < p1)))] [] [] tv ?_))
      refine condK (decide (k1 < p1)) ?_ ?_
      ·intro h32
       have hlt1 : k1 < p1 := by have := of_decide_eq_true h32; omega
       have hm := hs1 hlt1
       unfold node_ref5L1 at hm
       refine Sk ?_
       refine Sq (Bk ?_)
       refine Sq ?_
       refine Jn (ι := Bool) (fun (y5 : Bool) => mkSt [(1, pI p1), (2, rr 1016), (5, rr 1040), (6, pB y5), (7, pI k1)] [(c11e3 p0), (c11e2 p0 p1)]) (fun y5 => (node_ref5J5 p0 p1 k1 n1) y5 = some RES) ?_ ?_
       ·intro y5 hm
        unfold node_ref5J5 at hm
        obtain ⟨g35, hm⟩ := go1 hm
        refine Sq ?_
        refine Jn (ι := Bool) (fun (y6 : Bool) => mkSt [(1, pI p1), (2, rr 1016), (5, rr 1040), (6, pB y5), (7, pI k1), (113, pB y6)] [(c11e3 p0), (c11e2 p0 p1)]) (fun y6 => (node_ref5J6 n1 y5) y6 = some RES) ?_ ?_
        ·intro y6 hm
         unfold node_ref5J6 at hm
         refine condM hm ?_ ?_
         ·intro h38 hm
          refine Sq (RK hnt (.no :: []) [(4, pB false)] [] tv ?_)
          obtain rfl := sj hm
          exact DW.ret (retK [] [] (pB false))
         ·intro h38 hm
          refine Sk ?_
          refine DW.done ?_
          show DW _ _ _ _ _
          refine RD hnt (nn 3 []) [113] [(7, pI (w64 (k1 + 1)))] [] [] tv ?_
          exact jD y5 ⟨hlt1, hm⟩ (Conv.tp [(7, pI (w64 (k1 + 1)))] [] (by kernel_rfl) (.cons rfl (.of_eq (congrArg pI (w64_for (lo := 0) (hi := p1) (by omega) hk1 hlt1 (by omega)))) .nil) .nil)
        ·rcases bt ((c11e4 p0 k1).parent == (c11e1 p0 p1).parent) with h36 | h36
         ·replace hm := if_t h36 hm
          obtain ⟨g37, hm⟩ := go1 hm
          refine RD hnt (nn 19 (pT :: [])) [] [(113, pB (beqS (c11e4 p0 k1).name (c11e1 p0 p1).name))] [] [] (an g35.1 (an g35.2 (an4 h36 (an g37.1 (an g37.2 (an6 h36 tv)))))) ?_
          exact jD (beqS (c11e4 p0 k1).name (c11e1 p0 p1).name) hm Conv.eqK
         ·replace hm := if_f h36 hm
          refine RD hnt (nn 10 (sk 9 (pF :: []))) [] [(113, pB false)] [] [] (an g35.1 (an g35.2 (an4 h36 (an6 h36 tv)))) ?_
          exact jD false hm Conv.eqK
       ·rcases bt s1 with h33 | h33
        ·replace hm := if_t h33 hm
         refine RD hnt (nn 2 (sk 9 (pT :: .no :: []))) [79] [(6, pB true)] [] [] (an4 h33 (an6 h33 tv)) ?_
         exact jD true hm Conv.eqK
        ·replace hm := if_f h33 hm
         obtain ⟨g34, hm⟩ := go1 hm
         refine RD hnt (nn 11 (pF :: .no :: [])) [79] [(6, pB ((c11e4 p0 k1).id == (c11e1 p0 p1).parent))] [] [] (an4 h33 (an g34.1 (an g34.2 (an6 h33 tv)))) ?_
         exact jD ((c11e4 p0 k1).id == (c11e1 p0 p1).parent) hm Conv.eqK
      ·intro h32
       have hge1 : ¬ k1 < p1 := by have := of_decide_eq_false h32; omega
       have hm := he1 hge1
       unfold node_ref5D1 at hm
       refine DW.exit ?_
       refine joinQ_exit ?_
       refine KQ_exit ?_
       refine blockQ_exit ?_
       show DW _ _ _ _ _
       refine Sq (RK hnt (nn 2 []) [(4, pB s1)] [] tv ?_)
       obtain rfl := sj hm
       exact DW.ret (retK [] [] (pB s1))
    ·rcases bt (decide ((c11e1 p0 p1).id ≤ (p0.nodes.getD (Int.toNat (w64 (p1 - 1))) dNode).id)) with h16 | h16
     ·replace hm := if_t h16 hm
      refine RD hnt (nn 11 (sk 4 (pT :: []))) [42] [(76, pB true)] [] [] (an g15.1 (an g15.2 (an5 h16 tv))) ?_
      exact jD true hm Conv.eqK
     ·replace hm := if_f h16 hm
      obtain ⟨r17, hr17, hm⟩ := bo hm
      refine RD hnt (nn 13 (o12 [] true r17 :: .no :: pF :: [])) [42] [(76, pB (!r17))] [] [] (an g15.1 (an g15.2 (an3 h16 (an (Valid_ref1Spec (c11e1 p0 p1).name r17 hr17) (an2 h16 tv))))) ?_
      exact jD (!r17) hm Conv.eqK
abbrev o11 (ks : List Nat) (b : Bool) (RES : Bool) : Orc := .call 154 ks b (pB RES) [] []

theorem up_ref5Spec (p0 : Tree) (p1 : Int) (RES : List Int) (hm : up_ref5 p0 p1 = some RES) : Spec Tryz.prog 89 [.p (.agg (encTree p0)), pI p1] [] (ow 0 RES.length) [] [roI RES] := by
 unfold up_ref5 at hm
 refine SO Tryz.func89 rfl rfl [(0, .p (.agg (encTree p0))), (1, pI p1)] [] ?_
 intro cx hnt
 refine Sq (RK hnt (nn 2 []) [(1, pI p1), (2, rr 1016)] [(1016, bx (pm (encTree p0)))] tv ?_)
 refine Sq (RD hnt (.no :: []) [] [(5, .p (.sl .nil 0 0 (fun _ => [])))] [] [] tv ?_)
 refine Sq (Sq (RD hnt (nn 5 []) [] [(6, pI (w64 (((p0.nodes.length : Nat) : Int) - 1)))] [] [] tv ?_))
 refine Bk ?_
 refine DW.whileO (fun (s1 : (List Int) × Int × Int) => mkSt [(1, pI s1.2.1), (2, rr 1016), (5, ow 1208 s1.1.length), (6, pI s1.2.2)] [(1016, bx (pm (encTree p0))), (1208, ob0 (roI s1.1))]) hm (Conv.ads [(.s 5, 1208, 1, elems encI 0 [])]) ?_
 intro s1 n1 hm
 unfold up_ref5L1 at hm
 refine Sq (Sq (RD hnt (nn 2 []) [] [(12, pB (decide (s1.2.2 ≥ 0)))] [] [] tv ?_))
 refine condM hm ?_ ?_
 ·intro h5 hm
  refine Sk ?_
  refine Sq ?_
  refine Jn (ι := (List Int) × Int) (fun (y2 : (List Int) × Int) => mkSt [(1, pI y2.2), (2, rr 1016), (5, ow 1208 y2.1.length), (6, pI s1.2.2)] [(1016, bx (pm (encTree p0))), (1208, ob0 (roI y2.1))]) (fun y2 => (up_ref5J2 s1 n1) y2 = some RES) ?_ ?_
  ·intro y2 hm
   unfold up_ref5J2 at hm
   refine RD hnt (nn 3 []) [] [(6, pI (w64 (s1.2.2 - 1)))] [] [] tv ?_
   exact jD (y2.1, y2.2, (w64 (s1.2.2 - 1))) hm Conv.eqK
  ·refine Bk ?_
   obtain ⟨g6, hm⟩ := go1 hm
   refine Sq (RD hnt (nn 8 []) [12] [(22, pB ((p0.nodes.getD (Int.toNat s1.2.2) dNode).id == s1.2.1))] [] [] (an g6.1 (an g6.2 tv)) ?_)
   refine condM hm ?_ ?_
   ·intro h7 hm
    obtain ⟨g8, hm⟩ := go1 hm
    refine Sq (RN hnt (nn 5 []) [(2, rr 1016), (5, ow 1208 (s1.1 ++ [s1.2.1]).length), (6, pI s1.2.2)] [(1016, bx (pm (encTree p0))), (1208, ob0 (roI (s1.1 ++ [s1.2.1])))] [(5, ow 1208 (s1.1.length + 1))] [(1208, .row 1 (s1.1.length + 1) (catF s1.1.length (elI s1.1) (cut 1 [vi s1.2.1])))] (an (by omega : (s1.1.length + 1) * 8 ≤ 140737488355328) tv) (by kernel_rfl) (.cons rfl (MLe.ownLen (enc := encI) (d := 0) (f := (catF s1.1.length (elI s1.1) (cut 1 [vi s1.2.1]))) (RowIs.cat RowIs.elems (RowIs.lit (enc := encI) (d := 0) (n := 1) (f := (cut 1 [vi s1.2.1])) [s1.2.1] rfl (fun | 0, _ => rfl | n + 1, h => absurd h (by omega))))) .nil) (.cons rfl (BLe.typed (RowIs.cat RowIs.elems (RowIs.lit (enc := encI) (d := 0) (n := 1) (f := (cut 1 [vi s1.2.1])) [s1.2.1] rfl (fun | 0, _ => rfl | n + 1, h => absurd h (by omega))))) .nil) ?_)
    obtain ⟨g9, hm⟩ := go1 hm
    refine RD hnt (nn 7 []) [] [(1, pI (p0.nodes.getD (Int.toNat s1.2.2) dNode).parent)] [] [] (an g9.1 (an g9.2 tv)) ?_
    exact bD ((s1.1 ++ [s1.2.1]), (p0.nodes.getD (Int.toNat s1.2.2) dNode).parent) hm Conv.eqK
   ·intro h7 hm
    refine Sk ?_
    exact bD (s1.1, s1.2.1) hm Conv.t0
 ·intro h5 hm
  refine DW.exit ?_
  refine joinQ_exit ?_
  refine KQ_exit ?_
  refine blockQ_exit ?_
  show DW _ _ _ _ _
  refine Sq (RK hnt (nn 2 []) [(4, ow 1208 s1.1.length)] [(1208, ob0 (roI s1.1))] tv ?_)
  obtain rfl := sj hm
  exact DW.ret (retK [roI s1.1] [1208] (ow 0 s1.1.length))
abbrev o13 (ks : List Nat) (b : Bool) (RES : List Int) : Orc := .call 89 ks b (ow 0 RES.length) [] [roI RES]

abbrev c10e1 (p0 : Tree) : Nat × MV := (3, pI ((p0.nodes.length : Nat) : Int))
theorem Check_ref5Spec (p0 : Tree) (RES : Bool) (hm : Check_ref5 p0 = some RES) : Spec Tryz.prog 110 [.p (.agg (encTree p0))] [] (pB RES) [] [] := by
 unfold Check_ref5 at hm
 refine SO Tryz.func110 rfl rfl [(0, .p (.agg (encTree p0)))] [] ?_
 intro cx hnt
 refine Sq (RK hnt (nn 2 []) [(1, rr 1008)] [(1008, bx (pm (encTree p0)))] tv ?_)
 refine Sq (RD hnt (nn 4 []) [] [(c10e1 p0)] [] [] tv ?_)
 refine Sq (Sq (DW.regJ (sl2 := [(1, rr 1008), (c10e1 p0), (14, pB ((decide (((p0.nodes.length : Nat) : Int) < 1)) || (decide (((p0.nodes.length : Nat) : Int) > 64))))]) (ob2 := [(1008, bx (pm (encTree p0)))]) ?_ ?_))
 ·rcases bt (decide (((p0.nodes.length : Nat) : Int) < 1)) with h1 | h1
  ·exact RT hnt (nn 3 (sk 2 (pT :: []))) [(14, pB true)] (an3 h1 tv) (by kernel_rfl) (.cons rfl (.of_eq (by rw [h1]; try rfl)) .nil)
  ·exact RT hnt (nn 5 (pF :: [])) [(14, pB (decide (((p0.nodes.length : Nat) : Int) > 64)))] (an3 h1 tv) (by kernel_rfl) (.cons rfl (.of_eq (by rw [h1]; try rfl)) .nil)
 ·refine condM hm ?_ ?_
  ·intro h2 hm
   refine Sq (RK hnt (.no :: []) [(2, pB false)] [] tv ?_)
   obtain rfl := sj hm
   exact DW.ret (retK [] [] (pB false))
  ·intro h2 hm
   refine Sk ?_
   refine Sq (Sq (RD hnt (.no :: []) [14] [(4, pI 0)] [] [] tv ?_))
   refine Bk ?_
   obtain ⟨hc1, hm⟩ := go1 hm
   refine DW.rangeO (fun (k1 : Nat) (s1 : Unit) => mkSt [(1, rr 1008), (c10e1 p0), (4, pI ((k1 : Nat) : Int))] [(1008, bx (pm (encTree p0)))]) dNode hm Conv.eqK ?_
   intro k1 s1 n1 hk1 hs1 he1
   refine Sq (Sq (RD hnt (nn 3 []) [] [(17, pB (decide (((k1 : Nat) : Int) < ((p0.nodes.length : Nat) : Int))))] [] [] tv ?_))
   refine condK (decide (((k1 : Nat) : Int) < ((p0.nodes.length : Nat) : Int))) ?_ ?_
   ·intro h32
    have hlt1 : k1 < p0.nodes.length := by have := of_decide_eq_true h32; omega
    have hm := hs1 hlt1
    unfold Check_ref5L1 at hm
    refine Sk ?_
    refine Sq (Bk ?_)
    obtain ⟨r33, hr33, hm⟩ := bo hm
    refine Sq (RD hnt (nn 2 (o11 [] true r33 :: .no :: [])) [17] [(23, pB (!r33))] [] [] (an (node_ref5Spec p0 ((k1 : Nat) : Int) r33 hr33) tv) ?_)
    refine condM hm ?_ ?_
    ·intro h34 hm
     refine Sq (RK hnt (.no :: []) [(2, pB false)] [] tv ?_)
     obtain rfl := sj hm
     exact DW.ret (retK [] [] (pB false))
    ·intro h34 hm
     refine Sk ?_
     refine DW.done ?_
     show DW _ _ _ _ _
     refine RD hnt (nn 3 []) [23] [(4, pI (w64 (((k1 : Nat) : Int) + 1)))] [] [] tv ?_
     exact jD () ⟨hlt1, hm⟩ (Conv.tp [(4, pI (w64 (((k1 : Nat) : Int) + 1)))] [] (by kernel_rfl) (.cons rfl (.of_eq (congrArg pI (w64_succ hlt1 hc1))) .nil) .nil)
   ·intro h32
    have hge1 : ¬ k1 < p0.nodes.length := by have := of_decide_eq_false h32; omega
    have hm := he1 hge1
    unfold Check_ref5D1 at hm
    refine DW.exit ?_
    refine joinQ_exit ?_
    refine KQ_exit ?_
    refine blockQ_exit ?_
    show DW _ _ _ _ _
    refine Sq (Sq (RD hnt (.no :: []) [4, 17] [(5, pI 0)] [] [] tv ?_))
    refine Bk ?_
    obtain ⟨hc4, hm⟩ := go1 hm
    refine DW.rangeO (fun (k4 : Nat) (s4 : Unit) => mkSt [(1, rr 1008), (c10e1 p0), (5, pI ((k4 : Nat) : Int))] [(1008, bx (pm (encTree p0)))]) dNode hm Conv.eqK ?_
    intro k4 s4 n4 hk4 hs4 he4
    refine Sq (Sq (RD hnt (nn 3 []) [] [(26, pB (decide (((k4 : Nat) : Int) < ((p0.nodes.length : Nat) : Int))))] [] [] tv ?_))
    refine condK (decide (((k4 : Nat) : Int) < ((p0.nodes.length : Nat) : Int))) ?_ ?_
    ·intro h49
     have hlt4 : k4 < p0.nodes.length := by have := of_decide_eq_true h49; omega
     have hm := hs4 hlt4
     unfold Check_ref5L4 at hm
     refine Sk ?_
     refine Sq (Bk ?_)
     obtain ⟨r50, hr50, hm⟩ := bo hm
     refine Sq (RD hnt (nn 7 (o13 [] true r50 :: nn 2 [])) [26] [(38, pB (decide (((r50.length : Nat) : Int) > 9)))] [] [] (an (nn0 k4) (an (ltc hlt4) (an (up_ref5Spec p0 (p0.nodes.getD k4 (default : Node)).id r50 hr50) tv))) ?_)
     refine condM hm ?_ ?_
     ·intro h51 hm
      refine Sq (RK hnt (.no :: []) [(2, pB false)] [] tv ?_)
      obtain rfl := sj hm
      exact DW.ret (retK [] [] (pB false))
     ·intro h51 hm
      refine Sk ?_
      refine DW.done ?_
      show DW _ _ _ _ _
      refine RD hnt (nn 3 []) [38] [(5, pI (w64 (((k4 : Nat) : Int) + 1)))] [] [] tv ?_
      exact jD () ⟨hlt4, hm⟩ (Conv.tp [(5, pI (w64 (((k4 : Nat) : Int) + 1)))] [] (by kernel_rfl) (.cons rfl (.of_eq (congrArg pI (w64_succ hlt4 hc4))) .nil) .nil)
    ·intro h49
     have hge4 : ¬ k4 < p0.nodes.length := by have := of_decide_eq_false h49; omega
     have hm := he4 hge4
     unfold Check_ref5D4 at hm
     refine DW.exit ?_
     refine joinQ_exit ?_
     refine KQ_exit ?_
     refine blockQ_exit ?_
     show DW _ _ _ _ _
     obtain ⟨g52, hm⟩ := go1 hm
     refine Sq ?_
     refine Jn (ι := Bool) (fun (y7 : Bool) => mkSt [(2, pB y7)] []) (fun y7 => Check_ref5J7 y7 = some RES) ?_ ?_
     ·intro y7 hm
      unfold Check_ref5J7 at hm
      obtain rfl := sj hm
      exact DW.ret (retK [] [] (pB y7))
     ·rcases bt (decide (p0.next > (p0.nodes.getD (Int.toNat (w64 (((p0.nodes.length : Nat) : Int) - 1))) dNode).id)) with h53 | h53
      ·replace hm := if_t h53 hm
       refine RK hnt (nn 14 (pT :: .no :: [])) [(2, pB (decide (p0.next ≤ 2147483648)))] [] (an g52.1 (an g52.2 (an4 h53 tv))) ?_
       exact jD (decide (p0.next ≤ 2147483648)) hm .refl
      ·replace hm := if_f h53 hm
       refine RK hnt (nn 11 (sk 3 (pF :: .no :: []))) [(2, pB false)] [] (an g52.1 (an g52.2 (an4 h53 tv))) ?_
       exact jD false hm .refl
abbrev o10 (ks : List Nat) (b : Bool) (RES : Bool) : Orc := .call 110 ks b (pB RES) [] []

theorem leader_ref6Spec (p0 : List Task) (p1 : Int) (RES : Task × Bool) (hm : leader_ref6 p0 p1 = some RES) : Spec Tryz.prog 111 [.p (slTask p0), pI p1] [] (.p (.tup [.agg (encTask RES.1), vb RES.2])) [] [] := by
 unfold leader_ref6 at hm
 refine SO Tryz.func111 rfl rfl [(0, .p (slTask p0)), (1, pI p1)] [] ?_
 intro cx hnt
 refine Sq (RD hnt (nn 2 []) [] [(4, rr 1032)] [] [(1032, bx [pI 0, pI 0, pI 0, pI 0])] tv ?_)
 refine Sq (Sq (RD hnt (.no :: []) [] [(6, pI 0)] [] [] tv ?_))
 refine Bk ?_
 obtain ⟨hc1, hm⟩ := go1 hm
 refine DW.rangeO (fun (k1 : Nat) (s1 : Unit) => mkSt [(0, .p (slTask p0)), (1, pI p1), (4, rr 1032), (6, pI ((k1 : Nat) : Int))] [(1032, bx [pI 0, pI 0, pI 0, pI 0])]) dTask hm Conv.eqK ?_
 intro k1 s1 n1 hk1 hs1 he1
 refine Sq (Sq (RD hnt (nn 4 []) [] [(10, pB (decide (((k1 : Nat) : Int) < ((p0.length : Nat) : Int))))] [] [] tv ?_))
 refine condK (decide (((k1 : Nat) : Int) < ((p0.length : Nat) : Int))) ?_ ?_
 ·intro h11
  have hlt1 : k1 < p0.length := by have := of_decide_eq_true h11; omega
  have hm := hs1 hlt1
  unfold leader_ref6L1 at hm
  refine Sk ?_
  refine Sq (Bk ?_)
  refine Sq (RD hnt (nn 7 []) [10] [(19, pB ((p0.getD k1 (default : Task)).id == p1))] [] [] (an (nn0 k1) (an (ltc hlt1) tv)) ?_)
  refine condM hm ?_ ?_
  ·intro h12 hm
   refine Sq (RK hnt (nn 13 []) [(4, rr 1032), (5, pB ((p0.getD k1 (default : Task)).process == p1))] [(1032, bx (pm (encTask (p0.getD k1 (default : Task)))))] (an (nn0 k1) (an (ltc hlt1) (an (nn0 k1) (an (ltc hlt1) tv)))) ?_)
   obtain rfl := sj hm
   exact DW.ret (retK [] [] (.p (.tup [.agg (encTask (p0.getD k1 (default : Task))), vb ((p0.getD k1 (default : Task)).process == p1)])))
  ·intro h12 hm
   refine Sk ?_
   refine DW.done ?_
   show DW _ _ _ _ _
   refine RD hnt (nn 3 []) [19] [(6, pI (w64 (((k1 : Nat) : Int) + 1)))] [] [] tv ?_
   exact jD () ⟨hlt1, hm⟩ (Conv.tp [(6, pI (w64 (((k1 : Nat) : Int) + 1)))] [] (by kernel_rfl) (.cons rfl (.of_eq (congrArg pI (w64_succ hlt1 hc1))) .nil) .nil)
 ·intro h11
  have hge1 : ¬ k1 < p0.length := by have := of_decide_eq_false h11; omega
  have hm := he1 hge1
  unfold leader_ref6D1 at hm
  refine DW.exit ?_
  refine joinQ_exit ?_
  refine KQ_exit ?_
  refine blockQ_exit ?_
  show DW _ _ _ _ _
  refine Sq (RD hnt (nn 3 []) [0, 1, 6, 10] [(5, pB false)] [] [] tv ?_)
  obtain rfl := sj hm
  exact DW.ret (retK [] [] (.p (.tup [.agg [vi 0, vi 0, vi 0, vi 0], vb false])))
abbrev o14 (ks : List Nat) (b : Bool) (RES : Task × Bool) : Orc := .call 111 ks b (.p (.tup [.agg (encTask RES.1), vb RES.2])) [] []

theorem Find_ref5Spec (p0 : Tree) (p1 : Int) (RES : Node × Bool) (hm : Find_ref5 p0 p1 = some RES) : Spec Tryz.prog 135 [.p (.agg (encTree p0)), pI p1] [] (.p (.tup [.agg (encNode RES.1), vb RES.2])) [] [] := by
 unfold Find_ref5 at hm
 refine SO Tryz.func135 rfl rfl [(0, .p (.agg (encTree p0))), (1, pI p1)] [] ?_
 intro cx hnt
 refine Sq (RK hnt (nn 3 []) [(1, pI p1), (2, rr 1016), (4, rr 1032)] [(1016, bx (pm (encTree p0))), (1032, bx [pI 0, pI 0, pS ByteArray.empty, pI 0, pI 0, pI 0])] tv ?_)
 obtain ⟨r1, hr1, hm⟩ := bo hm
 refine Sq (Sq (RD hnt (.no :: o10 [] true r1 :: .no :: []) [] [(9, pB (!r1))] [] [] (an (Check_ref5Spec p0 r1 hr1) tv) ?_))
 refine condM hm ?_ ?_
 ·intro h2 hm
  refine Sq (RD hnt (nn 3 []) [1, 2, 9] [(5, pB false)] [1016] [] tv ?_)
  obtain rfl := sj hm
  exact DW.ret (retK [] [] (.p (.tup [.agg [vi 0, vi 0, vs ByteArray.empty, vi 0, vi 0, vi 0], vb false])))
 ·intro h2 hm
  refine Sk ?_
  refine Sq (Sq (RD hnt (.no :: []) [9] [(6, pI 0)] [] [] tv ?_))
  refine Bk ?_
  obtain ⟨hc1, hm⟩ := go1 hm
  refine DW.rangeO (fun (k1 : Nat) (s1 : Unit) => mkSt [(1, pI p1), (2, rr 1016), (4, rr 1032), (6, pI ((k1 : Nat) : Int))] [(1016, bx (pm (encTree p0))), (1032, bx [pI 0, pI 0, pS ByteArray.empty, pI 0, pI 0, pI 0])]) dNode hm Conv.eqK ?_
  intro k1 s1 n1 hk1 hs1 he1
  refine Sq (Sq (RD hnt (nn 5 []) [] [(15, pB (decide (((k1 : Nat) : Int) < ((p0.nodes.length : Nat) : Int))))] [] [] tv ?_))
  refine condK (decide (((k1 : Nat) : Int) < ((p0.nodes.length : Nat) : Int))) ?_ ?_
  ·intro h11
   have hlt1 : k1 < p0.nodes.length := by have := of_decide_eq_true h11; omega
   have hm := hs1 hlt1
   unfold Find_ref5L1 at hm
   refine Sk ?_
   refine Sq (Bk ?_)
   refine Sq (RD hnt (nn 8 []) [15] [(25, pB ((p0.nodes.getD k1 (default : Node)).id == p1))] [] [] (an (nn0 k1) (an (ltc hlt1) tv)) ?_)
   refine condM hm ?_ ?_
   ·intro h12 hm
    refine Sq (RK hnt (nn 7 []) [(4, rr 1032), (5, pB true)] [(1032, bx (pm (encNode (p0.nodes.getD k1 (default : Node)))))] (an (nn0 k1) (an (ltc hlt1) tv)) ?_)
    obtain rfl := sj hm
    exact DW.ret (retK [] [] (.p (.tup [.agg (encNode (p0.nodes.getD k1 (default : Node))), vb true])))
   ·intro h12 hm
    refine Sk ?_
    refine DW.done ?_
    show DW _ _ _ _ _
    refine RD hnt (nn 3 []) [25] [(6, pI (w64 (((k1 : Nat) : Int) + 1)))] [] [] tv ?_
    exact jD () ⟨hlt1, hm⟩ (Conv.tp [(6, pI (w64 (((k1 : Nat) : Int) + 1)))] [] (by kernel_rfl) (.cons rfl (.of_eq (congrArg pI (w64_succ hlt1 hc1))) .nil) .nil)
  ·intro h11
   have hge1 : ¬ k1 < p0.nodes.length := by have := of_decide_eq_false h11; omega
   have hm := he1 hge1
   unfold Find_ref5D1 at hm
   refine DW.exit ?_
   refine joinQ_exit ?_
   refine KQ_exit ?_
   refine blockQ_exit ?_
   show DW _ _ _ _ _
   refine Sq (RD hnt (nn 3 []) [1, 2, 6, 15] [(5, pB false)] [1016] [] tv ?_)
   obtain rfl := sj hm
   exact DW.ret (retK [] [] (.p (.tup [.agg [vi 0, vi 0, vs ByteArray.empty, vi 0, vi 0, vi 0], vb false])))
abbrev o16 (ks : List Nat) (b : Bool) (RES : Node × Bool) : Orc := .call 135 ks b (.p (.tup [.agg (encNode RES.1), vb RES.2])) [] []

theorem Has_ref5Spec (p0 : Tree) (p1 : Int) (RES : Bool) (hm : Has_ref5 p0 p1 = some RES) : Spec Tryz.prog 88 [.p (.agg (encTree p0)), pI p1] [] (pB RES) [] [] := by
 unfold Has_ref5 at hm
 refine SO Tryz.func88 rfl rfl [(0, .p (.agg (encTree p0))), (1, pI p1)] [] ?_
 intro cx hnt
 refine Sq (RK hnt (nn 2 []) [(1, pI p1), (2, rr 1016)] [(1016, bx (pm (encTree p0)))] tv ?_)
 obtain ⟨r1, hr1, hm⟩ := bo hm
 refine Sq (RK hnt (nn 2 (o16 [] true r1 :: nn 6 [])) [(6, pB r1.2)] [] (an (Find_ref5Spec p0 p1 r1 hr1) tv) ?_)
 refine Sq (RK hnt (nn 2 []) [(4, pB r1.2)] [] tv ?_)
 obtain rfl := sj hm
 exact DW.ret (retK [] [] (pB r1.2))
abbrev o15 (ks : List Nat) (b : Bool) (RES : Bool) : Orc := .call 88 ks b (pB RES) [] []

abbrev c9e1 (p0 : Hierarchy) (k1 : Nat) := (p0.tasks.getD k1 (default : Task))
abbrev c9e2 (p0 : Hierarchy) : Nat × MV := (3, pI ((p0.tasks.length : Nat) : Int))
theorem Check_ref6Spec (p0 : Hierarchy) (RES : Bool) (hm : Check_ref6 p0 = some RES) : Spec Tryz.prog 52 [.p (.agg (encHierarchy p0))] [] (pB RES) [] [] := by
 unfold Check_ref6 at hm
 refine SO Tryz.func52 rfl rfl [(0, .p (.agg (encHierarchy p0)))] [] ?_
 intro cx hnt
 refine Sq (RK hnt (nn 2 []) [(1, rr 1008)] [(1008, bx (pm (encHierarchy p0)))] tv ?_)
 refine Sq (RD hnt (nn 4 []) [] [(c9e2 p0)] [] [] tv ?_)
 obtain ⟨r1, hr1, hm⟩ := bo hm
 refine Sq (Sq ?_)
 refine Jn (ι := Bool) (fun (y1 : Bool) => mkSt [(1, rr 1008), (c9e2 p0), (44, pB y1)] [(1008, bx (pm (encHierarchy p0)))]) (fun y1 => (Check_ref6J1 p0) y1 = some RES) ?_ ?_
 ·intro y1 hm
  unfold Check_ref6J1 at hm
  refine condM hm ?_ ?_
  ·intro h8 hm
   refine Sq (RK hnt (.no :: []) [(2, pB false)] [] tv ?_)
   obtain rfl := sj hm
   exact DW.ret (retK [] [] (pB false))
  ·intro h8 hm
   refine Sk ?_
   refine Sq (Sq (RD hnt (.no :: []) [44] [(4, pI 0)] [] [] tv ?_))
   refine Bk ?_
   obtain ⟨hc1, hm⟩ := go1 hm
   refine DW.rangeO (fun (k1 : Nat) (s1 : Unit) => mkSt [(1, rr 1008), (c9e2 p0), (4, pI ((k1 : Nat) : Int))] [(1008, bx (pm (encHierarchy p0)))]) dTask hm Conv.eqK ?_
   intro k1 s1 n1 hk1 hs1 he1
   refine Sq (Sq (RD hnt (nn 3 []) [] [(47, pB (decide (((k1 : Nat) : Int) < ((p0.tasks.length : Nat) : Int))))] [] [] tv ?_))
   refine condK (decide (((k1 : Nat) : Int) < ((p0.tasks.length : Nat) : Int))) ?_ ?_
   ·intro h45
    have hlt1 : k1 < p0.tasks.length := by have := of_decide_eq_true h45; omega
    have hm := hs1 hlt1
    unfold Check_ref6L1 at hm
    refine Sk ?_
    refine Sq (Bk ?_)
    refine Sq (RD hnt (nn 7 []) [47] [(5, rr 1040)] [] [(1040, bx (pm (encTask (c9e1 p0 k1))))] (an (nn0 k1) (an (ltc hlt1) tv)) ?_)
    obtain ⟨r46, hr46, hm⟩ := bo hm
    refine Sq (RD hnt (nn 4 (o14 [] true r46 :: nn 6 [])) [] [(6, rr 1048), (7, pB r46.2)] [] [(1048, bx (pm (encTask r46.1)))] (an (leader_ref6Spec p0.tasks (c9e1 p0 k1).process r46 hr46) tv) ?_)
    refine Sq ?_
    refine Jn (ι := Bool) (fun (y4 : Bool) => mkSt [(1, rr 1008), (c9e2 p0), (4, pI ((k1 : Nat) : Int)), (110, pB y4)] [(1008, bx (pm (encHierarchy p0)))]) (fun y4 => (Check_ref6J4 n1) y4 = some RES) ?_ ?_
    ·intro y4 hm
     unfold Check_ref6J4 at hm
     refine condM hm ?_ ?_
     ·intro h61 hm
      refine Sq (RK hnt (.no :: []) [(2, pB false)] [] tv ?_)
      obtain rfl := sj hm
      exact DW.ret (retK [] [] (pB false))
     ·intro h61 hm
      refine Sk ?_
      refine DW.done ?_
      show DW _ _ _ _ _
      refine RD hnt (nn 3 []) [110] [(4, pI (w64 (((k1 : Nat) : Int) + 1)))] [] [] tv ?_
      exact jD () ⟨hlt1, hm⟩ (Conv.tp [(4, pI (w64 (((k1 : Nat) : Int) + 1)))] [] (by kernel_rfl) (.cons rfl (.of_eq (congrArg pI (w64_succ hlt1 hc1))) .nil) .nil)
    ·rcases bt (decide ((c9e1 p0 k1).id < 1)) with h47 | h47
     ·replace hm := if_t h47 hm
      refine RD hnt (nn 4 (sk 14 (pT :: .no :: sk 6 (pT :: .no :: sk 3 (pT :: .no :: sk 3 (pT :: .no :: sk 2 (pT :: .no :: sk 5 (pT :: [])))))))) [5, 6, 7] [(110, pB true)] [1040, 1048] [] (an5 h47 (an6 tt (an6 tt (an6 tt (an6 tt tv))))) ?_
      exact jD true hm Conv.eqK
     ·replace hm := if_f h47 hm
      rcases bt (decide (((k1 : Nat) : Int) > 0)) with h48 | h48
      ·replace hm := if_t h48 hm
       obtain ⟨g49, hm⟩ := go1 hm
       rcases bt (decide ((p0.tasks.getD (Int.toNat (w64 (((k1 : Nat) : Int) - 1))) dTask).id ≥ (c9e1 p0 k1).id)) with h50 | h50
       ·replace hm := if_t h50 hm
        refine RD hnt (nn 17 (pT :: pF :: .no :: sk 6 (pT :: .no :: sk 3 (pT :: .no :: sk 3 (pT :: .no :: sk 2 (pT :: .no :: sk 5 (pT :: []))))))) [5, 6, 7] [(110, pB true)] [1040, 1048] [] (an3 h47 (an5 h48 (an g49.1 (an g49.2 (an5 h48 (an h47 (an h48 (an h47 (an h50 (an6 h50 (an5 tt (an6 tt (an6 tt tv))))))))))))) ?_
        exact jD true hm Conv.eqK
       ·replace hm := if_f h50 hm
        obtain ⟨r51, hr51, hm⟩ := bo hm
        rcases bt (!r51) with h52 | h52
        ·replace hm := if_t h52 hm
         refine RD hnt (nn 17 (pT :: pF :: nn 5 (o15 [] true r51 :: .no :: pF :: .no :: sk 3 (pT :: .no :: sk 3 (pT :: .no :: sk 2 (pT :: .no :: sk 5 (pT :: []))))))) [5, 6, 7] [(110, pB true)] [1040, 1048] [] (an3 h47 (an5 h48 (an g49.1 (an g49.2 (an5 h48 (an h47 (an h48 (an h47 (an5 h50 (an (Has_ref5Spec p0.tree (c9e1 p0 k1).group r51 hr51) (an2 h50 (an4 h52 (an tt (an6 tt (an6 tt tv))))))))))))))) ?_
         exact jD true hm Conv.eqK
        ·replace hm := if_f h52 hm
         rcases bt (decide ((c9e1 p0 k1).user < 0)) with h53 | h53
         ·replace hm := if_t h53 hm
          refine RD hnt (nn 17 (pT :: pF :: nn 5 (o15 [] true r51 :: .no :: pF :: nn 4 (pF :: .no :: sk 3 (pT :: .no :: sk 2 (pT :: .no :: sk 5 (pT :: []))))))) [5, 6, 7] [(110, pB true)] [1040, 1048] [] (an3 h47 (an5 h48 (an g49.1 (an g49.2 (an5 h48 (an h47 (an h48 (an h47 (an5 h50 (an (Has_ref5Spec p0.tree (c9e1 p0 k1).group r51 hr51) (an2 h50 (an4 h52 (an4 h53 (an3 tt (an6 tt tv))))))))))))))) ?_
          exact jD true hm Conv.eqK
         ·replace hm := if_f h53 hm
          rcases bt (decide ((c9e1 p0 k1).user > 1048576)) with h54 | h54
          ·replace hm := if_t h54 hm
           refine RD hnt (nn 17 (pT :: pF :: nn 5 (o15 [] true r51 :: .no :: pF :: nn 4 (pF :: nn 4 (pF :: .no :: sk 2 (pT :: .no :: sk 5 (pT :: []))))))) [5, 6, 7] [(110, pB true)] [1040, 1048] [] (an3 h47 (an5 h48 (an g49.1 (an g49.2 (an5 h48 (an h47 (an h48 (an h47 (an5 h50 (an (Has_ref5Spec p0.tree (c9e1 p0 k1).group r51 hr51) (an2 h50 (an4 h52 (an4 h53 (an3 h54 (an6 tt tv))))))))))))))) ?_
           exact jD true hm Conv.eqK
          ·replace hm := if_f h54 hm
           rcases bt (!r46.2) with h55 | h55
           ·replace hm := if_t h55 hm
            refine RD hnt (nn 17 (pT :: pF :: nn 5 (o15 [] true r51 :: .no :: pF :: nn 4 (pF :: nn 4 (pF :: nn 3 (pF :: .no :: sk 5 (pT :: []))))))) [5, 6, 7] [(110, pB true)] [1040, 1048] [] (an3 h47 (an5 h48 (an g49.1 (an g49.2 (an5 h48 (an h47 (an h48 (an h47 (an5 h50 (an (Has_ref5Spec p0.tree (c9e1 p0 k1).group r51 hr51) (an2 h50 (an4 h52 (an4 h53 (an3 h54 (an6 h55 tv))))))))))))))) ?_
            exact jD true hm Conv.eqK
           ·replace hm := if_f h55 hm
            refine RD hnt (nn 17 (pT :: pF :: nn 5 (o15 [] true r51 :: .no :: pF :: nn 4 (pF :: nn 4 (pF :: nn 3 (pF :: nn 6 (pF :: []))))))) [5, 6, 7] [(110, pB (r46.1.user != (c9e1 p0 k1).user))] [1040, 1048] [] (an3 h47 (an5 h48 (an g49.1 (an g49.2 (an5 h48 (an h47 (an h48 (an h47 (an5 h50 (an (Has_ref5Spec p0.tree (c9e1 p0 k1).group r51 hr51) (an2 h50 (an4 h52 (an4 h53 (an3 h54 (an6 h55 tv))))))))))))))) ?_
            exact jD (r46.1.user != (c9e1 p0 k1).user) hm Conv.eqK
      ·replace hm := if_f h48 hm
       obtain ⟨r56, hr56, hm⟩ := bo hm
       rcases bt (!r56) with h57 | h57
       ·replace hm := if_t h57 hm
        refine RD hnt (nn 7 (sk 10 (pF :: pF :: nn 5 (o15 [] true r56 :: .no :: pF :: .no :: sk 3 (pT :: .no :: sk 3 (pT :: .no :: sk 2 (pT :: .no :: sk 5 (pT :: [])))))))) [5, 6, 7] [(110, pB true)] [1040, 1048] [] (an3 h47 (an4 h48 (an6 h48 (an h47 (an h48 (an h47 (an5 ff (an (Has_ref5Spec p0.tree (c9e1 p0 k1).group r56 hr56) (an2 ff (an4 h57 (an tt (an6 tt (an6 tt tv))))))))))))) ?_
        exact jD true hm Conv.eqK
       ·replace hm := if_f h57 hm
        rcases bt (decide ((c9e1 p0 k1).user < 0)) with h58 | h58
        ·replace hm := if_t h58 hm
         refine RD hnt (nn 7 (sk 10 (pF :: pF :: nn 5 (o15 [] true r56 :: .no :: pF :: nn 4 (pF :: .no :: sk 3 (pT :: .no :: sk 2 (pT :: .no :: sk 5 (pT :: [])))))))) [5, 6, 7] [(110, pB true)] [1040, 1048] [] (an3 h47 (an4 h48 (an6 h48 (an h47 (an h48 (an h47 (an5 ff (an (Has_ref5Spec p0.tree (c9e1 p0 k1).group r56 hr56) (an2 ff (an4 h57 (an4 h58 (an3 tt (an6 tt tv))))))))))))) ?_
         exact jD true hm Conv.eqK
        ·replace hm := if_f h58 hm
         rcases bt (decide ((c9e1 p0 k1).user > 1048576)) with h59 | h59
         ·replace hm := if_t h59 hm
          refine RD hnt (nn 7 (sk 10 (pF :: pF :: nn 5 (o15 [] true r56 :: .no :: pF :: nn 4 (pF :: nn 4 (pF :: .no :: sk 2 (pT :: .no :: sk 5 (pT :: [])))))))) [5, 6, 7] [(110, pB true)] [1040, 1048] [] (an3 h47 (an4 h48 (an6 h48 (an h47 (an h48 (an h47 (an5 ff (an (Has_ref5Spec p0.tree (c9e1 p0 k1).group r56 hr56) (an2 ff (an4 h57 (an4 h58 (an3 h59 (an6 tt tv))))))))))))) ?_
          exact jD true hm Conv.eqK
         ·replace hm := if_f h59 hm
          rcases bt (!r46.2) with h60 | h60
          ·replace hm := if_t h60 hm
           refine RD hnt (nn 7 (sk 10 (pF :: pF :: nn 5 (o15 [] true r56 :: .no :: pF :: nn 4 (pF :: nn 4 (pF :: nn 3 (pF :: .no :: sk 5 (pT :: [])))))))) [5, 6, 7] [(110, pB true)] [1040, 1048] [] (an3 h47 (an4 h48 (an6 h48 (an h47 (an h48 (an h47 (an5 ff (an (Has_ref5Spec p0.tree (c9e1 p0 k1).group r56 hr56) (an2 ff (an4 h57 (an4 h58 (an3 h59 (an6 h60 tv))))))))))))) ?_
           exact jD true hm Conv.eqK
          ·replace hm := if_f h60 hm
           refine RD hnt (nn 7 (sk 10 (pF :: pF :: nn 5 (o15 [] true r56 :: .no :: pF :: nn 4 (pF :: nn 4 (pF :: nn 3 (pF :: nn 6 (pF :: [])))))))) [5, 6, 7] [(110, pB (r46.1.user != (c9e1 p0 k1).user))] [1040, 1048] [] (an3 h47 (an4 h48 (an6 h48 (an h47 (an h48 (an h47 (an5 ff (an (Has_ref5Spec p0.tree (c9e1 p0 k1).group r56 hr56) (an2 ff (an4 h57 (an4 h58 (an3 h59 (an6 h60 tv))))))))))))) ?_
           exact jD (r46.1.user != (c9e1 p0 k1).user) hm Conv.eqK
   ·intro h45
    have hge1 : ¬ k1 < p0.tasks.length := by have := of_decide_eq_false h45; omega
    have hm := he1 hge1
    unfold Check_ref6D1 at hm
    refine DW.exit ?_
    refine joinQ_exit ?_
    refine KQ_exit ?_
    refine blockQ_exit ?_
    show DW _ _ _ _ _
    refine Sq (RK hnt (.no :: []) [(2, pB true)] [] tv ?_)
    obtain rfl := sj hm
    exact DW.ret (retK [] [] (pB true))
 ·rcases bt (!r1) with h2 | h2
  ·replace hm := if_t h2 hm
   refine RD hnt (nn 2 (o10 [] true r1 :: nn 2 (sk 2 (pT :: .no :: sk 3 (pT :: .no :: sk 3 (pT :: .no :: sk 14 (pT :: []))))))) [] [(44, pB true)] [] [] (an (Check_ref5Spec p0.tree r1 hr1) (an3 h2 (an tt (an6 tt (an6 tt tv))))) ?_
   exact jD true hm Conv.eqK
  ·replace hm := if_f h2 hm
   rcases bt (decide (((p0.tasks.length : Nat) : Int) > 128)) with h3 | h3
   ·replace hm := if_t h3 hm
    refine RD hnt (nn 2 (o10 [] true r1 :: nn 4 (pF :: .no :: sk 3 (pT :: .no :: sk 3 (pT :: .no :: sk 14 (pT :: [])))))) [] [(44, pB true)] [] [] (an (Check_ref5Spec p0.tree r1 hr1) (an3 h2 (an4 h3 (an3 tt (an6 tt tv))))) ?_
    exact jD true hm Conv.eqK
   ·replace hm := if_f h3 hm
    rcases bt (decide (p0.next < 1)) with h4 | h4
    ·replace hm := if_t h4 hm
     refine RD hnt (nn 2 (o10 [] true r1 :: nn 4 (pF :: nn 4 (pF :: .no :: sk 3 (pT :: .no :: sk 14 (pT :: [])))))) [] [(44, pB true)] [] [] (an (Check_ref5Spec p0.tree r1 hr1) (an3 h2 (an4 h3 (an4 h4 (an5 tt tv))))) ?_
     exact jD true hm Conv.eqK
    ·replace hm := if_f h4 hm
     rcases bt (decide (p0.next > 2147483648)) with h5 | h5
     ·replace hm := if_t h5 hm
      refine RD hnt (nn 2 (o10 [] true r1 :: nn 4 (pF :: nn 4 (pF :: nn 4 (pF :: .no :: sk 14 (pT :: [])))))) [] [(44, pB true)] [] [] (an (Check_ref5Spec p0.tree r1 hr1) (an3 h2 (an4 h3 (an4 h4 (an5 h5 tv))))) ?_
      exact jD true hm Conv.eqK
     ·replace hm := if_f h5 hm
      rcases bt (decide (((p0.tasks.length : Nat) : Int) > 0)) with h6 | h6
      ·replace hm := if_t h6 hm
       obtain ⟨g7, hm⟩ := go1 hm
       refine RD hnt (nn 2 (o10 [] true r1 :: nn 4 (pF :: nn 4 (pF :: nn 4 (pF :: nn 14 (pT :: pF :: [])))))) [] [(44, pB (decide (p0.next ≤ (p0.tasks.getD (Int.toNat (w64 (((p0.tasks.length : Nat) : Int) - 1))) dTask).id)))] [] [] (an (Check_ref5Spec p0.tree r1 hr1) (an3 h2 (an4 h3 (an4 h4 (an3 h5 (an h6 (an6 h6 (an g7.1 (an g7.2 (an3 h6 (an h5 (an h6 (an h5 tv))))))))))))) ?_
       exact jD (decide (p0.next ≤ (p0.tasks.getD (Int.toNat (w64 (((p0.tasks.length : Nat) : Int) - 1))) dTask).id)) hm Conv.eqK
      ·replace hm := if_f h6 hm
       refine RD hnt (nn 2 (o10 [] true r1 :: nn 4 (pF :: nn 4 (pF :: nn 4 (pF :: nn 4 (sk 10 (pF :: pF :: []))))))) [] [(44, pB false)] [] [] (an (Check_ref5Spec p0.tree r1 hr1) (an3 h2 (an4 h3 (an4 h4 (an3 h5 (an4 h6 (an6 h6 (an h5 (an h6 (an h5 tv)))))))))) ?_
       exact jD false hm Conv.eqK
abbrev o9 (ks : List Nat) (b : Bool) (RES : Bool) : Orc := .call 52 ks b (pB RES) [] []

theorem Acting_ref7Spec (p0 : Tree) (p1 : Int) (RES : Int) (hm : Acting_ref7 p0 p1 = some RES) : Spec Tryz.prog 189 [.p (.agg (encTree p0)), pI p1] [] (pI RES) [] [] := by
 unfold Acting_ref7 at hm
 refine SO Tryz.func189 rfl rfl [(0, .p (.agg (encTree p0))), (1, pI p1)] [] ?_
 intro cx hnt
 refine Sq (RK hnt (nn 2 []) [(1, pI p1), (2, rr 1016)] [(1016, bx (pm (encTree p0)))] tv ?_)
 obtain ⟨r1, hr1, hm⟩ := bo hm
 refine Sq (RD hnt (nn 2 (o16 [] true r1 :: nn 6 [])) [] [(5, rr 1040), (6, pB r1.2)] [] [(1040, bx (pm (encNode r1.1)))] (an (Find_ref5Spec p0 p1 r1 hr1) tv) ?_)
 refine Sq (Sq (DW.regJ (sl2 := [(2, rr 1016), (5, rr 1040), (20, pB ((!r1.2) || (p1 == 1)))]) (ob2 := [(1016, bx (pm (encTree p0))), (1040, bx (pm (encNode r1.1)))]) ?_ ?_))
 ·rcases bt (!r1.2) with h2 | h2
  ·exact RT hnt (nn 3 (sk 2 (pT :: []))) [(20, pB true)] (an3 h2 tv) (by kernel_rfl) (.cons rfl (.of_eq (by rw [h2]; try rfl)) .nil)
  ·exact RT hnt (nn 5 (pF :: [])) [(20, pB (p1 == 1))] (an3 h2 tv) (by kernel_rfl) (.cons rfl (.of_eq (by rw [h2]; try rfl)) .nil)
 ·refine condM hm ?_ ?_
  ·intro h3 hm
   refine Sq (RK hnt (.no :: []) [(4, pI 0)] [] tv ?_)
   obtain rfl := sj hm
   exact DW.ret (retK [] [] (pI 0))
  ·intro h3 hm
   refine Sk ?_
   obtain ⟨r4, hr4, hm⟩ := bo hm
   refine Sq (RD hnt (nn 3 (o16 [] true r4 :: nn 6 [])) [2, 20] [(7, rr 1056)] [1016] [(1056, bx (pm (encNode r4.1)))] (an (Find_ref5Spec p0 r1.1.parent r4 hr4) tv) ?_)
   refine Sq (Sq (RD hnt (nn 3 []) [5] [(30, pB (r1.1.kind == 1))] [1040] [] tv ?_))
   refine condM hm ?_ ?_
   ·intro h5 hm
    refine Sq (RK hnt (nn 4 []) [(4, pI (kandNot .i64 r4.1.control 6))] [] tv ?_)
    obtain rfl := sj hm
    exact DW.ret (retK [] [] (pI (kandNot .i64 r4.1.control 6)))
   ·intro h5 hm
    refine Sk ?_
    refine Sq (RK hnt (nn 3 []) [(4, pI r4.1.control)] [] tv ?_)
    obtain rfl := sj hm
    exact DW.ret (retK [] [] (pI r4.1.control))
abbrev o18 (ks : List Nat) (b : Bool) (RES : Int) : Orc := .call 189 ks b (pI RES) [] []

theorem Available_ref7Spec (p0 : Tree) (p1 : Int) (RES : Int) (hm : Available_ref7 p0 p1 = some RES) : Spec Tryz.prog 174 [.p (.agg (encTree p0)), pI p1] [] (pI RES) [] [] := by
 unfold Available_ref7 at hm
 refine SO Tryz.func174 rfl rfl [(0, .p (.agg (encTree p0))), (1, pI p1)] [] ?_
 intro cx hnt
 refine Sq (RK hnt (nn 2 []) [(1, pI p1), (2, rr 1016)] [(1016, bx (pm (encTree p0)))] tv ?_)
 obtain ⟨r1, hr1, hm⟩ := bo hm
 refine Sq (RD hnt (nn 2 (o16 [] true r1 :: nn 6 [])) [] [(5, rr 1040), (6, pB r1.2)] [] [(1040, bx (pm (encNode r1.1)))] (an (Find_ref5Spec p0 p1 r1 hr1) tv) ?_)
 refine Sq (Sq (RD hnt (nn 2 []) [6] [(15, pB (!r1.2))] [] [] tv ?_))
 refine condM hm ?_ ?_
 ·intro h2 hm
  refine Sq (RK hnt (.no :: []) [(4, pI 0)] [] tv ?_)
  obtain rfl := sj hm
  exact DW.ret (retK [] [] (pI 0))
 ·intro h2 hm
  refine Sk ?_
  refine Sq (RD hnt (.no :: []) [15] [(7, pI 31)] [] [] tv ?_)
  refine Sq (Sq (RD hnt (nn 2 []) [] [(17, pB (p1 != 1))] [] [] tv ?_))
  refine Jn (ι := Int) (fun (y1 : Int) => mkSt [(5, rr 1040), (7, pI y1)] [(1040, bx (pm (encNode r1.1)))]) (fun y1 => (Available_ref7J1 r1) y1 = some RES) ?_ ?_
  ·intro y1 hm
   unfold Available_ref7J1 at hm
   refine Sq (Sq (RK hnt (nn 3 []) [(7, pI y1), (23, pB (r1.1.kind == 1))] [] tv ?_))
   refine Jn (ι := Int) (fun (y2 : Int) => mkSt [(7, pI y2)] []) (fun y2 => Available_ref7J2 y2 = some RES) ?_ ?_
   ·intro y2 hm
    unfold Available_ref7J2 at hm
    refine Sq (RK hnt (nn 2 []) [(4, pI y2)] [] tv ?_)
    obtain rfl := sj hm
    exact DW.ret (retK [] [] (pI y2))
   ·refine condM hm ?_ ?_
    ·intro h5 hm
     refine RK hnt (nn 3 []) [(7, pI (kandNot .i64 y1 6))] [] tv ?_
     exact jD (kandNot .i64 y1 6) hm .refl
    ·intro h5 hm
     refine Sk ?_
     exact jD y1 hm Conv.t0
  ·refine condM hm ?_ ?_
   ·intro h3 hm
    obtain ⟨r4, hr4, hm⟩ := bo hm
    refine RD hnt (nn 2 (o18 [] true r4 :: .no :: [])) [1, 2, 17] [(7, pI r4)] [1016] [] (an (Acting_ref7Spec p0 p1 r4 hr4) tv) ?_
    exact jD r4 hm Conv.eqK
   ·intro h3 hm
    refine Sk ?_
    exact jD 31 hm Conv.t0
abbrev o17 (ks : List Nat) (b : Bool) (RES : Int) : Orc := .call 174 ks b (pI RES) [] []

abbrev c19e1 (p0 : Hierarchy) (k1 : Nat) := (p0.tasks.getD k1 (default : Task))
theorem Tasks_ref6Spec (p0 : Hierarchy) (p1 : Int) (RES : List Int) (hm : Tasks_ref6 p0 p1 = some RES) : Spec Tryz.prog 26 [.p (.agg (encHierarchy p0)), pI p1] [] (ow 0 RES.length) [] [roI RES] := by
 unfold Tasks_ref6 at hm
 refine SO Tryz.func26 rfl rfl [(0, .p (.agg (encHierarchy p0))), (1, pI p1)] [] ?_
 intro cx hnt
 refine Sq (RK hnt (nn 2 []) [(1, pI p1), (2, rr 1016)] [(1016, bx (pm (encHierarchy p0)))] tv ?_)
 obtain ⟨r1, hr1, hm⟩ := bo hm
 refine Sq (Sq (RD hnt (.no :: o9 [] true r1 :: .no :: []) [] [(9, pB (!r1))] [] [] (an (Check_ref6Spec p0 r1 hr1) tv) ?_))
 refine condM hm ?_ ?_
 ·intro h2 hm
  refine Sq (RK hnt (.no :: []) [(4, .p (.sl .nil 0 0 (fun _ => [])))] [] tv ?_)
  refine DW.cv [] [(4, ow 100000 0)] [] [(100000, ob0 (roI []))] (Conv.ads [(.s 4, 100000, 1, elems encI 0 [])]) ?_
  obtain rfl := sj hm
  exact DW.ret (retK [roI []] [100000] (ow 0 0))
 ·intro h2 hm
  refine Sk ?_
  refine Sq (RD hnt (.no :: []) [9] [(5, .p (.sl .nil 0 0 (fun _ => [])))] [] [] tv ?_)
  refine Sq (Sq (RD hnt (.no :: []) [] [(6, pI 0)] [] [] tv ?_))
  refine Bk ?_
  obtain ⟨hc1, hm⟩ := go1 hm
  refine DW.rangeO (fun (k1 : Nat) (s1 : List Int) => mkSt [(1, pI p1), (2, rr 1016), (5, ow 1264 s1.length), (6, pI ((k1 : Nat) : Int))] [(1016, bx (pm (encHierarchy p0))), (1264, ob0 (roI s1))]) dTask hm (Conv.ads [(.s 5, 1264, 1, elems encI 0 [])]) ?_
  intro k1 s1 n1 hk1 hs1 he1
  refine Sq (Sq (RD hnt (nn 5 []) [] [(14, pB (decide (((k1 : Nat) : Int) < ((p0.tasks.length : Nat) : Int))))] [] [] tv ?_))
  refine condK (decide (((k1 : Nat) : Int) < ((p0.tasks.length : Nat) : Int))) ?_ ?_
  ·intro h12
   have hlt1 : k1 < p0.tasks.length := by have := of_decide_eq_true h12; omega
   have hm := hs1 hlt1
   unfold Tasks_ref6L1 at hm
   refine Sk ?_
   refine Sq ?_
   refine Jn (ι := List Int) (fun (y3 : List Int) => mkSt [(1, pI p1), (2, rr 1016), (5, ow 1264 y3.length), (6, pI ((k1 : Nat) : Int))] [(1016, bx (pm (encHierarchy p0))), (1264, ob0 (roI y3))]) (fun y3 => (Tasks_ref6J3 n1) y3 = some RES) ?_ ?_
   ·intro y3 hm
    unfold Tasks_ref6J3 at hm
    refine RD hnt (nn 3 []) [] [(6, pI (w64 (((k1 : Nat) : Int) + 1)))] [] [] tv ?_
    exact jD y3 ⟨hlt1, hm⟩ (Conv.tp [(6, pI (w64 (((k1 : Nat) : Int) + 1)))] [] (by kernel_rfl) (.cons rfl (.of_eq (congrArg pI (w64_succ hlt1 hc1))) .nil) .nil)
   ·refine Bk ?_
    refine Sq (RD hnt (nn 8 []) [14] [(24, pB ((c19e1 p0 k1).group == p1))] [] [] (an (nn0 k1) (an (ltc hlt1) tv)) ?_)
    refine condM hm ?_ ?_
    ·intro h13 hm
     obtain ⟨g14, hm⟩ := go1 hm
     refine RN hnt (nn 10 []) [(1, pI p1), (2, rr 1016), (5, ow 1264 (s1 ++ [(c19e1 p0 k1).id]).length), (6, pI ((k1 : Nat) : Int))] [(1016, bx (pm (encHierarchy p0))), (1264, ob0 (roI (s1 ++ [(c19e1 p0 k1).id])))] [(5, ow 1264 (s1.length + 1))] [(1264, .row 1 (s1.length + 1) (catF s1.length (elI s1) (cut 1 [vi (c19e1 p0 k1).id])))] (an (nn0 k1) (an (ltc hlt1) (an (by omega : (s1.length + 1) * 8 ≤ 140737488355328) tv))) (by kernel_rfl) (.cons rfl (MLe.ownLen (enc := encI) (d := 0) (f := (catF s1.length (elI s1) (cut 1 [vi (c19e1 p0 k1).id]))) (RowIs.cat RowIs.elems (RowIs.lit (enc := encI) (d := 0) (n := 1) (f := (cut 1 [vi (c19e1 p0 k1).id])) [(c19e1 p0 k1).id] rfl (fun | 0, _ => rfl | n + 1, h => absurd h (by omega))))) .nil) (.cons rfl (BLe.typed (RowIs.cat RowIs.elems (RowIs.lit (enc := encI) (d := 0) (n := 1) (f := (cut 1 [vi (c19e1 p0 k1).id])) [(c19e1 p0 k1).id] rfl (fun | 0, _ => rfl | n + 1, h => absurd h (by omega))))) .nil) ?_
     exact bD (s1 ++ [(c19e1 p0 k1).id]) hm .refl
    ·intro h13 hm
     refine Sk ?_
     exact bD s1 hm Conv.t0
  ·intro h12
   have hge1 : ¬ k1 < p0.tasks.length := by have := of_decide_eq_false h12; omega
   have hm := he1 hge1
   unfold Tasks_ref6D1 at hm
   refine DW.exit ?_
   refine joinQ_exit ?_
   refine KQ_exit ?_
   refine blockQ_exit ?_
   show DW _ _ _ _ _
   refine Sq (RK hnt (nn 2 []) [(4, ow 1264 s1.length)] [(1264, ob0 (roI s1))] tv ?_)
   obtain rfl := sj hm
   exact DW.ret (retK [roI s1] [1264] (ow 0 s1.length))
abbrev o19 (ks : List Nat) (b : Bool) (RES : List Int) : Orc := .call 26 ks b (ow 0 RES.length) [] [roI RES]

abbrev c8e1 (p0 : Hierarchy) (k1 : Nat) := (p0.tree.nodes.getD k1 (default : Node))
theorem Sound_ref7Spec (p0 : Hierarchy) (RES : Bool) (hm : Sound_ref7 p0 = some RES) : Spec Tryz.prog 162 [.p (.agg (encHierarchy p0))] [] (pB RES) [] [] := by
 unfold Sound_ref7 at hm
 refine SO Tryz.func162 rfl rfl [(0, .p (.agg (encHierarchy p0)))] [] ?_
 intro cx hnt
 refine Sq (RK hnt (nn 2 []) [(1, rr 1008)] [(1008, bx (pm (encHierarchy p0)))] tv ?_)
 obtain ⟨r1, hr1, hm⟩ := bo hm
 refine Sq (Sq (RD hnt (.no :: o9 [] true r1 :: .no :: []) [] [(7, pB (!r1))] [] [] (an (Check_ref6Spec p0 r1 hr1) tv) ?_))
 refine condM hm ?_ ?_
 ·intro h2 hm
  refine Sq (RK hnt (.no :: []) [(2, pB false)] [] tv ?_)
  obtain rfl := sj hm
  exact DW.ret (retK [] [] (pB false))
 ·intro h2 hm
  refine Sk ?_
  refine Sq (Sq (RD hnt (.no :: []) [7] [(3, pI 0)] [] [] tv ?_))
  refine Bk ?_
  obtain ⟨hc1, hm⟩ := go1 hm
  refine DW.rangeO (fun (k1 : Nat) (s1 : Unit) => mkSt [(1, rr 1008), (3, pI ((k1 : Nat) : Int))] [(1008, bx (pm (encHierarchy p0)))]) dNode hm Conv.eqK ?_
  intro k1 s1 n1 hk1 hs1 he1
  refine Sq (Sq (RD hnt (nn 6 []) [] [(13, pB (decide (((k1 : Nat) : Int) < ((p0.tree.nodes.length : Nat) : Int))))] [] [] tv ?_))
  refine condK (decide (((k1 : Nat) : Int) < ((p0.tree.nodes.length : Nat) : Int))) ?_ ?_
  ·intro h19
   have hlt1 : k1 < p0.tree.nodes.length := by have := of_decide_eq_true h19; omega
   have hm := hs1 hlt1
   unfold Sound_ref7L1 at hm
   refine Sk ?_
   refine Sq (Bk ?_)
   refine Sq (RD hnt (nn 8 []) [13] [(4, rr 1032)] [] [(1032, bx (pm (encNode (c8e1 p0 k1))))] (an (nn0 k1) (an (ltc hlt1) tv)) ?_)
   obtain ⟨r20, hr20, hm⟩ := bo hm
   refine Sq ?_
   refine Jn (ι := Bool) (fun (y3 : Bool) => mkSt [(1, rr 1008), (3, pI ((k1 : Nat) : Int)), (49, pB y3)] [(1008, bx (pm (encHierarchy p0)))]) (fun y3 => (Sound_ref7J3 n1) y3 = some RES) ?_ ?_
   ·intro y3 hm
    unfold Sound_ref7J3 at hm
    refine condM hm ?_ ?_
    ·intro h25 hm
     refine Sq (RK hnt (.no :: []) [(2, pB false)] [] tv ?_)
     obtain rfl := sj hm
     exact DW.ret (retK [] [] (pB false))
    ·intro h25 hm
     refine Sk ?_
     refine DW.done ?_
     show DW _ _ _ _ _
     refine RD hnt (nn 3 []) [49] [(3, pI (w64 (((k1 : Nat) : Int) + 1)))] [] [] tv ?_
     exact jD () ⟨hlt1, hm⟩ (Conv.tp [(3, pI (w64 (((k1 : Nat) : Int) + 1)))] [] (by kernel_rfl) (.cons rfl (.of_eq (congrArg pI (w64_succ hlt1 hc1))) .nil) .nil)
   ·rcases bt ((kandNot .i64 (c8e1 p0 k1).control r20) != 0) with h21 | h21
    ·replace hm := if_t h21 hm
     refine RD hnt (nn 6 (o17 [] true r20 :: nn 3 (sk 17 (pT :: [])))) [4] [(49, pB true)] [1032] [] (an (Available_ref7Spec p0.tree (c8e1 p0 k1).id r20 hr20) (an2 h21 (an6 h21 tv))) ?_
     exact jD true hm Conv.eqK
    ·replace hm := if_f h21 hm
     rcases bt ((c8e1 p0 k1).id != 1) with h22 | h22
     ·replace hm := if_t h22 hm
      rcases bt ((kand .i64 (c8e1 p0 k1).control 6) != 0) with h23 | h23
      ·replace hm := if_t h23 hm
       obtain ⟨r24, hr24, hm⟩ := bo hm
       refine RD hnt (nn 6 (o17 [] true r20 :: nn 11 (pT :: nn 4 (o19 [] true r24 :: nn 2 (pT :: pF :: []))))) [4] [(49, pB (decide (((r24.length : Nat) : Int) > 0)))] [1032] [] (an (Available_ref7Spec p0.tree (c8e1 p0 k1).id r20 hr20) (an4 h21 (an4 h22 (an h21 (an h22 (an h21 (an4 h23 (an (Tasks_ref6Spec p0 (c8e1 p0 k1).id r24 hr24) (an2 h23 (an h21 (an h23 (an h21 tv)))))))))))) ?_
       exact jD (decide (((r24.length : Nat) : Int) > 0)) hm Conv.eqK
      ·replace hm := if_f h23 hm
       refine RD hnt (nn 6 (o17 [] true r20 :: nn 11 (pT :: .no :: sk 6 (pF :: pF :: [])))) [4] [(49, pB false)] [1032] [] (an (Available_ref7Spec p0.tree (c8e1 p0 k1).id r20 hr20) (an4 h21 (an4 h22 (an h21 (an h22 (an h21 (an6 h23 (an h21 (an h23 (an h21 tv)))))))))) ?_
       exact jD false hm Conv.eqK
     ·replace hm := if_f h22 hm
      refine RD hnt (nn 6 (o17 [] true r20 :: nn 7 (sk 4 (pF :: .no :: sk 6 (pF :: pF :: []))))) [4] [(49, pB false)] [1032] [] (an (Available_ref7Spec p0.tree (c8e1 p0 k1).id r20 hr20) (an4 h21 (an4 h22 (an h21 (an h22 (an h21 (an6 ff (an h21 (an ff (an h21 tv)))))))))) ?_
      exact jD false hm Conv.eqK
  ·intro h19
   have hge1 : ¬ k1 < p0.tree.nodes.length := by have := of_decide_eq_false h19; omega
   have hm := he1 hge1
   unfold Sound_ref7D1 at hm
   refine DW.exit ?_
   refine joinQ_exit ?_
   refine KQ_exit ?_
   refine blockQ_exit ?_
   show DW _ _ _ _ _
   refine Sq (RK hnt (.no :: []) [(2, pB true)] [] tv ?_)
   obtain rfl := sj hm
   exact DW.ret (retK [] [] (pB true))
abbrev o8 (ks : List Nat) (b : Bool) (RES : Bool) : Orc := .call 162 ks b (pB RES) [] []

theorem Find_ref6Spec (p0 : Hierarchy) (p1 : Int) (RES : Task × Bool) (hm : Find_ref6 p0 p1 = some RES) : Spec Tryz.prog 53 [.p (.agg (encHierarchy p0)), pI p1] [] (.p (.tup [.agg (encTask RES.1), vb RES.2])) [] [] := by
 unfold Find_ref6 at hm
 refine SO Tryz.func53 rfl rfl [(0, .p (.agg (encHierarchy p0))), (1, pI p1)] [] ?_
 intro cx hnt
 refine Sq (RK hnt (nn 3 []) [(1, pI p1), (2, rr 1016), (4, rr 1032)] [(1016, bx (pm (encHierarchy p0))), (1032, bx [pI 0, pI 0, pI 0, pI 0])] tv ?_)
 obtain ⟨r1, hr1, hm⟩ := bo hm
 refine Sq (Sq (RD hnt (.no :: o9 [] true r1 :: .no :: []) [] [(9, pB (!r1))] [] [] (an (Check_ref6Spec p0 r1 hr1) tv) ?_))
 refine condM hm ?_ ?_
 ·intro h2 hm
  refine Sq (RD hnt (nn 3 []) [1, 2, 9] [(5, pB false)] [1016] [] tv ?_)
  obtain rfl := sj hm
  exact DW.ret (retK [] [] (.p (.tup [.agg [vi 0, vi 0, vi 0, vi 0], vb false])))
 ·intro h2 hm
  refine Sk ?_
  refine Sq (Sq (RD hnt (.no :: []) [9] [(6, pI 0)] [] [] tv ?_))
  refine Bk ?_
  obtain ⟨hc1, hm⟩ := go1 hm
  refine DW.rangeO (fun (k1 : Nat) (s1 : Unit) => mkSt [(1, pI p1), (2, rr 1016), (4, rr 1032), (6, pI ((k1 : Nat) : Int))] [(1016, bx (pm (encHierarchy p0))), (1032, bx [pI 0, pI 0, pI 0, pI 0])]) dTask hm Conv.eqK ?_
  intro k1 s1 n1 hk1 hs1 he1
  refine Sq (Sq (RD hnt (nn 5 []) [] [(15, pB (decide (((k1 : Nat) : Int) < ((p0.tasks.length : Nat) : Int))))] [] [] tv ?_))
  refine condK (decide (((k1 : Nat) : Int) < ((p0.tasks.length : Nat) : Int))) ?_ ?_
  ·intro h11
   have hlt1 : k1 < p0.tasks.length := by have := of_decide_eq_true h11; omega
   have hm := hs1 hlt1
   unfold Find_ref6L1 at hm
   refine Sk ?_
   refine Sq (Bk ?_)
   refine Sq (RD hnt (nn 8 []) [15] [(25, pB ((p0.tasks.getD k1 (default : Task)).id == p1))] [] [] (an (nn0 k1) (an (ltc hlt1) tv)) ?_)
   refine condM hm ?_ ?_
   ·intro h12 hm
    refine Sq (RK hnt (nn 7 []) [(4, rr 1032), (5, pB true)] [(1032, bx (pm (encTask (p0.tasks.getD k1 (default : Task)))))] (an (nn0 k1) (an (ltc hlt1) tv)) ?_)
    obtain rfl := sj hm
    exact DW.ret (retK [] [] (.p (.tup [.agg (encTask (p0.tasks.getD k1 (default : Task))), vb true])))
   ·intro h12 hm
    refine Sk ?_
    refine DW.done ?_
    show DW _ _ _ _ _
    refine RD hnt (nn 3 []) [25] [(6, pI (w64 (((k1 : Nat) : Int) + 1)))] [] [] tv ?_
    exact jD () ⟨hlt1, hm⟩ (Conv.tp [(6, pI (w64 (((k1 : Nat) : Int) + 1)))] [] (by kernel_rfl) (.cons rfl (.of_eq (congrArg pI (w64_succ hlt1 hc1))) .nil) .nil)
  ·intro h11
   have hge1 : ¬ k1 < p0.tasks.length := by have := of_decide_eq_false h11; omega
   have hm := he1 hge1
   unfold Find_ref6D1 at hm
   refine DW.exit ?_
   refine joinQ_exit ?_
   refine KQ_exit ?_
   refine blockQ_exit ?_
   show DW _ _ _ _ _
   refine Sq (RD hnt (nn 3 []) [1, 2, 6, 15] [(5, pB false)] [1016] [] tv ?_)
   obtain rfl := sj hm
   exact DW.ret (retK [] [] (.p (.tup [.agg [vi 0, vi 0, vi 0, vi 0], vb false])))
abbrev o20 (ks : List Nat) (b : Bool) (RES : Task × Bool) : Orc := .call 53 ks b (.p (.tup [.agg (encTask RES.1), vb RES.2])) [] []

theorem Ancestors_ref5Spec (p0 : Tree) (p1 : Int) (RES : List Int) (hm : Ancestors_ref5 p0 p1 = some RES) : Spec Tryz.prog 21 [.p (.agg (encTree p0)), pI p1] [] (ow 0 RES.length) [] [roI RES] := by
 unfold Ancestors_ref5 at hm
 refine SO Tryz.func21 rfl rfl [(0, .p (.agg (encTree p0))), (1, pI p1)] [] ?_
 intro cx hnt
 refine Sq (RK hnt (nn 2 []) [(1, pI p1), (2, rr 1016)] [(1016, bx (pm (encTree p0)))] tv ?_)
 obtain ⟨r1, hr1, hm⟩ := bo hm
 refine Sq (Sq (RD hnt (nn 2 (o15 [] true r1 :: .no :: [])) [] [(8, pB (!r1))] [] [] (an (Has_ref5Spec p0 p1 r1 hr1) tv) ?_))
 refine condM hm ?_ ?_
 ·intro h2 hm
  refine Sq (RK hnt (.no :: []) [(4, .p (.sl .nil 0 0 (fun _ => [])))] [] tv ?_)
  refine DW.cv [] [(4, ow 100000 0)] [] [(100000, ob0 (roI []))] (Conv.ads [(.s 4, 100000, 1, elems encI 0 [])]) ?_
  obtain rfl := sj hm
  exact DW.ret (retK [roI []] [100000] (ow 0 0))
 ·intro h2 hm
  refine Sk ?_
  obtain ⟨r3, hr3, hm⟩ := bo hm
  refine Sq (RK hnt (nn 2 (o13 [] true r3 :: .no :: [])) [(4, ow 1088 r3.length)] [(1088, ob0 (roI r3))] (an (up_ref5Spec p0 p1 r3 hr3) tv) ?_)
  obtain rfl := sj hm
  exact DW.ret (retK [roI r3] [1088] (ow 0 r3.length))
abbrev o22 (ks : List Nat) (b : Bool) (RES : List Int) : Orc := .call 21 ks b (ow 0 RES.length) [] [roI RES]

theorem Domain_ref8Spec (p0 : Tree) (p1 : Int) (RES : Int × Bool) (hm : Domain_ref8 p0 p1 = some RES) : Spec Tryz.prog 137 [.p (.agg (encTree p0)), pI p1] [] (.p (.tup [vi RES.1, vb RES.2])) [] [] := by
 unfold Domain_ref8 at hm
 refine SO Tryz.func137 rfl rfl [(0, .p (.agg (encTree p0))), (1, pI p1)] [] ?_
 intro cx hnt
 refine Sq (RK hnt (nn 3 []) [(1, pI p1), (2, rr 1016)] [(1016, bx (pm (encTree p0)))] tv ?_)
 obtain ⟨r1, hr1, hm⟩ := bo hm
 refine Sq (RD hnt (nn 2 (o22 [] true r1 :: .no :: [])) [1] [(6, ow 1096 r1.length)] [] [(1096, ob0 (roI r1))] (an (Ancestors_ref5Spec p0 p1 r1 hr1) tv) ?_)
 refine Sq (Sq (RD hnt (.no :: []) [] [(7, pI 0)] [] [] tv ?_))
 refine Bk ?_
 obtain ⟨hc1, hm⟩ := go1 hm
 refine DW.rangeO (fun (k1 : Nat) (s1 : Unit) => mkSt [(2, rr 1016), (6, ow 1096 r1.length), (7, pI ((k1 : Nat) : Int))] [(1016, bx (pm (encTree p0))), (1096, ob0 (roI r1))]) 0 hm Conv.eqK ?_
 intro k1 s1 n1 hk1 hs1 he1
 refine Sq (Sq (RD hnt (nn 4 []) [] [(16, pB (decide (((k1 : Nat) : Int) < ((r1.length : Nat) : Int))))] [] [] tv ?_))
 refine condK (decide (((k1 : Nat) : Int) < ((r1.length : Nat) : Int))) ?_ ?_
 ·intro h16
  have hlt1 : k1 < r1.length := by have := of_decide_eq_true h16; omega
  have hm := hs1 hlt1
  unfold Domain_ref8L1 at hm
  refine Sk ?_
  refine Sq (Bk ?_)
  obtain ⟨r17, hr17, hm⟩ := bo hm
  refine Sq (RD hnt (nn 5 (o16 [] true r17 :: nn 6 [])) [16] [(8, rr 1064)] [] [(1064, bx (pm (encNode r17.1)))] (an (nn0 k1) (an (ltc hlt1) (an (by omega : k1 < r1.length) (an (Find_ref5Spec p0 (r1.getD k1 0) r17 hr17) tv)))) ?_)
  refine Sq (RD hnt (nn 3 []) [8] [(30, pB (r17.1.kind != 1))] [1064] [] tv ?_)
  refine condM hm ?_ ?_
  ·intro h18 hm
   refine Sq (RK hnt (nn 6 []) [(4, pI (r1.getD k1 0)), (5, pB true)] [] (an (nn0 k1) (an (ltc hlt1) (an (by omega : k1 < r1.length) tv))) ?_)
   obtain rfl := sj hm
   exact DW.ret (retK [] [] (.p (.tup [vi (r1.getD k1 0), vb true])))
  ·intro h18 hm
   refine Sk ?_
   refine DW.done ?_
   show DW _ _ _ _ _
   refine RD hnt (nn 3 []) [30] [(7, pI (w64 (((k1 : Nat) : Int) + 1)))] [] [] tv ?_
   exact jD () ⟨hlt1, hm⟩ (Conv.tp [(7, pI (w64 (((k1 : Nat) : Int) + 1)))] [] (by kernel_rfl) (.cons rfl (.of_eq (congrArg pI (w64_succ hlt1 hc1))) .nil) .nil)
 ·intro h16
  have hge1 : ¬ k1 < r1.length := by have := of_decide_eq_false h16; omega
  have hm := he1 hge1
  unfold Domain_ref8D1 at hm
  refine DW.exit ?_
  refine joinQ_exit ?_
  refine KQ_exit ?_
  refine blockQ_exit ?_
  show DW _ _ _ _ _
  refine Sq (RK hnt (nn 2 []) [(4, pI 0), (5, pB false)] [] tv ?_)
  obtain rfl := sj hm
  exact DW.ret (retK [] [] (.p (.tup [vi 0, vb false])))
abbrev o21 (ks : List Nat) (b : Bool) (RES : Int × Bool) : Orc := .call 137 ks b (.p (.tup [vi RES.1, vb RES.2])) [] []

abbrev c24e1 (p0 : Tree) (k1 : Nat) := (p0.nodes.getD k1 (default : Node))
theorem Children_ref5Spec (p0 : Tree) (p1 : Int) (RES : List Int) (hm : Children_ref5 p0 p1 = some RES) : Spec Tryz.prog 27 [.p (.agg (encTree p0)), pI p1] [] (ow 0 RES.length) [] [roI RES] := by
 unfold Children_ref5 at hm
 refine SO Tryz.func27 rfl rfl [(0, .p (.agg (encTree p0))), (1, pI p1)] [] ?_
 intro cx hnt
 refine Sq (RK hnt (nn 2 []) [(1, pI p1), (2, rr 1016)] [(1016, bx (pm (encTree p0)))] tv ?_)
 obtain ⟨r1, hr1, hm⟩ := bo hm
 refine Sq (Sq (RD hnt (nn 2 (o15 [] true r1 :: .no :: [])) [] [(10, pB (!r1))] [] [] (an (Has_ref5Spec p0 p1 r1 hr1) tv) ?_))
 refine condM hm ?_ ?_
 ·intro h2 hm
  refine Sq (RK hnt (.no :: []) [(4, .p (.sl .nil 0 0 (fun _ => [])))] [] tv ?_)
  refine DW.cv [] [(4, ow 100000 0)] [] [(100000, ob0 (roI []))] (Conv.ads [(.s 4, 100000, 1, elems encI 0 [])]) ?_
  obtain rfl := sj hm
  exact DW.ret (retK [roI []] [100000] (ow 0 0))
 ·intro h2 hm
  refine Sk ?_
  refine Sq (RD hnt (.no :: []) [10] [(5, .p (.sl .nil 0 0 (fun _ => [])))] [] [] tv ?_)
  refine Sq (Sq (RD hnt (.no :: []) [] [(6, pI 0)] [] [] tv ?_))
  refine Bk ?_
  obtain ⟨hc1, hm⟩ := go1 hm
  refine DW.rangeO (fun (k1 : Nat) (s1 : List Int) => mkSt [(1, pI p1), (2, rr 1016), (5, ow 1272 s1.length), (6, pI ((k1 : Nat) : Int))] [(1016, bx (pm (encTree p0))), (1272, ob0 (roI s1))]) dNode hm (Conv.ads [(.s 5, 1272, 1, elems encI 0 [])]) ?_
  intro k1 s1 n1 hk1 hs1 he1
  refine Sq (Sq (RD hnt (nn 5 []) [] [(15, pB (decide (((k1 : Nat) : Int) < ((p0.nodes.length : Nat) : Int))))] [] [] tv ?_))
  refine condK (decide (((k1 : Nat) : Int) < ((p0.nodes.length : Nat) : Int))) ?_ ?_
  ·intro h12
   have hlt1 : k1 < p0.nodes.length := by have := of_decide_eq_true h12; omega
   have hm := hs1 hlt1
   unfold Children_ref5L1 at hm
   refine Sk ?_
   refine Sq ?_
   refine Jn (ι := List Int) (fun (y3 : List Int) => mkSt [(1, pI p1), (2, rr 1016), (5, ow 1272 y3.length), (6, pI ((k1 : Nat) : Int))] [(1016, bx (pm (encTree p0))), (1272, ob0 (roI y3))]) (fun y3 => (Children_ref5J3 n1) y3 = some RES) ?_ ?_
   ·intro y3 hm
    unfold Children_ref5J3 at hm
    refine RD hnt (nn 3 []) [] [(6, pI (w64 (((k1 : Nat) : Int) + 1)))] [] [] tv ?_
    exact jD y3 ⟨hlt1, hm⟩ (Conv.tp [(6, pI (w64 (((k1 : Nat) : Int) + 1)))] [] (by kernel_rfl) (.cons rfl (.of_eq (congrArg pI (w64_succ hlt1 hc1))) .nil) .nil)
   ·refine Bk ?_
    refine Sq (RD hnt (nn 8 []) [15] [(25, pB ((c24e1 p0 k1).parent == p1))] [] [] (an (nn0 k1) (an (ltc hlt1) tv)) ?_)
    refine condM hm ?_ ?_
    ·intro h13 hm
     obtain ⟨g14, hm⟩ := go1 hm
     refine RN hnt (nn 10 []) [(1, pI p1), (2, rr 1016), (5, ow 1272 (s1 ++ [(c24e1 p0 k1).id]).length), (6, pI ((k1 : Nat) : Int))] [(1016, bx (pm (encTree p0))), (1272, ob0 (roI (s1 ++ [(c24e1 p0 k1).id])))] [(5, ow 1272 (s1.length + 1))] [(1272, .row 1 (s1.length + 1) (catF s1.length (elI s1) (cut 1 [vi (c24e1 p0 k1).id])))] (an (nn0 k1) (an (ltc hlt1) (an (by omega : (s1.length + 1) * 8 ≤ 140737488355328) tv))) (by kernel_rfl) (.cons rfl (MLe.ownLen (enc := encI) (d := 0) (f := (catF s1.length (elI s1) (cut 1 [vi (c24e1 p0 k1).id]))) (RowIs.cat RowIs.elems (RowIs.lit (enc := encI) (d := 0) (n := 1) (f := (cut 1 [vi (c24e1 p0 k1).id])) [(c24e1 p0 k1).id] rfl (fun | 0, _ => rfl | n + 1, h => absurd h (by omega))))) .nil) (.cons rfl (BLe.typed (RowIs.cat RowIs.elems (RowIs.lit (enc := encI) (d := 0) (n := 1) (f := (cut 1 [vi (c24e1 p0 k1).id])) [(c24e1 p0 k1).id] rfl (fun | 0, _ => rfl | n + 1, h => absurd h (by omega))))) .nil) ?_
     exact bD (s1 ++ [(c24e1 p0 k1).id]) hm .refl
    ·intro h13 hm
     refine Sk ?_
     exact bD s1 hm Conv.t0
  ·intro h12
   have hge1 : ¬ k1 < p0.nodes.length := by have := of_decide_eq_false h12; omega
   have hm := he1 hge1
   unfold Children_ref5D1 at hm
   refine DW.exit ?_
   refine joinQ_exit ?_
   refine KQ_exit ?_
   refine blockQ_exit ?_
   show DW _ _ _ _ _
   refine Sq (RK hnt (nn 2 []) [(4, ow 1272 s1.length)] [(1272, ob0 (roI s1))] tv ?_)
   obtain rfl := sj hm
   exact DW.ret (retK [roI s1] [1272] (ow 0 s1.length))
abbrev o24 (ks : List Nat) (b : Bool) (RES : List Int) : Orc := .call 27 ks b (ow 0 RES.length) [] [roI RES]

theorem Type_ref8BSpec (rec : Tree → Int → Option Int) (ih : ∀ (p0 : Tree) (p1 : Int) (RES : Int), rec p0 p1 = some RES → Spec Tryz.prog 130 [.p (.agg (encTree p0)), pI p1] [] (pI RES) [] []) (p0 : Tree) (p1 : Int) (RES : Int) (hm : Type_ref8B rec p0 p1 = some RES) : Spec Tryz.prog 130 [.p (.agg (encTree p0)), pI p1] [] (pI RES) [] [] := by
 unfold Type_ref8B at hm
 refine SO Tryz.func130 rfl rfl [(0, .p (.agg (encTree p0))), (1, pI p1)] [] ?_
 intro cx hnt
 refine Sq (RK hnt (nn 2 []) [(1, pI p1), (2, rr 1016)] [(1016, bx (pm (encTree p0)))] tv ?_)
 obtain ⟨r1, hr1, hm⟩ := bo hm
 refine Sq (RD hnt (nn 2 (o16 [] true r1 :: nn 6 [])) [] [(5, rr 1040), (6, pB r1.2)] [] [(1040, bx (pm (encNode r1.1)))] (an (Find_ref5Spec p0 p1 r1 hr1) tv) ?_)
 refine Sq (Sq (RD hnt (nn 2 []) [6] [(20, pB (!r1.2))] [] [] tv ?_))
 refine condM hm ?_ ?_
 ·intro h2 hm
  refine Sq (RK hnt (.no :: []) [(4, pI 0)] [] tv ?_)
  obtain rfl := sj hm
  exact DW.ret (retK [] [] (pI 0))
 ·intro h2 hm
  refine Sk ?_
  refine Sq (Sq (RD hnt (nn 3 []) [20] [(23, pB (r1.1.kind == 1))] [] [] tv ?_))
  refine condM hm ?_ ?_
  ·intro h3 hm
   refine Sq (RK hnt (.no :: []) [(4, pI 2)] [] tv ?_)
   obtain rfl := sj hm
   exact DW.ret (retK [] [] (pI 2))
  ·intro h3 hm
   refine Sk ?_
   obtain ⟨r4, hr4, hm⟩ := bo hm
   refine Sq (Sq (RD hnt (nn 3 (o16 [] true r4 :: nn 6 [])) [5, 23] [(7, rr 1056), (8, pB r4.2)] [1040] [(1056, bx (pm (encNode r4.1)))] (an (Find_ref5Spec p0 r1.1.parent r4 hr4) tv) ?_))
   refine Sq ?_
   refine Jn (ι := Bool) (fun (y1 : Bool) => mkSt [(1, pI p1), (2, rr 1016), (43, pB y1)] [(1016, bx (pm (encTree p0)))]) (fun y1 => (Type_ref8J1 p0 p1) y1 = some RES) ?_ ?_
   ·intro y1 hm
    unfold Type_ref8J1 at hm
    refine condM hm ?_ ?_
    ·intro h8 hm
     refine Sq (RK hnt (.no :: []) [(4, pI 3)] [] tv ?_)
     obtain rfl := sj hm
     exact DW.ret (retK [] [] (pI 3))
    ·intro h8 hm
     refine Sk ?_
     obtain ⟨r9, hr9, hm⟩ := bo hm
     refine Sq (RD hnt (nn 2 (o24 [] true r9 :: .no :: [])) [1, 43] [(9, ow 1368 r9.length)] [] [(1368, ob0 (roI r9))] (an (Children_ref5Spec p0 p1 r9 hr9) tv) ?_)
     refine Sq (Sq (RD hnt (.no :: []) [] [(10, pI 0)] [] [] tv ?_))
     refine Bk ?_
     obtain ⟨hc1, hm⟩ := go1 hm
     refine DW.rangeO (fun (k1 : Nat) (s1 : Unit) => mkSt [(2, rr 1016), (9, ow 1368 r9.length), (10, pI ((k1 : Nat) : Int))] [(1016, bx (pm (encTree p0))), (1368, ob0 (roI r9))]) 0 hm Conv.eqK ?_
     intro k1 s1 n1 hk1 hs1 he1
     refine Sq (Sq (RD hnt (nn 4 []) [] [(50, pB (decide (((k1 : Nat) : Int) < ((r9.length : Nat) : Int))))] [] [] tv ?_))
     refine condK (decide (((k1 : Nat) : Int) < ((r9.length : Nat) : Int))) ?_ ?_
     ·intro h20
      have hlt1 : k1 < r9.length := by have := of_decide_eq_true h20; omega
      have hm := hs1 hlt1
      unfold Type_ref8L1 at hm
      refine Sk ?_
      refine Sq (Bk ?_)
      obtain ⟨r21, hr21, hm⟩ := bo hm
      refine Sq (RD hnt (nn 5 (o16 [] true r21 :: nn 6 [])) [50] [(11, rr 1088)] [] [(1088, bx (pm (encNode r21.1)))] (an (nn0 k1) (an (ltc hlt1) (an (by omega : k1 < r9.length) (an (Find_ref5Spec p0 (r9.getD k1 0) r21 hr21) tv)))) ?_)
      refine Sq (RD hnt (nn 3 []) [11] [(64, pB (r21.1.kind == 1))] [1088] [] tv ?_)
      refine condM hm ?_ ?_
      ·intro h22 hm
       refine Sq (RK hnt (.no :: []) [(4, pI 1)] [] tv ?_)
       obtain rfl := sj hm
       exact DW.ret (retK [] [] (pI 1))
      ·intro h22 hm
       refine Sk ?_
       refine DW.done ?_
       show DW _ _ _ _ _
       refine RD hnt (nn 3 []) [64] [(10, pI (w64 (((k1 : Nat) : Int) + 1)))] [] [] tv ?_
       exact jD () ⟨hlt1, hm⟩ (Conv.tp [(10, pI (w64 (((k1 : Nat) : Int) + 1)))] [] (by kernel_rfl) (.cons rfl (.of_eq (congrArg pI (w64_succ hlt1 hc1))) .nil) .nil)
     ·intro h20
      have hge1 : ¬ k1 < r9.length := by have := of_decide_eq_false h20; omega
      have hm := he1 hge1
      unfold Type_ref8D1 at hm
      refine DW.exit ?_
      refine joinQ_exit ?_
      refine KQ_exit ?_
      refine blockQ_exit ?_
      show DW _ _ _ _ _
      refine Sq (RK hnt (.no :: []) [(4, pI 0)] [] tv ?_)
      obtain rfl := sj hm
      exact DW.ret (retK [] [] (pI 0))
   ·rcases bt r4.2 with h5 | h5
    ·replace hm := if_t h5 hm
     rcases bt (r4.1.kind == 1) with h6 | h6
     ·replace hm := if_t h6 hm
      refine RD hnt (nn 6 (sk 5 (pT :: pT :: []))) [7, 8] [(43, pB true)] [1056] [] (an4 h5 (an5 h6 (an h5 (an h6 (an h5 tv))))) ?_
      exact jD true hm Conv.eqK
     ·replace hm := if_f h6 hm
      obtain ⟨r7, hr7, hm⟩ := bo hm
      refine RD hnt (nn 9 (.call 130 [] true (pI r7) [] [] :: .no :: pF :: pT :: [])) [7, 8] [(43, pB (r7 == 3))] [1056] [] (an4 h5 (an4 h6 (an (ih p0 r4.1.id r7 hr7) (an h6 (an h5 (an h6 (an h5 tv))))))) ?_
      exact jD (r7 == 3) hm Conv.eqK
    ·replace hm := if_f h5 hm
     refine RD hnt (nn 2 (sk 10 (pF :: []))) [7, 8] [(43, pB false)] [1056] [] (an6 h5 tv) ?_
     exact jD false hm Conv.eqK
theorem Type_ref8FSpec : ∀ (n : Nat) (p0 : Tree) (p1 : Int) (RES : Int), Type_ref8F n p0 p1 = some RES → Spec Tryz.prog 130 [.p (.agg (encTree p0)), pI p1] [] (pI RES) [] []
  | 0, p0, p1, RES, hm => by simp [Type_ref8F] at hm
  | n + 1, p0, p1, RES, hm => Type_ref8BSpec (Type_ref8F n) (Type_ref8FSpec n) p0 p1 RES hm
theorem Type_ref8Spec (p0 : Tree) (p1 : Int) (RES : Int) (hm : Type_ref8 p0 p1 = some RES) : Spec Tryz.prog 130 [.p (.agg (encTree p0)), pI p1] [] (pI RES) [] [] := Type_ref8FSpec FUEL p0 p1 RES hm
abbrev o23 (ks : List Nat) (b : Bool) (RES : Int) : Orc := .call 130 ks b (pI RES) [] []

abbrev c7e1 (p0 : Hierarchy) (k4 : Nat) := (p0.tree.nodes.getD k4 (default : Node))
abbrev c7e2 (p0 : Hierarchy) : Nat × Obj := (1008, bx (pm (encHierarchy p0)))
theorem Fits_ref8Spec (p0 : Hierarchy) (RES : Bool) (hm : Fits_ref8 p0 = some RES) : Spec Tryz.prog 129 [.p (.agg (encHierarchy p0))] [] (pB RES) [] [] := by
 unfold Fits_ref8 at hm
 refine SO Tryz.func129 rfl rfl [(0, .p (.agg (encHierarchy p0)))] [] ?_
 intro cx hnt
 refine Sq (RK hnt (nn 2 []) [(1, rr 1008)] [(c7e2 p0)] tv ?_)
 obtain ⟨r1, hr1, hm⟩ := bo hm
 refine Sq (Sq (RD hnt (.no :: o8 [] true r1 :: .no :: []) [] [(16, pB (!r1))] [] [] (an (Sound_ref7Spec p0 r1 hr1) tv) ?_))
 refine condM hm ?_ ?_
 ·intro h2 hm
  refine Sq (RK hnt (.no :: []) [(2, pB false)] [] tv ?_)
  obtain rfl := sj hm
  exact DW.ret (retK [] [] (pB false))
 ·intro h2 hm
  refine Sk ?_
  refine Sq (Sq (RD hnt (.no :: []) [16] [(3, pI 0)] [] [] tv ?_))
  refine Bk ?_
  obtain ⟨hc1, hm⟩ := go1 hm
  refine DW.rangeO (fun (k1 : Nat) (s1 : Unit) => mkSt [(1, rr 1008), (3, pI ((k1 : Nat) : Int))] [(c7e2 p0)]) dTask hm Conv.eqK ?_
  intro k1 s1 n1 hk1 hs1 he1
  refine Sq (Sq (RD hnt (nn 5 []) [] [(21, pB (decide (((k1 : Nat) : Int) < ((p0.tasks.length : Nat) : Int))))] [] [] tv ?_))
  refine condK (decide (((k1 : Nat) : Int) < ((p0.tasks.length : Nat) : Int))) ?_ ?_
  ·intro h99
   have hlt1 : k1 < p0.tasks.length := by have := of_decide_eq_true h99; omega
   have hm := hs1 hlt1
   unfold Fits_ref8L1 at hm
   refine Sk ?_
   refine Sq (Bk ?_)
   obtain ⟨r100, hr100, hm⟩ := bo hm
   refine Sq (RD hnt (nn 7 (o20 [] true r100 :: nn 6 [])) [21] [(4, rr 1032)] [] [(1032, bx (pm (encTask r100.1)))] (an (nn0 k1) (an (ltc hlt1) (an (Find_ref6Spec p0 (p0.tasks.getD k1 (default : Task)).process r100 hr100) tv))) ?_)
   obtain ⟨r101, hr101, hm⟩ := bo hm
   refine Sq (RD hnt (nn 8 (o21 [] true r101 :: nn 5 [])) [] [(6, pI r101.1)] [] [] (an (nn0 k1) (an (ltc hlt1) (an (Domain_ref8Spec p0.tree (p0.tasks.getD k1 (default : Task)).group r101 hr101) tv))) ?_)
   obtain ⟨r102, hr102, hm⟩ := bo hm
   refine Sq (RD hnt (nn 4 (o21 [] true r102 :: nn 5 [])) [4] [(8, pI r102.1)] [1032] [] (an (Domain_ref8Spec p0.tree r100.1.group r102 hr102) tv) ?_)
   refine Sq (RD hnt (nn 3 []) [6, 8] [(57, pB (r101.1 != r102.1))] [] [] tv ?_)
   refine condM hm ?_ ?_
   ·intro h103 hm
    refine Sq (RK hnt (.no :: []) [(2, pB false)] [] tv ?_)
    obtain rfl := sj hm
    exact DW.ret (retK [] [] (pB false))
   ·intro h103 hm
    refine Sk ?_
    refine DW.done ?_
    show DW _ _ _ _ _
    refine RD hnt (nn 3 []) [57] [(3, pI (w64 (((k1 : Nat) : Int) + 1)))] [] [] tv ?_
    exact jD () ⟨hlt1, hm⟩ (Conv.tp [(3, pI (w64 (((k1 : Nat) : Int) + 1)))] [] (by kernel_rfl) (.cons rfl (.of_eq (congrArg pI (w64_succ hlt1 hc1))) .nil) .nil)
  ·intro h99
   have hge1 : ¬ k1 < p0.tasks.length := by have := of_decide_eq_false h99; omega
   have hm := he1 hge1
   unfold Fits_ref8D1 at hm
   refine DW.exit ?_
   refine joinQ_exit ?_
   refine KQ_exit ?_
   refine blockQ_exit ?_
   show DW _ _ _ _ _
   refine Sq (Sq (RD hnt (.no :: []) [3, 21] [(10, pI 0)] [] [] tv ?_))
   refine Bk ?_
   obtain ⟨hc4, hm⟩ := go1 hm
   refine DW.rangeO (fun (k4 : Nat) (s4 : Unit) => mkSt [(1, rr 1008), (10, pI ((k4 : Nat) : Int))] [(c7e2 p0)]) dNode hm Conv.eqK ?_
   intro k4 s4 n4 hk4 hs4 he4
   refine Sq (Sq (RD hnt (nn 6 []) [] [(63, pB (decide (((k4 : Nat) : Int) < ((p0.tree.nodes.length : Nat) : Int))))] [] [] tv ?_))
   refine condK (decide (((k4 : Nat) : Int) < ((p0.tree.nodes.length : Nat) : Int))) ?_ ?_
   ·intro h132
    have hlt4 : k4 < p0.tree.nodes.length := by have := of_decide_eq_true h132; omega
    have hm := hs4 hlt4
    unfold Fits_ref8L4 at hm
    refine Sk ?_
    refine Sq (Bk ?_)
    refine Sq (RD hnt (nn 8 []) [63] [(11, rr 1088)] [] [(1088, bx (pm (encNode (c7e1 p0 k4))))] (an (nn0 k4) (an (ltc hlt4) tv)) ?_)
    obtain ⟨r133, hr133, hm⟩ := bo hm
    refine Sq (RD hnt (nn 4 (o16 [] true r133 :: nn 6 [])) [] [(12, rr 1096)] [] [(1096, bx (pm (encNode r133.1)))] (an (Find_ref5Spec p0.tree (c7e1 p0 k4).parent r133 hr133) tv) ?_)
    obtain ⟨r134, hr134, hm⟩ := bo hm
    refine Sq (Sq ?_)
    refine Jn (ι := Bool) (fun (y17 : Bool) => mkSt [(1, rr 1008), (10, pI ((k4 : Nat) : Int)), (11, rr 1088), (12, rr 1096), (98, pB y17)] [(c7e2 p0), (1088, bx (pm (encNode (c7e1 p0 k4)))), (1096, bx (pm (encNode r133.1)))]) (fun y17 => (Fits_ref8J17 p0 (c7e1 p0 k4) n4 r133) y17 = some RES) ?_ ?_
    ·intro y17 hm
     unfold Fits_ref8J17 at hm
     refine condM hm ?_ ?_
     ·intro h138 hm
      refine Sq (RK hnt (.no :: []) [(2, pB false)] [] tv ?_)
      obtain rfl := sj hm
      exact DW.ret (retK [] [] (pB false))
     ·intro h138 hm
      refine Sk ?_
      refine Sq ?_
      refine Jn (ι := Bool) (fun (y18 : Bool) => mkSt [(1, rr 1008), (10, pI ((k4 : Nat) : Int)), (120, pB y18)] [(c7e2 p0)]) (fun y18 => (Fits_ref8J18 n4) y18 = some RES) ?_ ?_
      ·intro y18 hm
       unfold Fits_ref8J18 at hm
       refine condM hm ?_ ?_
       ·intro h144 hm
        refine Sq (RK hnt (.no :: []) [(2, pB false)] [] tv ?_)
        obtain rfl := sj hm
        exact DW.ret (retK [] [] (pB false))
       ·intro h144 hm
        refine Sk ?_
        refine DW.done ?_
        show DW _ _ _ _ _
        refine RD hnt (nn 3 []) [120] [(10, pI (w64 (((k4 : Nat) : Int) + 1)))] [] [] tv ?_
        exact jD () ⟨hlt4, hm⟩ (Conv.tp [(10, pI (w64 (((k4 : Nat) : Int) + 1)))] [] (by kernel_rfl) (.cons rfl (.of_eq (congrArg pI (w64_succ hlt4 hc4))) .nil) .nil)
      ·rcases bt ((c7e1 p0 k4).kind == 1) with h139 | h139
       ·replace hm := if_t h139 hm
        rcases bt (r133.1.id != 1) with h140 | h140
        ·replace hm := if_t h140 hm
         rcases bt ((kand .i64 r133.1.control 6) != 0) with h141 | h141
         ·replace hm := if_t h141 hm
          refine RD hnt (nn 12 (pT :: .no :: sk 6 (pT :: pT :: []))) [11, 12, 98] [(120, pB true)] [1088, 1096] [] (an4 h139 (an4 h140 (an h139 (an h140 (an h139 (an6 h141 (an h139 (an h141 (an h139 tv))))))))) ?_
          exact jD true hm Conv.eqK
         ·replace hm := if_f h141 hm
          obtain ⟨r142, hr142, hm⟩ := bo hm
          refine RD hnt (nn 12 (pT :: nn 5 (o23 [] true r142 :: .no :: pF :: pT :: []))) [11, 12, 98] [(120, pB (r142 == 3))] [1088, 1096] [] (an4 h139 (an4 h140 (an h139 (an h140 (an h139 (an5 h141 (an (Type_ref8Spec p0.tree r133.1.id r142 hr142) (an h141 (an h139 (an h141 (an h139 tv))))))))))) ?_
          exact jD (r142 == 3) hm Conv.eqK
        ·replace hm := if_f h140 hm
         obtain ⟨r143, hr143, hm⟩ := bo hm
         refine RD hnt (nn 8 (sk 4 (pF :: nn 5 (o23 [] true r143 :: .no :: pF :: pT :: [])))) [11, 12, 98] [(120, pB (r143 == 3))] [1088, 1096] [] (an4 h139 (an4 h140 (an h139 (an h140 (an h139 (an5 ff (an (Type_ref8Spec p0.tree r133.1.id r143 hr143) (an ff (an h139 (an ff (an h139 tv))))))))))) ?_
         exact jD (r143 == 3) hm Conv.eqK
       ·replace hm := if_f h139 hm
        refine RD hnt (nn 4 (sk 17 (pF :: []))) [11, 12, 98] [(120, pB false)] [1088, 1096] [] (an2 h139 (an6 h139 tv)) ?_
        exact jD false hm Conv.eqK
    ·rcases bt (r134 == 3) with h135 | h135
     ·replace hm := if_t h135 hm
      rcases bt ((c7e1 p0 k4).control != 0) with h136 | h136
      ·replace hm := if_t h136 hm
       refine RD hnt (nn 4 (o23 [] true r134 :: nn 6 (sk 6 (pT :: pT :: [])))) [] [(98, pB true)] [] [] (an (Type_ref8Spec p0.tree (c7e1 p0 k4).id r134 hr134) (an4 h135 (an6 h136 (an h135 (an h136 (an h135 tv)))))) ?_
       exact jD true hm Conv.eqK
      ·replace hm := if_f h136 hm
       obtain ⟨r137, hr137, hm⟩ := bo hm
       refine RD hnt (nn 4 (o23 [] true r134 :: nn 9 (o19 [] true r137 :: nn 2 (pF :: pT :: [])))) [] [(98, pB (decide (((r137.length : Nat) : Int) > 0)))] [] [] (an (Type_ref8Spec p0.tree (c7e1 p0 k4).id r134 hr134) (an4 h135 (an4 h136 (an (Tasks_ref6Spec p0 (c7e1 p0 k4).id r137 hr137) (an2 h136 (an h135 (an h136 (an h135 tv)))))))) ?_
       exact jD (decide (((r137.length : Nat) : Int) > 0)) hm Conv.eqK
     ·replace hm := if_f h135 hm
      refine RD hnt (nn 4 (o23 [] true r134 :: nn 2 (sk 11 (pF :: [])))) [] [(98, pB false)] [] [] (an (Type_ref8Spec p0.tree (c7e1 p0 k4).id r134 hr134) (an6 h135 tv)) ?_
      exact jD false hm Conv.eqK
   ·intro h132
    have hge4 : ¬ k4 < p0.tree.nodes.length := by have := of_decide_eq_false h132; omega
    have hm := he4 hge4
    unfold Fits_ref8D4 at hm
    refine DW.exit ?_
    refine joinQ_exit ?_
    refine KQ_exit ?_
    refine blockQ_exit ?_
    show DW _ _ _ _ _
    refine Sq (RK hnt (.no :: []) [(2, pB true)] [] tv ?_)
    obtain rfl := sj hm
    exact DW.ret (retK [] [] (pB true))
abbrev o7 (ks : List Nat) (b : Bool) (RES : Bool) : Orc := .call 129 ks b (pB RES) [] []

theorem Depth_ref5Spec (p0 : Tree) (p1 : Int) (RES : Int) (hm : Depth_ref5 p0 p1 = some RES) : Spec Tryz.prog 164 [.p (.agg (encTree p0)), pI p1] [] (pI RES) [] [] := by
 unfold Depth_ref5 at hm
 refine SO Tryz.func164 rfl rfl [(0, .p (.agg (encTree p0))), (1, pI p1)] [] ?_
 intro cx hnt
 refine Sq (RK hnt (nn 2 []) [(1, pI p1), (2, rr 1016)] [(1016, bx (pm (encTree p0)))] tv ?_)
 obtain ⟨r1, hr1, hm⟩ := bo hm
 refine Sq (RK hnt (nn 2 (o22 [] true r1 :: nn 3 [])) [(4, pI (w64 (((r1.length : Nat) : Int) - 1)))] [] (an (Ancestors_ref5Spec p0 p1 r1 hr1) tv) ?_)
 obtain rfl := sj hm
 exact DW.ret (retK [] [] (pI (w64 (((r1.length : Nat) : Int) - 1))))
abbrev o26 (ks : List Nat) (b : Bool) (RES : Int) : Orc := .call 164 ks b (pI RES) [] []

theorem Copy_ref5Spec (p0 : Tree) (RES : Tree) (hm : Copy_ref5 p0 = some RES) : Spec Tryz.prog 122 [.p (.agg (encTree p0))] [] (.agg [ow 0 RES.nodes.length, pI RES.next]) [] [roNode RES.nodes] := by
 unfold Copy_ref5 at hm
 refine SO Tryz.func122 rfl rfl [(0, .p (.agg (encTree p0)))] [] ?_
 intro cx hnt
 refine Sq (RK hnt (nn 2 []) [(1, rr 1008), (2, rr 1016)] [(1008, bx (pm (encTree p0))), (1016, bx [.p (.sl .nil 0 0 (fun _ => [])), pI 0])] tv ?_)
 obtain ⟨g1, hm⟩ := go1 hm
 refine Sq (RN hnt (nn 7 []) [(2, rr 1016)] [(1016, bx [ow 1040 p0.nodes.length, pI p0.next]), (1040, ob0 (roNode p0.nodes))] [] [(1040, .row 6 p0.nodes.length (elNode p0.nodes))] (an (by omega : p0.nodes.length * 56 ≤ 140737488355328) tv) (by kernel_rfl) .nil (.cons rfl (BLe.typed RowIs.elems) .nil) ?_)
 obtain rfl := sj hm
 exact DW.ret (retK [roNode p0.nodes] [1040] (.agg [ow 0 p0.nodes.length, pI p0.next]))
abbrev o27 (ks : List Nat) (b : Bool) (RES : Tree) : Orc := .call 122 ks b (.agg [ow 0 RES.nodes.length, pI RES.next]) [] [roNode RES.nodes]

abbrev c25e1 (p0 : Tree) (p1 : Int) (p2 : ByteArray) := ({ id := p0.next, parent := p1, name := p2, control := 0, kind := 0, owner := 0 } : Node)
abbrev c25e2 : Nat × Obj := (1048, bx [.p (.sl .nil 0 0 (fun _ => [])), pI 0])
abbrev c25e3 (p0 : Tree) : Nat × Obj := (1024, bx (pm (encTree p0)))
abbrev c25e4 : Nat × Obj := (1048, bx [ow 100000 0, pI 0])
theorem Add_ref5Spec (p0 : Tree) (p1 : Int) (p2 : ByteArray) (RES : Tree × Int × Int) (hm : Add_ref5 p0 p1 p2 = some RES) : Spec Tryz.prog 131 [.p (.agg (encTree p0)), pI p1, pS p2] [] (.tup [.agg [ow 0 RES.1.nodes.length, pI RES.1.next], pI RES.2.1, pI RES.2.2]) [] [roNode RES.1.nodes] := by
 unfold Add_ref5 at hm
 refine SO Tryz.func131 rfl rfl [(0, .p (.agg (encTree p0))), (1, pI p1), (2, pS p2)] [] ?_
 intro cx hnt
 refine Sq (RD hnt (nn 4 []) [0] [(3, rr 1024), (6, rr 1048)] [] [(c25e3 p0), (c25e2)] tv ?_)
 obtain ⟨r1, hr1, hm⟩ := bo hm
 refine Sq (Sq ?_)
 refine Jn (ι := Bool) (fun (y1 : Bool) => mkSt [(1, pI p1), (2, pS p2), (3, rr 1024), (6, rr 1048), (18, pB y1)] [(c25e3 p0), (c25e2)]) (fun y1 => (Add_ref5J1 p0 p1 p2) y1 = some RES) ?_ ?_
 ·intro y1 hm
  unfold Add_ref5J1 at hm
  refine condM hm ?_ ?_
  ·intro h4 hm
   refine Sq (RD hnt (nn 4 []) [1, 2, 3, 18] [(7, pI 0), (8, pI 1)] [1024] [] tv ?_)
   refine DW.cv [] [] [] [(c25e4), (100000, ob0 (roNode []))] (Conv.ads [(.o 1048 0, 100000, 6, elems encNode dNode [])]) ?_
   obtain rfl := sj hm
   exact DW.ret (retK [roNode []] [100000] (.tup [.agg [ow 0 0, pI 0], pI 0, pI 1]))
  ·intro h4 hm
   refine Sk ?_
   obtain ⟨r5, hr5, hm⟩ := bo hm
   refine Sq (Sq (RD hnt (nn 2 (o15 [] true r5 :: .no :: [])) [18] [(23, pB (!r5))] [] [] (an (Has_ref5Spec p0 p1 r5 hr5) tv) ?_))
   refine condM hm ?_ ?_
   ·intro h6 hm
    refine Sq (RD hnt (nn 4 []) [1, 2, 3, 23] [(7, pI 0), (8, pI 4)] [1024] [] tv ?_)
    refine DW.cv [] [] [] [(c25e4), (100000, ob0 (roNode []))] (Conv.ads [(.o 1048 0, 100000, 6, elems encNode dNode [])]) ?_
    obtain rfl := sj hm
    exact DW.ret (retK [roNode []] [100000] (.tup [.agg [ow 0 0, pI 0], pI 0, pI 4]))
   ·intro h6 hm
    refine Sk ?_
    refine Sq (Sq (RD hnt (.no :: []) [23] [(9, pI 0)] [] [] tv ?_))
    refine Bk ?_
    obtain ⟨hc1, hm⟩ := go1 hm
    refine DW.rangeO (fun (k1 : Nat) (s1 : Unit) => mkSt [(1, pI p1), (2, pS p2), (3, rr 1024), (6, rr 1048), (9, pI ((k1 : Nat) : Int))] [(c25e3 p0), (c25e2)]) dNode hm Conv.eqK ?_
    intro k1 s1 n1 hk1 hs1 he1
    refine Sq (Sq (RD hnt (nn 5 []) [] [(29, pB (decide (((k1 : Nat) : Int) < ((p0.nodes.length : Nat) : Int))))] [] [] tv ?_))
    refine condK (decide (((k1 : Nat) : Int) < ((p0.nodes.length : Nat) : Int))) ?_ ?_
    ·intro h29
     have hlt1 : k1 < p0.nodes.length := by have := of_decide_eq_true h29; omega
     have hm := hs1 hlt1
     unfold Add_ref5L1 at hm
     refine Sk ?_
     refine Sq (Bk ?_)
     refine Sq (DW.regJ (sl2 := [(1, pI p1), (2, pS p2), (3, rr 1024), (6, rr 1048), (9, pI ((k1 : Nat) : Int)), (49, pB (((p0.nodes.getD k1 (default : Node)).parent == p1) && (beqS (p0.nodes.getD k1 (default : Node)).name p2)))]) (ob2 := [(c25e3 p0), (c25e2)]) ?_ ?_)
     ·rcases bt ((p0.nodes.getD k1 (default : Node)).parent == p1) with h30 | h30
      ·exact RT hnt (nn 17 (pT :: [])) [(49, pB (beqS (p0.nodes.getD k1 (default : Node)).name p2))] (an (nn0 k1) (an (ltc hlt1) (an4 h30 (an (nn0 k1) (an (ltc hlt1) (an5 h30 tv)))))) (by kernel_rfl) (.cons rfl (.of_eq (by rw [h30]; try rfl)) .nil)
      ·exact RT hnt (nn 9 (sk 8 (pF :: []))) [(49, pB false)] (an (nn0 k1) (an (ltc hlt1) (an3 h30 (an6 h30 tv)))) (by kernel_rfl) (.cons rfl (.of_eq (by rw [h30]; try rfl)) .nil)
     ·refine condM hm ?_ ?_
      ·intro h31 hm
       refine Sq (RD hnt (nn 4 []) [1, 2, 3, 9, 49] [(7, pI 0), (8, pI 5)] [1024] [] tv ?_)
       refine DW.cv [] [] [] [(c25e4), (100000, ob0 (roNode []))] (Conv.ads [(.o 1048 0, 100000, 6, elems encNode dNode [])]) ?_
       obtain rfl := sj hm
       exact DW.ret (retK [roNode []] [100000] (.tup [.agg [ow 0 0, pI 0], pI 0, pI 5]))
      ·intro h31 hm
       refine Sk ?_
       refine DW.done ?_
       show DW _ _ _ _ _
       refine RD hnt (nn 3 []) [49] [(9, pI (w64 (((k1 : Nat) : Int) + 1)))] [] [] tv ?_
       exact jD () ⟨hlt1, hm⟩ (Conv.tp [(9, pI (w64 (((k1 : Nat) : Int) + 1)))] [] (by kernel_rfl) (.cons rfl (.of_eq (congrArg pI (w64_succ hlt1 hc1))) .nil) .nil)
    ·intro h29
     have hge1 : ¬ k1 < p0.nodes.length := by have := of_decide_eq_false h29; omega
     have hm := he1 hge1
     unfold Add_ref5D1 at hm
     refine DW.exit ?_
     refine joinQ_exit ?_
     refine KQ_exit ?_
     refine blockQ_exit ?_
     show DW _ _ _ _ _
     obtain ⟨r32, hr32, hm⟩ := bo hm
     refine Sq (Sq ?_)
     refine Jn (ι := Bool) (fun (y6 : Bool) => mkSt [(1, pI p1), (2, pS p2), (3, rr 1024), (6, rr 1048), (65, pB y6)] [(c25e3 p0), (c25e2)]) (fun y6 => (Add_ref5J6 p0 p1 p2) y6 = some RES) ?_ ?_
     ·intro y6 hm
      unfold Add_ref5J6 at hm
      refine condM hm ?_ ?_
      ·intro h35 hm
       refine Sq (RD hnt (nn 4 []) [1, 2, 3, 65] [(7, pI 0), (8, pI 7)] [1024] [] tv ?_)
       refine DW.cv [] [] [] [(c25e4), (100000, ob0 (roNode []))] (Conv.ads [(.o 1048 0, 100000, 6, elems encNode dNode [])]) ?_
       obtain rfl := sj hm
       exact DW.ret (retK [roNode []] [100000] (.tup [.agg [ow 0 0, pI 0], pI 0, pI 7]))
      ·intro h35 hm
       refine Sk ?_
       obtain ⟨r36, hr36, hm⟩ := bo hm
       refine Sq (RD hnt (.no :: o27 [] true r36 :: nn 2 []) [65] [(10, rr 1080)] [] [(1080, bx [ow 1544 r36.nodes.length, pI r36.next]), (1544, ob0 (roNode r36.nodes))] (an (Copy_ref5Spec p0 r36 hr36) tv) ?_)
       obtain ⟨g37, hm⟩ := go1 hm
       refine Sq (RN hnt (nn 11 []) [(3, rr 1024), (6, rr 1048), (10, rr 1080)] [(c25e3 p0), (c25e2), (1080, bx [ow 1544 (r36.nodes ++ [(c25e1 p0 p1 p2)]).length, pI r36.next]), (1544, ob0 (roNode (r36.nodes ++ [(c25e1 p0 p1 p2)])))] [] [(1080, .box [ow 1544 (r36.nodes.length + 1), pI r36.next]), (1544, .row 6 (r36.nodes.length + 1) (catF r36.nodes.length (elNode r36.nodes) (cut 6 [vi p0.next, vi p1, vs p2, vi 0, vi 0, vi 0])))] (an (by omega : (r36.nodes.length + 1) * 56 ≤ 140737488355328) tv) (by kernel_rfl) .nil (.cons rfl (.box (.cons (MLe.ownLen (enc := encNode) (d := dNode) (f := (catF r36.nodes.length (elNode r36.nodes) (cut 6 [vi p0.next, vi p1, vs p2, vi 0, vi 0, vi 0]))) (RowIs.cat RowIs.elems (RowIs.lit (enc := encNode) (d := dNode) (n := 1) (f := (cut 6 [vi p0.next, vi p1, vs p2, vi 0, vi 0, vi 0])) [(c25e1 p0 p1 p2)] rfl (fun | 0, _ => rfl | n + 1, h => absurd h (by omega))))) (.cons .rfl .nil))) (.cons rfl (BLe.typed (RowIs.cat RowIs.elems (RowIs.lit (enc := encNode) (d := dNode) (n := 1) (f := (cut 6 [vi p0.next, vi p1, vs p2, vi 0, vi 0, vi 0])) [(c25e1 p0 p1 p2)] rfl (fun | 0, _ => rfl | n + 1, h => absurd h (by omega))))) .nil)) ?_)
       refine Sq (RD hnt (nn 5 []) [] [] [] [(1080, bx [ow 1544 (r36.nodes ++ [(c25e1 p0 p1 p2)]).length, pI (w64 (r36.next + 1))])] tv ?_)
       refine Sq (RD hnt (nn 6 []) [3, 10] [(7, pI p0.next), (8, pI 0)] [1024, 1080] [(1048, bx [ow 1544 (r36.nodes ++ [(c25e1 p0 p1 p2)]).length, pI (w64 (r36.next + 1))])] tv ?_)
       obtain rfl := sj hm
       exact DW.ret (retK [roNode (r36.nodes ++ [(c25e1 p0 p1 p2)])] [1544] (.tup [.agg [ow 0 (r36.nodes ++ [(c25e1 p0 p1 p2)]).length, pI (w64 (r36.next + 1))], pI p0.next, pI 0]))
     ·rcases bt (decide (r32 ≥ 8)) with h33 | h33
      ·replace hm := if_t h33 hm
       refine RD hnt (nn 2 (o26 [] true r32 :: nn 2 (sk 4 (pT :: .no :: sk 3 (pT :: []))))) [9, 29] [(65, pB true)] [] [] (an (Depth_ref5Spec p0 p1 r32 hr32) (an5 h33 (an4 tt tv))) ?_
       exact jD true hm Conv.eqK
      ·replace hm := if_f h33 hm
       rcases bt (decide (((p0.nodes.length : Nat) : Int) ≥ 64)) with h34 | h34
       ·replace hm := if_t h34 hm
        refine RD hnt (nn 2 (o26 [] true r32 :: nn 6 (pF :: .no :: sk 3 (pT :: [])))) [9, 29] [(65, pB true)] [] [] (an (Depth_ref5Spec p0 p1 r32 hr32) (an5 h33 (an4 h34 tv))) ?_
        exact jD true hm Conv.eqK
       ·replace hm := if_f h34 hm
        refine RD hnt (nn 2 (o26 [] true r32 :: nn 6 (pF :: nn 4 (pF :: [])))) [9, 29] [(65, pB (decide (p0.next > 2147483647)))] [] [] (an (Depth_ref5Spec p0 p1 r32 hr32) (an5 h33 (an4 h34 tv))) ?_
        exact jD (decide (p0.next > 2147483647)) hm Conv.eqK
 ·rcases bt (!r1) with h2 | h2
  ·replace hm := if_t h2 hm
   refine RD hnt (.no :: o10 [] true r1 :: nn 2 (sk 3 (pT :: []))) [] [(18, pB true)] [] [] (an (Check_ref5Spec p0 r1 hr1) (an4 h2 tv)) ?_
   exact jD true hm Conv.eqK
  ·replace hm := if_f h2 hm
   obtain ⟨r3, hr3, hm⟩ := bo hm
   refine RD hnt (.no :: o10 [] true r1 :: nn 3 (o12 [] true r3 :: .no :: pF :: [])) [] [(18, pB (!r3))] [] [] (an (Check_ref5Spec p0 r1 hr1) (an2 h2 (an (Valid_ref1Spec p2 r3 hr3) (an2 h2 tv)))) ?_
   exact jD (!r3) hm Conv.eqK
abbrev o25 (ks : List Nat) (b : Bool) (RES : Tree × Int × Int) : Orc := .call 131 ks b (.tup [.agg [ow 0 RES.1.nodes.length, pI RES.1.next], pI RES.2.1, pI RES.2.2]) [] [roNode RES.1.nodes]

theorem Copy_ref6Spec (p0 : Hierarchy) (RES : Hierarchy) (hm : Copy_ref6 p0 = some RES) : Spec Tryz.prog 105 [.p (.agg (encHierarchy p0))] [] (.agg [ow 0 RES.tree.nodes.length, pI RES.tree.next, ow 1 RES.tasks.length, pI RES.next]) [] [roNode RES.tree.nodes, roTask RES.tasks] := by
 unfold Copy_ref6 at hm
 refine SO Tryz.func105 rfl rfl [(0, .p (.agg (encHierarchy p0)))] [] ?_
 intro cx hnt
 refine Sq (RK hnt (nn 2 []) [(1, rr 1008), (2, rr 1016)] [(1008, bx (pm (encHierarchy p0))), (1016, bx [.p (.sl .nil 0 0 (fun _ => [])), pI 0, .p (.sl .nil 0 0 (fun _ => [])), pI 0])] tv ?_)
 obtain ⟨r1, hr1, hm⟩ := bo hm
 obtain ⟨g2, hm⟩ := go1 hm
 refine Sq (RN hnt (nn 2 (o27 [] true r1 :: nn 7 [])) [(2, rr 1016)] [(1016, bx [ow 1040 r1.nodes.length, pI r1.next, ow 1064 p0.tasks.length, pI p0.next]), (1040, ob0 (roNode r1.nodes)), (1064, ob0 (roTask p0.tasks))] [] [(1064, .row 4 p0.tasks.length (elTask p0.tasks))] (an (Copy_ref5Spec p0.tree r1 hr1) (an (by omega : p0.tasks.length * 32 ≤ 140737488355328) tv)) (by kernel_rfl) .nil (.cons rfl (BLe.typed RowIs.elems) .nil) ?_)
 obtain rfl := sj hm
 exact DW.ret (retK [roNode r1.nodes, roTask p0.tasks] [1040, 1064] (.agg [ow 0 r1.nodes.length, pI r1.next, ow 1 p0.tasks.length, pI p0.next]))
abbrev o28 (ks : List Nat) (b : Bool) (RES : Hierarchy) : Orc := .call 105 ks b (.agg [ow 0 RES.tree.nodes.length, pI RES.tree.next, ow 1 RES.tasks.length, pI RES.next]) [] [roNode RES.tree.nodes, roTask RES.tasks]

theorem Create_ref8Spec (p0 : Hierarchy) (p1 : Int) (p2 : ByteArray) (RES : Hierarchy × Int × Int) (hm : Create_ref8 p0 p1 p2 = some RES) : Spec Tryz.prog 79 [.p (.agg (encHierarchy p0)), pI p1, pS p2] [] (.tup [.agg [ow 0 RES.1.tree.nodes.length, pI RES.1.tree.next, ow 1 RES.1.tasks.length, pI RES.1.next], pI RES.2.1, pI RES.2.2]) [] [roNode RES.1.tree.nodes, roTask RES.1.tasks] := by
 unfold Create_ref8 at hm
 refine SO Tryz.func79 rfl rfl [(0, .p (.agg (encHierarchy p0))), (1, pI p1), (2, pS p2)] [] ?_
 intro cx hnt
 refine Sq (RD hnt (nn 4 []) [0] [(3, rr 1024), (6, rr 1048)] [] [(1024, bx (pm (encHierarchy p0))), (1048, bx [.p (.sl .nil 0 0 (fun _ => [])), pI 0, .p (.sl .nil 0 0 (fun _ => [])), pI 0])] tv ?_)
 obtain ⟨r1, hr1, hm⟩ := bo hm
 refine Sq (Sq (RD hnt (.no :: o7 [] true r1 :: .no :: []) [] [(15, pB (!r1))] [] [] (an (Fits_ref8Spec p0 r1 hr1) tv) ?_))
 refine condM hm ?_ ?_
 ·intro h2 hm
  refine Sq (RD hnt (nn 4 []) [1, 2, 3, 15] [(7, pI 0), (8, pI 1)] [1024] [] tv ?_)
  refine DW.cv [] [] [] [(1048, bx [ow 100000 0, pI 0, ow 100001 0, pI 0]), (100000, ob0 (roNode [])), (100001, ob0 (roTask []))] (Conv.ads [(.o 1048 0, 100000, 6, elems encNode dNode []), (.o 1048 2, 100001, 4, elems encTask dTask [])]) ?_
  obtain rfl := sj hm
  exact DW.ret (retK [roNode [], roTask []] [100000, 100001] (.tup [.agg [ow 0 0, pI 0, ow 1 0, pI 0], pI 0, pI 1]))
 ·intro h2 hm
  refine Sk ?_
  obtain ⟨r3, hr3, hm⟩ := bo hm
  refine Sq (RD hnt (nn 4 (o25 [] true r3 :: nn 8 [])) [1, 2, 15] [(9, rr 1072), (10, pI r3.2.1), (11, pI r3.2.2)] [] [(1072, bx [ow 1176 r3.1.nodes.length, pI r3.1.next]), (1176, ob0 (roNode r3.1.nodes))] (an (Add_ref5Spec p0.tree p1 p2 r3 hr3) tv) ?_)
  refine Sq (Sq (RD hnt (nn 2 []) [] [(27, pB (r3.2.2 != 0))] [] [] tv ?_))
  refine condM hm ?_ ?_
  ·intro h4 hm
   refine Sq (RD hnt (nn 5 []) [3, 9, 10, 11, 27] [(7, pI 0), (8, pI r3.2.2)] [1024, 1072, 1176] [] tv ?_)
   refine DW.cv [] [] [] [(1048, bx [ow 100000 0, pI 0, ow 100001 0, pI 0]), (100000, ob0 (roNode [])), (100001, ob0 (roTask []))] (Conv.ads [(.o 1048 0, 100000, 6, elems encNode dNode []), (.o 1048 2, 100001, 4, elems encTask dTask [])]) ?_
   obtain rfl := sj hm
   exact DW.ret (retK [roNode [], roTask []] [100000, 100001] (.tup [.agg [ow 0 0, pI 0, ow 1 0, pI 0], pI 0, pI r3.2.2]))
  ·intro h4 hm
   refine Sk ?_
   obtain ⟨r5, hr5, hm⟩ := bo hm
   refine Sq (RD hnt (.no :: o28 [] true r5 :: nn 2 []) [3, 11, 27] [(12, rr 1096)] [1024] [(1096, bx [ow 1248 r5.tree.nodes.length, pI r5.tree.next, ow 1249 r5.tasks.length, pI r5.next]), (1248, ob0 (roNode r5.tree.nodes)), (1249, ob0 (roTask r5.tasks))] (an (Copy_ref6Spec p0 r5 hr5) tv) ?_)
   refine Sq (RD hnt (nn 3 []) [9] [] [1072, 1248] [(1096, bx [ow 1176 r3.1.nodes.length, pI r3.1.next, ow 1249 r5.tasks.length, pI r5.next])] tv ?_)
   refine Sq (RD hnt (nn 5 []) [10, 12] [(7, pI r3.2.1), (8, pI 0)] [1096] [(1048, bx [ow 1176 r3.1.nodes.length, pI r3.1.next, ow 1249 r5.tasks.length, pI r5.next])] tv ?_)
   obtain rfl := sj hm
   exact DW.ret (retK [roNode r3.1.nodes, roTask r5.tasks] [1176, 1249] (.tup [.agg [ow 0 r3.1.nodes.length, pI r3.1.next, ow 1 r5.tasks.length, pI r5.next], pI r3.2.1, pI 0]))
abbrev o6 (ks : List Nat) (b : Bool) (RES : Hierarchy × Int × Int) : Orc := .call 79 ks b (.tup [.agg [ow 0 RES.1.tree.nodes.length, pI RES.1.tree.next, ow 1 RES.1.tasks.length, pI RES.1.next], pI RES.2.1, pI RES.2.2]) [] [roNode RES.1.tree.nodes, roTask RES.1.tasks]

abbrev c30e1 : Nat × Obj := (1032, bx [.p (.sl .nil 0 0 (fun _ => [])), pI 0, .p (.sl .nil 0 0 (fun _ => [])), pI 0])
abbrev c30e2 (r3 : Hierarchy) : Nat × Obj := (1056, bx [ow 1152 r3.tree.nodes.length, pI r3.tree.next, ow 1153 r3.tasks.length, pI r3.next])
theorem add_ref6Spec (p0 : Hierarchy) (p1 : Task) (RES : Hierarchy × Int × Int) (hm : add_ref6 p0 p1 = some RES) : Spec Tryz.prog 121 [.p (.agg (encHierarchy p0)), .p (.agg (encTask p1))] [] (.tup [.agg [ow 0 RES.1.tree.nodes.length, pI RES.1.tree.next, ow 1 RES.1.tasks.length, pI RES.1.next], pI RES.2.1, pI RES.2.2]) [] [roNode RES.1.tree.nodes, roTask RES.1.tasks] := by
 unfold add_ref6 at hm
 refine SO Tryz.func121 rfl rfl [(0, .p (.agg (encHierarchy p0))), (1, .p (.agg (encTask p1)))] [] ?_
 intro cx hnt
 refine Sq (RK hnt (nn 5 []) [(2, rr 1016), (3, rr 1024), (4, rr 1032)] [(1016, bx (pm (encHierarchy p0))), (1024, bx (pm (encTask p1))), (c30e1)] tv ?_)
 refine Sq (Sq (DW.regJ (sl2 := [(2, rr 1016), (3, rr 1024), (4, rr 1032), (16, pB ((decide (((p0.tasks.length : Nat) : Int) ≥ 128)) || (decide (p0.next > 2147483647))))]) (ob2 := [(1016, bx (pm (encHierarchy p0))), (1024, bx (pm (encTask p1))), (c30e1)]) ?_ ?_))
 ·rcases bt (decide (((p0.tasks.length : Nat) : Int) ≥ 128)) with h1 | h1
  ·exact RT hnt (nn 5 (sk 3 (pT :: []))) [(16, pB true)] (an4 h1 tv) (by kernel_rfl) (.cons rfl (.of_eq (by rw [h1]; try rfl)) .nil)
  ·exact RT hnt (nn 8 (pF :: [])) [(16, pB (decide (p0.next > 2147483647)))] (an4 h1 tv) (by kernel_rfl) (.cons rfl (.of_eq (by rw [h1]; try rfl)) .nil)
 ·refine condM hm ?_ ?_
  ·intro h2 hm
   refine Sq (RD hnt (nn 4 []) [2, 3, 16] [(5, pI 0), (6, pI 7)] [1016, 1024] [] tv ?_)
   refine DW.cv [] [] [] [(1032, bx [ow 100000 0, pI 0, ow 100001 0, pI 0]), (100000, ob0 (roNode [])), (100001, ob0 (roTask []))] (Conv.ads [(.o 1032 0, 100000, 6, elems encNode dNode []), (.o 1032 2, 100001, 4, elems encTask dTask [])]) ?_
   obtain rfl := sj hm
   exact DW.ret (retK [roNode [], roTask []] [100000, 100001] (.tup [.agg [ow 0 0, pI 0, ow 1 0, pI 0], pI 0, pI 7]))
  ·intro h2 hm
   refine Sk ?_
   obtain ⟨r3, hr3, hm⟩ := bo hm
   refine Sq (RD hnt (.no :: o28 [] true r3 :: nn 2 []) [16] [(7, rr 1056)] [] [(c30e2 r3), (1152, ob0 (roNode r3.tree.nodes)), (1153, ob0 (roTask r3.tasks))] (an (Copy_ref6Spec p0 r3 hr3) tv) ?_)
   refine Sq (RD hnt (nn 4 []) [2] [] [1016] [(1024, bx [pI p0.next, pI p1.process, pI p1.group, pI p1.user])] tv ?_)
   refine Sq (Sq (RD hnt (nn 3 []) [] [(25, pB (p1.process == 0))] [] [] tv ?_))
   refine Jn (ι := Task) (fun (y1 : Task) => mkSt [(3, rr 1024), (4, rr 1032), (7, rr 1056)] [(1024, bx (pm (encTask y1))), (c30e1), (c30e2 r3), (1152, ob0 (roNode r3.tree.nodes)), (1153, ob0 (roTask r3.tasks))]) (fun y1 => (add_ref6J1 r3) y1 = some RES) ?_ ?_
   ·intro y1 hm
    unfold add_ref6J1 at hm
    obtain ⟨g5, hm⟩ := go1 hm
    refine Sq (RN hnt (nn 7 []) [(3, rr 1024), (4, rr 1032), (7, rr 1056)] [(1024, bx (pm (encTask y1))), (c30e1), (1056, bx [ow 1152 r3.tree.nodes.length, pI r3.tree.next, ow 1153 (r3.tasks ++ [y1]).length, pI r3.next]), (1152, ob0 (roNode r3.tree.nodes)), (1153, ob0 (roTask (r3.tasks ++ [y1])))] [] [(1056, .box [ow 1152 r3.tree.nodes.length, pI r3.tree.next, ow 1153 (r3.tasks.length + 1), pI r3.next]), (1153, .row 4 (r3.tasks.length + 1) (catF r3.tasks.length (elTask r3.tasks) (cut 4 [vi y1.id, vi y1.process, vi y1.group, vi y1.user])))] (an (by omega : (r3.tasks.length + 1) * 32 ≤ 140737488355328) tv) (by kernel_rfl) .nil (.cons rfl (.box (.cons .rfl (.cons .rfl (.cons (MLe.ownLen (enc := encTask) (d := dTask) (f := (catF r3.tasks.length (elTask r3.tasks) (cut 4 [vi y1.id, vi y1.process, vi y1.group, vi y1.user]))) (RowIs.cat RowIs.elems (RowIs.lit (enc := encTask) (d := dTask) (n := 1) (f := (cut 4 [vi y1.id, vi y1.process, vi y1.group, vi y1.user])) [y1] rfl (fun | 0, _ => rfl | n + 1, h => absurd h (by omega))))) (.cons .rfl .nil))))) (.cons rfl (BLe.typed (RowIs.cat RowIs.elems (RowIs.lit (enc := encTask) (d := dTask) (n := 1) (f := (cut 4 [vi y1.id, vi y1.process, vi y1.group, vi y1.user])) [y1] rfl (fun | 0, _ => rfl | n + 1, h => absurd h (by omega))))) .nil)) ?_)
    refine Sq (RD hnt (nn 5 []) [] [] [] [(1056, bx [ow 1152 r3.tree.nodes.length, pI r3.tree.next, ow 1153 (r3.tasks ++ [y1]).length, pI (w64 (r3.next + 1))])] tv ?_)
    refine Sq (RD hnt (nn 6 []) [3, 7] [(5, pI y1.id), (6, pI 0)] [1024, 1056] [(1032, bx [ow 1152 r3.tree.nodes.length, pI r3.tree.next, ow 1153 (r3.tasks ++ [y1]).length, pI (w64 (r3.next + 1))])] tv ?_)
    obtain rfl := sj hm
    exact DW.ret (retK [roNode r3.tree.nodes, roTask (r3.tasks ++ [y1])] [1152, 1153] (.tup [.agg [ow 0 r3.tree.nodes.length, pI r3.tree.next, ow 1 (r3.tasks ++ [y1]).length, pI (w64 (r3.next + 1))], pI y1.id, pI 0]))
   ·refine condM hm ?_ ?_
    ·intro h4 hm
     refine RD hnt (nn 4 []) [25] [] [] [(1024, bx [pI p0.next, pI p0.next, pI p1.group, pI p1.user])] tv ?_
     exact jD ({ id := p0.next, process := p0.next, group := p1.group, user := p1.user } : Task) hm Conv.eqK
    ·intro h4 hm
     refine Sk ?_
     exact jD ({ id := p0.next, process := p1.process, group := p1.group, user := p1.user } : Task) hm Conv.t0
abbrev o30 (ks : List Nat) (b : Bool) (RES : Hierarchy × Int × Int) : Orc := .call 121 ks b (.tup [.agg [ow 0 RES.1.tree.nodes.length, pI RES.1.tree.next, ow 1 RES.1.tasks.length, pI RES.1.next], pI RES.2.1, pI RES.2.2]) [] [roNode RES.1.tree.nodes, roTask RES.1.tasks]

abbrev c29e1 : Nat × Obj := (1048, bx [.p (.sl .nil 0 0 (fun _ => [])), pI 0, .p (.sl .nil 0 0 (fun _ => [])), pI 0])
theorem Spawn_ref6Spec (p0 : Hierarchy) (p1 : Int) (p2 : Int) (RES : Hierarchy × Int × Int) (hm : Spawn_ref6 p0 p1 p2 = some RES) : Spec Tryz.prog 66 [.p (.agg (encHierarchy p0)), pI p1, pI p2] [] (.tup [.agg [ow 0 RES.1.tree.nodes.length, pI RES.1.tree.next, ow 1 RES.1.tasks.length, pI RES.1.next], pI RES.2.1, pI RES.2.2]) [] [roNode RES.1.tree.nodes, roTask RES.1.tasks] := by
 unfold Spawn_ref6 at hm
 refine SO Tryz.func66 rfl rfl [(0, .p (.agg (encHierarchy p0))), (1, pI p1), (2, pI p2)] [] ?_
 intro cx hnt
 refine Sq (RD hnt (nn 4 []) [0] [(3, rr 1024), (6, rr 1048)] [] [(1024, bx (pm (encHierarchy p0))), (c29e1)] tv ?_)
 obtain ⟨r1, hr1, hm⟩ := bo hm
 refine Sq (Sq ?_)
 refine Jn (ι := Bool) (fun (y1 : Bool) => mkSt [(1, pI p1), (2, pI p2), (3, rr 1024), (6, rr 1048), (19, pB y1)] [(1024, bx (pm (encHierarchy p0))), (c29e1)]) (fun y1 => (Spawn_ref6J1 p0 p1 p2) y1 = some RES) ?_ ?_
 ·intro y1 hm
  unfold Spawn_ref6J1 at hm
  refine condM hm ?_ ?_
  ·intro h4 hm
   refine Sq (RD hnt (nn 4 []) [1, 2, 3, 19] [(7, pI 0), (8, pI 1)] [1024] [] tv ?_)
   refine DW.cv [] [] [] [(1048, bx [ow 100000 0, pI 0, ow 100001 0, pI 0]), (100000, ob0 (roNode [])), (100001, ob0 (roTask []))] (Conv.ads [(.o 1048 0, 100000, 6, elems encNode dNode []), (.o 1048 2, 100001, 4, elems encTask dTask [])]) ?_
   obtain rfl := sj hm
   exact DW.ret (retK [roNode [], roTask []] [100000, 100001] (.tup [.agg [ow 0 0, pI 0, ow 1 0, pI 0], pI 0, pI 1]))
  ·intro h4 hm
   refine Sk ?_
   obtain ⟨r5, hr5, hm⟩ := bo hm
   refine Sq (Sq (RD hnt (nn 3 (o15 [] true r5 :: .no :: [])) [19] [(25, pB (!r5))] [] [] (an (Has_ref5Spec p0.tree p1 r5 hr5) tv) ?_))
   refine condM hm ?_ ?_
   ·intro h6 hm
    refine Sq (RD hnt (nn 4 []) [1, 2, 3, 25] [(7, pI 0), (8, pI 4)] [1024] [] tv ?_)
    refine DW.cv [] [] [] [(1048, bx [ow 100000 0, pI 0, ow 100001 0, pI 0]), (100000, ob0 (roNode [])), (100001, ob0 (roTask []))] (Conv.ads [(.o 1048 0, 100000, 6, elems encNode dNode []), (.o 1048 2, 100001, 4, elems encTask dTask [])]) ?_
    obtain rfl := sj hm
    exact DW.ret (retK [roNode [], roTask []] [100000, 100001] (.tup [.agg [ow 0 0, pI 0, ow 1 0, pI 0], pI 0, pI 4]))
   ·intro h6 hm
    refine Sk ?_
    obtain ⟨r7, hr7, hm⟩ := bo hm
    refine Sq (RK hnt (nn 4 (o30 [] true r7 :: nn 6 [])) [(6, rr 1048), (7, pI r7.2.1), (8, pI r7.2.2)] [(1048, bx [ow 1248 r7.1.tree.nodes.length, pI r7.1.tree.next, ow 1249 r7.1.tasks.length, pI r7.1.next]), (1248, ob0 (roNode r7.1.tree.nodes)), (1249, ob0 (roTask r7.1.tasks))] (an (add_ref6Spec p0 ({ id := 0, process := 0, group := p1, user := p2 } : Task) r7 hr7) tv) ?_)
    obtain rfl := sj hm
    exact DW.ret (retK [roNode r7.1.tree.nodes, roTask r7.1.tasks] [1248, 1249] (.tup [.agg [ow 0 r7.1.tree.nodes.length, pI r7.1.tree.next, ow 1 r7.1.tasks.length, pI r7.1.next], pI r7.2.1, pI r7.2.2]))
 ·rcases bt (!r1) with h2 | h2
  ·replace hm := if_t h2 hm
   refine RD hnt (.no :: o9 [] true r1 :: nn 2 (sk 2 (pT :: .no :: sk 2 (pT :: [])))) [] [(19, pB true)] [] [] (an (Check_ref6Spec p0 r1 hr1) (an3 h2 (an3 tt tv))) ?_
   exact jD true hm Conv.eqK
  ·replace hm := if_f h2 hm
   rcases bt (decide (p2 < 0)) with h3 | h3
   ·replace hm := if_t h3 hm
    refine RD hnt (.no :: o9 [] true r1 :: nn 4 (pF :: .no :: sk 2 (pT :: []))) [] [(19, pB true)] [] [] (an (Check_ref6Spec p0 r1 hr1) (an3 h2 (an3 h3 tv))) ?_
    exact jD true hm Conv.eqK
   ·replace hm := if_f h3 hm
    refine RD hnt (.no :: o9 [] true r1 :: nn 4 (pF :: nn 3 (pF :: []))) [] [(19, pB (decide (p2 > 1048576)))] [] [] (an (Check_ref6Spec p0 r1 hr1) (an3 h2 (an3 h3 tv))) ?_
    exact jD (decide (p2 > 1048576)) hm Conv.eqK
abbrev o29 (ks : List Nat) (b : Bool) (RES : Hierarchy × Int × Int) : Orc := .call 66 ks b (.tup [.agg [ow 0 RES.1.tree.nodes.length, pI RES.1.tree.next, ow 1 RES.1.tasks.length, pI RES.1.next], pI RES.2.1, pI RES.2.2]) [] [roNode RES.1.tree.nodes, roTask RES.1.tasks]
end Go.Dm


/- Go functions compute their models, printed by a program. -/
namespace Go.Dm
open Go.Proofs
set_option linter.unusedVariables false
theorem root_treeSpec (p0 : Node) (RES : Bool) (hm : root_tree p0 = some RES) : Spec Tryz.prog 152 [.p (.agg (encNode p0))] [] (pB RES) [] [] := by
 unfold root_tree at hm
 refine SO Tryz.func152 rfl rfl [(0, .p (.agg (encNode p0)))] [] ?_
 intro cx hnt
 refine Sq (RK hnt (nn 2 []) [(1, rr 1008)] [(1008, bx (pm (encNode p0)))] tv ?_)
 refine Sq (DW.regJ (sl2 := [(2, pB ((((p0.id == 1) && (p0.parent == 0)) && (beqS p0.name ByteArray.empty)) && (p0.kind == 0)))]) (ob2 := []) ?_ ?_)
 ·rcases bt (p0.id == 1) with h1 | h1
  ·rcases bt (p0.parent == 0) with h2 | h2
   ·rcases bt (beqS p0.name ByteArray.empty) with h3 | h3
    ·exact RT hnt (nn 7 (pT :: nn 4 (pT :: nn 4 (pT :: .no :: [])))) [(2, pB (p0.kind == 0))] (an4 h1 (an4 h2 (an4 h3 tv))) (by kernel_rfl) (.cons rfl (.of_eq (by rw [h1, h2, h3]; try rfl)) .nil)
    ·exact RT hnt (nn 7 (pT :: nn 4 (pT :: .no :: sk 3 (pF :: .no :: [])))) [(2, pB false)] (an4 h1 (an4 h2 (an4 h3 tv))) (by kernel_rfl) (.cons rfl (.of_eq (by rw [h1, h2, h3]; try rfl)) .nil)
   ·exact RT hnt (nn 7 (pT :: .no :: sk 3 (pF :: .no :: sk 3 (pF :: .no :: [])))) [(2, pB false)] (an4 h1 (an4 h2 (an4 ff tv))) (by kernel_rfl) (.cons rfl (.of_eq (by rw [h1, h2]; try rfl)) .nil)
  ·exact RT hnt (nn 4 (sk 3 (pF :: .no :: sk 3 (pF :: .no :: sk 3 (pF :: .no :: []))))) [(2, pB false)] (an4 h1 (an2 ff (an6 ff tv))) (by kernel_rfl) (.cons rfl (.of_eq (by rw [h1]; try rfl)) .nil)
 ·refine DW.ret ?_
  obtain rfl := sj hm
  exact retK [] [] (pB ((((p0.id == 1) && (p0.parent == 0)) && (beqS p0.name ByteArray.empty)) && (p0.kind == 0)))
abbrev o35 (ks : List Nat) (b : Bool) (RES : Bool) : Orc := .call 152 ks b (pB RES) [] []

theorem inner_nameSpec (p0 : Int) (RES : Bool) (hm : inner_name p0 = some RES) : Spec Tryz.prog 176 [.p (vk .u8 p0)] [] (pB RES) [] [] := by
 unfold inner_name at hm
 refine SO Tryz.func176 rfl rfl [(0, .p (vk .u8 p0))] [] ?_
 intro cx hnt
 refine Sq (RD hnt (.no :: []) [] [] [] [] tv ?_)
 refine Sq (DW.regJ (sl2 := [(2, pB ((((((decide (p0 ≥ 97)) && (decide (p0 ≤ 122))) || ((decide (p0 ≥ 65)) && (decide (p0 ≤ 90)))) || ((decide (p0 ≥ 48)) && (decide (p0 ≤ 57)))) || (p0 == 95)) || (p0 == 45)))]) (ob2 := []) ?_ ?_)
 ·rcases bt (decide (p0 ≥ 97)) with h1 | h1
  ·rcases bt (decide (p0 ≤ 122)) with h2 | h2
   ·exact RT hnt (nn 5 (pT :: .no :: sk 6 (pT :: .no :: sk 6 (pT :: .no :: sk 2 (pT :: .no :: sk 2 (pT :: .no :: [])))))) [(2, pB true)] (an3 h1 (an5 h2 (an5 tt (an6 tt tv)))) (by kernel_rfl) (.cons rfl (.of_eq (by rw [h1, h2]; try rfl)) .nil)
   ·rcases bt (decide (p0 ≥ 65)) with h3 | h3
    ·rcases bt (decide (p0 ≤ 90)) with h4 | h4
     ·exact RT hnt (nn 5 (pT :: nn 6 (pT :: pF :: .no :: sk 6 (pT :: .no :: sk 2 (pT :: .no :: sk 2 (pT :: .no :: [])))))) [(2, pB true)] (an3 h1 (an3 h2 (an2 h3 (an h2 (an h3 (an h2 (an5 h4 (an6 tt tv)))))))) (by kernel_rfl) (.cons rfl (.of_eq (by rw [h1, h2, h3, h4]; try rfl)) .nil)
     ·rcases bt (decide (p0 ≥ 48)) with h5 | h5
      ·rcases bt (decide (p0 ≤ 57)) with h6 | h6
       ·exact RT hnt (nn 5 (pT :: nn 6 (pT :: pF :: nn 6 (pT :: pF :: .no :: sk 2 (pT :: .no :: sk 2 (pT :: .no :: [])))))) [(2, pB true)] (an3 h1 (an3 h2 (an2 h3 (an h2 (an h3 (an h2 (an3 h4 (an2 h5 (an h4 (an h5 (an h4 (an3 h6 (an3 tt tv))))))))))))) (by kernel_rfl) (.cons rfl (.of_eq (by rw [h1, h2, h3, h4, h5, h6]; try rfl)) .nil)
       ·rcases bt (p0 == 95) with h7 | h7
        ·exact RT hnt (nn 5 (pT :: nn 6 (pT :: pF :: nn 6 (pT :: pF :: nn 3 (pF :: .no :: sk 2 (pT :: .no :: [])))))) [(2, pB true)] (an3 h1 (an3 h2 (an2 h3 (an h2 (an h3 (an h2 (an3 h4 (an2 h5 (an h4 (an h5 (an h4 (an3 h6 (an3 h7 tv))))))))))))) (by kernel_rfl) (.cons rfl (.of_eq (by rw [h1, h2, h3, h4, h5, h6, h7]; try rfl)) .nil)
        ·exact RT hnt (nn 5 (pT :: nn 6 (pT :: pF :: nn 6 (pT :: pF :: nn 3 (pF :: nn 3 (pF :: .no :: [])))))) [(2, pB (p0 == 45))] (an3 h1 (an3 h2 (an2 h3 (an h2 (an h3 (an h2 (an3 h4 (an2 h5 (an h4 (an h5 (an h4 (an3 h6 (an3 h7 tv))))))))))))) (by kernel_rfl) (.cons rfl (.of_eq (by rw [h1, h2, h3, h4, h5, h6, h7]; try rfl)) .nil)
      ·rcases bt (p0 == 95) with h8 | h8
       ·exact RT hnt (nn 5 (pT :: nn 6 (pT :: pF :: nn 4 (sk 2 (pF :: pF :: nn 3 (pF :: .no :: sk 2 (pT :: .no :: []))))))) [(2, pB true)] (an3 h1 (an3 h2 (an2 h3 (an h2 (an h3 (an h2 (an3 h4 (an2 h5 (an h4 (an h5 (an h4 (an3 ff (an3 h8 tv))))))))))))) (by kernel_rfl) (.cons rfl (.of_eq (by rw [h1, h2, h3, h4, h5, h8]; try rfl)) .nil)
       ·exact RT hnt (nn 5 (pT :: nn 6 (pT :: pF :: nn 4 (sk 2 (pF :: pF :: nn 3 (pF :: nn 3 (pF :: .no :: []))))))) [(2, pB (p0 == 45))] (an3 h1 (an3 h2 (an2 h3 (an h2 (an h3 (an h2 (an3 h4 (an2 h5 (an h4 (an h5 (an h4 (an3 ff (an3 h8 tv))))))))))))) (by kernel_rfl) (.cons rfl (.of_eq (by rw [h1, h2, h3, h4, h5, h8]; try rfl)) .nil)
    ·rcases bt (decide (p0 ≥ 48)) with h9 | h9
     ·rcases bt (decide (p0 ≤ 57)) with h10 | h10
      ·exact RT hnt (nn 5 (pT :: nn 4 (sk 2 (pF :: pF :: nn 6 (pT :: pF :: .no :: sk 2 (pT :: .no :: sk 2 (pT :: .no :: []))))))) [(2, pB true)] (an3 h1 (an3 h2 (an2 h3 (an h2 (an h3 (an h2 (an3 ff (an2 h9 (an ff (an h9 (an ff (an3 h10 (an3 tt tv))))))))))))) (by kernel_rfl) (.cons rfl (.of_eq (by rw [h1, h2, h3, h9, h10]; try rfl)) .nil)
      ·rcases bt (p0 == 95) with h11 | h11
       ·exact RT hnt (nn 5 (pT :: nn 4 (sk 2 (pF :: pF :: nn 6 (pT :: pF :: nn 3 (pF :: .no :: sk 2 (pT :: .no :: []))))))) [(2, pB true)] (an3 h1 (an3 h2 (an2 h3 (an h2 (an h3 (an h2 (an3 ff (an2 h9 (an ff (an h9 (an ff (an3 h10 (an3 h11 tv))))))))))))) (by kernel_rfl) (.cons rfl (.of_eq (by rw [h1, h2, h3, h9, h10, h11]; try rfl)) .nil)
       ·exact RT hnt (nn 5 (pT :: nn 4 (sk 2 (pF :: pF :: nn 6 (pT :: pF :: nn 3 (pF :: nn 3 (pF :: .no :: []))))))) [(2, pB (p0 == 45))] (an3 h1 (an3 h2 (an2 h3 (an h2 (an h3 (an h2 (an3 ff (an2 h9 (an ff (an h9 (an ff (an3 h10 (an3 h11 tv))))))))))))) (by kernel_rfl) (.cons rfl (.of_eq (by rw [h1, h2, h3, h9, h10, h11]; try rfl)) .nil)
     ·rcases bt (p0 == 95) with h12 | h12
      ·exact RT hnt (nn 5 (pT :: nn 4 (sk 2 (pF :: pF :: nn 4 (sk 2 (pF :: pF :: nn 3 (pF :: .no :: sk 2 (pT :: .no :: [])))))))) [(2, pB true)] (an3 h1 (an3 h2 (an2 h3 (an h2 (an h3 (an h2 (an3 ff (an2 h9 (an ff (an h9 (an4 ff (an3 h12 tv)))))))))))) (by kernel_rfl) (.cons rfl (.of_eq (by rw [h1, h2, h3, h9, h12]; try rfl)) .nil)
      ·exact RT hnt (nn 5 (pT :: nn 4 (sk 2 (pF :: pF :: nn 4 (sk 2 (pF :: pF :: nn 3 (pF :: nn 3 (pF :: .no :: [])))))))) [(2, pB (p0 == 45))] (an3 h1 (an3 h2 (an2 h3 (an h2 (an h3 (an h2 (an3 ff (an2 h9 (an ff (an h9 (an4 ff (an3 h12 tv)))))))))))) (by kernel_rfl) (.cons rfl (.of_eq (by rw [h1, h2, h3, h9, h12]; try rfl)) .nil)
  ·rcases bt (decide (p0 ≥ 65)) with h13 | h13
   ·rcases bt (decide (p0 ≤ 90)) with h14 | h14
    ·exact RT hnt (nn 3 (sk 2 (pF :: nn 6 (pT :: pF :: .no :: sk 6 (pT :: .no :: sk 2 (pT :: .no :: sk 2 (pT :: .no :: []))))))) [(2, pB true)] (an3 h1 (an3 ff (an2 h13 (an ff (an h13 (an ff (an5 h14 (an6 tt tv)))))))) (by kernel_rfl) (.cons rfl (.of_eq (by rw [h1, h13, h14]; try rfl)) .nil)
    ·rcases bt (decide (p0 ≥ 48)) with h15 | h15
     ·rcases bt (decide (p0 ≤ 57)) with h16 | h16
      ·exact RT hnt (nn 3 (sk 2 (pF :: nn 6 (pT :: pF :: nn 6 (pT :: pF :: .no :: sk 2 (pT :: .no :: sk 2 (pT :: .no :: []))))))) [(2, pB true)] (an3 h1 (an3 ff (an2 h13 (an ff (an h13 (an ff (an3 h14 (an2 h15 (an h14 (an h15 (an h14 (an3 h16 (an3 tt tv))))))))))))) (by kernel_rfl) (.cons rfl (.of_eq (by rw [h1, h13, h14, h15, h16]; try rfl)) .nil)
      ·rcases bt (p0 == 95) with h17 | h17
       ·exact RT hnt (nn 3 (sk 2 (pF :: nn 6 (pT :: pF :: nn 6 (pT :: pF :: nn 3 (pF :: .no :: sk 2 (pT :: .no :: []))))))) [(2, pB true)] (an3 h1 (an3 ff (an2 h13 (an ff (an h13 (an ff (an3 h14 (an2 h15 (an h14 (an h15 (an h14 (an3 h16 (an3 h17 tv))))))))))))) (by kernel_rfl) (.cons rfl (.of_eq (by rw [h1, h13, h14, h15, h16, h17]; try rfl)) .nil)
       ·exact RT hnt (nn 3 (sk 2 (pF :: nn 6 (pT :: pF :: nn 6 (pT :: pF :: nn 3 (pF :: nn 3 (pF :: .no :: []))))))) [(2, pB (p0 == 45))] (an3 h1 (an3 ff (an2 h13 (an ff (an h13 (an ff (an3 h14 (an2 h15 (an h14 (an h15 (an h14 (an3 h16 (an3 h17 tv))))))))))))) (by kernel_rfl) (.cons rfl (.of_eq (by rw [h1, h13, h14, h15, h16, h17]; try rfl)) .nil)
     ·rcases bt (p0 == 95) with h18 | h18
      ·exact RT hnt (nn 3 (sk 2 (pF :: nn 6 (pT :: pF :: nn 4 (sk 2 (pF :: pF :: nn 3 (pF :: .no :: sk 2 (pT :: .no :: [])))))))) [(2, pB true)] (an3 h1 (an3 ff (an2 h13 (an ff (an h13 (an ff (an3 h14 (an2 h15 (an h14 (an h15 (an h14 (an3 ff (an3 h18 tv))))))))))))) (by kernel_rfl) (.cons rfl (.of_eq (by rw [h1, h13, h14, h15, h18]; try rfl)) .nil)
      ·exact RT hnt (nn 3 (sk 2 (pF :: nn 6 (pT :: pF :: nn 4 (sk 2 (pF :: pF :: nn 3 (pF :: nn 3 (pF :: .no :: [])))))))) [(2, pB (p0 == 45))] (an3 h1 (an3 ff (an2 h13 (an ff (an h13 (an ff (an3 h14 (an2 h15 (an h14 (an h15 (an h14 (an3 ff (an3 h18 tv))))))))))))) (by kernel_rfl) (.cons rfl (.of_eq (by rw [h1, h13, h14, h15, h18]; try rfl)) .nil)
   ·rcases bt (decide (p0 ≥ 48)) with h19 | h19
    ·rcases bt (decide (p0 ≤ 57)) with h20 | h20
     ·exact RT hnt (nn 3 (sk 2 (pF :: nn 4 (sk 2 (pF :: pF :: nn 6 (pT :: pF :: .no :: sk 2 (pT :: .no :: sk 2 (pT :: .no :: [])))))))) [(2, pB true)] (an3 h1 (an3 ff (an2 h13 (an ff (an h13 (an4 ff (an2 h19 (an ff (an h19 (an ff (an3 h20 (an3 tt tv)))))))))))) (by kernel_rfl) (.cons rfl (.of_eq (by rw [h1, h13, h19, h20]; try rfl)) .nil)
     ·rcases bt (p0 == 95) with h21 | h21
      ·exact RT hnt (nn 3 (sk 2 (pF :: nn 4 (sk 2 (pF :: pF :: nn 6 (pT :: pF :: nn 3 (pF :: .no :: sk 2 (pT :: .no :: [])))))))) [(2, pB true)] (an3 h1 (an3 ff (an2 h13 (an ff (an h13 (an4 ff (an2 h19 (an ff (an h19 (an ff (an3 h20 (an3 h21 tv)))))))))))) (by kernel_rfl) (.cons rfl (.of_eq (by rw [h1, h13, h19, h20, h21]; try rfl)) .nil)
      ·exact RT hnt (nn 3 (sk 2 (pF :: nn 4 (sk 2 (pF :: pF :: nn 6 (pT :: pF :: nn 3 (pF :: nn 3 (pF :: .no :: [])))))))) [(2, pB (p0 == 45))] (an3 h1 (an3 ff (an2 h13 (an ff (an h13 (an4 ff (an2 h19 (an ff (an h19 (an ff (an3 h20 (an3 h21 tv)))))))))))) (by kernel_rfl) (.cons rfl (.of_eq (by rw [h1, h13, h19, h20, h21]; try rfl)) .nil)
    ·rcases bt (p0 == 95) with h22 | h22
     ·exact RT hnt (nn 3 (sk 2 (pF :: nn 4 (sk 2 (pF :: pF :: nn 4 (sk 2 (pF :: pF :: nn 3 (pF :: .no :: sk 2 (pT :: .no :: []))))))))) [(2, pB true)] (an3 h1 (an3 ff (an2 h13 (an ff (an h13 (an4 ff (an2 h19 (an ff (an h19 (an4 ff (an3 h22 tv))))))))))) (by kernel_rfl) (.cons rfl (.of_eq (by rw [h1, h13, h19, h22]; try rfl)) .nil)
     ·exact RT hnt (nn 3 (sk 2 (pF :: nn 4 (sk 2 (pF :: pF :: nn 4 (sk 2 (pF :: pF :: nn 3 (pF :: nn 3 (pF :: .no :: []))))))))) [(2, pB (p0 == 45))] (an3 h1 (an3 ff (an2 h13 (an ff (an h13 (an4 ff (an2 h19 (an ff (an h19 (an4 ff (an3 h22 tv))))))))))) (by kernel_rfl) (.cons rfl (.of_eq (by rw [h1, h13, h19, h22]; try rfl)) .nil)
 ·refine DW.ret ?_
  obtain rfl := sj hm
  exact retK [] [] (pB ((((((decide (p0 ≥ 97)) && (decide (p0 ≤ 122))) || ((decide (p0 ≥ 65)) && (decide (p0 ≤ 90)))) || ((decide (p0 ≥ 48)) && (decide (p0 ≤ 57)))) || (p0 == 95)) || (p0 == 45)))
abbrev o38 (ks : List Nat) (b : Bool) (RES : Bool) : Orc := .call 176 ks b (pB RES) [] []

theorem Valid_nameSpec (p0 : ByteArray) (RES : Bool) (hm : Valid_name p0 = some RES) : Spec Tryz.prog 167 [pS p0] [] (pB RES) [] [] := by
 unfold Valid_name at hm
 refine SO Tryz.func167 rfl rfl [(0, pS p0)] [] ?_
 intro cx hnt
 refine Sq (RK hnt (.no :: []) [(0, pS p0)] [] tv ?_)
 refine Sq (Sq (RN hnt (nn 4 []) [(0, pS p0), (6, .p (slOf 1 (encK .u8) 0 (bytesL p0))), (7, pI ((p0.size : Nat) : Int)), (8, pI 0)] [] [(6, .p (.sl .unk 1 p0.size (bytesF p0)))] [] tv (by kernel_rfl) (.cons rfl (MLe.typed RowIs.bytes) .nil) .nil ?_))
 refine Bk ?_
 obtain ⟨hc1, hm⟩ := go1 hm
 refine DW.rangeO (fun (k1 : Nat) (s1 : Unit) => mkSt [(0, pS p0), (6, .p (slOf 1 (encK .u8) 0 (bytesL p0))), (7, pI ((p0.size : Nat) : Int)), (8, pI ((k1 : Nat) : Int))] []) 0 hm .refl ?_
 intro k1 s1 n1 hk1 hs1 he1
 refine Sq (RD hnt (.no :: []) [] [(9, pB (decide (((k1 : Nat) : Int) < ((p0.size : Nat) : Int))))] [] [] tv ?_)
 refine Sq (condK (decide (((k1 : Nat) : Int) < ((p0.size : Nat) : Int))) ?_ ?_)
 ·intro h15
  have hlt1 : k1 < (bytesL p0).length := by have := of_decide_eq_true h15; have := bytesL_length p0; omega
  have hm := hs1 hlt1
  unfold Valid_nameL1 at hm
  refine Sk ?_
  refine Sq (Bk ?_)
  refine Sq (RD hnt (nn 3 []) [9] [(4, .p (vk .u8 ((bytesL p0).getD k1 0)))] [] [] (an (nn0 k1) (an (ltc hlt1) tv)) ?_)
  obtain ⟨r16, hr16, hm⟩ := bo hm
  refine Sq (RD hnt (.no :: o38 [] true r16 :: .no :: []) [4] [(14, pB (!r16))] [] [] (an (inner_nameSpec ((bytesL p0).getD k1 0) r16 hr16) tv) ?_)
  refine condM hm ?_ ?_
  ·intro h17 hm
   refine Sq (RK hnt (.no :: []) [(2, pB false)] [] tv ?_)
   obtain rfl := sj hm
   exact DW.ret (retK [] [] (pB false))
  ·intro h17 hm
   refine Sk ?_
   refine DW.done ?_
   show DW _ _ _ _ _
   refine RD hnt (nn 2 []) [14] [(8, pI (w64 (((k1 : Nat) : Int) + 1)))] [] [] tv ?_
   exact jD () ⟨hlt1, hm⟩ (Conv.tp [(8, pI (w64 (((k1 : Nat) : Int) + 1)))] [] (by kernel_rfl) (.cons rfl (.of_eq (congrArg pI (w64_succ hlt1 hc1))) .nil) .nil)
 ·intro h15
  have hge1 : ¬ k1 < (bytesL p0).length := by have := of_decide_eq_false h15; have := bytesL_length p0; omega
  have hm := he1 hge1
  unfold Valid_nameD1 at hm
  refine DW.exit ?_
  refine joinQ_exit ?_
  refine KQ_exit ?_
  refine blockQ_exit ?_
  show DW _ _ _ _ _
  refine Sq ?_
  refine Jn (ι := Bool) (fun (y3 : Bool) => mkSt [(2, pB y3)] []) (fun y3 => Valid_nameJ3 y3 = some RES) ?_ ?_
  ·intro y3 hm
   unfold Valid_nameJ3 at hm
   obtain rfl := sj hm
   exact DW.ret (retK [] [] (pB y3))
  ·rcases bt (!(beqS p0 ByteArray.empty)) with h18 | h18
   ·replace hm := if_t h18 hm
    rcases bt (decide (((p0.size : Nat) : Int) ≤ 32)) with h19 | h19
    ·replace hm := if_t h19 hm
     obtain ⟨g20, hm⟩ := go1 hm
     refine RK hnt (nn 6 (pT :: nn 4 (pT :: .no :: []))) [(2, pB ((((byteAt p0 0) : Nat) : Int) != 45))] [] (an4 h18 (an2 h19 (an (nn0 0) (an (ltc g20) (an2 h19 tv))))) ?_
     exact jD ((((byteAt p0 0) : Nat) : Int) != 45) hm .refl
    ·replace hm := if_f h19 hm
     refine RK hnt (nn 6 (pT :: .no :: sk 3 (pF :: .no :: []))) [(2, pB false)] [] (an4 h18 (an4 h19 tv)) ?_
     exact jD false hm .refl
   ·replace hm := if_f h18 hm
    refine RK hnt (nn 3 (sk 3 (pF :: .no :: sk 3 (pF :: .no :: [])))) [(2, pB false)] [] (an4 h18 (an4 ff tv)) ?_
    exact jD false hm .refl
abbrev o37 (ks : List Nat) (b : Bool) (RES : Bool) : Orc := .call 167 ks b (pB RES) [] []

abbrev c36e1 (p0 : List Node) (k1 : Nat) := (p0.getD k1 (default : Node))
abbrev c36e2 (p1 : Node) : Nat × Obj := (1024, bx (pm (encNode p1)))
theorem fine_treeSpec (p0 : List Node) (p1 : Node) (RES : Bool) (hm : fine_tree p0 p1 = some RES) : Spec Tryz.prog 153 [.p (slNode p0), .p (.agg (encNode p1))] [] (pB RES) [] [] := by
 unfold fine_tree at hm
 refine SO Tryz.func153 rfl rfl [(0, .p (slNode p0)), (1, .p (.agg (encNode p1)))] [] ?_
 intro cx hnt
 refine Sq (RD hnt (nn 2 []) [1] [(3, rr 1024)] [] [(c36e2 p1)] tv ?_)
 obtain ⟨g1, hm⟩ := go1 hm
 refine Sq (Sq ?_)
 refine Jn (ι := Bool) (fun (y1 : Bool) => mkSt [(0, .p (slNode p0)), (3, rr 1024), (33, pB y1)] [(c36e2 p1)]) (fun y1 => (fine_treeJ1 p0 p1) y1 = some RES) ?_ ?_
 ·intro y1 hm
  unfold fine_treeJ1 at hm
  refine condM hm ?_ ?_
  ·intro h6 hm
   refine Sq (RK hnt (.no :: []) [(4, pB false)] [] tv ?_)
   obtain rfl := sj hm
   exact DW.ret (retK [] [] (pB false))
  ·intro h6 hm
   refine Sk ?_
   refine Sq (RD hnt (.no :: []) [33] [(5, pB false)] [] [] tv ?_)
   refine Sq (Sq (RD hnt (nn 3 []) [0] [(34, .p (slNode p0)), (35, pI ((p0.length : Nat) : Int)), (36, pI 0)] [] [] tv ?_))
   refine Bk ?_
   obtain ⟨hc1, hm⟩ := go1 hm
   refine DW.rangeO (fun (k1 : Nat) (s1 : Bool) => mkSt [(3, rr 1024), (5, pB s1), (34, .p (slNode p0)), (35, pI ((p0.length : Nat) : Int)), (36, pI ((k1 : Nat) : Int))] [(c36e2 p1)]) dNode hm Conv.eqK ?_
   intro k1 s1 n1 hk1 hs1 he1
   refine Sq (RD hnt (.no :: []) [] [(37, pB (decide (((k1 : Nat) : Int) < ((p0.length : Nat) : Int))))] [] [] tv ?_)
   refine Sq (condK (decide (((k1 : Nat) : Int) < ((p0.length : Nat) : Int))) ?_ ?_)
   ·intro h16
    have hlt1 : k1 < p0.length := by have := of_decide_eq_true h16; omega
    have hm := hs1 hlt1
    unfold fine_treeL1 at hm
    refine Sk ?_
    refine Sq (Bk ?_)
    refine Sq (RD hnt (nn 4 []) [37] [(7, rr 1056)] [] [(1056, bx (pm (encNode (c36e1 p0 k1))))] (an (nn0 k1) (an (ltc hlt1) tv)) ?_)
    refine Sq (DW.regJ (sl2 := [(3, rr 1024), (5, pB (s1 || ((c36e1 p0 k1).id == p1.parent))), (7, rr 1056), (34, .p (slNode p0)), (35, pI ((p0.length : Nat) : Int)), (36, pI ((k1 : Nat) : Int))]) (ob2 := [(c36e2 p1), (1056, bx (pm (encNode (c36e1 p0 k1))))]) ?_ ?_)
    ·rcases bt s1 with h17 | h17
     ·exact RT hnt (nn 2 (sk 5 (pT :: .no :: []))) [(5, pB true)] (an6 h17 tv) (by kernel_rfl) (.cons rfl (.of_eq (by rw [h17]; try rfl)) .nil)
     ·exact RT hnt (nn 7 (pF :: .no :: [])) [(5, pB ((c36e1 p0 k1).id == p1.parent))] (an6 h17 tv) (by kernel_rfl) (.cons rfl (.of_eq (by rw [h17]; try rfl)) .nil)
    ·refine Sq (DW.regJ (sl2 := [(3, rr 1024), (5, pB (s1 || ((c36e1 p0 k1).id == p1.parent))), (34, .p (slNode p0)), (35, pI ((p0.length : Nat) : Int)), (36, pI ((k1 : Nat) : Int)), (59, pB (((c36e1 p0 k1).parent == p1.parent) && (beqS (c36e1 p0 k1).name p1.name)))]) (ob2 := [(c36e2 p1)]) ?_ ?_)
     ·rcases bt ((c36e1 p0 k1).parent == p1.parent) with h18 | h18
      ·exact RT hnt (nn 11 (pT :: [])) [(59, pB (beqS (c36e1 p0 k1).name p1.name))] (an6 h18 tv) (by kernel_rfl) (.cons rfl (.of_eq (by rw [h18]; try rfl)) .nil)
      ·exact RT hnt (nn 6 (sk 5 (pF :: []))) [(59, pB false)] (an6 h18 tv) (by kernel_rfl) (.cons rfl (.of_eq (by rw [h18]; try rfl)) .nil)
     ·refine condM hm ?_ ?_
      ·intro h19 hm
       refine Sq (RK hnt (.no :: []) [(4, pB false)] [] tv ?_)
       obtain rfl := sj hm
       exact DW.ret (retK [] [] (pB false))
      ·intro h19 hm
       refine Sk ?_
       refine DW.done ?_
       show DW _ _ _ _ _
       refine RD hnt (nn 2 []) [59] [(36, pI (w64 (((k1 : Nat) : Int) + 1)))] [] [] tv ?_
       exact jD (s1 || ((c36e1 p0 k1).id == p1.parent)) ⟨hlt1, hm⟩ (Conv.tp [(36, pI (w64 (((k1 : Nat) : Int) + 1)))] [] (by kernel_rfl) (.cons rfl (.of_eq (congrArg pI (w64_succ hlt1 hc1))) .nil) .nil)
   ·intro h16
    have hge1 : ¬ k1 < p0.length := by have := of_decide_eq_false h16; omega
    have hm := he1 hge1
    unfold fine_treeD1 at hm
    refine DW.exit ?_
    refine joinQ_exit ?_
    refine KQ_exit ?_
    refine blockQ_exit ?_
    show DW _ _ _ _ _
    refine Sq (RK hnt (nn 2 []) [(4, pB s1)] [] tv ?_)
    obtain rfl := sj hm
    exact DW.ret (retK [] [] (pB s1))
 ·rcases bt (decide (p1.id ≤ (p0.getD (Int.toNat (w64 (((p0.length : Nat) : Int) - 1))) dNode).id)) with h2 | h2
  ·replace hm := if_t h2 hm
   refine RD hnt (nn 11 (sk 4 (pT :: .no :: sk 8 (pT :: [])))) [] [(33, pB true)] [] [] (an g1.1 (an g1.2 (an5 h2 (an6 tt tv)))) ?_
   exact jD true hm Conv.eqK
  ·replace hm := if_f h2 hm
   obtain ⟨r3, hr3, hm⟩ := bo hm
   rcases bt (!r3) with h4 | h4
   ·replace hm := if_t h4 hm
    refine RD hnt (nn 13 (o37 [] true r3 :: .no :: pF :: .no :: sk 8 (pT :: []))) [] [(33, pB true)] [] [] (an g1.1 (an g1.2 (an3 h2 (an (Valid_nameSpec p1.name r3 hr3) (an2 h2 (an6 h4 tv)))))) ?_
    exact jD true hm Conv.eqK
   ·replace hm := if_f h4 hm
    rcases bt (p1.kind != 0) with h5 | h5
    ·replace hm := if_t h5 hm
     refine RD hnt (nn 13 (o37 [] true r3 :: .no :: pF :: nn 8 (pT :: pF :: []))) [] [(33, pB (p1.kind != 1))] [] [] (an g1.1 (an g1.2 (an3 h2 (an (Valid_nameSpec p1.name r3 hr3) (an2 h2 (an4 h4 (an3 h5 (an h4 (an h5 (an h4 tv)))))))))) ?_
     exact jD (p1.kind != 1) hm Conv.eqK
    ·replace hm := if_f h5 hm
     refine RD hnt (nn 13 (o37 [] true r3 :: .no :: pF :: nn 5 (sk 3 (pF :: pF :: [])))) [] [(33, pB false)] [] [] (an g1.1 (an g1.2 (an3 h2 (an (Valid_nameSpec p1.name r3 hr3) (an2 h2 (an4 h4 (an3 h5 (an h4 (an h5 (an h4 tv)))))))))) ?_
     exact jD false hm Conv.eqK
abbrev o36 (ks : List Nat) (b : Bool) (RES : Bool) : Orc := .call 153 ks b (pB RES) [] []

abbrev c34e1 (p0 : Tree) (k1 : Nat) := (p0.nodes.getD k1 (default : Node))
abbrev c34e2 (p0 : Tree) : Nat × MV := (27, pI ((p0.nodes.length : Nat) : Int))
abbrev c34e3 (p0 : Tree) : Nat × Obj := (1008, bx (pm (encTree p0)))
theorem Check_treeSpec (p0 : Tree) (RES : Bool) (hm : Check_tree p0 = some RES) : Spec Tryz.prog 108 [.p (.agg (encTree p0))] [] (pB RES) [] [] := by
 unfold Check_tree at hm
 refine SO Tryz.func108 rfl rfl [(0, .p (.agg (encTree p0)))] [] ?_
 intro cx hnt
 refine Sq (RK hnt (nn 2 []) [(1, rr 1008)] [(c34e3 p0)] tv ?_)
 refine Sq (Sq ?_)
 refine Jn (ι := Bool) (fun (y1 : Bool) => mkSt [(1, rr 1008), (23, pB y1)] [(c34e3 p0)]) (fun y1 => (Check_treeJ1 p0) y1 = some RES) ?_ ?_
 ·intro y1 hm
  unfold Check_treeJ1 at hm
  refine condM hm ?_ ?_
  ·intro h5 hm
   refine Sq (RK hnt (.no :: []) [(2, pB false)] [] tv ?_)
   obtain rfl := sj hm
   exact DW.ret (retK [] [] (pB false))
  ·intro h5 hm
   refine Sk ?_
   refine Sq (RD hnt (nn 2 []) [23] [(3, .mref 1192 0)] [] [(1192, ob0 (mapOf vi (vi 0) (IMap.empty 0)))] tv ?_)
   refine Sq (Sq (RD hnt (nn 4 []) [] [(26, .p (slNode p0.nodes)), (c34e2 p0), (28, pI 0)] [] [] tv ?_))
   refine Bk ?_
   obtain ⟨hc1, hm⟩ := go1 hm
   refine DW.rangeO (fun (k1 : Nat) (s1 : IMap Int) => mkSt [(1, rr 1008), (3, .mref 1192 0), (26, .p (slNode p0.nodes)), (c34e2 p0), (28, pI ((k1 : Nat) : Int))] [(c34e3 p0), (1192, ob0 (mapOf vi (vi 0) s1))]) dNode hm Conv.eqK ?_
   intro k1 s1 n1 hk1 hs1 he1
   refine Sq (RD hnt (.no :: []) [] [(29, pB (decide (((k1 : Nat) : Int) < ((p0.nodes.length : Nat) : Int))))] [] [] tv ?_)
   refine Sq (condK (decide (((k1 : Nat) : Int) < ((p0.nodes.length : Nat) : Int))) ?_ ?_)
   ·intro h36
    have hlt1 : k1 < p0.nodes.length := by have := of_decide_eq_true h36; omega
    have hm := hs1 hlt1
    unfold Check_treeL1 at hm
    refine Sk ?_
    refine Sq (Bk ?_)
    refine Sq (RD hnt (nn 6 []) [29] [(4, pI ((k1 : Nat) : Int)), (5, rr 1040)] [] [(1040, bx (pm (encNode (c34e1 p0 k1))))] (an (nn0 k1) (an (ltc hlt1) tv)) ?_)
    refine Sq (Sq ?_)
    refine Jn (ι := Bool) (fun (y8 : Bool) => mkSt [(1, rr 1008), (3, .mref 1192 0), (4, pI ((k1 : Nat) : Int)), (5, rr 1040), (26, .p (slNode p0.nodes)), (c34e2 p0), (28, pI ((k1 : Nat) : Int)), (64, pB y8)] [(c34e3 p0), (1040, bx (pm (encNode (c34e1 p0 k1)))), (1192, ob0 (mapOf vi (vi 0) s1))]) (fun y8 => (Check_treeJ8 k1 (c34e1 p0 k1) s1 n1) y8 = some RES) ?_ ?_
    ·intro y8 hm
     unfold Check_treeJ8 at hm
     refine condM hm ?_ ?_
     ·intro h44 hm
      refine Sq (RK hnt (.no :: []) [(2, pB false)] [] tv ?_)
      obtain rfl := sj hm
      exact DW.ret (retK [] [] (pB false))
     ·intro h44 hm
      refine Sk ?_
      refine Sq (Sq (RD hnt (nn 2 []) [4, 64] [(66, pB (decide (((k1 : Nat) : Int) > 0)))] [] [] tv ?_))
      refine Jn (ι := IMap Int) (fun (y9 : IMap Int) => mkSt [(1, rr 1008), (3, .mref 1192 0), (5, rr 1040), (26, .p (slNode p0.nodes)), (c34e2 p0), (28, pI ((k1 : Nat) : Int))] [(c34e3 p0), (1040, bx (pm (encNode (c34e1 p0 k1)))), (1192, ob0 (mapOf vi (vi 0) y9))]) (fun y9 => (Check_treeJ9 (c34e1 p0 k1) n1) y9 = some RES) ?_ ?_
      ·intro y9 hm
       unfold Check_treeJ9 at hm
       refine Sq (RD hnt (nn 5 []) [5] [(79, pB (decide ((y9.get (c34e1 p0 k1).id) > 8)))] [1040] [] (an (rfl : vi 0 = vi 0) tv) ?_)
       refine condM hm ?_ ?_
       ·intro h46 hm
        refine Sq (RK hnt (.no :: []) [(2, pB false)] [] tv ?_)
        obtain rfl := sj hm
        exact DW.ret (retK [] [] (pB false))
       ·intro h46 hm
        refine Sk ?_
        refine DW.done ?_
        show DW _ _ _ _ _
        refine RD hnt (nn 2 []) [79] [(28, pI (w64 (((k1 : Nat) : Int) + 1)))] [] [] tv ?_
        exact jD y9 ⟨hlt1, hm⟩ (Conv.tp [(28, pI (w64 (((k1 : Nat) : Int) + 1)))] [] (by kernel_rfl) (.cons rfl (.of_eq (congrArg pI (w64_succ hlt1 hc1))) .nil) .nil)
      ·refine condM hm ?_ ?_
       ·intro h45 hm
        refine RN hnt (nn 9 []) [(1, rr 1008), (3, .mref 1192 0), (5, rr 1040), (26, .p (slNode p0.nodes)), (c34e2 p0), (28, pI ((k1 : Nat) : Int))] [(c34e3 p0), (1040, bx (pm (encNode (c34e1 p0 k1)))), (1192, ob0 (mapOf vi (vi 0) (s1.set (c34e1 p0 k1).id (w64 ((s1.get (c34e1 p0 k1).parent) + 1)))))] [] [(1192, .mp (vi 0) (updI s1.has (c34e1 p0 k1).id true) (updI (fun j => vi (s1.get j)) (c34e1 p0 k1).id (vi (w64 ((s1.get (c34e1 p0 k1).parent) + 1)))))] (an (rfl : vi 0 = vi 0) tv) (by kernel_rfl) .nil (.cons rfl (map_set (w64 ((s1.get (c34e1 p0 k1).parent) + 1)) rfl) .nil) ?_
        exact jD (s1.set (c34e1 p0 k1).id (w64 ((s1.get (c34e1 p0 k1).parent) + 1))) hm .refl
       ·intro h45 hm
        refine Sk ?_
        exact jD s1 hm Conv.t0
    ·rcases bt (decide ((c34e1 p0 k1).control < 0)) with h37 | h37
     ·replace hm := if_t h37 hm
      refine RD hnt (nn 4 (sk 4 (pT :: .no :: sk 3 (pT :: .no :: sk 3 (pT :: .no :: sk 11 (pT :: [])))))) [] [(64, pB true)] [] [] (an5 h37 (an tt (an6 tt (an6 tt tv)))) ?_
      exact jD true hm Conv.eqK
     ·replace hm := if_f h37 hm
      rcases bt ((kandNot .i64 (c34e1 p0 k1).control 31) != 0) with h38 | h38
      ·replace hm := if_t h38 hm
       refine RD hnt (nn 8 (pF :: .no :: sk 3 (pT :: .no :: sk 3 (pT :: .no :: sk 11 (pT :: []))))) [] [(64, pB true)] [] [] (an5 h37 (an4 h38 (an3 tt (an6 tt tv)))) ?_
       exact jD true hm Conv.eqK
      ·replace hm := if_f h38 hm
       rcases bt (decide ((c34e1 p0 k1).owner < 0)) with h39 | h39
       ·replace hm := if_t h39 hm
        refine RD hnt (nn 8 (pF :: nn 4 (pF :: .no :: sk 3 (pT :: .no :: sk 11 (pT :: []))))) [] [(64, pB true)] [] [] (an5 h37 (an4 h38 (an4 h39 (an5 tt tv)))) ?_
        exact jD true hm Conv.eqK
       ·replace hm := if_f h39 hm
        rcases bt (decide ((c34e1 p0 k1).owner > 1048576)) with h40 | h40
        ·replace hm := if_t h40 hm
         refine RD hnt (nn 8 (pF :: nn 4 (pF :: nn 4 (pF :: .no :: sk 11 (pT :: []))))) [] [(64, pB true)] [] [] (an5 h37 (an4 h38 (an4 h39 (an5 h40 tv)))) ?_
         exact jD true hm Conv.eqK
        ·replace hm := if_f h40 hm
         rcases bt (decide (((k1 : Nat) : Int) > 0)) with h41 | h41
         ·replace hm := if_t h41 hm
          obtain ⟨g42, hm⟩ := go1 hm
          obtain ⟨r43, hr43, hm⟩ := bo hm
          refine RD hnt (nn 8 (pF :: nn 4 (pF :: nn 4 (pF :: nn 9 (o36 [] true r43 :: .no :: pT :: pF :: []))))) [] [(64, pB (!r43))] [] [] (an5 h37 (an4 h38 (an4 h39 (an3 h40 (an4 h41 (an (by omega : (0 : Int) ≤ 0) (an (by omega : (0 : Int) ≤ ((k1 : Nat) : Int)) (an (by omega : ((k1 : Nat) : Int) ≤ ((p0.nodes.length : Nat) : Int)) (an2 h41 (an (Spec.args (xs := [.p (.sl .unk 6 k1 (elNode p0.nodes)), .p (.agg (encNode (c34e1 p0 k1)))]) (fine_treeSpec (p0.nodes.take k1) (c34e1 p0 k1) r43 hr43) (.cons (.p (PLe.typed (RowIs.elems.take (by omega)))) (.cons .rfl .nil))) (an h41 (an h40 (an h41 (an h40 tv)))))))))))))) ?_
          exact jD (!r43) hm Conv.eqK
         ·replace hm := if_f h41 hm
          refine RD hnt (nn 8 (pF :: nn 4 (pF :: nn 4 (pF :: nn 4 (sk 7 (pF :: pF :: [])))))) [] [(64, pB false)] [] [] (an5 h37 (an4 h38 (an4 h39 (an3 h40 (an h41 (an6 h41 (an h40 (an h41 (an h40 tv))))))))) ?_
          exact jD false hm Conv.eqK
   ·intro h36
    have hge1 : ¬ k1 < p0.nodes.length := by have := of_decide_eq_false h36; omega
    have hm := he1 hge1
    unfold Check_treeD1 at hm
    refine DW.exit ?_
    refine joinQ_exit ?_
    refine KQ_exit ?_
    refine blockQ_exit ?_
    show DW _ _ _ _ _
    obtain ⟨g47, hm⟩ := go1 hm
    refine Sq ?_
    refine Jn (ι := Bool) (fun (y10 : Bool) => mkSt [(2, pB y10)] []) (fun y10 => Check_treeJ10 y10 = some RES) ?_ ?_
    ·intro y10 hm
     unfold Check_treeJ10 at hm
     obtain rfl := sj hm
     exact DW.ret (retK [] [] (pB y10))
    ·rcases bt (decide (p0.next > (p0.nodes.getD (Int.toNat (w64 (((p0.nodes.length : Nat) : Int) - 1))) dNode).id)) with h48 | h48
     ·replace hm := if_t h48 hm
      refine RK hnt (nn 16 (pT :: .no :: [])) [(2, pB (decide (p0.next ≤ 2147483648)))] [] (an g47.1 (an g47.2 (an4 h48 tv))) ?_
      exact jD (decide (p0.next ≤ 2147483648)) hm .refl
     ·replace hm := if_f h48 hm
      refine RK hnt (nn 13 (sk 3 (pF :: .no :: []))) [(2, pB false)] [] (an g47.1 (an g47.2 (an4 h48 tv))) ?_
      exact jD false hm .refl
 ·rcases bt (decide (((p0.nodes.length : Nat) : Int) < 1)) with h1 | h1
  ·replace hm := if_t h1 hm
   refine RD hnt (nn 5 (sk 4 (pT :: .no :: sk 6 (pT :: [])))) [] [(23, pB true)] [] [] (an5 h1 (an tt (an6 tt tv))) ?_
   exact jD true hm Conv.eqK
  ·replace hm := if_f h1 hm
   rcases bt (decide (((p0.nodes.length : Nat) : Int) > 64)) with h2 | h2
   ·replace hm := if_t h2 hm
    refine RD hnt (nn 9 (pF :: .no :: sk 6 (pT :: []))) [] [(23, pB true)] [] [] (an5 h1 (an h2 (an6 h2 tv))) ?_
    exact jD true hm Conv.eqK
   ·replace hm := if_f h2 hm
    obtain ⟨g3, hm⟩ := go1 hm
    obtain ⟨r4, hr4, hm⟩ := bo hm
    refine RD hnt (nn 9 (pF :: nn 5 (o35 [] true r4 :: .no :: pF :: []))) [] [(23, pB (!r4))] [] [] (an5 h1 (an3 h2 (an (nn0 0) (an (ltc g3) (an2 h2 (an (root_treeSpec (p0.nodes.getD 0 dNode) r4 hr4) (an2 h2 tv))))))) ?_
    exact jD (!r4) hm Conv.eqK
abbrev o34 (ks : List Nat) (b : Bool) (RES : Bool) : Orc := .call 108 ks b (pB RES) [] []

theorem AtFa_crewSpec (p0 : Task) (p1 : Int) (RES : Bool) (hm : AtFa_crew p0 p1 = some RES) : Spec Tryz.prog 144 [.p (.agg (encTask p0)), rr 0] [.box [pI p1]] (pB RES) [.box [pI p1]] [] := by
 unfold AtFa_crew at hm
 refine SO Tryz.func144 rfl rfl [(0, .p (.agg (encTask p0))), (1, rr 0)] [(0, bx [pI p1])] ?_
 intro cx hnt
 refine Sq (RD hnt (nn 2 []) [0] [(2, rr 1016)] [] [(1016, bx (pm (encTask p0)))] tv ?_)
 refine Sq (RK hnt (nn 5 []) [(3, pB (p0.id == p1))] [(0, bx [pI p1])] tv ?_)
 obtain rfl := sj hm
 exact DW.ret (retK [.box [pI p1]] [] (pB (p0.id == p1)))

theorem IndexFunc_slices_TaskQAtFa_crewSpec (p0 : List Task) (p1c0 : Int) (RES : Int) (hm : IndexFunc_slices_TaskQAtFa_crew p0 p1c0 = some RES) : Spec Tryz.prog 143 [.p (slTask p0), .fn 144 [rr 0]] [.box [pI p1c0]] (pI RES) [.box [pI p1c0]] [] := by
 unfold IndexFunc_slices_TaskQAtFa_crew at hm
 refine SO Tryz.func143 rfl rfl [(0, .p (slTask p0)), (1, .fn 144 [rr 0])] [(0, bx [pI p1c0])] ?_
 intro cx hnt
 refine Sq (RD hnt (.no :: []) [] [] [] [] tv ?_)
 refine Sq (Sq (RD hnt (nn 3 []) [] [(7, pI ((p0.length : Nat) : Int)), (8, pI 0)] [] [] tv ?_))
 refine Bk ?_
 obtain ⟨hc1, hm⟩ := go1 hm
 refine DW.rangeO (fun (k1 : Nat) (s1 : Unit) => mkSt [(0, .p (slTask p0)), (1, .fn 144 [rr 0]), (7, pI ((p0.length : Nat) : Int)), (8, pI ((k1 : Nat) : Int))] [(0, bx [pI p1c0])]) dTask hm Conv.eqK ?_
 intro k1 s1 n1 hk1 hs1 he1
 refine Sq (RD hnt (.no :: []) [] [(9, pB (decide (((k1 : Nat) : Int) < ((p0.length : Nat) : Int))))] [] [] tv ?_)
 refine Sq (condK (decide (((k1 : Nat) : Int) < ((p0.length : Nat) : Int))) ?_ ?_)
 ·intro h9
  have hlt1 : k1 < p0.length := by have := of_decide_eq_true h9; omega
  have hm := hs1 hlt1
  unfold IndexFunc_slices_TaskQAtFa_crewL1 at hm
  refine Sk ?_
  refine Sq (Bk ?_)
  refine Sq (RD hnt (nn 2 []) [9] [(5, pI ((k1 : Nat) : Int))] [] [] tv ?_)
  obtain ⟨r10, hr10, hm⟩ := bo hm
  refine Sq (RD hnt (nn 5 (.call 144 [0] true (pB r10) [.box [pI p1c0]] [] :: [])) [] [(16, pB r10)] [] [] (an (nn0 k1) (an (ltc hlt1) (an (AtFa_crewSpec (p0.getD k1 (default : Task)) p1c0 r10 hr10) (an tv tv)))) ?_)
  refine condM hm ?_ ?_
  ·intro h11 hm
   refine Sq (RK hnt (nn 2 []) [(4, pI ((k1 : Nat) : Int))] [(0, bx [pI p1c0])] tv ?_)
   obtain rfl := sj hm
   exact DW.ret (retK [.box [pI p1c0]] [] (pI ((k1 : Nat) : Int)))
  ·intro h11 hm
   refine Sk ?_
   refine DW.done ?_
   show DW _ _ _ _ _
   refine RD hnt (nn 2 []) [5, 16] [(8, pI (w64 (((k1 : Nat) : Int) + 1)))] [] [] tv ?_
   exact jD () ⟨hlt1, hm⟩ (Conv.tp [(8, pI (w64 (((k1 : Nat) : Int) + 1)))] [] (by kernel_rfl) (.cons rfl (.of_eq (congrArg pI (w64_succ hlt1 hc1))) .nil) .nil)
 ·intro h9
  have hge1 : ¬ k1 < p0.length := by have := of_decide_eq_false h9; omega
  have hm := he1 hge1
  unfold IndexFunc_slices_TaskQAtFa_crewD1 at hm
  refine DW.exit ?_
  refine joinQ_exit ?_
  refine KQ_exit ?_
  refine blockQ_exit ?_
  show DW _ _ _ _ _
  refine Sq (RK hnt (.no :: []) [(4, pI (-1))] [(0, bx [pI p1c0])] tv ?_)
  obtain rfl := sj hm
  exact DW.ret (retK [.box [pI p1c0]] [] (pI (-1)))

theorem At_crewSpec (p0 : Hierarchy) (p1 : Int) (RES : Int) (hm : At_crew p0 p1 = some RES) : Spec Tryz.prog 95 [.p (.agg (encHierarchy p0)), pI p1] [] (pI RES) [] [] := by
 unfold At_crew at hm
 refine SO Tryz.func95 rfl rfl [(0, .p (.agg (encHierarchy p0))), (1, pI p1)] [] ?_
 intro cx hnt
 refine Sq (RK hnt (nn 3 []) [(2, rr 1016), (3, rr 1024)] [(1016, bx (pm (encHierarchy p0))), (1024, bx [pI p1])] tv ?_)
 obtain ⟨r1, hr1, hm⟩ := bo hm
 refine Sq (RK hnt (nn 3 (.call 143 [1024] true (pI r1) [.box [pI p1]] [] :: .no :: [])) [(4, pI r1)] [] (an (IndexFunc_slices_TaskQAtFa_crewSpec p0.tasks p1 r1 hr1) (an tv tv)) ?_)
 obtain rfl := sj hm
 exact DW.ret (retK [] [] (pI r1))
abbrev o41 (ks : List Nat) (b : Bool) (RES : Int) : Orc := .call 95 ks b (pI RES) [] []

theorem Find_crewSpec (p0 : Hierarchy) (p1 : Int) (RES : Task × Bool) (hm : Find_crew p0 p1 = some RES) : Spec Tryz.prog 104 [.p (.agg (encHierarchy p0)), pI p1] [] (.p (.tup [.agg (encTask RES.1), vb RES.2])) [] [] := by
 unfold Find_crew at hm
 refine SO Tryz.func104 rfl rfl [(0, .p (.agg (encHierarchy p0))), (1, pI p1)] [] ?_
 intro cx hnt
 refine Sq (RK hnt (nn 3 []) [(1, pI p1), (2, rr 1016), (4, rr 1032)] [(1016, bx (pm (encHierarchy p0))), (1032, bx [pI 0, pI 0, pI 0, pI 0])] tv ?_)
 obtain ⟨r1, hr1, hm⟩ := bo hm
 refine Sq (RD hnt (nn 2 (o41 [] true r1 :: .no :: [])) [1] [(6, pI r1)] [] [] (an (At_crewSpec p0 p1 r1 hr1) tv) ?_)
 refine Sq (Sq (RD hnt (nn 2 []) [] [(11, pB (decide (r1 < 0)))] [] [] tv ?_))
 refine condM hm ?_ ?_
 ·intro h2 hm
  refine Sq (RD hnt (nn 3 []) [2, 6, 11] [(5, pB false)] [1016] [] tv ?_)
  obtain rfl := sj hm
  exact DW.ret (retK [] [] (.p (.tup [.agg [vi 0, vi 0, vi 0, vi 0], vb false])))
 ·intro h2 hm
  refine Sk ?_
  obtain ⟨g3, hm⟩ := go1 hm
  refine Sq (RK hnt (nn 7 []) [(4, rr 1032), (5, pB true)] [(1032, bx (pm (encTask (p0.tasks.getD (Int.toNat r1) dTask))))] (an g3.1 (an g3.2 tv)) ?_)
  obtain rfl := sj hm
  exact DW.ret (retK [] [] (.p (.tup [.agg (encTask (p0.tasks.getD (Int.toNat r1) dTask)), vb true])))
abbrev o40 (ks : List Nat) (b : Bool) (RES : Task × Bool) : Orc := .call 104 ks b (.p (.tup [.agg (encTask RES.1), vb RES.2])) [] []

theorem AtFa_forestSpec (p0 : Node) (p1 : Int) (RES : Bool) (hm : AtFa_forest p0 p1 = some RES) : Spec Tryz.prog 150 [.p (.agg (encNode p0)), rr 0] [.box [pI p1]] (pB RES) [.box [pI p1]] [] := by
 unfold AtFa_forest at hm
 refine SO Tryz.func150 rfl rfl [(0, .p (.agg (encNode p0))), (1, rr 0)] [(0, bx [pI p1])] ?_
 intro cx hnt
 refine Sq (RD hnt (nn 2 []) [0] [(2, rr 1016)] [] [(1016, bx (pm (encNode p0)))] tv ?_)
 refine Sq (RK hnt (nn 5 []) [(3, pB (p0.id == p1))] [(0, bx [pI p1])] tv ?_)
 obtain rfl := sj hm
 exact DW.ret (retK [.box [pI p1]] [] (pB (p0.id == p1)))

theorem IndexFunc_slices_NodeQAtFa_forestSpec (p0 : List Node) (p1c0 : Int) (RES : Int) (hm : IndexFunc_slices_NodeQAtFa_forest p0 p1c0 = some RES) : Spec Tryz.prog 149 [.p (slNode p0), .fn 150 [rr 0]] [.box [pI p1c0]] (pI RES) [.box [pI p1c0]] [] := by
 unfold IndexFunc_slices_NodeQAtFa_forest at hm
 refine SO Tryz.func149 rfl rfl [(0, .p (slNode p0)), (1, .fn 150 [rr 0])] [(0, bx [pI p1c0])] ?_
 intro cx hnt
 refine Sq (RD hnt (.no :: []) [] [] [] [] tv ?_)
 refine Sq (Sq (RD hnt (nn 3 []) [] [(7, pI ((p0.length : Nat) : Int)), (8, pI 0)] [] [] tv ?_))
 refine Bk ?_
 obtain ⟨hc1, hm⟩ := go1 hm
 refine DW.rangeO (fun (k1 : Nat) (s1 : Unit) => mkSt [(0, .p (slNode p0)), (1, .fn 150 [rr 0]), (7, pI ((p0.length : Nat) : Int)), (8, pI ((k1 : Nat) : Int))] [(0, bx [pI p1c0])]) dNode hm Conv.eqK ?_
 intro k1 s1 n1 hk1 hs1 he1
 refine Sq (RD hnt (.no :: []) [] [(9, pB (decide (((k1 : Nat) : Int) < ((p0.length : Nat) : Int))))] [] [] tv ?_)
 refine Sq (condK (decide (((k1 : Nat) : Int) < ((p0.length : Nat) : Int))) ?_ ?_)
 ·intro h9
  have hlt1 : k1 < p0.length := by have := of_decide_eq_true h9; omega
  have hm := hs1 hlt1
  unfold IndexFunc_slices_NodeQAtFa_forestL1 at hm
  refine Sk ?_
  refine Sq (Bk ?_)
  refine Sq (RD hnt (nn 2 []) [9] [(5, pI ((k1 : Nat) : Int))] [] [] tv ?_)
  obtain ⟨r10, hr10, hm⟩ := bo hm
  refine Sq (RD hnt (nn 5 (.call 150 [0] true (pB r10) [.box [pI p1c0]] [] :: [])) [] [(16, pB r10)] [] [] (an (nn0 k1) (an (ltc hlt1) (an (AtFa_forestSpec (p0.getD k1 (default : Node)) p1c0 r10 hr10) (an tv tv)))) ?_)
  refine condM hm ?_ ?_
  ·intro h11 hm
   refine Sq (RK hnt (nn 2 []) [(4, pI ((k1 : Nat) : Int))] [(0, bx [pI p1c0])] tv ?_)
   obtain rfl := sj hm
   exact DW.ret (retK [.box [pI p1c0]] [] (pI ((k1 : Nat) : Int)))
  ·intro h11 hm
   refine Sk ?_
   refine DW.done ?_
   show DW _ _ _ _ _
   refine RD hnt (nn 2 []) [5, 16] [(8, pI (w64 (((k1 : Nat) : Int) + 1)))] [] [] tv ?_
   exact jD () ⟨hlt1, hm⟩ (Conv.tp [(8, pI (w64 (((k1 : Nat) : Int) + 1)))] [] (by kernel_rfl) (.cons rfl (.of_eq (congrArg pI (w64_succ hlt1 hc1))) .nil) .nil)
 ·intro h9
  have hge1 : ¬ k1 < p0.length := by have := of_decide_eq_false h9; omega
  have hm := he1 hge1
  unfold IndexFunc_slices_NodeQAtFa_forestD1 at hm
  refine DW.exit ?_
  refine joinQ_exit ?_
  refine KQ_exit ?_
  refine blockQ_exit ?_
  show DW _ _ _ _ _
  refine Sq (RK hnt (.no :: []) [(4, pI (-1))] [(0, bx [pI p1c0])] tv ?_)
  obtain rfl := sj hm
  exact DW.ret (retK [.box [pI p1c0]] [] (pI (-1)))

theorem At_forestSpec (p0 : Tree) (p1 : Int) (RES : Int) (hm : At_forest p0 p1 = some RES) : Spec Tryz.prog 101 [.p (.agg (encTree p0)), pI p1] [] (pI RES) [] [] := by
 unfold At_forest at hm
 refine SO Tryz.func101 rfl rfl [(0, .p (.agg (encTree p0))), (1, pI p1)] [] ?_
 intro cx hnt
 refine Sq (RK hnt (nn 3 []) [(2, rr 1016), (3, rr 1024)] [(1016, bx (pm (encTree p0))), (1024, bx [pI p1])] tv ?_)
 obtain ⟨r1, hr1, hm⟩ := bo hm
 refine Sq (RK hnt (nn 3 (.call 149 [1024] true (pI r1) [.box [pI p1]] [] :: .no :: [])) [(4, pI r1)] [] (an (IndexFunc_slices_NodeQAtFa_forestSpec p0.nodes p1 r1 hr1) (an tv tv)) ?_)
 obtain rfl := sj hm
 exact DW.ret (retK [] [] (pI r1))
abbrev o44 (ks : List Nat) (b : Bool) (RES : Int) : Orc := .call 101 ks b (pI RES) [] []

theorem fine_memberSpec (p0 : Hierarchy) (p1 : Task) (RES : Bool) (hm : fine_member p0 p1 = some RES) : Spec Tryz.prog 109 [.p (.agg (encHierarchy p0)), .p (.agg (encTask p1))] [] (pB RES) [] [] := by
 unfold fine_member at hm
 refine SO Tryz.func109 rfl rfl [(0, .p (.agg (encHierarchy p0))), (1, .p (.agg (encTask p1)))] [] ?_
 intro cx hnt
 refine Sq (RK hnt (nn 3 []) [(2, rr 1016), (3, rr 1024)] [(1016, bx (pm (encHierarchy p0))), (1024, bx (pm (encTask p1)))] tv ?_)
 obtain ⟨r1, hr1, hm⟩ := bo hm
 refine Sq (RD hnt (nn 3 (o40 [] true r1 :: nn 6 [])) [] [(5, rr 1040), (6, pB r1.2)] [] [(1040, bx (pm (encTask r1.1)))] (an (Find_crewSpec p0 p1.process r1 hr1) tv) ?_)
 refine Sq ?_
 refine Jn (ι := Bool) (fun (y1 : Bool) => mkSt [(4, pB y1)] []) (fun y1 => fine_memberJ1 y1 = some RES) ?_ ?_
 ·intro y1 hm
  unfold fine_memberJ1 at hm
  obtain rfl := sj hm
  exact DW.ret (retK [] [] (pB y1))
 ·rcases bt (decide (p1.user ≥ 0)) with h2 | h2
  ·replace hm := if_t h2 hm
   rcases bt (decide (p1.user ≤ 1048576)) with h3 | h3
   ·replace hm := if_t h3 hm
    rcases bt r1.2 with h4 | h4
    ·replace hm := if_t h4 hm
     rcases bt (r1.1.process == r1.1.id) with h5 | h5
     ·replace hm := if_t h5 hm
      rcases bt (r1.1.user == p1.user) with h6 | h6
      ·replace hm := if_t h6 hm
       obtain ⟨r7, hr7, hm⟩ := bo hm
       refine RK hnt (nn 7 (pT :: nn 2 (pT :: nn 6 (pT :: nn 6 (pT :: nn 5 (o44 [] true r7 :: .no :: pT :: .no :: [])))))) [(4, pB (decide (r7 ≥ 0)))] [] (an4 h2 (an2 h3 (an6 h4 (an6 h5 (an5 h6 (an (At_forestSpec p0.tree p1.group r7 hr7) (an2 h6 tv))))))) ?_
       exact jD (decide (r7 ≥ 0)) hm .refl
      ·replace hm := if_f h6 hm
       refine RK hnt (nn 7 (pT :: nn 2 (pT :: nn 6 (pT :: nn 6 (pT :: .no :: sk 6 (pF :: .no :: [])))))) [(4, pB false)] [] (an4 h2 (an2 h3 (an6 h4 (an6 h5 (an h6 (an6 h6 tv)))))) ?_
       exact jD false hm .refl
     ·replace hm := if_f h5 hm
      refine RK hnt (nn 7 (pT :: nn 2 (pT :: nn 6 (pT :: .no :: sk 5 (pF :: .no :: sk 6 (pF :: .no :: [])))))) [(4, pB false)] [] (an4 h2 (an2 h3 (an6 h4 (an6 h5 (an ff (an6 ff tv)))))) ?_
      exact jD false hm .refl
    ·replace hm := if_f h4 hm
     refine RK hnt (nn 7 (pT :: nn 2 (pT :: .no :: sk 5 (pF :: .no :: sk 5 (pF :: .no :: sk 6 (pF :: .no :: [])))))) [(4, pB false)] [] (an4 h2 (an2 h3 (an6 h4 (an ff (an6 ff (an6 ff tv)))))) ?_
     exact jD false hm .refl
   ·replace hm := if_f h3 hm
    refine RK hnt (nn 7 (pT :: .no :: .skip :: pF :: .no :: sk 5 (pF :: .no :: sk 5 (pF :: .no :: sk 6 (pF :: .no :: []))))) [(4, pB false)] [] (an4 h2 (an2 h3 (an ff (an6 ff (an6 ff (an6 ff tv)))))) ?_
    exact jD false hm .refl
  ·replace hm := if_f h2 hm
   refine RK hnt (nn 4 (sk 3 (pF :: .no :: .skip :: pF :: .no :: sk 5 (pF :: .no :: sk 5 (pF :: .no :: sk 6 (pF :: .no :: [])))))) [(4, pB false)] [] (an4 h2 (an3 ff (an6 ff (an6 ff (an6 ff tv))))) ?_
   exact jD false hm .refl
abbrev o39 (ks : List Nat) (b : Bool) (RES : Bool) : Orc := .call 109 ks b (pB RES) [] []

abbrev c33e1 (p0 : Hierarchy) (k1 : Nat) := (p0.tasks.getD k1 (default : Task))
theorem Check_memberSpec (p0 : Hierarchy) (RES : Bool) (hm : Check_member p0 = some RES) : Spec Tryz.prog 51 [.p (.agg (encHierarchy p0))] [] (pB RES) [] [] := by
 unfold Check_member at hm
 refine SO Tryz.func51 rfl rfl [(0, .p (.agg (encHierarchy p0)))] [] ?_
 intro cx hnt
 refine Sq (RK hnt (nn 2 []) [(1, rr 1008)] [(1008, bx (pm (encHierarchy p0)))] tv ?_)
 refine Sq (Sq ?_)
 refine Jn (ι := Bool) (fun (y1 : Bool) => mkSt [(1, rr 1008), (20, pB y1)] [(1008, bx (pm (encHierarchy p0)))]) (fun y1 => (Check_memberJ1 p0) y1 = some RES) ?_ ?_
 ·intro y1 hm
  unfold Check_memberJ1 at hm
  refine condM hm ?_ ?_
  ·intro h4 hm
   refine Sq (RK hnt (.no :: []) [(2, pB false)] [] tv ?_)
   obtain rfl := sj hm
   exact DW.ret (retK [] [] (pB false))
  ·intro h4 hm
   refine Sk ?_
   refine Sq (RD hnt (.no :: []) [20] [(3, pI 0)] [] [] tv ?_)
   refine Sq (Sq (RD hnt (nn 4 []) [] [(22, .p (slTask p0.tasks)), (23, pI ((p0.tasks.length : Nat) : Int)), (24, pI 0)] [] [] tv ?_))
   refine Bk ?_
   obtain ⟨hc1, hm⟩ := go1 hm
   refine DW.rangeO (fun (k1 : Nat) (s1 : Int) => mkSt [(1, rr 1008), (3, pI s1), (22, .p (slTask p0.tasks)), (23, pI ((p0.tasks.length : Nat) : Int)), (24, pI ((k1 : Nat) : Int))] [(1008, bx (pm (encHierarchy p0)))]) dTask hm Conv.eqK ?_
   intro k1 s1 n1 hk1 hs1 he1
   refine Sq (RD hnt (.no :: []) [] [(25, pB (decide (((k1 : Nat) : Int) < ((p0.tasks.length : Nat) : Int))))] [] [] tv ?_)
   refine Sq (condK (decide (((k1 : Nat) : Int) < ((p0.tasks.length : Nat) : Int))) ?_ ?_)
   ·intro h15
    have hlt1 : k1 < p0.tasks.length := by have := of_decide_eq_true h15; omega
    have hm := hs1 hlt1
    unfold Check_memberL1 at hm
    refine Sk ?_
    refine Sq (Bk ?_)
    refine Sq (RD hnt (nn 4 []) [25] [(5, rr 1040)] [] [(1040, bx (pm (encTask (c33e1 p0 k1))))] (an (nn0 k1) (an (ltc hlt1) tv)) ?_)
    refine Sq (Sq ?_)
    refine Jn (ι := Bool) (fun (y4 : Bool) => mkSt [(1, rr 1008), (5, rr 1040), (22, .p (slTask p0.tasks)), (23, pI ((p0.tasks.length : Nat) : Int)), (24, pI ((k1 : Nat) : Int)), (37, pB y4)] [(1008, bx (pm (encHierarchy p0))), (1040, bx (pm (encTask (c33e1 p0 k1))))]) (fun y4 => (Check_memberJ4 (c33e1 p0 k1) n1) y4 = some RES) ?_ ?_
    ·intro y4 hm
     unfold Check_memberJ4 at hm
     refine condM hm ?_ ?_
     ·intro h18 hm
      refine Sq (RK hnt (.no :: []) [(2, pB false)] [] tv ?_)
      obtain rfl := sj hm
      exact DW.ret (retK [] [] (pB false))
     ·intro h18 hm
      refine Sk ?_
      refine RD hnt (nn 3 []) [5, 37] [(3, pI (c33e1 p0 k1).id)] [1040] [] tv ?_
      refine DW.done ?_
      show DW _ _ _ _ _
      refine RD hnt (nn 2 []) [] [(24, pI (w64 (((k1 : Nat) : Int) + 1)))] [] [] tv ?_
      exact jD (c33e1 p0 k1).id ⟨hlt1, hm⟩ (Conv.tp [(24, pI (w64 (((k1 : Nat) : Int) + 1)))] [] (by kernel_rfl) (.cons rfl (.of_eq (congrArg pI (w64_succ hlt1 hc1))) .nil) .nil)
    ·rcases bt (decide ((c33e1 p0 k1).id ≤ s1)) with h16 | h16
     ·replace hm := if_t h16 hm
      refine RD hnt (nn 5 (sk 4 (pT :: []))) [3] [(37, pB true)] [] [] (an5 h16 tv) ?_
      exact jD true hm Conv.eqK
     ·replace hm := if_f h16 hm
      obtain ⟨r17, hr17, hm⟩ := bo hm
      refine RD hnt (nn 7 (o39 [] true r17 :: .no :: pF :: [])) [3] [(37, pB (!r17))] [] [] (an3 h16 (an (fine_memberSpec p0 (c33e1 p0 k1) r17 hr17) (an2 h16 tv))) ?_
      exact jD (!r17) hm Conv.eqK
   ·intro h15
    have hge1 : ¬ k1 < p0.tasks.length := by have := of_decide_eq_false h15; omega
    have hm := he1 hge1
    unfold Check_memberD1 at hm
    refine DW.exit ?_
    refine joinQ_exit ?_
    refine KQ_exit ?_
    refine blockQ_exit ?_
    show DW _ _ _ _ _
    refine Sq (RK hnt (nn 5 []) [(2, pB (decide (p0.next > s1)))] [] tv ?_)
    obtain rfl := sj hm
    exact DW.ret (retK [] [] (pB (decide (p0.next > s1))))
 ·rcases bt (decide (((p0.tasks.length : Nat) : Int) > 128)) with h1 | h1
  ·replace hm := if_t h1 hm
   refine RD hnt (nn 5 (sk 3 (pT :: .no :: sk 4 (pT :: [])))) [] [(20, pB true)] [] [] (an4 h1 (an5 tt tv)) ?_
   exact jD true hm Conv.eqK
  ·replace hm := if_f h1 hm
   rcases bt (decide (p0.next > 2147483648)) with h2 | h2
   ·replace hm := if_t h2 hm
    refine RD hnt (nn 8 (pF :: .no :: sk 4 (pT :: []))) [] [(20, pB true)] [] [] (an4 h1 (an5 h2 tv)) ?_
    exact jD true hm Conv.eqK
   ·replace hm := if_f h2 hm
    obtain ⟨r3, hr3, hm⟩ := bo hm
    refine RD hnt (nn 8 (pF :: nn 3 (o34 [] true r3 :: .no :: pF :: []))) [] [(20, pB (!r3))] [] [] (an4 h1 (an3 h2 (an (Check_treeSpec p0.tree r3 hr3) (an2 h2 tv)))) ?_
    exact jD (!r3) hm Conv.eqK
abbrev o33 (ks : List Nat) (b : Bool) (RES : Bool) : Orc := .call 51 ks b (pB RES) [] []

theorem atFa_pidsSpec (p0 : Count) (p1 : Int) (RES : Bool) (hm : atFa_pids p0 p1 = some RES) : Spec Tryz.prog 140 [.p (.agg (encCount p0)), rr 0] [.box [pI p1]] (pB RES) [.box [pI p1]] [] := by
 unfold atFa_pids at hm
 refine SO Tryz.func140 rfl rfl [(0, .p (.agg (encCount p0))), (1, rr 0)] [(0, bx [pI p1])] ?_
 intro cx hnt
 refine Sq (RD hnt (nn 2 []) [0] [(2, rr 1016)] [] [(1016, bx (pm (encCount p0)))] tv ?_)
 refine Sq (RK hnt (nn 5 []) [(3, pB (p0.group == p1))] [(0, bx [pI p1])] tv ?_)
 obtain rfl := sj hm
 exact DW.ret (retK [.box [pI p1]] [] (pB (p0.group == p1)))

theorem IndexFunc_slices_CountQatFa_pidsSpec (p0 : List Count) (p1c0 : Int) (RES : Int) (hm : IndexFunc_slices_CountQatFa_pids p0 p1c0 = some RES) : Spec Tryz.prog 139 [.p (slCount p0), .fn 140 [rr 0]] [.box [pI p1c0]] (pI RES) [.box [pI p1c0]] [] := by
 unfold IndexFunc_slices_CountQatFa_pids at hm
 refine SO Tryz.func139 rfl rfl [(0, .p (slCount p0)), (1, .fn 140 [rr 0])] [(0, bx [pI p1c0])] ?_
 intro cx hnt
 refine Sq (RD hnt (.no :: []) [] [] [] [] tv ?_)
 refine Sq (Sq (RD hnt (nn 3 []) [] [(7, pI ((p0.length : Nat) : Int)), (8, pI 0)] [] [] tv ?_))
 refine Bk ?_
 obtain ⟨hc1, hm⟩ := go1 hm
 refine DW.rangeO (fun (k1 : Nat) (s1 : Unit) => mkSt [(0, .p (slCount p0)), (1, .fn 140 [rr 0]), (7, pI ((p0.length : Nat) : Int)), (8, pI ((k1 : Nat) : Int))] [(0, bx [pI p1c0])]) dCount hm Conv.eqK ?_
 intro k1 s1 n1 hk1 hs1 he1
 refine Sq (RD hnt (.no :: []) [] [(9, pB (decide (((k1 : Nat) : Int) < ((p0.length : Nat) : Int))))] [] [] tv ?_)
 refine Sq (condK (decide (((k1 : Nat) : Int) < ((p0.length : Nat) : Int))) ?_ ?_)
 ·intro h9
  have hlt1 : k1 < p0.length := by have := of_decide_eq_true h9; omega
  have hm := hs1 hlt1
  unfold IndexFunc_slices_CountQatFa_pidsL1 at hm
  refine Sk ?_
  refine Sq (Bk ?_)
  refine Sq (RD hnt (nn 2 []) [9] [(5, pI ((k1 : Nat) : Int))] [] [] tv ?_)
  obtain ⟨r10, hr10, hm⟩ := bo hm
  refine Sq (RD hnt (nn 5 (.call 140 [0] true (pB r10) [.box [pI p1c0]] [] :: [])) [] [(16, pB r10)] [] [] (an (nn0 k1) (an (ltc hlt1) (an (atFa_pidsSpec (p0.getD k1 (default : Count)) p1c0 r10 hr10) (an tv tv)))) ?_)
  refine condM hm ?_ ?_
  ·intro h11 hm
   refine Sq (RK hnt (nn 2 []) [(4, pI ((k1 : Nat) : Int))] [(0, bx [pI p1c0])] tv ?_)
   obtain rfl := sj hm
   exact DW.ret (retK [.box [pI p1c0]] [] (pI ((k1 : Nat) : Int)))
  ·intro h11 hm
   refine Sk ?_
   refine DW.done ?_
   show DW _ _ _ _ _
   refine RD hnt (nn 2 []) [5, 16] [(8, pI (w64 (((k1 : Nat) : Int) + 1)))] [] [] tv ?_
   exact jD () ⟨hlt1, hm⟩ (Conv.tp [(8, pI (w64 (((k1 : Nat) : Int) + 1)))] [] (by kernel_rfl) (.cons rfl (.of_eq (congrArg pI (w64_succ hlt1 hc1))) .nil) .nil)
 ·intro h9
  have hge1 : ¬ k1 < p0.length := by have := of_decide_eq_false h9; omega
  have hm := he1 hge1
  unfold IndexFunc_slices_CountQatFa_pidsD1 at hm
  refine DW.exit ?_
  refine joinQ_exit ?_
  refine KQ_exit ?_
  refine blockQ_exit ?_
  show DW _ _ _ _ _
  refine Sq (RK hnt (.no :: []) [(4, pI (-1))] [(0, bx [pI p1c0])] tv ?_)
  obtain rfl := sj hm
  exact DW.ret (retK [.box [pI p1c0]] [] (pI (-1)))

theorem at_pidsSpec (p0 : List Count) (p1 : Int) (RES : Int) (hm : at_pids p0 p1 = some RES) : Spec Tryz.prog 86 [.p (slCount p0), pI p1] [] (pI RES) [] [] := by
 unfold at_pids at hm
 refine SO Tryz.func86 rfl rfl [(0, .p (slCount p0)), (1, pI p1)] [] ?_
 intro cx hnt
 refine Sq (RD hnt (nn 2 []) [1] [(3, rr 1024)] [] [(1024, bx [pI p1])] tv ?_)
 obtain ⟨r1, hr1, hm⟩ := bo hm
 refine Sq (RK hnt (nn 2 (.call 139 [1024] true (pI r1) [.box [pI p1]] [] :: .no :: [])) [(4, pI r1)] [] (an (IndexFunc_slices_CountQatFa_pidsSpec p0 p1 r1 hr1) (an tv tv)) ?_)
 obtain rfl := sj hm
 exact DW.ret (retK [] [] (pI r1))
abbrev o48 (ks : List Nat) (b : Bool) (RES : Int) : Orc := .call 86 ks b (pI RES) [] []

theorem Get_pidsSpec (p0 : List Count) (p1 : Int) (RES : Count × Bool) (hm : Get_pids p0 p1 = some RES) : Spec Tryz.prog 24 [.p (slCount p0), pI p1] [] (.p (.tup [.agg (encCount RES.1), vb RES.2])) [] [] := by
 unfold Get_pids at hm
 refine SO Tryz.func24 rfl rfl [(0, .p (slCount p0)), (1, pI p1)] [] ?_
 intro cx hnt
 refine Sq (RD hnt (nn 2 []) [] [(4, rr 1032)] [] [(1032, bx [pI 0, pI 0, pI 0, pI 0, pI 0])] tv ?_)
 obtain ⟨r1, hr1, hm⟩ := bo hm
 refine Sq (RD hnt (nn 2 (o48 [] true r1 :: .no :: [])) [1] [(6, pI r1)] [] [] (an (at_pidsSpec p0 p1 r1 hr1) tv) ?_)
 refine Sq (Sq (RD hnt (nn 2 []) [] [(11, pB (decide (r1 < 0)))] [] [] tv ?_))
 refine condM hm ?_ ?_
 ·intro h2 hm
  refine Sq (RD hnt (nn 3 []) [0, 6, 11] [(5, pB false)] [] [] tv ?_)
  obtain rfl := sj hm
  exact DW.ret (retK [] [] (.p (.tup [.agg [vi 0, vi 0, vi 0, vi 0, vi 0], vb false])))
 ·intro h2 hm
  refine Sk ?_
  obtain ⟨g3, hm⟩ := go1 hm
  refine Sq (RK hnt (nn 6 []) [(4, rr 1032), (5, pB true)] [(1032, bx (pm (encCount (p0.getD (Int.toNat r1) dCount))))] (an g3.1 (an g3.2 tv)) ?_)
  obtain rfl := sj hm
  exact DW.ret (retK [] [] (.p (.tup [.agg (encCount (p0.getD (Int.toNat r1) dCount)), vb true])))
abbrev o47 (ks : List Nat) (b : Bool) (RES : Count × Bool) : Orc := .call 24 ks b (.p (.tup [.agg (encCount RES.1), vb RES.2])) [] []

abbrev c53e1 (p0 : Tree) (k1 : Nat) := (p0.nodes.getD k1 (default : Node))
abbrev c53e2 (p0 : Tree) : Nat × MV := (10, pI ((p0.nodes.length : Nat) : Int))
theorem Children_forestSpec (p0 : Tree) (p1 : Int) (RES : List Int) (hm : Children_forest p0 p1 = some RES) : Spec Tryz.prog 157 [.p (.agg (encTree p0)), pI p1] [] (ow 0 RES.length) [] [roI RES] := by
 unfold Children_forest at hm
 refine SO Tryz.func157 rfl rfl [(0, .p (.agg (encTree p0))), (1, pI p1)] [] ?_
 intro cx hnt
 refine Sq (RK hnt (nn 2 []) [(1, pI p1), (2, rr 1016)] [(1016, bx (pm (encTree p0)))] tv ?_)
 refine Sq (RD hnt (.no :: []) [] [(5, .p (.sl .nil 0 0 (fun _ => [])))] [] [] tv ?_)
 refine Sq (Sq (RD hnt (nn 4 []) [2] [(9, .p (slNode p0.nodes)), (c53e2 p0), (11, pI 0)] [1016] [] tv ?_))
 refine Bk ?_
 obtain ⟨hc1, hm⟩ := go1 hm
 refine DW.rangeO (fun (k1 : Nat) (s1 : List Int) => mkSt [(1, pI p1), (5, ow 1184 s1.length), (9, .p (slNode p0.nodes)), (c53e2 p0), (11, pI ((k1 : Nat) : Int))] [(1184, ob0 (roI s1))]) dNode hm (Conv.ads [(.s 5, 1184, 1, elems encI 0 [])]) ?_
 intro k1 s1 n1 hk1 hs1 he1
 refine Sq (RD hnt (.no :: []) [] [(12, pB (decide (((k1 : Nat) : Int) < ((p0.nodes.length : Nat) : Int))))] [] [] tv ?_)
 refine Sq (condK (decide (((k1 : Nat) : Int) < ((p0.nodes.length : Nat) : Int))) ?_ ?_)
 ·intro h8
  have hlt1 : k1 < p0.nodes.length := by have := of_decide_eq_true h8; omega
  have hm := hs1 hlt1
  unfold Children_forestL1 at hm
  refine Sk ?_
  refine Sq ?_
  refine Jn (ι := List Int) (fun (y3 : List Int) => mkSt [(1, pI p1), (5, ow 1184 y3.length), (9, .p (slNode p0.nodes)), (c53e2 p0), (11, pI ((k1 : Nat) : Int))] [(1184, ob0 (roI y3))]) (fun y3 => (Children_forestJ3 n1) y3 = some RES) ?_ ?_
  ·intro y3 hm
   unfold Children_forestJ3 at hm
   refine RD hnt (nn 2 []) [] [(11, pI (w64 (((k1 : Nat) : Int) + 1)))] [] [] tv ?_
   exact jD y3 ⟨hlt1, hm⟩ (Conv.tp [(11, pI (w64 (((k1 : Nat) : Int) + 1)))] [] (by kernel_rfl) (.cons rfl (.of_eq (congrArg pI (w64_succ hlt1 hc1))) .nil) .nil)
  ·refine Bk ?_
   refine Sq (RD hnt (nn 4 []) [12] [(7, rr 1056)] [] [(1056, bx (pm (encNode (c53e1 p0 k1))))] (an (nn0 k1) (an (ltc hlt1) tv)) ?_)
   refine Sq (RD hnt (nn 4 []) [] [(18, pB ((c53e1 p0 k1).parent == p1))] [] [] tv ?_)
   refine condM hm ?_ ?_
   ·intro h9 hm
    obtain ⟨g10, hm⟩ := go1 hm
    refine RN hnt (nn 6 []) [(1, pI p1), (5, ow 1184 (s1 ++ [(c53e1 p0 k1).id]).length), (9, .p (slNode p0.nodes)), (c53e2 p0), (11, pI ((k1 : Nat) : Int))] [(1184, ob0 (roI (s1 ++ [(c53e1 p0 k1).id])))] [(5, ow 1184 (s1.length + 1))] [(1184, .row 1 (s1.length + 1) (catF s1.length (elI s1) (cut 1 [vi (c53e1 p0 k1).id])))] (an (by omega : (s1.length + 1) * 8 ≤ 140737488355328) tv) (by kernel_rfl) (.cons rfl (MLe.ownLen (enc := encI) (d := 0) (f := (catF s1.length (elI s1) (cut 1 [vi (c53e1 p0 k1).id]))) (RowIs.cat RowIs.elems (RowIs.lit (enc := encI) (d := 0) (n := 1) (f := (cut 1 [vi (c53e1 p0 k1).id])) [(c53e1 p0 k1).id] rfl (fun | 0, _ => rfl | n + 1, h => absurd h (by omega))))) .nil) (.cons rfl (BLe.typed (RowIs.cat RowIs.elems (RowIs.lit (enc := encI) (d := 0) (n := 1) (f := (cut 1 [vi (c53e1 p0 k1).id])) [(c53e1 p0 k1).id] rfl (fun | 0, _ => rfl | n + 1, h => absurd h (by omega))))) .nil) ?_
    exact bD (s1 ++ [(c53e1 p0 k1).id]) hm .refl
   ·intro h9 hm
    refine Sk ?_
    exact bD s1 hm Conv.t0
 ·intro h8
  have hge1 : ¬ k1 < p0.nodes.length := by have := of_decide_eq_false h8; omega
  have hm := he1 hge1
  unfold Children_forestD1 at hm
  refine DW.exit ?_
  refine joinQ_exit ?_
  refine KQ_exit ?_
  refine blockQ_exit ?_
  show DW _ _ _ _ _
  refine Sq (RK hnt (nn 2 []) [(4, ow 1184 s1.length)] [(1184, ob0 (roI s1))] tv ?_)
  obtain rfl := sj hm
  exact DW.ret (retK [roI s1] [1184] (ow 0 s1.length))
abbrev o53 (ks : List Nat) (b : Bool) (RES : List Int) : Orc := .call 157 ks b (ow 0 RES.length) [] [roI RES]

abbrev c52e1 (p0 : Tree) : Nat × Obj := (1016, bx (pm (encTree p0)))
abbrev c52e2 : Nat × MV := (5, .p (.sl .nil 0 0 (fun _ => [])))
theorem Subtree_forestSpec (p0 : Tree) (p1 : Int) (RES : List Int) (hm : Subtree_forest p0 p1 = some RES) : Spec Tryz.prog 141 [.p (.agg (encTree p0)), pI p1] [] (ow 0 RES.length) [] [roI RES] := by
 unfold Subtree_forest at hm
 refine SO Tryz.func141 rfl rfl [(0, .p (.agg (encTree p0))), (1, pI p1)] [] ?_
 intro cx hnt
 refine Sq (RK hnt (nn 2 []) [(1, pI p1), (2, rr 1016)] [(c52e1 p0)] tv ?_)
 obtain ⟨r1, hr1, hm⟩ := bo hm
 refine Sq (Sq (RD hnt (nn 2 (o44 [] true r1 :: .no :: [])) [] [(10, pB (decide (r1 < 0)))] [] [] (an (At_forestSpec p0 p1 r1 hr1) tv) ?_))
 refine condM hm ?_ ?_
 ·intro h2 hm
  refine Sq (RK hnt (.no :: []) [(4, .p (.sl .nil 0 0 (fun _ => [])))] [] tv ?_)
  refine DW.cv [] [(4, ow 100000 0)] [] [(100000, ob0 (roI []))] (Conv.ads [(.s 4, 100000, 1, elems encI 0 [])]) ?_
  obtain rfl := sj hm
  exact DW.ret (retK [roI []] [100000] (ow 0 0))
 ·intro h2 hm
  refine Sk ?_
  refine Sq (RD hnt (.no :: []) [10] [(c52e2)] [] [] tv ?_)
  refine Sq (Sq (RN hnt (nn 3 []) [(2, rr 1016), (c52e2), (6, ow 1096 [p1].length)] [(c52e1 p0), (1096, ob0 (roI [p1]))] [(6, ow 1096 1)] [(1096, .row 1 1 (cut 1 [vi p1]))] tv (by kernel_rfl) (.cons rfl (MLe.ownLen (enc := encI) (d := 0) (f := (cut 1 [vi p1])) (RowIs.lit (enc := encI) (d := 0) (n := 1) (f := (cut 1 [vi p1])) [p1] rfl (fun | 0, _ => rfl | n + 1, h => absurd h (by omega)))) .nil) (.cons rfl (BLe.typed (RowIs.lit (enc := encI) (d := 0) (n := 1) (f := (cut 1 [vi p1])) [p1] rfl (fun | 0, _ => rfl | n + 1, h => absurd h (by omega)))) .nil) ?_))
  refine Bk ?_
  refine DW.whileO (fun (s1 : (List Int) × (List Int)) => mkSt [(2, rr 1016), (5, ow 1232 s1.1.length), (6, .p (slI s1.2))] [(c52e1 p0), (1232, ob0 (roI s1.1))]) hm (Conv.trans (τ := mkSt [(2, rr 1016), (c52e2), (6, .p (slI [p1]))] [(c52e1 p0)]) (Conv.frz [1096]) (Conv.ads [(.s 5, 1232, 1, elems encI 0 [])])) ?_
  intro s1 n1 hm
  unfold Subtree_forestL1 at hm
  refine Sq (Sq (DW.regJ (sl2 := [(2, rr 1016), (5, ow 1232 s1.1.length), (6, .p (slI s1.2)), (23, pB ((decide (((s1.2.length : Nat) : Int) > 0)) && (decide (((s1.1.length : Nat) : Int) < ((p0.nodes.length : Nat) : Int)))))]) (ob2 := [(c52e1 p0), (1232, ob0 (roI s1.1))]) ?_ ?_))
  ·rcases bt (decide (((s1.2.length : Nat) : Int) > 0)) with h12 | h12
   ·exact RT hnt (nn 10 (pT :: [])) [(23, pB (decide (((s1.1.length : Nat) : Int) < ((p0.nodes.length : Nat) : Int))))] (an h12 (an6 h12 tv)) (by kernel_rfl) (.cons rfl (.of_eq (by rw [h12]; try rfl)) .nil)
   ·exact RT hnt (nn 4 (sk 6 (pF :: []))) [(23, pB false)] (an h12 (an6 h12 tv)) (by kernel_rfl) (.cons rfl (.of_eq (by rw [h12]; try rfl)) .nil)
  ·refine condM hm ?_ ?_
   ·intro h13 hm
    refine Sk ?_
    refine Bk ?_
    obtain ⟨g14, g15, hm⟩ := go2 hm
    refine Sq (RN hnt (nn 7 []) [(2, rr 1016), (5, ow 1232 (s1.1 ++ [(s1.2.getD 0 0)]).length), (6, .p (slI s1.2))] [(c52e1 p0), (1232, ob0 (roI (s1.1 ++ [(s1.2.getD 0 0)])))] [(5, ow 1232 (s1.1.length + 1))] [(1232, .row 1 (s1.1.length + 1) (catF s1.1.length (elI s1.1) (cut 1 [vi (s1.2.getD 0 0)])))] (an (nn0 0) (an (ltc g14) (an (by omega : (s1.1.length + 1) * 8 ≤ 140737488355328) tv))) (by kernel_rfl) (.cons rfl (MLe.ownLen (enc := encI) (d := 0) (f := (catF s1.1.length (elI s1.1) (cut 1 [vi (s1.2.getD 0 0)]))) (RowIs.cat RowIs.elems (RowIs.lit (enc := encI) (d := 0) (n := 1) (f := (cut 1 [vi (s1.2.getD 0 0)])) [(s1.2.getD 0 0)] rfl (fun | 0, _ => rfl | n + 1, h => absurd h (by omega))))) .nil) (.cons rfl (BLe.typed (RowIs.cat RowIs.elems (RowIs.lit (enc := encI) (d := 0) (n := 1) (f := (cut 1 [vi (s1.2.getD 0 0)])) [(s1.2.getD 0 0)] rfl (fun | 0, _ => rfl | n + 1, h => absurd h (by omega))))) .nil) ?_)
    obtain ⟨g16, hm⟩ := go1 hm
    obtain ⟨r17, hr17, hm⟩ := bo hm
    obtain ⟨g18, g19, hm⟩ := go2 hm
    refine RN hnt (nn 4 (o53 [] true r17 :: nn 4 [])) [(2, rr 1016), (5, ow 1232 (s1.1 ++ [(s1.2.getD 0 0)]).length), (6, ow 1272 (r17 ++ (s1.2.drop 1)).length)] [(c52e1 p0), (1232, ob0 (roI (s1.1 ++ [(s1.2.getD 0 0)]))), (1272, ob0 (roI (r17 ++ (s1.2.drop 1))))] [(6, ow 1272 (r17.length + (subN s1.2.length 1)))] [(1272, .row 1 (r17.length + (subN s1.2.length 1)) (catF r17.length (elI r17) (shF 1 (elI s1.2))))] (an (nn0 0) (an (ltc g16) (an (Children_forestSpec p0 (s1.2.getD 0 0) r17 hr17) (an (by omega : (0 : Int) ≤ 1) (an (by omega : 1 ≤ ((s1.2.length : Nat) : Int)) (an (by omega : ((s1.2.length : Nat) : Int) ≤ ((s1.2.length : Nat) : Int)) (an (by omega : (r17.length + (subN s1.2.length 1)) * 8 ≤ 140737488355328) tv))))))) (by kernel_rfl) (.cons rfl (MLe.ownLen (enc := encI) (d := 0) (f := (catF r17.length (elI r17) (shF 1 (elI s1.2)))) (RowIs.cat RowIs.elems (RowIs.elems.drop (subN_eq _ _) (by omega)))) .nil) (.cons rfl (BLe.typed (RowIs.cat RowIs.elems (RowIs.elems.drop (subN_eq _ _) (by omega)))) .nil) ?_
    refine DW.done ?_
    show DW _ _ _ _ _
    exact jD ((s1.1 ++ [(s1.2.getD 0 0)]), (r17 ++ (s1.2.drop 1))) hm (Conv.frz [1272])
   ·intro h13 hm
    refine DW.exit ?_
    refine joinQ_exit ?_
    refine KQ_exit ?_
    refine blockQ_exit ?_
    show DW _ _ _ _ _
    refine Sq (RK hnt (nn 2 []) [(4, ow 1232 s1.1.length)] [(1232, ob0 (roI s1.1))] tv ?_)
    obtain rfl := sj hm
    exact DW.ret (retK [roI s1.1] [1232] (ow 0 s1.1.length))
abbrev o52 (ks : List Nat) (b : Bool) (RES : List Int) : Orc := .call 141 ks b (ow 0 RES.length) [] [roI RES]

theorem Index_slices_intSpec (p0 : List Int) (p1 : Int) (RES : Int) (hm : Index_slices_int p0 p1 = some RES) : Spec Tryz.prog 166 [.p (slI p0), pI p1] [] (pI RES) [] [] := by
 unfold Index_slices_int at hm
 refine SO Tryz.func166 rfl rfl [(0, .p (slI p0)), (1, pI p1)] [] ?_
 intro cx hnt
 refine Sq (RD hnt (.no :: []) [] [] [] [] tv ?_)
 refine Sq (Sq (RD hnt (nn 3 []) [] [(7, pI ((p0.length : Nat) : Int)), (8, pI 0)] [] [] tv ?_))
 refine Bk ?_
 obtain ⟨hc1, hm⟩ := go1 hm
 refine DW.rangeO (fun (k1 : Nat) (s1 : Unit) => mkSt [(0, .p (slI p0)), (1, pI p1), (7, pI ((p0.length : Nat) : Int)), (8, pI ((k1 : Nat) : Int))] []) 0 hm Conv.eqK ?_
 intro k1 s1 n1 hk1 hs1 he1
 refine Sq (RD hnt (.no :: []) [] [(9, pB (decide (((k1 : Nat) : Int) < ((p0.length : Nat) : Int))))] [] [] tv ?_)
 refine Sq (condK (decide (((k1 : Nat) : Int) < ((p0.length : Nat) : Int))) ?_ ?_)
 ·intro h7
  have hlt1 : k1 < p0.length := by have := of_decide_eq_true h7; omega
  have hm := hs1 hlt1
  unfold Index_slices_intL1 at hm
  refine Sk ?_
  refine Sq (Bk ?_)
  refine Sq (RD hnt (nn 2 []) [9] [(5, pI ((k1 : Nat) : Int))] [] [] tv ?_)
  refine Sq (RD hnt (nn 6 []) [] [(16, pB (p1 == (p0.getD k1 0)))] [] [] (an (nn0 k1) (an (ltc hlt1) tv)) ?_)
  refine condM hm ?_ ?_
  ·intro h8 hm
   refine Sq (RK hnt (nn 2 []) [(4, pI ((k1 : Nat) : Int))] [] tv ?_)
   obtain rfl := sj hm
   exact DW.ret (retK [] [] (pI ((k1 : Nat) : Int)))
  ·intro h8 hm
   refine Sk ?_
   refine DW.done ?_
   show DW _ _ _ _ _
   refine RD hnt (nn 2 []) [5, 16] [(8, pI (w64 (((k1 : Nat) : Int) + 1)))] [] [] tv ?_
   exact jD () ⟨hlt1, hm⟩ (Conv.tp [(8, pI (w64 (((k1 : Nat) : Int) + 1)))] [] (by kernel_rfl) (.cons rfl (.of_eq (congrArg pI (w64_succ hlt1 hc1))) .nil) .nil)
 ·intro h7
  have hge1 : ¬ k1 < p0.length := by have := of_decide_eq_false h7; omega
  have hm := he1 hge1
  unfold Index_slices_intD1 at hm
  refine DW.exit ?_
  refine joinQ_exit ?_
  refine KQ_exit ?_
  refine blockQ_exit ?_
  show DW _ _ _ _ _
  refine Sq (RK hnt (.no :: []) [(4, pI (-1))] [] tv ?_)
  obtain rfl := sj hm
  exact DW.ret (retK [] [] (pI (-1)))
abbrev o55 (ks : List Nat) (b : Bool) (RES : Int) : Orc := .call 166 ks b (pI RES) [] []

theorem Contains_slices_intSpec (p0 : List Int) (p1 : Int) (RES : Bool) (hm : Contains_slices_int p0 p1 = some RES) : Spec Tryz.prog 142 [.p (slI p0), pI p1] [] (pB RES) [] [] := by
 unfold Contains_slices_int at hm
 refine SO Tryz.func142 rfl rfl [(0, .p (slI p0)), (1, pI p1)] [] ?_
 intro cx hnt
 refine Sq (RD hnt (.no :: []) [] [] [] [] tv ?_)
 obtain ⟨r1, hr1, hm⟩ := bo hm
 refine Sq (RK hnt (nn 2 (o55 [] true r1 :: nn 2 [])) [(4, pB (decide (r1 ≥ 0)))] [] (an (Index_slices_intSpec p0 p1 r1 hr1) tv) ?_)
 obtain rfl := sj hm
 exact DW.ret (retK [] [] (pB (decide (r1 ≥ 0))))
abbrev o54 (ks : List Nat) (b : Bool) (RES : Bool) : Orc := .call 142 ks b (pB RES) [] []

theorem Count_crewSpec (p0 : Hierarchy) (p1 : Int) (RES : Int) (hm : Count_crew p0 p1 = some RES) : Spec Tryz.prog 91 [.p (.agg (encHierarchy p0)), pI p1] [] (pI RES) [] [] := by
 unfold Count_crew at hm
 refine SO Tryz.func91 rfl rfl [(0, .p (.agg (encHierarchy p0))), (1, pI p1)] [] ?_
 intro cx hnt
 refine Sq (RK hnt (nn 2 []) [(1, pI p1), (2, rr 1016)] [(1016, bx (pm (encHierarchy p0)))] tv ?_)
 obtain ⟨r1, hr1, hm⟩ := bo hm
 refine Sq (RD hnt (nn 3 (o52 [] true r1 :: .no :: [])) [1] [(5, ow 1096 r1.length)] [] [(1096, ob0 (roI r1))] (an (Subtree_forestSpec p0.tree p1 r1 hr1) tv) ?_)
 refine Sq (RD hnt (.no :: []) [] [(6, pI 0)] [] [] tv ?_)
 refine Sq (Sq (RD hnt (nn 4 []) [2] [(14, .p (slTask p0.tasks)), (15, pI ((p0.tasks.length : Nat) : Int)), (16, pI 0)] [1016] [] tv ?_))
 refine Bk ?_
 obtain ⟨hc1, hm⟩ := go1 hm
 refine DW.rangeO (fun (k1 : Nat) (s1 : Int) => mkSt [(5, ow 1096 r1.length), (6, pI s1), (14, .p (slTask p0.tasks)), (15, pI ((p0.tasks.length : Nat) : Int)), (16, pI ((k1 : Nat) : Int))] [(1096, ob0 (roI r1))]) dTask hm Conv.eqK ?_
 intro k1 s1 n1 hk1 hs1 he1
 refine Sq (RD hnt (.no :: []) [] [(17, pB (decide (((k1 : Nat) : Int) < ((p0.tasks.length : Nat) : Int))))] [] [] tv ?_)
 refine Sq (condK (decide (((k1 : Nat) : Int) < ((p0.tasks.length : Nat) : Int))) ?_ ?_)
 ·intro h10
  have hlt1 : k1 < p0.tasks.length := by have := of_decide_eq_true h10; omega
  have hm := hs1 hlt1
  unfold Count_crewL1 at hm
  refine Sk ?_
  refine Sq ?_
  refine Jn (ι := Int) (fun (y3 : Int) => mkSt [(5, ow 1096 r1.length), (6, pI y3), (14, .p (slTask p0.tasks)), (15, pI ((p0.tasks.length : Nat) : Int)), (16, pI ((k1 : Nat) : Int))] [(1096, ob0 (roI r1))]) (fun y3 => (Count_crewJ3 n1) y3 = some RES) ?_ ?_
  ·intro y3 hm
   unfold Count_crewJ3 at hm
   refine RD hnt (nn 2 []) [] [(16, pI (w64 (((k1 : Nat) : Int) + 1)))] [] [] tv ?_
   exact jD y3 ⟨hlt1, hm⟩ (Conv.tp [(16, pI (w64 (((k1 : Nat) : Int) + 1)))] [] (by kernel_rfl) (.cons rfl (.of_eq (congrArg pI (w64_succ hlt1 hc1))) .nil) .nil)
  ·refine Bk ?_
   refine Sq (RD hnt (nn 4 []) [17] [(8, rr 1064)] [] [(1064, bx (pm (encTask (p0.tasks.getD k1 (default : Task)))))] (an (nn0 k1) (an (ltc hlt1) tv)) ?_)
   obtain ⟨r11, hr11, hm⟩ := bo hm
   refine Sq (RD hnt (nn 3 (o54 [] true r11 :: [])) [8] [(23, pB r11)] [1064] [] (an (Contains_slices_intSpec r1 (p0.tasks.getD k1 (default : Task)).group r11 hr11) tv) ?_)
   refine condM hm ?_ ?_
   ·intro h12 hm
    refine RD hnt (nn 3 []) [23] [(6, pI (w64 (s1 + 1)))] [] [] tv ?_
    exact bD (w64 (s1 + 1)) hm Conv.eqK
   ·intro h12 hm
    refine Sk ?_
    exact bD s1 hm Conv.t0
 ·intro h10
  have hge1 : ¬ k1 < p0.tasks.length := by have := of_decide_eq_false h10; omega
  have hm := he1 hge1
  unfold Count_crewD1 at hm
  refine DW.exit ?_
  refine joinQ_exit ?_
  refine KQ_exit ?_
  refine blockQ_exit ?_
  show DW _ _ _ _ _
  refine Sq (RK hnt (nn 2 []) [(4, pI s1)] [] tv ?_)
  obtain rfl := sj hm
  exact DW.ret (retK [] [] (pI s1))
abbrev o51 (ks : List Nat) (b : Bool) (RES : Int) : Orc := .call 91 ks b (pI RES) [] []

abbrev c32e1 (y3 : Count) (r17 : Int) := ({ group := y3.group, now := r17, limit := y3.limit, peak := (maxI y3.peak r17), events := y3.events } : Count)
abbrev c32e2 (p0 : Hierarchy) (k1 : Nat) := (p0.tree.nodes.getD k1 (default : Node))
abbrev c32e3 (p0 : Hierarchy) : Nat × MV := (16, pI ((p0.tree.nodes.length : Nat) : Int))
theorem Adjust_pidsSpec (p0 : Hierarchy) (p1 : List Count) (RES : List Count) (hm : Adjust_pids p0 p1 = some RES) : Spec Tryz.prog 25 [.p (.agg (encHierarchy p0)), .p (slCount p1)] [] (ow 0 RES.length) [] [roCount RES] := by
 unfold Adjust_pids at hm
 refine SO Tryz.func25 rfl rfl [(0, .p (.agg (encHierarchy p0))), (1, .p (slCount p1))] [] ?_
 intro cx hnt
 refine Sq (RD hnt (nn 2 []) [0] [(2, rr 1016)] [] [(1016, bx (pm (encHierarchy p0)))] tv ?_)
 obtain ⟨r1, hr1, hm⟩ := bo hm
 refine Sq (Sq (RD hnt (.no :: o33 [] true r1 :: .no :: []) [] [(12, pB (!r1))] [] [] (an (Check_memberSpec p0 r1 hr1) tv) ?_))
 refine condM hm ?_ ?_
 ·intro h2 hm
  refine Sq (RK hnt (.no :: []) [(4, .p (.sl .nil 0 0 (fun _ => [])))] [] tv ?_)
  refine DW.cv [] [(4, ow 100000 0)] [] [(100000, ob0 (roCount []))] (Conv.ads [(.s 4, 100000, 5, elems encCount dCount [])]) ?_
  obtain rfl := sj hm
  exact DW.ret (retK [roCount []] [100000] (ow 0 0))
 ·intro h2 hm
  refine Sk ?_
  refine Sq (RD hnt (.no :: []) [12] [(5, .p (.sl .nil 0 0 (fun _ => [])))] [] [] tv ?_)
  refine Sq (Sq (RD hnt (nn 5 []) [] [(15, .p (slNode p0.tree.nodes)), (c32e3 p0), (17, pI 0)] [] [] tv ?_))
  refine Bk ?_
  obtain ⟨hc1, hm⟩ := go1 hm
  refine DW.rangeO (fun (k1 : Nat) (s1 : List Count) => mkSt [(1, .p (slCount p1)), (2, rr 1016), (5, ow 1376 s1.length), (15, .p (slNode p0.tree.nodes)), (c32e3 p0), (17, pI ((k1 : Nat) : Int))] [(1016, bx (pm (encHierarchy p0))), (1376, ob0 (roCount s1))]) dNode hm (Conv.ads [(.s 5, 1376, 5, elems encCount dCount [])]) ?_
  intro k1 s1 n1 hk1 hs1 he1
  refine Sq (RD hnt (.no :: []) [] [(18, pB (decide (((k1 : Nat) : Int) < ((p0.tree.nodes.length : Nat) : Int))))] [] [] tv ?_)
  refine Sq (condK (decide (((k1 : Nat) : Int) < ((p0.tree.nodes.length : Nat) : Int))) ?_ ?_)
  ·intro h14
   have hlt1 : k1 < p0.tree.nodes.length := by have := of_decide_eq_true h14; omega
   have hm := hs1 hlt1
   unfold Adjust_pidsL1 at hm
   refine Sk ?_
   refine Sq (Bk ?_)
   refine Sq (RD hnt (nn 4 []) [18] [(7, rr 1056)] [] [(1056, bx (pm (encNode (c32e2 p0 k1))))] (an (nn0 k1) (an (ltc hlt1) tv)) ?_)
   obtain ⟨r15, hr15, hm⟩ := bo hm
   refine Sq (RD hnt (nn 3 (o47 [] true r15 :: nn 6 [])) [] [(8, rr 1064), (9, pB r15.2)] [] [(1064, bx (pm (encCount r15.1)))] (an (Get_pidsSpec p1 (c32e2 p0 k1).id r15 hr15) tv) ?_)
   refine Sq (Sq (RD hnt (nn 2 []) [9] [(29, pB (!r15.2))] [] [] tv ?_))
   refine Jn (ι := Count) (fun (y3 : Count) => mkSt [(1, .p (slCount p1)), (2, rr 1016), (5, ow 1376 s1.length), (7, rr 1056), (8, rr 1064), (15, .p (slNode p0.tree.nodes)), (c32e3 p0), (17, pI ((k1 : Nat) : Int))] [(1016, bx (pm (encHierarchy p0))), (1056, bx (pm (encNode (c32e2 p0 k1)))), (1064, bx (pm (encCount y3))), (1376, ob0 (roCount s1))]) (fun y3 => (Adjust_pidsJ3 p0 (c32e2 p0 k1) s1 n1) y3 = some RES) ?_ ?_
   ·intro y3 hm
    unfold Adjust_pidsJ3 at hm
    obtain ⟨r17, hr17, hm⟩ := bo hm
    refine Sq (RD hnt (nn 3 (o51 [] true r17 :: nn 2 [])) [7] [] [1056] [(1064, bx [pI y3.group, pI r17, pI y3.limit, pI y3.peak, pI y3.events])] (an (Count_crewSpec p0 (c32e2 p0 k1).id r17 hr17) tv) ?_)
    refine Sq (RD hnt (nn 7 []) [] [] [] [(1064, bx [pI y3.group, pI r17, pI y3.limit, pI (maxI y3.peak r17), pI y3.events])] tv ?_)
    obtain ⟨g18, hm⟩ := go1 hm
    refine RN hnt (nn 5 []) [(1, .p (slCount p1)), (2, rr 1016), (5, ow 1376 (s1 ++ [(c32e1 y3 r17)]).length), (15, .p (slNode p0.tree.nodes)), (c32e3 p0), (17, pI ((k1 : Nat) : Int))] [(1016, bx (pm (encHierarchy p0))), (1376, ob0 (roCount (s1 ++ [(c32e1 y3 r17)])))] [(5, ow 1376 (s1.length + 1))] [(1376, .row 5 (s1.length + 1) (catF s1.length (elCount s1) (cut 5 [vi y3.group, vi r17, vi y3.limit, vi (maxI y3.peak r17), vi y3.events])))] (an (by omega : (s1.length + 1) * 40 ≤ 140737488355328) tv) (by kernel_rfl) (.cons rfl (MLe.ownLen (enc := encCount) (d := dCount) (f := (catF s1.length (elCount s1) (cut 5 [vi y3.group, vi r17, vi y3.limit, vi (maxI y3.peak r17), vi y3.events]))) (RowIs.cat RowIs.elems (RowIs.lit (enc := encCount) (d := dCount) (n := 1) (f := (cut 5 [vi y3.group, vi r17, vi y3.limit, vi (maxI y3.peak r17), vi y3.events])) [(c32e1 y3 r17)] rfl (fun | 0, _ => rfl | n + 1, h => absurd h (by omega))))) .nil) (.cons rfl (BLe.typed (RowIs.cat RowIs.elems (RowIs.lit (enc := encCount) (d := dCount) (n := 1) (f := (cut 5 [vi y3.group, vi r17, vi y3.limit, vi (maxI y3.peak r17), vi y3.events])) [(c32e1 y3 r17)] rfl (fun | 0, _ => rfl | n + 1, h => absurd h (by omega))))) .nil) ?_
    refine DW.done ?_
    show DW _ _ _ _ _
    refine RD hnt (nn 2 []) [] [(17, pI (w64 (((k1 : Nat) : Int) + 1)))] [] [] tv ?_
    exact jD (s1 ++ [(c32e1 y3 r17)]) ⟨hlt1, hm⟩ (Conv.tp [(17, pI (w64 (((k1 : Nat) : Int) + 1)))] [] (by kernel_rfl) (.cons rfl (.of_eq (congrArg pI (w64_succ hlt1 hc1))) .nil) .nil)
   ·refine condM hm ?_ ?_
    ·intro h16 hm
     refine RD hnt (nn 4 []) [29] [] [] [(1064, bx [pI (c32e2 p0 k1).id, pI 0, pI 4611686018427387904, pI 0, pI 0])] tv ?_
     exact jD ({ group := (c32e2 p0 k1).id, now := 0, limit := 4611686018427387904, peak := 0, events := 0 } : Count) hm Conv.eqK
    ·intro h16 hm
     refine Sk ?_
     exact jD r15.1 hm Conv.t0
  ·intro h14
   have hge1 : ¬ k1 < p0.tree.nodes.length := by have := of_decide_eq_false h14; omega
   have hm := he1 hge1
   unfold Adjust_pidsD1 at hm
   refine DW.exit ?_
   refine joinQ_exit ?_
   refine KQ_exit ?_
   refine blockQ_exit ?_
   show DW _ _ _ _ _
   refine Sq (RK hnt (nn 2 []) [(4, ow 1376 s1.length)] [(1376, ob0 (roCount s1))] tv ?_)
   obtain rfl := sj hm
   exact DW.ret (retK [roCount s1] [1376] (ow 0 s1.length))
abbrev o32 (ks : List Nat) (b : Bool) (RES : List Count) : Orc := .call 25 ks b (ow 0 RES.length) [] [roCount RES]

theorem New_pidsSpec (p0 : Hierarchy) (RES : List Count) (hm : New_pids p0 = some RES) : Spec Tryz.prog 28 [.p (.agg (encHierarchy p0))] [] (ow 0 RES.length) [] [roCount RES] := by
 unfold New_pids at hm
 refine SO Tryz.func28 rfl rfl [(0, .p (.agg (encHierarchy p0)))] [] ?_
 intro cx hnt
 refine Sq (RK hnt (nn 2 []) [(1, rr 1008)] [(1008, bx (pm (encHierarchy p0)))] tv ?_)
 obtain ⟨r1, hr1, hm⟩ := bo hm
 refine Sq (RK hnt (.no :: o32 [] true r1 :: .no :: []) [(2, ow 1032 r1.length)] [(1032, ob0 (roCount r1))] (an (Spec.args (xs := [.p (.agg (encHierarchy p0)), .p (.sl .nil 0 0 (fun _ => []))]) (Adjust_pidsSpec p0 [] r1 hr1) (.cons .rfl (.cons (.p PLe.nilL) .nil))) tv) ?_)
 obtain rfl := sj hm
 exact DW.ret (retK [roCount r1] [1032] (ow 0 r1.length))
abbrev o31 (ks : List Nat) (b : Bool) (RES : List Count) : Orc := .call 28 ks b (ow 0 RES.length) [] [roCount RES]

theorem fine_pidsSpec (p0 : Count) (p1 : Int) (p2 : Int) (RES : Bool) (hm : fine_pids p0 p1 p2 = some RES) : Spec Tryz.prog 93 [.p (.agg (encCount p0)), pI p1, pI p2] [] (pB RES) [] [] := by
 unfold fine_pids at hm
 refine SO Tryz.func93 rfl rfl [(0, .p (.agg (encCount p0))), (1, pI p1), (2, pI p2)] [] ?_
 intro cx hnt
 refine Sq (RD hnt (nn 2 []) [0] [(3, rr 1024)] [] [(1024, bx (pm (encCount p0)))] tv ?_)
 refine Sq (DW.regJ (sl2 := [(1, pI p1), (2, pI p2), (3, rr 1024), (7, pB (((decide (p0.limit ≥ 0)) && (decide (p0.limit ≤ 1099511627776))) || (p0.limit == 4611686018427387904)))]) (ob2 := [(1024, bx (pm (encCount p0)))]) ?_ ?_)
 ·rcases bt (decide (p0.limit ≥ 0)) with h1 | h1
  ·rcases bt (decide (p0.limit ≤ 1099511627776)) with h2 | h2
   ·exact RT hnt (nn 7 (pT :: .no :: sk 3 (pT :: .no :: []))) [(7, pB true)] (an4 h1 (an4 h2 tv)) (by kernel_rfl) (.cons rfl (.of_eq (by rw [h1, h2]; try rfl)) .nil)
   ·exact RT hnt (nn 7 (pT :: nn 4 (pF :: .no :: []))) [(7, pB (p0.limit == 4611686018427387904))] (an4 h1 (an4 h2 tv)) (by kernel_rfl) (.cons rfl (.of_eq (by rw [h1, h2]; try rfl)) .nil)
  ·exact RT hnt (nn 4 (sk 3 (pF :: nn 4 (pF :: .no :: [])))) [(7, pB (p0.limit == 4611686018427387904))] (an4 h1 (an4 ff tv)) (by kernel_rfl) (.cons rfl (.of_eq (by rw [h1]; try rfl)) .nil)
 ·refine Sq (DW.regJ (sl2 := [(6, pB (((((((p0.group == p1) && (p0.now == p2)) && (((decide (p0.limit ≥ 0)) && (decide (p0.limit ≤ 1099511627776))) || (p0.limit == 4611686018427387904))) && (decide (p0.peak ≥ p0.now))) && (decide (p0.peak ≤ 128))) && (decide (p0.events ≥ 0))) && (decide (p0.events ≤ 1099511627776))))]) (ob2 := []) ?_ ?_)
  ·rcases bt (p0.group == p1) with h3 | h3
   ·rcases bt (p0.now == p2) with h4 | h4
    ·rcases bt (((decide (p0.limit ≥ 0)) && (decide (p0.limit ≤ 1099511627776))) || (p0.limit == 4611686018427387904)) with h5 | h5
     ·rcases bt (decide (p0.peak ≥ p0.now)) with h6 | h6
      ·rcases bt (decide (p0.peak ≤ 128)) with h7 | h7
       ·rcases bt (decide (p0.events ≥ 0)) with h8 | h8
        ·exact RT hnt (nn 9 (pT :: nn 2 (pT :: nn 6 (pT :: nn 4 (pT :: nn 4 (pT :: nn 4 (pT :: .no :: []))))))) [(6, pB (decide (p0.events ≤ 1099511627776)))] (an5 h3 (an2 h4 (an6 h5 (an4 h6 (an4 h7 (an4 h8 tv)))))) (by kernel_rfl) (.cons rfl (.of_eq (by rw [h3, h4, h5, h6, h7, h8]; try rfl)) .nil)
        ·exact RT hnt (nn 9 (pT :: nn 2 (pT :: nn 6 (pT :: nn 4 (pT :: nn 4 (pT :: .no :: sk 3 (pF :: .no :: []))))))) [(6, pB false)] (an5 h3 (an2 h4 (an6 h5 (an4 h6 (an4 h7 (an4 h8 tv)))))) (by kernel_rfl) (.cons rfl (.of_eq (by rw [h3, h4, h5, h6, h7, h8]; try rfl)) .nil)
       ·exact RT hnt (nn 9 (pT :: nn 2 (pT :: nn 6 (pT :: nn 4 (pT :: .no :: sk 3 (pF :: .no :: sk 3 (pF :: .no :: []))))))) [(6, pB false)] (an5 h3 (an2 h4 (an6 h5 (an4 h6 (an4 h7 (an4 ff tv)))))) (by kernel_rfl) (.cons rfl (.of_eq (by rw [h3, h4, h5, h6, h7]; try rfl)) .nil)
      ·exact RT hnt (nn 9 (pT :: nn 2 (pT :: nn 6 (pT :: .no :: sk 3 (pF :: .no :: sk 3 (pF :: .no :: sk 3 (pF :: .no :: []))))))) [(6, pB false)] (an5 h3 (an2 h4 (an6 h5 (an4 h6 (an2 ff (an6 ff tv)))))) (by kernel_rfl) (.cons rfl (.of_eq (by rw [h3, h4, h5, h6]; try rfl)) .nil)
     ·exact RT hnt (nn 9 (pT :: nn 2 (pT :: .no :: sk 5 (pF :: .no :: sk 3 (pF :: .no :: sk 3 (pF :: .no :: sk 3 (pF :: .no :: []))))))) [(6, pB false)] (an5 h3 (an2 h4 (an6 h5 (an6 ff (an6 ff tv))))) (by kernel_rfl) (.cons rfl (.of_eq (by rw [h3, h4, h5]; try rfl)) .nil)
    ·exact RT hnt (nn 9 (pT :: .no :: .skip :: pF :: .no :: sk 5 (pF :: .no :: sk 3 (pF :: .no :: sk 3 (pF :: .no :: sk 3 (pF :: .no :: [])))))) [(6, pB false)] (an5 h3 (an2 h4 (an6 ff (an6 ff (an6 ff tv))))) (by kernel_rfl) (.cons rfl (.of_eq (by rw [h3, h4]; try rfl)) .nil)
   ·exact RT hnt (nn 5 (sk 4 (pF :: .no :: .skip :: pF :: .no :: sk 5 (pF :: .no :: sk 3 (pF :: .no :: sk 3 (pF :: .no :: sk 3 (pF :: .no :: []))))))) [(6, pB false)] (an5 h3 (an2 ff (an6 ff (an6 ff (an6 ff tv))))) (by kernel_rfl) (.cons rfl (.of_eq (by rw [h3]; try rfl)) .nil)
  ·refine DW.ret ?_
   obtain rfl := sj hm
   exact retK [] [] (pB (((((((p0.group == p1) && (p0.now == p2)) && (((decide (p0.limit ≥ 0)) && (decide (p0.limit ≤ 1099511627776))) || (p0.limit == 4611686018427387904))) && (decide (p0.peak ≥ p0.now))) && (decide (p0.peak ≤ 128))) && (decide (p0.events ≥ 0))) && (decide (p0.events ≤ 1099511627776))))
abbrev o58 (ks : List Nat) (b : Bool) (RES : Bool) : Orc := .call 93 ks b (pB RES) [] []

theorem Check_pidsSpec (p0 : Hierarchy) (p1 : List Count) (RES : Bool) (hm : Check_pids p0 p1 = some RES) : Spec Tryz.prog 31 [.p (.agg (encHierarchy p0)), .p (slCount p1)] [] (pB RES) [] [] := by
 unfold Check_pids at hm
 refine SO Tryz.func31 rfl rfl [(0, .p (.agg (encHierarchy p0))), (1, .p (slCount p1))] [] ?_
 intro cx hnt
 refine Sq (RD hnt (nn 2 []) [0] [(2, rr 1016)] [] [(1016, bx (pm (encHierarchy p0)))] tv ?_)
 obtain ⟨r1, hr1, hm⟩ := bo hm
 refine Sq (Sq ?_)
 refine Jn (ι := Bool) (fun (y1 : Bool) => mkSt [(1, .p (slCount p1)), (2, rr 1016), (18, pB y1)] [(1016, bx (pm (encHierarchy p0)))]) (fun y1 => (Check_pidsJ1 p0 p1) y1 = some RES) ?_ ?_
 ·intro y1 hm
  unfold Check_pidsJ1 at hm
  refine condM hm ?_ ?_
  ·intro h3 hm
   refine Sq (RK hnt (.no :: []) [(4, pB false)] [] tv ?_)
   obtain rfl := sj hm
   exact DW.ret (retK [] [] (pB false))
  ·intro h3 hm
   refine Sk ?_
   refine Sq (Sq (RD hnt (nn 5 []) [18] [(21, .p (slNode p0.tree.nodes)), (22, pI ((p0.tree.nodes.length : Nat) : Int)), (23, pI 0)] [] [] tv ?_))
   refine Bk ?_
   obtain ⟨hc1, hm⟩ := go1 hm
   refine DW.rangeO (fun (k1 : Nat) (s1 : Unit) => mkSt [(1, .p (slCount p1)), (2, rr 1016), (21, .p (slNode p0.tree.nodes)), (22, pI ((p0.tree.nodes.length : Nat) : Int)), (23, pI ((k1 : Nat) : Int))] [(1016, bx (pm (encHierarchy p0)))]) dNode hm Conv.eqK ?_
   intro k1 s1 n1 hk1 hs1 he1
   refine Sq (RD hnt (.no :: []) [] [(24, pB (decide (((k1 : Nat) : Int) < ((p0.tree.nodes.length : Nat) : Int))))] [] [] tv ?_)
   refine Sq (condK (decide (((k1 : Nat) : Int) < ((p0.tree.nodes.length : Nat) : Int))) ?_ ?_)
   ·intro h16
    have hlt1 : k1 < p0.tree.nodes.length := by have := of_decide_eq_true h16; omega
    have hm := hs1 hlt1
    unfold Check_pidsL1 at hm
    refine Sk ?_
    refine Sq (Bk ?_)
    refine Sq (RD hnt (nn 6 []) [24] [(5, pI ((k1 : Nat) : Int)), (6, rr 1048)] [] [(1048, bx (pm (encNode (p0.tree.nodes.getD k1 (default : Node)))))] (an (nn0 k1) (an (ltc hlt1) tv)) ?_)
    obtain ⟨g17, hm⟩ := go1 hm
    obtain ⟨r18, hr18, hm⟩ := bo hm
    obtain ⟨r19, hr19, hm⟩ := bo hm
    refine Sq (RD hnt (nn 9 (o51 [] true r18 :: o58 [] true r19 :: .no :: [])) [5, 6] [(39, pB (!r19))] [1048] [] (an (nn0 k1) (an (ltc g17) (an (Count_crewSpec p0 (p0.tree.nodes.getD k1 (default : Node)).id r18 hr18) (an (fine_pidsSpec (p1.getD k1 dCount) (p0.tree.nodes.getD k1 (default : Node)).id r18 r19 hr19) tv)))) ?_)
    refine condM hm ?_ ?_
    ·intro h20 hm
     refine Sq (RK hnt (.no :: []) [(4, pB false)] [] tv ?_)
     obtain rfl := sj hm
     exact DW.ret (retK [] [] (pB false))
    ·intro h20 hm
     refine Sk ?_
     refine DW.done ?_
     show DW _ _ _ _ _
     refine RD hnt (nn 2 []) [39] [(23, pI (w64 (((k1 : Nat) : Int) + 1)))] [] [] tv ?_
     exact jD () ⟨hlt1, hm⟩ (Conv.tp [(23, pI (w64 (((k1 : Nat) : Int) + 1)))] [] (by kernel_rfl) (.cons rfl (.of_eq (congrArg pI (w64_succ hlt1 hc1))) .nil) .nil)
   ·intro h16
    have hge1 : ¬ k1 < p0.tree.nodes.length := by have := of_decide_eq_false h16; omega
    have hm := he1 hge1
    unfold Check_pidsD1 at hm
    refine DW.exit ?_
    refine joinQ_exit ?_
    refine KQ_exit ?_
    refine blockQ_exit ?_
    show DW _ _ _ _ _
    refine Sq (RK hnt (.no :: []) [(4, pB true)] [] tv ?_)
    obtain rfl := sj hm
    exact DW.ret (retK [] [] (pB true))
 ·rcases bt (!r1) with h2 | h2
  ·replace hm := if_t h2 hm
   refine RD hnt (.no :: o33 [] true r1 :: nn 2 (sk 7 (pT :: []))) [] [(18, pB true)] [] [] (an (Check_memberSpec p0 r1 hr1) (an2 h2 (an6 h2 tv))) ?_
   exact jD true hm Conv.eqK
  ·replace hm := if_f h2 hm
   refine RD hnt (.no :: o33 [] true r1 :: nn 9 (pF :: [])) [] [(18, pB (((p1.length : Nat) : Int) != ((p0.tree.nodes.length : Nat) : Int)))] [] [] (an (Check_memberSpec p0 r1 hr1) (an2 h2 (an6 h2 tv))) ?_
   exact jD (((p1.length : Nat) : Int) != ((p0.tree.nodes.length : Nat) : Int)) hm Conv.eqK
abbrev o57 (ks : List Nat) (b : Bool) (RES : Bool) : Orc := .call 31 ks b (pB RES) [] []

theorem Clone_slices_CountNnSpec (p0 : List Count) (RES : List Count) (hm : Clone_slices_Count p0 = some RES) : Spec Tryz.prog 84 [.p (.sl .nn 5 p0.length (elems encCount (default : Count) p0))] [] (ow 0 RES.length) [] [roCount RES] := by
 unfold Clone_slices_Count at hm
 refine SO Tryz.func84 rfl rfl [(0, .p (.sl .nn 5 p0.length (elems encCount (default : Count) p0)))] [] ?_
 intro cx hnt
 refine Sq (RD hnt (.no :: []) [] [] [] [] tv ?_)
 refine Sq (Sq (RD hnt (nn 2 []) [] [(4, pB false)] [] [] tv ?_))
 refine condF ff ?_
 refine Sk ?_
 obtain ⟨g1, hm⟩ := go1 hm
 refine Sq (RN hnt (nn 4 []) [(2, ow 1040 p0.length)] [(1040, ob0 (roCount p0))] [(2, ow 1040 (0 + p0.length))] [(1040, .row 5 (0 + p0.length) (catF 0 (cut 5 []) (elCount p0)))] (an (by omega : (0 + p0.length) * 40 ≤ 140737488355328) tv) (by kernel_rfl) (.cons rfl (MLe.ownLen (enc := encCount) (d := dCount) (f := (catF 0 (cut 5 []) (elCount p0))) (RowIs.cat RowIs.nil RowIs.elems)) .nil) (.cons rfl (BLe.typed (RowIs.cat RowIs.nil RowIs.elems)) .nil) ?_)
 obtain rfl := sj hm
 exact DW.ret (retK [roCount p0] [1040] (ow 0 p0.length))

theorem Clone_slices_CountNilSpec (p0 : List Count) (RES : List Count) (hm : Clone_slices_CountNil p0 = some RES) : Spec Tryz.prog 84 [.p (.sl .nil 5 0 (elems encCount (default : Count) p0))] [] (ow 0 RES.length) [] [roCount RES] := by
 unfold Clone_slices_CountNil at hm
 refine SO Tryz.func84 rfl rfl [(0, .p (.sl .nil 5 0 (elems encCount (default : Count) p0)))] [] ?_
 intro cx hnt
 refine Sq (RD hnt (.no :: []) [] [] [] [] tv ?_)
 refine Sq (Sq (RD hnt (nn 2 []) [] [(4, pB true)] [] [] tv ?_))
 refine condT tt ?_
 refine Sq (RK hnt (.no :: []) [(2, .p (.sl .nil 0 0 (fun _ => [])))] [] tv ?_)
 refine DW.cv [] [(2, ow 100000 0)] [] [(100000, ob0 (roCount []))] (Conv.ads [(.s 2, 100000, 5, elems encCount dCount [])]) ?_
 obtain rfl := sj hm
 exact DW.ret (retK [roCount []] [100000] (ow 0 0))

theorem Clone_slices_CountSpec (p0 : List Count) (RES : List Count) (hm : Clone_slices_Count p0 = some RES) : Spec Tryz.prog 84 [.p (slCount p0)] [] (ow 0 RES.length) [] [roCount RES] :=
  Spec.unk (fun h => Clone_slices_CountNilSpec p0 RES (by have e : p0 = [] := List.eq_nil_of_length_eq_zero h; subst e; simpa [Clone_slices_Count, Clone_slices_CountNil] using hm)) (Clone_slices_CountNnSpec p0 RES hm)
abbrev o59 (ks : List Nat) (b : Bool) (RES : List Count) : Orc := .call 84 ks b (ow 0 RES.length) [] [roCount RES]

abbrev c56e1 (r8 : List Count) (r1 : Int) (p3 : Int) := ({ group := (r8.getD (Int.toNat r1) dCount).group, now := (r8.getD (Int.toNat r1) dCount).now, limit := p3, peak := (r8.getD (Int.toNat r1) dCount).peak, events := (r8.getD (Int.toNat r1) dCount).events } : Count)
abbrev c56e2 (r8 : List Count) (r1 : Int) (p3 : Int) := (updF (elCount r8) (Int.toNat r1) [vi (r8.getD (Int.toNat r1) dCount).group, vi (r8.getD (Int.toNat r1) dCount).now, vi p3, vi (r8.getD (Int.toNat r1) dCount).peak, vi (r8.getD (Int.toNat r1) dCount).events])
abbrev c56e3 : Nat × MV := (8, .p (.sl .nil 0 0 (fun _ => [])))
theorem Limit_pidsSpec (p0 : Hierarchy) (p1 : List Count) (p2 : Int) (p3 : Int) (RES : (List Count) × Int) (hm : Limit_pids p0 p1 p2 p3 = some RES) : Spec Tryz.prog 34 [.p (.agg (encHierarchy p0)), .p (slCount p1), pI p2, pI p3] [] (.tup [ow 0 RES.1.length, pI RES.2]) [] [roCount RES.1] := by
 unfold Limit_pids at hm
 refine SO Tryz.func34 rfl rfl [(0, .p (.agg (encHierarchy p0))), (1, .p (slCount p1)), (2, pI p2), (3, pI p3)] [] ?_
 intro cx hnt
 refine Sq (RD hnt (nn 3 []) [0] [(4, rr 1032)] [] [(1032, bx (pm (encHierarchy p0)))] tv ?_)
 obtain ⟨r1, hr1, hm⟩ := bo hm
 refine Sq (RD hnt (nn 2 (o48 [] true r1 :: .no :: [])) [2] [(10, pI r1)] [] [] (an (at_pidsSpec p1 p2 r1 hr1) tv) ?_)
 refine Sq (Bk ?_)
 obtain ⟨r2, hr2, hm⟩ := bo hm
 refine Sq (RD hnt (nn 2 (o57 [] true r2 :: nn 2 [])) [4] [(15, pB (!r2))] [1032] [] (an (Check_pidsSpec p0 p1 r2 hr2) tv) ?_)
 refine condM hm ?_ ?_
 ·intro h3 hm
  refine Sq (RK hnt (nn 2 []) [(c56e3), (9, pI 1)] [] tv ?_)
  refine DW.cv [] [(8, ow 100000 0)] [] [(100000, ob0 (roCount []))] (Conv.ads [(.s 8, 100000, 5, elems encCount dCount [])]) ?_
  obtain rfl := sj hm
  exact DW.ret (retK [roCount []] [100000] (.tup [ow 0 0, pI 1]))
 ·intro h3 hm
  refine Sq (RD hnt (nn 3 []) [15] [(20, pB (decide (r1 < 0)))] [] [] tv ?_)
  refine condM hm ?_ ?_
  ·intro h4 hm
   refine Sq (RK hnt (nn 2 []) [(c56e3), (9, pI 4)] [] tv ?_)
   refine DW.cv [] [(8, ow 100000 0)] [] [(100000, ob0 (roCount []))] (Conv.ads [(.s 8, 100000, 5, elems encCount dCount [])]) ?_
   obtain rfl := sj hm
   exact DW.ret (retK [roCount []] [100000] (.tup [ow 0 0, pI 4]))
  ·intro h4 hm
   refine Sq (DW.regJ (sl2 := [(1, .p (slCount p1)), (3, pI p3), (10, pI r1), (23, pB ((p3 != 4611686018427387904) && ((decide (p3 < 0)) || (decide (p3 > 1099511627776)))))]) (ob2 := []) ?_ ?_)
   ·rcases bt (p3 != 4611686018427387904) with h5 | h5
    ·rcases bt (decide (p3 < 0)) with h6 | h6
     ·exact RT hnt (nn 6 (sk 2 (pT :: pT :: .no :: []))) [(23, pB true)] (an3 h5 (an2 h6 (an h5 (an h6 (an h5 tv))))) (by kernel_rfl) (.cons rfl (.of_eq (by rw [h5, h6]; try rfl)) .nil)
     ·exact RT hnt (nn 8 (pF :: pT :: .no :: [])) [(23, pB (decide (p3 > 1099511627776)))] (an3 h5 (an2 h6 (an h5 (an h6 (an h5 tv))))) (by kernel_rfl) (.cons rfl (.of_eq (by rw [h5, h6]; try rfl)) .nil)
    ·exact RT hnt (nn 3 (sk 6 (pF :: .no :: []))) [(23, pB false)] (an5 h5 tv) (by kernel_rfl) (.cons rfl (.of_eq (by rw [h5]; try rfl)) .nil)
   ·refine condM hm ?_ ?_
    ·intro h7 hm
     refine Sq (RK hnt (nn 2 []) [(c56e3), (9, pI 3)] [] tv ?_)
     refine DW.cv [] [(8, ow 100000 0)] [] [(100000, ob0 (roCount []))] (Conv.ads [(.s 8, 100000, 5, elems encCount dCount [])]) ?_
     obtain rfl := sj hm
     exact DW.ret (retK [roCount []] [100000] (.tup [ow 0 0, pI 3]))
    ·intro h7 hm
     refine Sk ?_
     refine DW.done ?_
     show DW _ _ _ _ _
     obtain ⟨r8, hr8, hm⟩ := bo hm
     refine Sq (RD hnt (.no :: o59 [] true r8 :: .no :: []) [1, 23] [(11, ow 1280 r8.length)] [] [(1280, ob0 (roCount r8))] (an (Clone_slices_CountSpec p1 r8 hr8) tv) ?_)
     obtain ⟨g9, g10, hm⟩ := go2 hm
     refine Sq (RN hnt (nn 6 []) [(11, ow 1280 (r8.set (Int.toNat r1) (c56e1 r8 r1 p3)).length)] [(1280, ob0 (roCount (r8.set (Int.toNat r1) (c56e1 r8 r1 p3))))] [(11, ow 1280 r8.length)] [(1280, .row 5 r8.length (c56e2 r8 r1 p3))] (an g9.1 (an g9.2 (an g10 tv))) (by kernel_rfl) (.cons rfl (MLe.ownLen (enc := encCount) (d := dCount) (f := (c56e2 r8 r1 p3)) (RowIs.upd RowIs.elems (c56e1 r8 r1 p3) rfl)) .nil) (.cons rfl (BLe.typed (RowIs.upd RowIs.elems (c56e1 r8 r1 p3) rfl)) .nil) ?_)
     refine Sq (RD hnt (nn 3 []) [11] [(8, ow 1280 (r8.set (Int.toNat r1) (c56e1 r8 r1 p3)).length), (9, pI 0)] [] [] tv ?_)
     obtain rfl := sj hm
     exact DW.ret (retK [roCount (r8.set (Int.toNat r1) (c56e1 r8 r1 p3))] [1280] (.tup [ow 0 (r8.set (Int.toNat r1) (c56e1 r8 r1 p3)).length, pI 0]))
abbrev o56 (ks : List Nat) (b : Bool) (RES : (List Count) × Int) : Orc := .call 34 ks b (.tup [ow 0 RES.1.length, pI RES.2]) [] [roCount RES.1]

theorem refuse_pidsSpec (p0 : Int) (RES : Hierarchy × (List Count) × Int × Int) (hm : refuse_pids p0 = some RES) : Spec Tryz.prog 125 [pI p0] [] (.tup [.agg [ow 0 RES.1.tree.nodes.length, pI RES.1.tree.next, ow 1 RES.1.tasks.length, pI RES.1.next], ow 2 RES.2.1.length, pI RES.2.2.1, pI RES.2.2.2]) [] [roNode RES.1.tree.nodes, roTask RES.1.tasks, roCount RES.2.1] := by
 unfold refuse_pids at hm
 refine SO Tryz.func125 rfl rfl [(0, pI p0)] [] ?_
 intro cx hnt
 refine Sq (RK hnt (nn 4 []) [(0, pI p0), (2, rr 1016)] [(1016, bx [.p (.sl .nil 0 0 (fun _ => [])), pI 0, .p (.sl .nil 0 0 (fun _ => [])), pI 0])] tv ?_)
 refine Sq (RD hnt (nn 6 []) [0] [(3, .p (.sl .nil 0 0 (fun _ => []))), (4, pI 0), (5, pI p0)] [] [] tv ?_)
 refine DW.cv [] [(3, ow 100002 0)] [] [(1016, bx [ow 100000 0, pI 0, ow 100001 0, pI 0]), (100000, ob0 (roNode [])), (100001, ob0 (roTask [])), (100002, ob0 (roCount []))] (Conv.ads [(.o 1016 0, 100000, 6, elems encNode dNode []), (.o 1016 2, 100001, 4, elems encTask dTask []), (.s 3, 100002, 5, elems encCount dCount [])]) ?_
 obtain rfl := sj hm
 exact DW.ret (retK [roNode [], roTask [], roCount []] [100000, 100001, 100002] (.tup [.agg [ow 0 0, pI 0, ow 1 0, pI 0], ow 2 0, pI 0, pI p0]))
abbrev o61 (ks : List Nat) (b : Bool) (RES : Hierarchy × (List Count) × Int × Int) : Orc := .call 125 ks b (.tup [.agg [ow 0 RES.1.tree.nodes.length, pI RES.1.tree.next, ow 1 RES.1.tasks.length, pI RES.1.next], ow 2 RES.2.1.length, pI RES.2.2.1, pI RES.2.2.2]) [] [roNode RES.1.tree.nodes, roTask RES.1.tasks, roCount RES.2.1]

theorem Clone_slices_NodeNnSpec (p0 : List Node) (RES : List Node) (hm : Clone_slices_Node p0 = some RES) : Spec Tryz.prog 145 [.p (.sl .nn 6 p0.length (elems encNode (default : Node) p0))] [] (ow 0 RES.length) [] [roNode RES] := by
 unfold Clone_slices_Node at hm
 refine SO Tryz.func145 rfl rfl [(0, .p (.sl .nn 6 p0.length (elems encNode (default : Node) p0)))] [] ?_
 intro cx hnt
 refine Sq (RD hnt (.no :: []) [] [] [] [] tv ?_)
 refine Sq (Sq (RD hnt (nn 2 []) [] [(4, pB false)] [] [] tv ?_))
 refine condF ff ?_
 refine Sk ?_
 obtain ⟨g1, hm⟩ := go1 hm
 refine Sq (RN hnt (nn 4 []) [(2, ow 1040 p0.length)] [(1040, ob0 (roNode p0))] [(2, ow 1040 (0 + p0.length))] [(1040, .row 6 (0 + p0.length) (catF 0 (cut 6 []) (elNode p0)))] (an (by omega : (0 + p0.length) * 56 ≤ 140737488355328) tv) (by kernel_rfl) (.cons rfl (MLe.ownLen (enc := encNode) (d := dNode) (f := (catF 0 (cut 6 []) (elNode p0))) (RowIs.cat RowIs.nil RowIs.elems)) .nil) (.cons rfl (BLe.typed (RowIs.cat RowIs.nil RowIs.elems)) .nil) ?_)
 obtain rfl := sj hm
 exact DW.ret (retK [roNode p0] [1040] (ow 0 p0.length))

theorem Clone_slices_NodeNilSpec (p0 : List Node) (RES : List Node) (hm : Clone_slices_NodeNil p0 = some RES) : Spec Tryz.prog 145 [.p (.sl .nil 6 0 (elems encNode (default : Node) p0))] [] (ow 0 RES.length) [] [roNode RES] := by
 unfold Clone_slices_NodeNil at hm
 refine SO Tryz.func145 rfl rfl [(0, .p (.sl .nil 6 0 (elems encNode (default : Node) p0)))] [] ?_
 intro cx hnt
 refine Sq (RD hnt (.no :: []) [] [] [] [] tv ?_)
 refine Sq (Sq (RD hnt (nn 2 []) [] [(4, pB true)] [] [] tv ?_))
 refine condT tt ?_
 refine Sq (RK hnt (.no :: []) [(2, .p (.sl .nil 0 0 (fun _ => [])))] [] tv ?_)
 refine DW.cv [] [(2, ow 100000 0)] [] [(100000, ob0 (roNode []))] (Conv.ads [(.s 2, 100000, 6, elems encNode dNode [])]) ?_
 obtain rfl := sj hm
 exact DW.ret (retK [roNode []] [100000] (ow 0 0))

theorem Clone_slices_NodeSpec (p0 : List Node) (RES : List Node) (hm : Clone_slices_Node p0 = some RES) : Spec Tryz.prog 145 [.p (slNode p0)] [] (ow 0 RES.length) [] [roNode RES] :=
  Spec.unk (fun h => Clone_slices_NodeNilSpec p0 RES (by have e : p0 = [] := List.eq_nil_of_length_eq_zero h; subst e; simpa [Clone_slices_Node, Clone_slices_NodeNil] using hm)) (Clone_slices_NodeNnSpec p0 RES hm)
abbrev o65 (ks : List Nat) (b : Bool) (RES : List Node) : Orc := .call 145 ks b (ow 0 RES.length) [] [roNode RES]

theorem Clone_slices_TaskNnSpec (p0 : List Task) (RES : List Task) (hm : Clone_slices_Task p0 = some RES) : Spec Tryz.prog 146 [.p (.sl .nn 4 p0.length (elems encTask (default : Task) p0))] [] (ow 0 RES.length) [] [roTask RES] := by
 unfold Clone_slices_Task at hm
 refine SO Tryz.func146 rfl rfl [(0, .p (.sl .nn 4 p0.length (elems encTask (default : Task) p0)))] [] ?_
 intro cx hnt
 refine Sq (RD hnt (.no :: []) [] [] [] [] tv ?_)
 refine Sq (Sq (RD hnt (nn 2 []) [] [(4, pB false)] [] [] tv ?_))
 refine condF ff ?_
 refine Sk ?_
 obtain ⟨g1, hm⟩ := go1 hm
 refine Sq (RN hnt (nn 4 []) [(2, ow 1040 p0.length)] [(1040, ob0 (roTask p0))] [(2, ow 1040 (0 + p0.length))] [(1040, .row 4 (0 + p0.length) (catF 0 (cut 4 []) (elTask p0)))] (an (by omega : (0 + p0.length) * 32 ≤ 140737488355328) tv) (by kernel_rfl) (.cons rfl (MLe.ownLen (enc := encTask) (d := dTask) (f := (catF 0 (cut 4 []) (elTask p0))) (RowIs.cat RowIs.nil RowIs.elems)) .nil) (.cons rfl (BLe.typed (RowIs.cat RowIs.nil RowIs.elems)) .nil) ?_)
 obtain rfl := sj hm
 exact DW.ret (retK [roTask p0] [1040] (ow 0 p0.length))

theorem Clone_slices_TaskNilSpec (p0 : List Task) (RES : List Task) (hm : Clone_slices_TaskNil p0 = some RES) : Spec Tryz.prog 146 [.p (.sl .nil 4 0 (elems encTask (default : Task) p0))] [] (ow 0 RES.length) [] [roTask RES] := by
 unfold Clone_slices_TaskNil at hm
 refine SO Tryz.func146 rfl rfl [(0, .p (.sl .nil 4 0 (elems encTask (default : Task) p0)))] [] ?_
 intro cx hnt
 refine Sq (RD hnt (.no :: []) [] [] [] [] tv ?_)
 refine Sq (Sq (RD hnt (nn 2 []) [] [(4, pB true)] [] [] tv ?_))
 refine condT tt ?_
 refine Sq (RK hnt (.no :: []) [(2, .p (.sl .nil 0 0 (fun _ => [])))] [] tv ?_)
 refine DW.cv [] [(2, ow 100000 0)] [] [(100000, ob0 (roTask []))] (Conv.ads [(.s 2, 100000, 4, elems encTask dTask [])]) ?_
 obtain rfl := sj hm
 exact DW.ret (retK [roTask []] [100000] (ow 0 0))

theorem Clone_slices_TaskSpec (p0 : List Task) (RES : List Task) (hm : Clone_slices_Task p0 = some RES) : Spec Tryz.prog 146 [.p (slTask p0)] [] (ow 0 RES.length) [] [roTask RES] :=
  Spec.unk (fun h => Clone_slices_TaskNilSpec p0 RES (by have e : p0 = [] := List.eq_nil_of_length_eq_zero h; subst e; simpa [Clone_slices_Task, Clone_slices_TaskNil] using hm)) (Clone_slices_TaskNnSpec p0 RES hm)
abbrev o66 (ks : List Nat) (b : Bool) (RES : List Task) : Orc := .call 146 ks b (ow 0 RES.length) [] [roTask RES]

theorem Copy_crewSpec (p0 : Hierarchy) (RES : Hierarchy) (hm : Copy_crew p0 = some RES) : Spec Tryz.prog 96 [.p (.agg (encHierarchy p0))] [] (.agg [ow 0 RES.tree.nodes.length, pI RES.tree.next, ow 1 RES.tasks.length, pI RES.next]) [] [roNode RES.tree.nodes, roTask RES.tasks] := by
 unfold Copy_crew at hm
 refine SO Tryz.func96 rfl rfl [(0, .p (.agg (encHierarchy p0)))] [] ?_
 intro cx hnt
 refine Sq (RK hnt (nn 2 []) [(1, rr 1008), (2, rr 1016)] [(1008, bx (pm (encHierarchy p0))), (1016, bx [.p (.sl .nil 0 0 (fun _ => [])), pI 0, .p (.sl .nil 0 0 (fun _ => [])), pI 0])] tv ?_)
 obtain ⟨r1, hr1, hm⟩ := bo hm
 obtain ⟨r2, hr2, hm⟩ := bo hm
 refine Sq (RK hnt (nn 3 (o65 [] true r1 :: nn 6 (o66 [] true r2 :: nn 4 []))) [(2, rr 1016)] [(1016, bx [ow 1048 r1.length, pI p0.tree.next, ow 1104 r2.length, pI p0.next]), (1048, ob0 (roNode r1)), (1104, ob0 (roTask r2))] (an (Clone_slices_NodeSpec p0.tree.nodes r1 hr1) (an (Clone_slices_TaskSpec p0.tasks r2 hr2) tv)) ?_)
 obtain rfl := sj hm
 exact DW.ret (retK [roNode r1, roTask r2] [1048, 1104] (.agg [ow 0 r1.length, pI p0.tree.next, ow 1 r2.length, pI p0.next]))
abbrev o64 (ks : List Nat) (b : Bool) (RES : Hierarchy) : Orc := .call 96 ks b (.agg [ow 0 RES.tree.nodes.length, pI RES.tree.next, ow 1 RES.tasks.length, pI RES.next]) [] [roNode RES.tree.nodes, roTask RES.tasks]

abbrev c63e1 : Nat × Obj := (1032, bx [.p (.sl .nil 0 0 (fun _ => [])), pI 0, .p (.sl .nil 0 0 (fun _ => [])), pI 0])
abbrev c63e2 (r3 : Hierarchy) : Nat × Obj := (1056, bx [ow 1152 r3.tree.nodes.length, pI r3.tree.next, ow 1153 r3.tasks.length, pI r3.next])
theorem add_memberSpec (p0 : Hierarchy) (p1 : Task) (RES : Hierarchy × Int × Int) (hm : add_member p0 p1 = some RES) : Spec Tryz.prog 102 [.p (.agg (encHierarchy p0)), .p (.agg (encTask p1))] [] (.tup [.agg [ow 0 RES.1.tree.nodes.length, pI RES.1.tree.next, ow 1 RES.1.tasks.length, pI RES.1.next], pI RES.2.1, pI RES.2.2]) [] [roNode RES.1.tree.nodes, roTask RES.1.tasks] := by
 unfold add_member at hm
 refine SO Tryz.func102 rfl rfl [(0, .p (.agg (encHierarchy p0))), (1, .p (.agg (encTask p1)))] [] ?_
 intro cx hnt
 refine Sq (RK hnt (nn 5 []) [(2, rr 1016), (3, rr 1024), (4, rr 1032)] [(1016, bx (pm (encHierarchy p0))), (1024, bx (pm (encTask p1))), (c63e1)] tv ?_)
 refine Sq (Sq (DW.regJ (sl2 := [(2, rr 1016), (3, rr 1024), (4, rr 1032), (16, pB ((decide (((p0.tasks.length : Nat) : Int) ≥ 128)) || (decide (p0.next > 2147483647))))]) (ob2 := [(1016, bx (pm (encHierarchy p0))), (1024, bx (pm (encTask p1))), (c63e1)]) ?_ ?_))
 ·rcases bt (decide (((p0.tasks.length : Nat) : Int) ≥ 128)) with h1 | h1
  ·exact RT hnt (nn 5 (sk 3 (pT :: []))) [(16, pB true)] (an4 h1 tv) (by kernel_rfl) (.cons rfl (.of_eq (by rw [h1]; try rfl)) .nil)
  ·exact RT hnt (nn 8 (pF :: [])) [(16, pB (decide (p0.next > 2147483647)))] (an4 h1 tv) (by kernel_rfl) (.cons rfl (.of_eq (by rw [h1]; try rfl)) .nil)
 ·refine condM hm ?_ ?_
  ·intro h2 hm
   refine Sq (RD hnt (nn 4 []) [2, 3, 16] [(5, pI 0), (6, pI 7)] [1016, 1024] [] tv ?_)
   refine DW.cv [] [] [] [(1032, bx [ow 100000 0, pI 0, ow 100001 0, pI 0]), (100000, ob0 (roNode [])), (100001, ob0 (roTask []))] (Conv.ads [(.o 1032 0, 100000, 6, elems encNode dNode []), (.o 1032 2, 100001, 4, elems encTask dTask [])]) ?_
   obtain rfl := sj hm
   exact DW.ret (retK [roNode [], roTask []] [100000, 100001] (.tup [.agg [ow 0 0, pI 0, ow 1 0, pI 0], pI 0, pI 7]))
  ·intro h2 hm
   refine Sk ?_
   obtain ⟨r3, hr3, hm⟩ := bo hm
   refine Sq (RD hnt (.no :: o64 [] true r3 :: nn 2 []) [16] [(7, rr 1056)] [] [(c63e2 r3), (1152, ob0 (roNode r3.tree.nodes)), (1153, ob0 (roTask r3.tasks))] (an (Copy_crewSpec p0 r3 hr3) tv) ?_)
   refine Sq (RD hnt (nn 4 []) [2] [] [1016] [(1024, bx [pI p0.next, pI p1.process, pI p1.group, pI p1.user])] tv ?_)
   refine Sq (Sq (RD hnt (nn 3 []) [] [(25, pB (p1.process == 0))] [] [] tv ?_))
   refine Jn (ι := Task) (fun (y1 : Task) => mkSt [(3, rr 1024), (4, rr 1032), (7, rr 1056)] [(1024, bx (pm (encTask y1))), (c63e1), (c63e2 r3), (1152, ob0 (roNode r3.tree.nodes)), (1153, ob0 (roTask r3.tasks))]) (fun y1 => (add_memberJ1 r3) y1 = some RES) ?_ ?_
   ·intro y1 hm
    unfold add_memberJ1 at hm
    obtain ⟨g5, hm⟩ := go1 hm
    refine Sq (RN hnt (nn 7 []) [(3, rr 1024), (4, rr 1032), (7, rr 1056)] [(1024, bx (pm (encTask y1))), (c63e1), (1056, bx [ow 1152 r3.tree.nodes.length, pI r3.tree.next, ow 1153 (r3.tasks ++ [y1]).length, pI r3.next]), (1152, ob0 (roNode r3.tree.nodes)), (1153, ob0 (roTask (r3.tasks ++ [y1])))] [] [(1056, .box [ow 1152 r3.tree.nodes.length, pI r3.tree.next, ow 1153 (r3.tasks.length + 1), pI r3.next]), (1153, .row 4 (r3.tasks.length + 1) (catF r3.tasks.length (elTask r3.tasks) (cut 4 [vi y1.id, vi y1.process, vi y1.group, vi y1.user])))] (an (by omega : (r3.tasks.length + 1) * 32 ≤ 140737488355328) tv) (by kernel_rfl) .nil (.cons rfl (.box (.cons .rfl (.cons .rfl (.cons (MLe.ownLen (enc := encTask) (d := dTask) (f := (catF r3.tasks.length (elTask r3.tasks) (cut 4 [vi y1.id, vi y1.process, vi y1.group, vi y1.user]))) (RowIs.cat RowIs.elems (RowIs.lit (enc := encTask) (d := dTask) (n := 1) (f := (cut 4 [vi y1.id, vi y1.process, vi y1.group, vi y1.user])) [y1] rfl (fun | 0, _ => rfl | n + 1, h => absurd h (by omega))))) (.cons .rfl .nil))))) (.cons rfl (BLe.typed (RowIs.cat RowIs.elems (RowIs.lit (enc := encTask) (d := dTask) (n := 1) (f := (cut 4 [vi y1.id, vi y1.process, vi y1.group, vi y1.user])) [y1] rfl (fun | 0, _ => rfl | n + 1, h => absurd h (by omega))))) .nil)) ?_)
    refine Sq (RD hnt (nn 5 []) [] [] [] [(1056, bx [ow 1152 r3.tree.nodes.length, pI r3.tree.next, ow 1153 (r3.tasks ++ [y1]).length, pI (w64 (r3.next + 1))])] tv ?_)
    refine Sq (RD hnt (nn 6 []) [3, 7] [(5, pI y1.id), (6, pI 0)] [1024, 1056] [(1032, bx [ow 1152 r3.tree.nodes.length, pI r3.tree.next, ow 1153 (r3.tasks ++ [y1]).length, pI (w64 (r3.next + 1))])] tv ?_)
    obtain rfl := sj hm
    exact DW.ret (retK [roNode r3.tree.nodes, roTask (r3.tasks ++ [y1])] [1152, 1153] (.tup [.agg [ow 0 r3.tree.nodes.length, pI r3.tree.next, ow 1 (r3.tasks ++ [y1]).length, pI (w64 (r3.next + 1))], pI y1.id, pI 0]))
   ·refine condM hm ?_ ?_
    ·intro h4 hm
     refine RD hnt (nn 4 []) [25] [] [] [(1024, bx [pI p0.next, pI p0.next, pI p1.group, pI p1.user])] tv ?_
     exact jD ({ id := p0.next, process := p0.next, group := p1.group, user := p1.user } : Task) hm Conv.eqK
    ·intro h4 hm
     refine Sk ?_
     exact jD ({ id := p0.next, process := p1.process, group := p1.group, user := p1.user } : Task) hm Conv.t0
abbrev o63 (ks : List Nat) (b : Bool) (RES : Hierarchy × Int × Int) : Orc := .call 102 ks b (.tup [.agg [ow 0 RES.1.tree.nodes.length, pI RES.1.tree.next, ow 1 RES.1.tasks.length, pI RES.1.next], pI RES.2.1, pI RES.2.2]) [] [roNode RES.1.tree.nodes, roTask RES.1.tasks]

theorem Clone_memberSpec (p0 : Hierarchy) (p1 : Int) (RES : Hierarchy × Int × Int) (hm : Clone_member p0 p1 = some RES) : Spec Tryz.prog 49 [.p (.agg (encHierarchy p0)), pI p1] [] (.tup [.agg [ow 0 RES.1.tree.nodes.length, pI RES.1.tree.next, ow 1 RES.1.tasks.length, pI RES.1.next], pI RES.2.1, pI RES.2.2]) [] [roNode RES.1.tree.nodes, roTask RES.1.tasks] := by
 unfold Clone_member at hm
 refine SO Tryz.func49 rfl rfl [(0, .p (.agg (encHierarchy p0))), (1, pI p1)] [] ?_
 intro cx hnt
 refine Sq (RK hnt (nn 4 []) [(1, pI p1), (2, rr 1016), (4, rr 1032)] [(1016, bx (pm (encHierarchy p0))), (1032, bx [.p (.sl .nil 0 0 (fun _ => [])), pI 0, .p (.sl .nil 0 0 (fun _ => [])), pI 0])] tv ?_)
 obtain ⟨r1, hr1, hm⟩ := bo hm
 refine Sq (Sq (RD hnt (.no :: o33 [] true r1 :: .no :: []) [] [(11, pB (!r1))] [] [] (an (Check_memberSpec p0 r1 hr1) tv) ?_))
 refine condM hm ?_ ?_
 ·intro h2 hm
  refine Sq (RD hnt (nn 4 []) [1, 2, 11] [(5, pI 0), (6, pI 1)] [1016] [] tv ?_)
  refine DW.cv [] [] [] [(1032, bx [ow 100000 0, pI 0, ow 100001 0, pI 0]), (100000, ob0 (roNode [])), (100001, ob0 (roTask []))] (Conv.ads [(.o 1032 0, 100000, 6, elems encNode dNode []), (.o 1032 2, 100001, 4, elems encTask dTask [])]) ?_
  obtain rfl := sj hm
  exact DW.ret (retK [roNode [], roTask []] [100000, 100001] (.tup [.agg [ow 0 0, pI 0, ow 1 0, pI 0], pI 0, pI 1]))
 ·intro h2 hm
  refine Sk ?_
  obtain ⟨r3, hr3, hm⟩ := bo hm
  refine Sq (RD hnt (nn 2 (o40 [] true r3 :: nn 6 [])) [1, 11] [(7, rr 1056), (8, pB r3.2)] [] [(1056, bx (pm (encTask r3.1)))] (an (Find_crewSpec p0 p1 r3 hr3) tv) ?_)
  refine Sq (Sq (RD hnt (nn 2 []) [8] [(20, pB (!r3.2))] [] [] tv ?_))
  refine condM hm ?_ ?_
  ·intro h4 hm
   refine Sq (RD hnt (nn 4 []) [2, 7, 20] [(5, pI 0), (6, pI 4)] [1016, 1056] [] tv ?_)
   refine DW.cv [] [] [] [(1032, bx [ow 100000 0, pI 0, ow 100001 0, pI 0]), (100000, ob0 (roNode [])), (100001, ob0 (roTask []))] (Conv.ads [(.o 1032 0, 100000, 6, elems encNode dNode []), (.o 1032 2, 100001, 4, elems encTask dTask [])]) ?_
   obtain rfl := sj hm
   exact DW.ret (retK [roNode [], roTask []] [100000, 100001] (.tup [.agg [ow 0 0, pI 0, ow 1 0, pI 0], pI 0, pI 4]))
  ·intro h4 hm
   refine Sk ?_
   obtain ⟨r5, hr5, hm⟩ := bo hm
   refine Sq (RK hnt (nn 2 (o63 [] true r5 :: nn 6 [])) [(4, rr 1032), (5, pI r5.2.1), (6, pI r5.2.2)] [(1032, bx [ow 1192 r5.1.tree.nodes.length, pI r5.1.tree.next, ow 1193 r5.1.tasks.length, pI r5.1.next]), (1192, ob0 (roNode r5.1.tree.nodes)), (1193, ob0 (roTask r5.1.tasks))] (an (add_memberSpec p0 r3.1 r5 hr5) tv) ?_)
   obtain rfl := sj hm
   exact DW.ret (retK [roNode r5.1.tree.nodes, roTask r5.1.tasks] [1192, 1193] (.tup [.agg [ow 0 r5.1.tree.nodes.length, pI r5.1.tree.next, ow 1 r5.1.tasks.length, pI r5.1.next], pI r5.2.1, pI r5.2.2]))
abbrev o62 (ks : List Nat) (b : Bool) (RES : Hierarchy × Int × Int) : Orc := .call 49 ks b (.tup [.agg [ow 0 RES.1.tree.nodes.length, pI RES.1.tree.next, ow 1 RES.1.tasks.length, pI RES.1.next], pI RES.2.1, pI RES.2.2]) [] [roNode RES.1.tree.nodes, roTask RES.1.tasks]

theorem Find_forestSpec (p0 : Tree) (p1 : Int) (RES : Node × Bool) (hm : Find_forest p0 p1 = some RES) : Spec Tryz.prog 138 [.p (.agg (encTree p0)), pI p1] [] (.p (.tup [.agg (encNode RES.1), vb RES.2])) [] [] := by
 unfold Find_forest at hm
 refine SO Tryz.func138 rfl rfl [(0, .p (.agg (encTree p0))), (1, pI p1)] [] ?_
 intro cx hnt
 refine Sq (RK hnt (nn 3 []) [(1, pI p1), (2, rr 1016), (4, rr 1032)] [(1016, bx (pm (encTree p0))), (1032, bx [pI 0, pI 0, pS ByteArray.empty, pI 0, pI 0, pI 0])] tv ?_)
 obtain ⟨r1, hr1, hm⟩ := bo hm
 refine Sq (RD hnt (nn 2 (o44 [] true r1 :: .no :: [])) [1] [(6, pI r1)] [] [] (an (At_forestSpec p0 p1 r1 hr1) tv) ?_)
 refine Sq (Sq (RD hnt (nn 2 []) [] [(11, pB (decide (r1 < 0)))] [] [] tv ?_))
 refine condM hm ?_ ?_
 ·intro h2 hm
  refine Sq (RD hnt (nn 3 []) [2, 6, 11] [(5, pB false)] [1016] [] tv ?_)
  obtain rfl := sj hm
  exact DW.ret (retK [] [] (.p (.tup [.agg [vi 0, vi 0, vs ByteArray.empty, vi 0, vi 0, vi 0], vb false])))
 ·intro h2 hm
  refine Sk ?_
  obtain ⟨g3, hm⟩ := go1 hm
  refine Sq (RK hnt (nn 7 []) [(4, rr 1032), (5, pB true)] [(1032, bx (pm (encNode (p0.nodes.getD (Int.toNat r1) dNode))))] (an g3.1 (an g3.2 tv)) ?_)
  obtain rfl := sj hm
  exact DW.ret (retK [] [] (.p (.tup [.agg (encNode (p0.nodes.getD (Int.toNat r1) dNode)), vb true])))
abbrev o70 (ks : List Nat) (b : Bool) (RES : Node × Bool) : Orc := .call 138 ks b (.p (.tup [.agg (encNode RES.1), vb RES.2])) [] []

theorem Ancestors_forestSpec (p0 : Tree) (p1 : Int) (RES : List Int) (hm : Ancestors_forest p0 p1 = some RES) : Spec Tryz.prog 85 [.p (.agg (encTree p0)), pI p1] [] (ow 0 RES.length) [] [roI RES] := by
 unfold Ancestors_forest at hm
 refine SO Tryz.func85 rfl rfl [(0, .p (.agg (encTree p0))), (1, pI p1)] [] ?_
 intro cx hnt
 refine Sq (RK hnt (nn 2 []) [(1, pI p1), (2, rr 1016)] [(1016, bx (pm (encTree p0)))] tv ?_)
 refine Sq (RD hnt (.no :: []) [] [(5, .p (.sl .nil 0 0 (fun _ => [])))] [] [] tv ?_)
 refine Sq (Sq (RD hnt (nn 4 []) [] [(10, pI ((p0.nodes.length : Nat) : Int)), (11, pI 0)] [] [] tv ?_))
 refine Jn (ι := List Int) (fun (y1 : List Int) => mkSt [(5, ow 1192 y1.length)] [(1192, ob0 (roI y1))]) (fun y1 => Ancestors_forestJ1 y1 = some RES) ?_ ?_
 ·intro y1 hm
  unfold Ancestors_forestJ1 at hm
  refine Sq (RD hnt (nn 2 []) [5] [(4, ow 1192 y1.length)] [] [] tv ?_)
  obtain rfl := sj hm
  exact DW.ret (retK [roI y1] [1192] (ow 0 y1.length))
 ·refine Bk ?_
  obtain ⟨hc1, hm⟩ := go1 hm
  refine DW.rangeO (fun (k1 : Nat) (s1 : (List Int) × Int) => mkSt [(1, pI s1.2), (2, rr 1016), (5, ow 1192 s1.1.length), (10, pI ((p0.nodes.length : Nat) : Int)), (11, pI ((k1 : Nat) : Int))] [(1016, bx (pm (encTree p0))), (1192, ob0 (roI s1.1))]) dNode hm (Conv.ads [(.s 5, 1192, 1, elems encI 0 [])]) ?_
  intro k1 s1 n1 hk1 hs1 he1
  refine Sq (RD hnt (.no :: []) [] [(12, pB (decide (((k1 : Nat) : Int) < ((p0.nodes.length : Nat) : Int))))] [] [] tv ?_)
  refine Sq (condK (decide (((k1 : Nat) : Int) < ((p0.nodes.length : Nat) : Int))) ?_ ?_)
  ·intro h8
   have hlt1 : k1 < p0.nodes.length := by have := of_decide_eq_true h8; omega
   have hm := hs1 hlt1
   unfold Ancestors_forestL1 at hm
   refine Sk ?_
   refine Sq (Bk ?_)
   obtain ⟨r9, hr9, hm⟩ := bo hm
   refine Sq (RD hnt (nn 2 (o70 [] true r9 :: nn 6 [])) [12] [(6, rr 1048), (7, pB r9.2)] [] [(1048, bx (pm (encNode r9.1)))] (an (Find_forestSpec p0 s1.2 r9 hr9) tv) ?_)
   refine Sq (Sq (RD hnt (nn 2 []) [7] [(20, pB (!r9.2))] [] [] tv ?_))
   refine condM hm ?_ ?_
   ·intro h10 hm
    refine DW.exit ?_
    refine blockQ_other (by decide) ?_
    refine KQ_exit ?_
    refine joinQ_exit ?_
    refine KQ_exit ?_
    exact blockQ_exit (joinKQ s1.1 hm Conv.t0)
   ·intro h10 hm
    refine Sk ?_
    obtain ⟨g11, hm⟩ := go1 hm
    refine Sq (RN hnt (nn 5 []) [(2, rr 1016), (5, ow 1192 (s1.1 ++ [s1.2]).length), (6, rr 1048), (10, pI ((p0.nodes.length : Nat) : Int)), (11, pI ((k1 : Nat) : Int))] [(1016, bx (pm (encTree p0))), (1048, bx (pm (encNode r9.1))), (1192, ob0 (roI (s1.1 ++ [s1.2])))] [(5, ow 1192 (s1.1.length + 1))] [(1192, .row 1 (s1.1.length + 1) (catF s1.1.length (elI s1.1) (cut 1 [vi s1.2])))] (an (by omega : (s1.1.length + 1) * 8 ≤ 140737488355328) tv) (by kernel_rfl) (.cons rfl (MLe.ownLen (enc := encI) (d := 0) (f := (catF s1.1.length (elI s1.1) (cut 1 [vi s1.2]))) (RowIs.cat RowIs.elems (RowIs.lit (enc := encI) (d := 0) (n := 1) (f := (cut 1 [vi s1.2])) [s1.2] rfl (fun | 0, _ => rfl | n + 1, h => absurd h (by omega))))) .nil) (.cons rfl (BLe.typed (RowIs.cat RowIs.elems (RowIs.lit (enc := encI) (d := 0) (n := 1) (f := (cut 1 [vi s1.2])) [s1.2] rfl (fun | 0, _ => rfl | n + 1, h => absurd h (by omega))))) .nil) ?_)
    refine RD hnt (nn 3 []) [6] [(1, pI r9.1.parent)] [1048] [] tv ?_
    refine DW.done ?_
    show DW _ _ _ _ _
    refine RD hnt (nn 2 []) [] [(11, pI (w64 (((k1 : Nat) : Int) + 1)))] [] [] tv ?_
    exact jD ((s1.1 ++ [s1.2]), r9.1.parent) ⟨hlt1, hm⟩ (Conv.tp [(11, pI (w64 (((k1 : Nat) : Int) + 1)))] [] (by kernel_rfl) (.cons rfl (.of_eq (congrArg pI (w64_succ hlt1 hc1))) .nil) .nil)
  ·intro h8
   have hge1 : ¬ k1 < p0.nodes.length := by have := of_decide_eq_false h8; omega
   have hm := he1 hge1
   unfold Ancestors_forestD1 at hm
   refine DW.exit ?_
   refine joinQ_exit ?_
   refine KQ_exit ?_
   exact blockQ_exit (joinKQ s1.1 hm Conv.t0)
abbrev o69 (ks : List Nat) (b : Bool) (RES : List Int) : Orc := .call 85 ks b (ow 0 RES.length) [] [roI RES]

theorem room_pidsSpec (p0 : Count) (RES : Int) (hm : room_pids p0 = some RES) : Spec Tryz.prog 87 [.p (.agg (encCount p0))] [] (pI RES) [] [] := by
 unfold room_pids at hm
 refine SO Tryz.func87 rfl rfl [(0, .p (.agg (encCount p0)))] [] ?_
 intro cx hnt
 refine Sq (RK hnt (nn 2 []) [(1, rr 1008)] [(1008, bx (pm (encCount p0)))] tv ?_)
 refine Sq (RK hnt (nn 6 []) [(2, pI (w64 (p0.limit - p0.now)))] [] tv ?_)
 obtain rfl := sj hm
 exact DW.ret (retK [] [] (pI (w64 (p0.limit - p0.now))))
abbrev o71 (ks : List Nat) (b : Bool) (RES : Int) : Orc := .call 87 ks b (pI RES) [] []

theorem least_pidsSpec (p0 : Hierarchy) (p1 : List Count) (p2 : Int) (RES : Int) (hm : least_pids p0 p1 p2 = some RES) : Spec Tryz.prog 90 [.p (.agg (encHierarchy p0)), .p (slCount p1), pI p2] [] (pI RES) [] [] := by
 unfold least_pids at hm
 refine SO Tryz.func90 rfl rfl [(0, .p (.agg (encHierarchy p0))), (1, .p (slCount p1)), (2, pI p2)] [] ?_
 intro cx hnt
 refine Sq (RD hnt (nn 2 []) [0] [(3, rr 1024)] [] [(1024, bx (pm (encHierarchy p0)))] tv ?_)
 refine Sq (RD hnt (.no :: []) [] [(7, pI 128)] [] [] tv ?_)
 obtain ⟨r1, hr1, hm⟩ := bo hm
 refine Sq (Sq (RD hnt (nn 3 (o69 [] true r1 :: nn 2 [])) [2, 3] [(13, ow 1104 r1.length), (14, pI ((r1.length : Nat) : Int)), (15, pI 0)] [1024] [(1104, ob0 (roI r1))] (an (Ancestors_forestSpec p0.tree p2 r1 hr1) tv) ?_))
 refine Bk ?_
 obtain ⟨hc1, hm⟩ := go1 hm
 refine DW.rangeO (fun (k1 : Nat) (s1 : Int) => mkSt [(1, .p (slCount p1)), (7, pI s1), (13, ow 1104 r1.length), (14, pI ((r1.length : Nat) : Int)), (15, pI ((k1 : Nat) : Int))] [(1104, ob0 (roI r1))]) 0 hm Conv.eqK ?_
 intro k1 s1 n1 hk1 hs1 he1
 refine Sq (RD hnt (.no :: []) [] [(16, pB (decide (((k1 : Nat) : Int) < ((r1.length : Nat) : Int))))] [] [] tv ?_)
 refine Sq (condK (decide (((k1 : Nat) : Int) < ((r1.length : Nat) : Int))) ?_ ?_)
 ·intro h14
  have hlt1 : k1 < r1.length := by have := of_decide_eq_true h14; omega
  have hm := hs1 hlt1
  unfold least_pidsL1 at hm
  refine Sk ?_
  refine Sq (Bk ?_)
  refine Sq (RD hnt (nn 3 []) [16] [(9, pI (r1.getD k1 0))] [] [] (an (nn0 k1) (an (ltc hlt1) (an (by omega : k1 < r1.length) tv))) ?_)
  obtain ⟨r15, hr15, hm⟩ := bo hm
  obtain ⟨g16, hm⟩ := go1 hm
  obtain ⟨r17, hr17, hm⟩ := bo hm
  refine RD hnt (nn 4 (o48 [] true r15 :: nn 2 (o71 [] true r17 :: nn 2 []))) [9] [(7, pI (minI s1 r17))] [] [] (an (at_pidsSpec p1 (r1.getD k1 0) r15 hr15) (an g16.1 (an g16.2 (an (room_pidsSpec (p1.getD (Int.toNat r15) dCount) r17 hr17) tv)))) ?_
  refine DW.done ?_
  show DW _ _ _ _ _
  refine RD hnt (nn 2 []) [] [(15, pI (w64 (((k1 : Nat) : Int) + 1)))] [] [] tv ?_
  exact jD (minI s1 r17) ⟨hlt1, hm⟩ (Conv.tp [(15, pI (w64 (((k1 : Nat) : Int) + 1)))] [] (by kernel_rfl) (.cons rfl (.of_eq (congrArg pI (w64_succ hlt1 hc1))) .nil) .nil)
 ·intro h14
  have hge1 : ¬ k1 < r1.length := by have := of_decide_eq_false h14; omega
  have hm := he1 hge1
  unfold least_pidsD1 at hm
  refine DW.exit ?_
  refine joinQ_exit ?_
  refine KQ_exit ?_
  refine blockQ_exit ?_
  show DW _ _ _ _ _
  refine Sq (RK hnt (nn 3 []) [(6, pI (maxI s1 0))] [] tv ?_)
  obtain rfl := sj hm
  exact DW.ret (retK [] [] (pI (maxI s1 0)))
abbrev o68 (ks : List Nat) (b : Bool) (RES : Int) : Orc := .call 90 ks b (pI RES) [] []

abbrev c72e1 (r3 : List Count) (r30 : Int) := ({ group := (r3.getD (Int.toNat r30) dCount).group, now := (r3.getD (Int.toNat r30) dCount).now, limit := (r3.getD (Int.toNat r30) dCount).limit, peak := (r3.getD (Int.toNat r30) dCount).peak, events := (minI (w64 ((r3.getD (Int.toNat r30) dCount).events + 1)) 1099511627776) } : Count)
abbrev c72e2 (r3 : List Count) (r30 : Int) := (updF (elCount r3) (Int.toNat r30) [vi (r3.getD (Int.toNat r30) dCount).group, vi (r3.getD (Int.toNat r30) dCount).now, vi (r3.getD (Int.toNat r30) dCount).limit, vi (r3.getD (Int.toNat r30) dCount).peak, vi (minI (w64 ((r3.getD (Int.toNat r30) dCount).events + 1)) 1099511627776)])
abbrev c72e3 (r3 : List Count) (r30 : Int) := (r3.set (Int.toNat r30) (c72e1 r3 r30))
theorem Refuse_pidsSpec (p0 : Hierarchy) (p1 : List Count) (p2 : Int) (p3 : Int) (RES : (List Count) × Int) (hm : Refuse_pids p0 p1 p2 p3 = some RES) : Spec Tryz.prog 20 [.p (.agg (encHierarchy p0)), .p (slCount p1), pI p2, pI p3] [] (.tup [ow 0 RES.1.length, pI RES.2]) [] [roCount RES.1] := by
 unfold Refuse_pids at hm
 refine SO Tryz.func20 rfl rfl [(0, .p (.agg (encHierarchy p0))), (1, .p (slCount p1)), (2, pI p2), (3, pI p3)] [] ?_
 intro cx hnt
 refine Sq (RD hnt (nn 3 []) [0] [(4, rr 1032)] [] [(1032, bx (pm (encHierarchy p0)))] tv ?_)
 obtain ⟨r1, hr1, hm⟩ := bo hm
 refine Sq (Sq (RD hnt (nn 2 (o57 [] true r1 :: .no :: [])) [] [(17, pB (!r1))] [] [] (an (Check_pidsSpec p0 p1 r1 hr1) tv) ?_))
 refine condM hm ?_ ?_
 ·intro h2 hm
  refine Sq (RK hnt (nn 2 []) [(8, .p (.sl .nil 0 0 (fun _ => []))), (9, pI 0)] [] tv ?_)
  refine DW.cv [] [(8, ow 100000 0)] [] [(100000, ob0 (roCount []))] (Conv.ads [(.s 8, 100000, 5, elems encCount dCount [])]) ?_
  obtain rfl := sj hm
  exact DW.ret (retK [roCount []] [100000] (.tup [ow 0 0, pI 0]))
 ·intro h2 hm
  refine Sk ?_
  obtain ⟨r3, hr3, hm⟩ := bo hm
  refine Sq (RD hnt (.no :: o59 [] true r3 :: .no :: []) [1, 17] [(10, ow 1152 r3.length)] [] [(1152, ob0 (roCount r3))] (an (Clone_slices_CountSpec p1 r3 hr3) tv) ?_)
  obtain ⟨r4, hr4, hm⟩ := bo hm
  refine Sq (Sq (RD hnt (nn 3 (o69 [] true r4 :: nn 2 [])) [2, 4] [(23, ow 1184 r4.length), (24, pI ((r4.length : Nat) : Int)), (25, pI 0)] [1032] [(1184, ob0 (roI r4))] (an (Ancestors_forestSpec p0.tree p2 r4 hr4) tv) ?_))
  refine Bk ?_
  obtain ⟨hc1, hm⟩ := go1 hm
  refine DW.rangeO (fun (k1 : Nat) (s1 : Unit) => mkSt [(3, pI p3), (10, ow 1152 r3.length), (23, ow 1184 r4.length), (24, pI ((r4.length : Nat) : Int)), (25, pI ((k1 : Nat) : Int))] [(1152, ob0 (roCount r3)), (1184, ob0 (roI r4))]) 0 hm Conv.eqK ?_
  intro k1 s1 n1 hk1 hs1 he1
  refine Sq (RD hnt (.no :: []) [] [(26, pB (decide (((k1 : Nat) : Int) < ((r4.length : Nat) : Int))))] [] [] tv ?_)
  refine Sq (condK (decide (((k1 : Nat) : Int) < ((r4.length : Nat) : Int))) ?_ ?_)
  ·intro h29
   have hlt1 : k1 < r4.length := by have := of_decide_eq_true h29; omega
   have hm := hs1 hlt1
   unfold Refuse_pidsL1 at hm
   refine Sk ?_
   refine Sq (Bk ?_)
   refine Sq (RD hnt (nn 3 []) [26] [(12, pI (r4.getD k1 0))] [] [] (an (nn0 k1) (an (ltc hlt1) (an (by omega : k1 < r4.length) tv))) ?_)
   obtain ⟨r30, hr30, hm⟩ := bo hm
   refine Sq (RD hnt (nn 2 (o48 [] true r30 :: .no :: [])) [] [(13, pI r30)] [] [] (an (at_pidsSpec r3 (r4.getD k1 0) r30 hr30) tv) ?_)
   obtain ⟨g31, g32, hm⟩ := go2 hm
   obtain ⟨r33, hr33, hm⟩ := bo hm
   refine Sq (RD hnt (nn 4 (o71 [] true r33 :: nn 2 [])) [] [(38, pB (decide (r33 < p3)))] [] [] (an g31.1 (an g31.2 (an g32 (an (room_pidsSpec (r3.getD (Int.toNat r30) dCount) r33 hr33) tv)))) ?_)
   refine condM hm ?_ ?_
   ·intro h34 hm
    obtain ⟨g35, g36, g37, g38, hm⟩ := go4 hm
    refine Sq (RN hnt (nn 12 []) [(10, ow 1152 (c72e3 r3 r30).length), (12, pI (r4.getD k1 0))] [(1152, ob0 (roCount (c72e3 r3 r30)))] [(10, ow 1152 r3.length)] [(1152, .row 5 r3.length (c72e2 r3 r30))] (an g35.1 (an g35.2 (an g36 (an g37.1 (an g37.2 (an g38 tv)))))) (by kernel_rfl) (.cons rfl (MLe.ownLen (enc := encCount) (d := dCount) (f := (c72e2 r3 r30)) (RowIs.upd RowIs.elems (c72e1 r3 r30) rfl)) .nil) (.cons rfl (BLe.typed (RowIs.upd RowIs.elems (c72e1 r3 r30) rfl)) .nil) ?_)
    refine Sq (RD hnt (nn 4 []) [10, 12] [(8, ow 1152 (c72e3 r3 r30).length), (9, pI (r4.getD k1 0))] [] [] tv ?_)
    obtain rfl := sj hm
    exact DW.ret (retK [roCount (c72e3 r3 r30)] [1152] (.tup [ow 0 (c72e3 r3 r30).length, pI (r4.getD k1 0)]))
   ·intro h34 hm
    refine Sk ?_
    refine DW.done ?_
    show DW _ _ _ _ _
    refine RD hnt (nn 2 []) [12, 13, 38] [(25, pI (w64 (((k1 : Nat) : Int) + 1)))] [] [] tv ?_
    exact jD () ⟨hlt1, hm⟩ (Conv.tp [(25, pI (w64 (((k1 : Nat) : Int) + 1)))] [] (by kernel_rfl) (.cons rfl (.of_eq (congrArg pI (w64_succ hlt1 hc1))) .nil) .nil)
  ·intro h29
   have hge1 : ¬ k1 < r4.length := by have := of_decide_eq_false h29; omega
   have hm := he1 hge1
   unfold Refuse_pidsD1 at hm
   refine DW.exit ?_
   refine joinQ_exit ?_
   refine KQ_exit ?_
   refine blockQ_exit ?_
   show DW _ _ _ _ _
   refine Sq (RK hnt (nn 3 []) [(8, ow 1152 r3.length), (9, pI 0)] [(1152, ob0 (roCount r3))] tv ?_)
   obtain rfl := sj hm
   exact DW.ret (retK [roCount r3] [1152] (.tup [ow 0 r3.length, pI 0]))
abbrev o72 (ks : List Nat) (b : Bool) (RES : (List Count) × Int) : Orc := .call 20 ks b (.tup [ow 0 RES.1.length, pI RES.2]) [] [roCount RES.1]
end Go.Dm

