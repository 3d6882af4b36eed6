/- Texts of the proof of CpusetAll: the data machine, the models of the Go functions, their contracts. -/
import Derived.Test.YtkmmocjhkaagpaaGreatCpusetAllA3
set_option linter.unusedVariables false
set_option linter.unusedSimpArgs false
/- Go functions compute their models, printed by a program. -/
namespace Go.Dm
open Go.Proofs
set_option linter.unusedVariables false
theorem Acx (p0:List Int) (RES:Bool) (hm:Zy p0=some RES):Spec Tryz.prog 4 [.p (slI p0)] [] (pB RES) [] []:=by
 unfold Zy at hm
 refine SO Tryz.func4 rfl rfl [(0,.p (slI p0))] [] ?_
 intro cx hnt
 refine Sq (RK hnt (.no :: []) [(0,.p (slI p0))] [] tv ?_)
 refine Sq (RK hnt (nn 4 []) [(2,pB (decide (((p0.length:Nat):Int)≤600)))] [] tv ?_)
 obtain rfl:=sj hm
 exact DW.ret (An [] [] (pB (decide (((p0.length:Nat):Int)≤600))))
abbrev o2 (ks:List Nat) (b:Bool) (RES:Bool) (sm:List Nat := []):Orc := .call 4 ks b (pB RES) [] [] sm

abbrev c4e1 := ({ id:=1,parent:=0,name:=ByteArray.empty,control:=0,kind:=0,owner:=0 } : Ax)
theorem Aea (RES:Ae) (hm:AaT=some RES):Spec Tryz.prog 24 [] [] (.agg [ow 0 RES.nodes.length,pI RES.next]) [] [Dp RES.nodes]:=by
 unfold AaT at hm
 refine SO Tryz.func24 rfl rfl [] [] ?_
 intro cx hnt
 refine Sq (RK hnt (.no :: []) [(0,rr 1000)] [(1000,bx [.p (.sl .nil 0 0 (fun _ => [])),pI 0])] tv ?_)
 refine Sq (RN hnt (nn 4 []) [(0,rr 1000)] [(1000,bx [ow 1016 [(c4e1)].length,pI 2]),(1016,ob0 (Dp [(c4e1)]))] [] [(1000,.box [ow 1016 1,pI 2]),(1016,.row 6 1 (cut 6 [vi 1,vi 0,vs ByteArray.empty,vi 0,vi 0,vi 0]))] tv (by kernel_rfl) .nil (.cons rfl (.box (.cons (MLe.ownLen (enc:=Cc) (d:=Aq) (f:=(cut 6 [vi 1,vi 0,vs ByteArray.empty,vi 0,vi 0,vi 0])) (RowIs.lit (enc:=Cc) (d:=Aq) (n:=1) (f:=(cut 6 [vi 1,vi 0,vs ByteArray.empty,vi 0,vi 0,vi 0])) [(c4e1)] rfl (fun|0,_=>rfl|n+1,h=>absurd h (by omega)))) (.cons .rfl .nil))) (.cons rfl (BLe.typed (RowIs.lit (enc:=Cc) (d:=Aq) (n:=1) (f:=(cut 6 [vi 1,vi 0,vs ByteArray.empty,vi 0,vi 0,vi 0])) [(c4e1)] rfl (fun|0,_=>rfl|n+1,h=>absurd h (by omega)))) .nil)) ?_)
 obtain rfl:=sj hm
 exact DW.ret (An [Dp [(c4e1)]] [1016] (.agg [ow 0 [(c4e1)].length,pI 2]))
abbrev o4 (ks:List Nat) (b:Bool) (RES:Ae) (sm:List Nat := []):Orc := .call 24 ks b (.agg [ow 0 RES.nodes.length,pI RES.next]) [] [Dp RES.nodes] sm

abbrev c8e1 (p0:ByteArray) (k1:Int):Nat×MV:=(57,pB (!((((Bx p0 (Int.toNat k1)):Nat):Int)==45)))
theorem Acv (p0:ByteArray) (RES:Bool) (hm:Ti p0=some RES):Spec Tryz.prog 49 [pS p0] [] (pB RES) [] []:=by
 unfold Ti at hm
 refine SO Tryz.func49 rfl rfl [(0,pS p0)] [] ?_
 intro cx hnt
 refine Sq (RK hnt (.no :: []) [(0,pS p0)] [] tv ?_)
 refine Sq (Sq ?_)
 refine Jn (ι:=Bool) (fun (y1:Bool)=>Af [(0,pS p0),(17,pB y1)] []) (fun y1=>(Qb p0) y1=some RES) ?_ ?_
 ·intro y1 hm
  unfold Qb at hm
  refine Ar hm ?_ ?_
  ·intro h4 hm
   refine Sq (RK hnt (.no :: []) [(2,pB false)] [] tv ?_)
   obtain rfl:=sj hm
   exact DW.ret (An [] [] (pB false))
  ·intro h4 hm
   refine Sk ?_
   refine Sq (Sq (RK hnt (.no :: []) [(0,pS p0),(3,pI 0)] [] tv ?_))
   refine Bk ?_
   obtain ⟨hc1,hm⟩:=go1 hm
   refine DW.forO (fun (k1:Int) (s1:Unit)=>Af [(0,pS p0),(3,pI k1)] []) (lo:=0) (hi:=((p0.size:Nat):Int)) hm .refl ?_
   intro k1 s1 n1 hk1 hs1 he1
   refine Sq (Sq (RD hnt (nn 4 []) [] [(21,pB (decide (k1<((p0.size:Nat):Int))))] [] [] tv ?_))
   refine Cv (decide (k1<((p0.size:Nat):Int))) ?_ ?_
   ·intro h55
    have hlt1:k1<((p0.size:Nat):Int):=by have:=of_decide_eq_true h55; omega
    have hm:=hs1 hlt1
    unfold Aay at hm
    refine Sk ?_
    refine Sq (Bk ?_)
    obtain ⟨g56,hm⟩:=go1 hm
    refine Sq (RD hnt (nn 4 []) [21] [(4,.p (vk .u8 (((Bx p0 (Int.toNat k1)):Nat):Int)))] [] [] (an g56.1 (an g56.2 tv)) ?_)
    refine Sq (DW.regJ (sl2 := [(0,pS p0),(3,pI k1),(57,pB (!((((((decide ((((Bx p0 (Int.toNat k1)):Nat):Int)≥97))&&(decide ((((Bx p0 (Int.toNat k1)):Nat):Int)≤122)))||((decide ((((Bx p0 (Int.toNat k1)):Nat):Int)≥65))&&(decide ((((Bx p0 (Int.toNat k1)):Nat):Int)≤90))))||((decide ((((Bx p0 (Int.toNat k1)):Nat):Int)≥48))&&(decide ((((Bx p0 (Int.toNat k1)):Nat):Int)≤57))))||((((Bx p0 (Int.toNat k1)):Nat):Int)==95))||((((Bx p0 (Int.toNat k1)):Nat):Int)==45))))]) (ob2 := []) ?_ ?_)
    ·rcases bt (decide ((((Bx p0 (Int.toNat k1)):Nat):Int)≥97)) with h57|h57
     ·rcases bt (decide ((((Bx p0 (Int.toNat k1)):Nat):Int)≤122)) with h58|h58
      ·exact RT hnt (nn 5 (pT :: .no::sk 6 (pT :: .no::sk 6 (pT :: .no::sk 2 (pT :: .no::sk 2 (pT :: .no :: [])))))) [(57,pB false)] (an3 h57 (an5 h58 (an5 tt (an6 tt tv)))) (by kernel_rfl) (.cons rfl (.of_eq (by rw [h57,h58]; try rfl)) .nil)
      ·rcases bt (decide ((((Bx p0 (Int.toNat k1)):Nat):Int)≥65)) with h59|h59
       ·rcases bt (decide ((((Bx p0 (Int.toNat k1)):Nat):Int)≤90)) with h60|h60
        ·exact RT hnt (nn 5 (pT::nn 6 (pT::pF :: .no::sk 6 (pT :: .no::sk 2 (pT :: .no::sk 2 (pT :: .no :: [])))))) [(57,pB false)] (an3 h57 (an3 h58 (an2 h59 (an h58 (an h59 (an h58 (an5 h60 (an6 tt tv)))))))) (by kernel_rfl) (.cons rfl (.of_eq (by rw [h57,h58,h59,h60]; try rfl)) .nil)
        ·rcases bt (decide ((((Bx p0 (Int.toNat k1)):Nat):Int)≥48)) with h61|h61
         ·rcases bt (decide ((((Bx p0 (Int.toNat k1)):Nat):Int)≤57)) with h62|h62
          ·exact RT hnt (nn 5 (pT::nn 6 (pT::pF::nn 6 (pT::pF :: .no::sk 2 (pT :: .no::sk 2 (pT :: .no :: [])))))) [(57,pB false)] (an3 h57 (an3 h58 (an2 h59 (an h58 (an h59 (an h58 (an3 h60 (an2 h61 (an h60 (an h61 (an h60 (an3 h62 (an3 tt tv))))))))))))) (by kernel_rfl) (.cons rfl (.of_eq (by rw [h57,h58,h59,h60,h61,h62]; try rfl)) .nil)
          ·rcases bt ((((Bx p0 (Int.toNat k1)):Nat):Int)==95) with h63|h63
           ·exact RT hnt (nn 5 (pT::nn 6 (pT::pF::nn 6 (pT::pF::nn 3 (pF :: .no::sk 2 (pT :: .no :: [])))))) [(57,pB false)] (an3 h57 (an3 h58 (an2 h59 (an h58 (an h59 (an h58 (an3 h60 (an2 h61 (an h60 (an h61 (an h60 (an3 h62 (an3 h63 tv))))))))))))) (by kernel_rfl) (.cons rfl (.of_eq (by rw [h57,h58,h59,h60,h61,h62,h63]; try rfl)) .nil)
           ·exact RT hnt (nn 5 (pT::nn 6 (pT::pF::nn 6 (pT::pF::nn 3 (pF::nn 3 (pF :: .no :: [])))))) [(c8e1 p0 k1)] (an3 h57 (an3 h58 (an2 h59 (an h58 (an h59 (an h58 (an3 h60 (an2 h61 (an h60 (an h61 (an h60 (an3 h62 (an3 h63 tv))))))))))))) (by kernel_rfl) (.cons rfl (.of_eq (by rw [h57,h58,h59,h60,h61,h62,h63]; try rfl)) .nil)
         ·rcases bt ((((Bx p0 (Int.toNat k1)):Nat):Int)==95) with h64|h64
          ·exact RT hnt (nn 5 (pT::nn 6 (pT::pF::nn 4 (sk 2 (pF::pF::nn 3 (pF :: .no::sk 2 (pT :: .no :: []))))))) [(57,pB false)] (an3 h57 (an3 h58 (an2 h59 (an h58 (an h59 (an h58 (an3 h60 (an2 h61 (an h60 (an h61 (an h60 (an3 ff (an3 h64 tv))))))))))))) (by kernel_rfl) (.cons rfl (.of_eq (by rw [h57,h58,h59,h60,h61,h64]; try rfl)) .nil)
          ·exact RT hnt (nn 5 (pT::nn 6 (pT::pF::nn 4 (sk 2 (pF::pF::nn 3 (pF::nn 3 (pF :: .no :: []))))))) [(c8e1 p0 k1)] (an3 h57 (an3 h58 (an2 h59 (an h58 (an h59 (an h58 (an3 h60 (an2 h61 (an h60 (an h61 (an h60 (an3 ff (an3 h64 tv))))))))))))) (by kernel_rfl) (.cons rfl (.of_eq (by rw [h57,h58,h59,h60,h61,h64]; try rfl)) .nil)
       ·rcases bt (decide ((((Bx p0 (Int.toNat k1)):Nat):Int)≥48)) with h65|h65
        ·rcases bt (decide ((((Bx p0 (Int.toNat k1)):Nat):Int)≤57)) with h66|h66
         ·exact RT hnt (nn 5 (pT::nn 4 (sk 2 (pF::pF::nn 6 (pT::pF :: .no::sk 2 (pT :: .no::sk 2 (pT :: .no :: []))))))) [(57,pB false)] (an3 h57 (an3 h58 (an2 h59 (an h58 (an h59 (an h58 (an3 ff (an2 h65 (an ff (an h65 (an ff (an3 h66 (an3 tt tv))))))))))))) (by kernel_rfl) (.cons rfl (.of_eq (by rw [h57,h58,h59,h65,h66]; try rfl)) .nil)
         ·rcases bt ((((Bx p0 (Int.toNat k1)):Nat):Int)==95) with h67|h67
          ·exact RT hnt (nn 5 (pT::nn 4 (sk 2 (pF::pF::nn 6 (pT::pF::nn 3 (pF :: .no::sk 2 (pT :: .no :: []))))))) [(57,pB false)] (an3 h57 (an3 h58 (an2 h59 (an h58 (an h59 (an h58 (an3 ff (an2 h65 (an ff (an h65 (an ff (an3 h66 (an3 h67 tv))))))))))))) (by kernel_rfl) (.cons rfl (.of_eq (by rw [h57,h58,h59,h65,h66,h67]; try rfl)) .nil)
          ·exact RT hnt (nn 5 (pT::nn 4 (sk 2 (pF::pF::nn 6 (pT::pF::nn 3 (pF::nn 3 (pF :: .no :: []))))))) [(c8e1 p0 k1)] (an3 h57 (an3 h58 (an2 h59 (an h58 (an h59 (an h58 (an3 ff (an2 h65 (an ff (an h65 (an ff (an3 h66 (an3 h67 tv))))))))))))) (by kernel_rfl) (.cons rfl (.of_eq (by rw [h57,h58,h59,h65,h66,h67]; try rfl)) .nil)
        ·rcases bt ((((Bx p0 (Int.toNat k1)):Nat):Int)==95) with h68|h68
         ·exact RT hnt (nn 5 (pT::nn 4 (sk 2 (pF::pF::nn 4 (sk 2 (pF::pF::nn 3 (pF :: .no::sk 2 (pT :: .no :: [])))))))) [(57,pB false)] (an3 h57 (an3 h58 (an2 h59 (an h58 (an h59 (an h58 (an3 ff (an2 h65 (an ff (an h65 (an4 ff (an3 h68 tv)))))))))))) (by kernel_rfl) (.cons rfl (.of_eq (by rw [h57,h58,h59,h65,h68]; try rfl)) .nil)
         ·exact RT hnt (nn 5 (pT::nn 4 (sk 2 (pF::pF::nn 4 (sk 2 (pF::pF::nn 3 (pF::nn 3 (pF :: .no :: [])))))))) [(c8e1 p0 k1)] (an3 h57 (an3 h58 (an2 h59 (an h58 (an h59 (an h58 (an3 ff (an2 h65 (an ff (an h65 (an4 ff (an3 h68 tv)))))))))))) (by kernel_rfl) (.cons rfl (.of_eq (by rw [h57,h58,h59,h65,h68]; try rfl)) .nil)
     ·rcases bt (decide ((((Bx p0 (Int.toNat k1)):Nat):Int)≥65)) with h69|h69
      ·rcases bt (decide ((((Bx p0 (Int.toNat k1)):Nat):Int)≤90)) with h70|h70
       ·exact RT hnt (nn 3 (sk 2 (pF::nn 6 (pT::pF :: .no::sk 6 (pT :: .no::sk 2 (pT :: .no::sk 2 (pT :: .no :: []))))))) [(57,pB false)] (an3 h57 (an3 ff (an2 h69 (an ff (an h69 (an ff (an5 h70 (an6 tt tv)))))))) (by kernel_rfl) (.cons rfl (.of_eq (by rw [h57,h69,h70]; try rfl)) .nil)
       ·rcases bt (decide ((((Bx p0 (Int.toNat k1)):Nat):Int)≥48)) with h71|h71
        ·rcases bt (decide ((((Bx p0 (Int.toNat k1)):Nat):Int)≤57)) with h72|h72
         ·exact RT hnt (nn 3 (sk 2 (pF::nn 6 (pT::pF::nn 6 (pT::pF :: .no::sk 2 (pT :: .no::sk 2 (pT :: .no :: []))))))) [(57,pB false)] (an3 h57 (an3 ff (an2 h69 (an ff (an h69 (an ff (an3 h70 (an2 h71 (an h70 (an h71 (an h70 (an3 h72 (an3 tt tv))))))))))))) (by kernel_rfl) (.cons rfl (.of_eq (by rw [h57,h69,h70,h71,h72]; try rfl)) .nil)
         ·rcases bt ((((Bx p0 (Int.toNat k1)):Nat):Int)==95) with h73|h73
          ·exact RT hnt (nn 3 (sk 2 (pF::nn 6 (pT::pF::nn 6 (pT::pF::nn 3 (pF :: .no::sk 2 (pT :: .no :: []))))))) [(57,pB false)] (an3 h57 (an3 ff (an2 h69 (an ff (an h69 (an ff (an3 h70 (an2 h71 (an h70 (an h71 (an h70 (an3 h72 (an3 h73 tv))))))))))))) (by kernel_rfl) (.cons rfl (.of_eq (by rw [h57,h69,h70,h71,h72,h73]; try rfl)) .nil)
          ·exact RT hnt (nn 3 (sk 2 (pF::nn 6 (pT::pF::nn 6 (pT::pF::nn 3 (pF::nn 3 (pF :: .no :: []))))))) [(c8e1 p0 k1)] (an3 h57 (an3 ff (an2 h69 (an ff (an h69 (an ff (an3 h70 (an2 h71 (an h70 (an h71 (an h70 (an3 h72 (an3 h73 tv))))))))))))) (by kernel_rfl) (.cons rfl (.of_eq (by rw [h57,h69,h70,h71,h72,h73]; try rfl)) .nil)
        ·rcases bt ((((Bx p0 (Int.toNat k1)):Nat):Int)==95) with h74|h74
         ·exact RT hnt (nn 3 (sk 2 (pF::nn 6 (pT::pF::nn 4 (sk 2 (pF::pF::nn 3 (pF :: .no::sk 2 (pT :: .no :: [])))))))) [(57,pB false)] (an3 h57 (an3 ff (an2 h69 (an ff (an h69 (an ff (an3 h70 (an2 h71 (an h70 (an h71 (an h70 (an3 ff (an3 h74 tv))))))))))))) (by kernel_rfl) (.cons rfl (.of_eq (by rw [h57,h69,h70,h71,h74]; try rfl)) .nil)
         ·exact RT hnt (nn 3 (sk 2 (pF::nn 6 (pT::pF::nn 4 (sk 2 (pF::pF::nn 3 (pF::nn 3 (pF :: .no :: [])))))))) [(c8e1 p0 k1)] (an3 h57 (an3 ff (an2 h69 (an ff (an h69 (an ff (an3 h70 (an2 h71 (an h70 (an h71 (an h70 (an3 ff (an3 h74 tv))))))))))))) (by kernel_rfl) (.cons rfl (.of_eq (by rw [h57,h69,h70,h71,h74]; try rfl)) .nil)
      ·rcases bt (decide ((((Bx p0 (Int.toNat k1)):Nat):Int)≥48)) with h75|h75
       ·rcases bt (decide ((((Bx p0 (Int.toNat k1)):Nat):Int)≤57)) with h76|h76
        ·exact RT hnt (nn 3 (sk 2 (pF::nn 4 (sk 2 (pF::pF::nn 6 (pT::pF :: .no::sk 2 (pT :: .no::sk 2 (pT :: .no :: [])))))))) [(57,pB false)] (an3 h57 (an3 ff (an2 h69 (an ff (an h69 (an4 ff (an2 h75 (an ff (an h75 (an ff (an3 h76 (an3 tt tv)))))))))))) (by kernel_rfl) (.cons rfl (.of_eq (by rw [h57,h69,h75,h76]; try rfl)) .nil)
        ·rcases bt ((((Bx p0 (Int.toNat k1)):Nat):Int)==95) with h77|h77
         ·exact RT hnt (nn 3 (sk 2 (pF::nn 4 (sk 2 (pF::pF::nn 6 (pT::pF::nn 3 (pF :: .no::sk 2 (pT :: .no :: [])))))))) [(57,pB false)] (an3 h57 (an3 ff (an2 h69 (an ff (an h69 (an4 ff (an2 h75 (an ff (an h75 (an ff (an3 h76 (an3 h77 tv)))))))))))) (by kernel_rfl) (.cons rfl (.of_eq (by rw [h57,h69,h75,h76,h77]; try rfl)) .nil)
         ·exact RT hnt (nn 3 (sk 2 (pF::nn 4 (sk 2 (pF::pF::nn 6 (pT::pF::nn 3 (pF::nn 3 (pF :: .no :: [])))))))) [(c8e1 p0 k1)] (an3 h57 (an3 ff (an2 h69 (an ff (an h69 (an4 ff (an2 h75 (an ff (an h75 (an ff (an3 h76 (an3 h77 tv)))))))))))) (by kernel_rfl) (.cons rfl (.of_eq (by rw [h57,h69,h75,h76,h77]; try rfl)) .nil)
       ·rcases bt ((((Bx p0 (Int.toNat k1)):Nat):Int)==95) with h78|h78
        ·exact RT hnt (nn 3 (sk 2 (pF::nn 4 (sk 2 (pF::pF::nn 4 (sk 2 (pF::pF::nn 3 (pF :: .no::sk 2 (pT :: .no :: []))))))))) [(57,pB false)] (an3 h57 (an3 ff (an2 h69 (an ff (an h69 (an4 ff (an2 h75 (an ff (an h75 (an4 ff (an3 h78 tv))))))))))) (by kernel_rfl) (.cons rfl (.of_eq (by rw [h57,h69,h75,h78]; try rfl)) .nil)
        ·exact RT hnt (nn 3 (sk 2 (pF::nn 4 (sk 2 (pF::pF::nn 4 (sk 2 (pF::pF::nn 3 (pF::nn 3 (pF :: .no :: []))))))))) [(c8e1 p0 k1)] (an3 h57 (an3 ff (an2 h69 (an ff (an h69 (an4 ff (an2 h75 (an ff (an h75 (an4 ff (an3 h78 tv))))))))))) (by kernel_rfl) (.cons rfl (.of_eq (by rw [h57,h69,h75,h78]; try rfl)) .nil)
    ·refine Ar hm ?_ ?_
     ·intro h79 hm
      refine Sq (RK hnt (.no :: []) [(2,pB false)] [] tv ?_)
      obtain rfl:=sj hm
      exact DW.ret (An [] [] (pB false))
     ·intro h79 hm
      refine Sk ?_
      refine DW.done ?_
      show DW _ _ _ _ _
      refine RK hnt (nn 3 []) [(0,pS p0),(3,pI (w64 (k1+1)))] [] tv ?_
      exact jD () ⟨hlt1,hm⟩ (Conv.tp [(3,pI (w64 (k1+1)))] [] (by kernel_rfl) (.cons rfl (.of_eq (congrArg pI (Rm (lo:=0) (hi:=((p0.size:Nat):Int)) (by omega) hk1 hlt1 (by omega)))) .nil) .nil)
   ·intro h55
    have hge1:¬ k1<((p0.size:Nat):Int):=by have:=of_decide_eq_false h55; omega
    have hm:=he1 hge1
    unfold AdR at hm
    refine DW.exit ?_
    refine Ao ?_
    refine Ba ?_
    refine Ai ?_
    show DW _ _ _ _ _
    refine Sq (RK hnt (.no :: []) [(2,pB true)] [] tv ?_)
    obtain rfl:=sj hm
    exact DW.ret (An [] [] (pB true))
 ·rcases bt (((p0.size:Nat):Int)==0) with h1|h1
  ·replace hm:=Az h1 hm
   refine RK hnt (nn 4 (sk 3 (pT :: .no::sk 3 (pT :: [])))) [(0,pS p0),(17,pB true)] [] (an4 h1 (an4 tt tv)) ?_
   exact jD true hm .refl
  ·replace hm:=Ay h1 hm
   rcases bt (decide (((p0.size:Nat):Int)>32)) with h2|h2
   ·replace hm:=Az h2 hm
    refine RK hnt (nn 7 (pF :: .no::sk 3 (pT :: []))) [(0,pS p0),(17,pB true)] [] (an4 h1 (an4 h2 tv)) ?_
    exact jD true hm .refl
   ·replace hm:=Ay h2 hm
    obtain ⟨g3,hm⟩:=go1 hm
    refine RK hnt (nn 7 (pF::nn 4 (pF :: []))) [(0,pS p0),(17,pB ((((Bx p0 0):Nat):Int)==45))] [] (an4 h1 (an2 h2 (an (nn0 0) (an (ltc g3) (an2 h2 tv))))) ?_
    exact jD ((((Bx p0 0):Nat):Int)==45) hm .refl
abbrev o8 (ks:List Nat) (b:Bool) (RES:Bool) (sm:List Nat := []):Orc := .call 49 ks b (pB RES) [] [] sm

abbrev Hm (p0:Ae) (p1:Int):=(p0.nodes.getD (Int.toNat p1) Aq)
abbrev c7e2 (p0:Ae) (p1:Int):Nat×Obj:=(1040,bx (pm (Cc (Hm p0 p1))))
abbrev c7e3 (p0:Ae):Nat×Obj:=(1016,bx (pm (Ag p0)))
abbrev c7e4 (p0:Ae) (k1:Int):=(p0.nodes.getD (Int.toNat k1) Aq)
theorem Ahv (p0:Ae) (p1:Int) (RES:Bool) (hm:Yq p0 p1=some RES):Spec Tryz.prog 75 [.p (.agg (Ag p0)),pI p1] [] (pB RES) [] []:=by
 unfold Yq at hm
 refine SO Tryz.func75 rfl rfl [(0,.p (.agg (Ag p0))),(1,pI p1)] [] ?_
 intro cx hnt
 refine Sq (RK hnt (nn 2 []) [(1,pI p1),(2,rr 1016)] [(c7e3 p0)] tv ?_)
 obtain ⟨g1,hm⟩:=go1 hm
 refine Sq (RD hnt (nn 7 []) [] [(5,rr 1040)] [] [(c7e2 p0 p1)] (an g1.1 (an g1.2 tv)) ?_)
 refine Sq (Sq (DW.regJ (sl2 := [(1,pI p1),(2,rr 1016),(5,rr 1040),(40,pB (((((((Hm p0 p1).kind != 0)&&((Hm p0 p1).kind != 1))||(decide ((Hm p0 p1).control<0)))||(decide ((Hm p0 p1).control>31)))||(decide ((Hm p0 p1).owner<0)))||(decide ((Hm p0 p1).owner>1048576))))]) (ob2 := [(c7e3 p0),(c7e2 p0 p1)]) ?_ ?_))
 ·rcases bt ((Hm p0 p1).kind != 0) with h2|h2
  ·rcases bt ((Hm p0 p1).kind != 1) with h3|h3
   ·exact RT hnt (nn 7 (pT :: .no::sk 3 (pT :: .no::sk 3 (pT :: .no::sk 3 (pT :: .no::sk 3 (pT :: [])))))) [(40,pB true)] (an4 h2 (an4 h3 (an6 tt (an6 tt tv)))) (by kernel_rfl) (.cons rfl (.of_eq (by rw [h2,h3]; try rfl)) .nil)
   ·rcases bt (decide ((Hm p0 p1).control<0)) with h4|h4
    ·exact RT hnt (nn 7 (pT::nn 4 (pF :: .no::sk 3 (pT :: .no::sk 3 (pT :: .no::sk 3 (pT :: [])))))) [(40,pB true)] (an4 h2 (an4 h3 (an4 h4 (an2 tt (an6 tt tv))))) (by kernel_rfl) (.cons rfl (.of_eq (by rw [h2,h3,h4]; try rfl)) .nil)
    ·rcases bt (decide ((Hm p0 p1).control>31)) with h5|h5
     ·exact RT hnt (nn 7 (pT::nn 4 (pF::nn 4 (pF :: .no::sk 3 (pT :: .no::sk 3 (pT :: [])))))) [(40,pB true)] (an4 h2 (an4 h3 (an4 h4 (an4 h5 (an4 tt tv))))) (by kernel_rfl) (.cons rfl (.of_eq (by rw [h2,h3,h4,h5]; try rfl)) .nil)
     ·rcases bt (decide ((Hm p0 p1).owner<0)) with h6|h6
      ·exact RT hnt (nn 7 (pT::nn 4 (pF::nn 4 (pF::nn 4 (pF :: .no::sk 3 (pT :: [])))))) [(40,pB true)] (an4 h2 (an4 h3 (an4 h4 (an4 h5 (an4 h6 tv))))) (by kernel_rfl) (.cons rfl (.of_eq (by rw [h2,h3,h4,h5,h6]; try rfl)) .nil)
      ·exact RT hnt (nn 7 (pT::nn 4 (pF::nn 4 (pF::nn 4 (pF::nn 4 (pF :: [])))))) [(40,pB (decide ((Hm p0 p1).owner>1048576)))] (an4 h2 (an4 h3 (an4 h4 (an4 h5 (an4 h6 tv))))) (by kernel_rfl) (.cons rfl (.of_eq (by rw [h2,h3,h4,h5,h6]; try rfl)) .nil)
  ·rcases bt (decide ((Hm p0 p1).control<0)) with h7|h7
   ·exact RT hnt (nn 4 (sk 3 (pF::nn 4 (pF :: .no::sk 3 (pT :: .no::sk 3 (pT :: .no::sk 3 (pT :: []))))))) [(40,pB true)] (an4 h2 (an4 ff (an4 h7 (an2 tt (an6 tt tv))))) (by kernel_rfl) (.cons rfl (.of_eq (by rw [h2,h7]; try rfl)) .nil)
   ·rcases bt (decide ((Hm p0 p1).control>31)) with h8|h8
    ·exact RT hnt (nn 4 (sk 3 (pF::nn 4 (pF::nn 4 (pF :: .no::sk 3 (pT :: .no::sk 3 (pT :: []))))))) [(40,pB true)] (an4 h2 (an4 ff (an4 h7 (an4 h8 (an4 tt tv))))) (by kernel_rfl) (.cons rfl (.of_eq (by rw [h2,h7,h8]; try rfl)) .nil)
    ·rcases bt (decide ((Hm p0 p1).owner<0)) with h9|h9
     ·exact RT hnt (nn 4 (sk 3 (pF::nn 4 (pF::nn 4 (pF::nn 4 (pF :: .no::sk 3 (pT :: []))))))) [(40,pB true)] (an4 h2 (an4 ff (an4 h7 (an4 h8 (an4 h9 tv))))) (by kernel_rfl) (.cons rfl (.of_eq (by rw [h2,h7,h8,h9]; try rfl)) .nil)
     ·exact RT hnt (nn 4 (sk 3 (pF::nn 4 (pF::nn 4 (pF::nn 4 (pF::nn 4 (pF :: []))))))) [(40,pB (decide ((Hm p0 p1).owner>1048576)))] (an4 h2 (an4 ff (an4 h7 (an4 h8 (an4 h9 tv))))) (by kernel_rfl) (.cons rfl (.of_eq (by rw [h2,h7,h8,h9]; try rfl)) .nil)
 ·refine Ar hm ?_ ?_
  ·intro h10 hm
   refine Sq (RK hnt (.no :: []) [(4,pB false)] [] tv ?_)
   obtain rfl:=sj hm
   exact DW.ret (An [] [] (pB false))
  ·intro h10 hm
   refine Sk ?_
   refine Sq (Sq (RD hnt (nn 2 []) [40] [(42,pB (p1==0))] [] [] tv ?_))
   refine Ar hm ?_ ?_
   ·intro h11 hm
    refine Sq (DW.regJ (sl2 := [(4,pB (((((Hm p0 p1).id==1)&&((Hm p0 p1).parent==0))&&(Fi (Hm p0 p1).name ByteArray.empty))&&((Hm p0 p1).kind==0)))]) (ob2 := []) ?_ ?_)
    ·rcases bt ((Hm p0 p1).id==1) with h12|h12
     ·rcases bt ((Hm p0 p1).parent==0) with h13|h13
      ·rcases bt (Fi (Hm p0 p1).name ByteArray.empty) with h14|h14
       ·exact RT hnt (nn 7 (pT::nn 4 (pT::nn 4 (pT :: .no :: [])))) [(4,pB ((Hm p0 p1).kind==0))] (an4 h12 (an4 h13 (an4 h14 tv))) (by kernel_rfl) (.cons rfl (.of_eq (by rw [h12,h13,h14]; try rfl)) .nil)
       ·exact RT hnt (nn 7 (pT::nn 4 (pT :: .no::sk 3 (pF :: .no :: [])))) [(4,pB false)] (an4 h12 (an4 h13 (an4 h14 tv))) (by kernel_rfl) (.cons rfl (.of_eq (by rw [h12,h13,h14]; try rfl)) .nil)
      ·exact RT hnt (nn 7 (pT :: .no::sk 3 (pF :: .no::sk 3 (pF :: .no :: [])))) [(4,pB false)] (an4 h12 (an4 h13 (an4 ff tv))) (by kernel_rfl) (.cons rfl (.of_eq (by rw [h12,h13]; try rfl)) .nil)
     ·exact RT hnt (nn 4 (sk 3 (pF :: .no::sk 3 (pF :: .no::sk 3 (pF :: .no :: []))))) [(4,pB false)] (an4 h12 (an2 ff (an6 ff tv))) (by kernel_rfl) (.cons rfl (.of_eq (by rw [h12]; try rfl)) .nil)
    ·refine DW.ret ?_
     obtain rfl:=sj hm
     exact An [] [] (pB (((((Hm p0 p1).id==1)&&((Hm p0 p1).parent==0))&&(Fi (Hm p0 p1).name ByteArray.empty))&&((Hm p0 p1).kind==0)))
   ·intro h11 hm
    refine Sk ?_
    obtain ⟨g15,hm⟩:=go1 hm
    refine Sq (Sq ?_)
    refine Jn (ι:=Bool) (fun (y1:Bool)=>Af [(1,pI p1),(2,rr 1016),(5,rr 1040),(76,pB y1)] [(c7e3 p0),(c7e2 p0 p1)]) (fun y1=>(Ui p0 p1) y1=some RES) ?_ ?_
    ·intro y1 hm
     unfold Ui at hm
     refine Ar hm ?_ ?_
     ·intro h18 hm
      refine Sq (RK hnt (.no :: []) [(4,pB false)] [] tv ?_)
      obtain rfl:=sj hm
      exact DW.ret (An [] [] (pB false))
     ·intro h18 hm
      refine Sk ?_
      refine Sq (RD hnt (.no :: []) [76] [(6,pB false)] [] [] tv ?_)
      refine Sq (Sq (RD hnt (.no :: []) [] [(7,pI 0)] [] [] tv ?_))
      refine Bk ?_
      obtain ⟨hc1,hm⟩:=go1 hm
      refine DW.forO (fun (k1:Int) (s1:Bool)=>Af [(1,pI p1),(2,rr 1016),(5,rr 1040),(6,pB s1),(7,pI k1)] [(c7e3 p0),(c7e2 p0 p1)]) (lo:=0) (hi:=p1) hm Conv.eqK ?_
      intro k1 s1 n1 hk1 hs1 he1
      refine Sq (Sq (RD hnt (nn 3 []) [] [(79,pB (decide (k1<p1)))] [] [] tv ?_))
      refine Cv (decide (k1<p1)) ?_ ?_
      ·intro h32
       have hlt1:k1<p1:=by have:=of_decide_eq_true h32; omega
       have hm:=hs1 hlt1
       unfold Aca at hm
       refine Sk ?_
       refine Sq (Bk ?_)
       refine Sq ?_
       refine Jn (ι:=Bool) (fun (y5:Bool)=>Af [(1,pI p1),(2,rr 1016),(5,rr 1040),(6,pB y5),(7,pI k1)] [(c7e3 p0),(c7e2 p0 p1)]) (fun y5=>(Rp p0 p1 k1 n1) y5=some RES) ?_ ?_
       ·intro y5 hm
        unfold Rp at hm
        obtain ⟨g35,hm⟩:=go1 hm
        refine Sq ?_
        refine Jn (ι:=Bool) (fun (y6:Bool)=>Af [(1,pI p1),(2,rr 1016),(5,rr 1040),(6,pB y5),(7,pI k1),(113,pB y6)] [(c7e3 p0),(c7e2 p0 p1)]) (fun y6=>(Rq n1 y5) y6=some RES) ?_ ?_
        ·intro y6 hm
         unfold Rq at hm
         refine Ar hm ?_ ?_
         ·intro h38 hm
          refine Sq (RK hnt (.no :: []) [(4,pB false)] [] tv ?_)
          obtain rfl:=sj hm
          exact DW.ret (An [] [] (pB false))
         ·intro h38 hm
          refine Sk ?_
          refine DW.done ?_
          show DW _ _ _ _ _
          refine RD hnt (nn 3 []) [113] [(7,pI (w64 (k1+1)))] [] [] tv ?_
          exact jD y5 ⟨hlt1,hm⟩ (Conv.tp [(7,pI (w64 (k1+1)))] [] (by kernel_rfl) (.cons rfl (.of_eq (congrArg pI (Rm (lo:=0) (hi:=p1) (by omega) hk1 hlt1 (by omega)))) .nil) .nil)
        ·rcases bt ((c7e4 p0 k1).parent==(Hm p0 p1).parent) with h36|h36
         ·replace hm:=Az h36 hm
          obtain ⟨g37,hm⟩:=go1 hm
          refine RD hnt (nn 19 (pT :: [])) [] [(113,pB (Fi (c7e4 p0 k1).name (Hm p0 p1).name))] [] [] (an g35.1 (an g35.2 (an4 h36 (an g37.1 (an g37.2 (an6 h36 tv)))))) ?_
          exact jD (Fi (c7e4 p0 k1).name (Hm p0 p1).name) hm Conv.eqK
         ·replace hm:=Ay h36 hm
          refine RD hnt (nn 10 (sk 9 (pF :: []))) [] [(113,pB false)] [] [] (an g35.1 (an g35.2 (an4 h36 (an6 h36 tv)))) ?_
          exact jD false hm Conv.eqK
       ·rcases bt s1 with h33|h33
        ·replace hm:=Az h33 hm
         refine RD hnt (nn 2 (sk 9 (pT :: .no :: []))) [79] [(6,pB true)] [] [] (an4 h33 (an6 h33 tv)) ?_
         exact jD true hm Conv.eqK
        ·replace hm:=Ay h33 hm
         obtain ⟨g34,hm⟩:=go1 hm
         refine RD hnt (nn 11 (pF :: .no :: [])) [79] [(6,pB ((c7e4 p0 k1).id==(Hm p0 p1).parent))] [] [] (an4 h33 (an g34.1 (an g34.2 (an6 h33 tv)))) ?_
         exact jD ((c7e4 p0 k1).id==(Hm p0 p1).parent) hm Conv.eqK
      ·intro h32
       have hge1:¬ k1<p1:=by have:=of_decide_eq_false h32; omega
       have hm:=he1 hge1
       unfold Afh at hm
       refine DW.exit ?_
       refine Ao ?_
       refine Ba ?_
       refine Ai ?_
       show DW _ _ _ _ _
       refine Sq (RK hnt (nn 2 []) [(4,pB s1)] [] tv ?_)
       obtain rfl:=sj hm
       exact DW.ret (An [] [] (pB s1))
    ·rcases bt (decide ((Hm p0 p1).id≤(p0.nodes.getD (Int.toNat (w64 (p1-1))) Aq).id)) with h16|h16
     ·replace hm:=Az h16 hm
      refine RD hnt (nn 11 (sk 4 (pT :: []))) [42] [(76,pB true)] [] [] (an g15.1 (an g15.2 (an5 h16 tv))) ?_
      exact jD true hm Conv.eqK
     ·replace hm:=Ay h16 hm
      obtain ⟨r17,hr17,hm⟩:=bo hm
      refine RD hnt (nn 13 (o8 [] true r17 :: .no::pF :: [])) [42] [(76,pB (!r17))] [] [] (an g15.1 (an g15.2 (an3 h16 (an (Acv (Hm p0 p1).name r17 hr17) (an2 h16 tv))))) ?_
      exact jD (!r17) hm Conv.eqK
abbrev o7 (ks:List Nat) (b:Bool) (RES:Bool) (sm:List Nat := []):Orc := .call 75 ks b (pB RES) [] [] sm

theorem AeU (p0:Ae) (p1:Int) (RES:List Int) (hm:Aar p0 p1=some RES):Spec Tryz.prog 72 [.p (.agg (Ag p0)),pI p1] [] (ow 0 RES.length) [] [roI RES]:=by
 unfold Aar at hm
 refine SO Tryz.func72 rfl rfl [(0,.p (.agg (Ag p0))),(1,pI p1)] [] ?_
 intro cx hnt
 refine Sq (RK hnt (nn 2 []) [(1,pI p1),(2,rr 1016)] [(1016,bx (pm (Ag p0)))] tv ?_)
 refine Sq (RD hnt (.no :: []) [] [(5,.p (.sl .nil 0 0 (fun _ => [])))] [] [] tv ?_)
 refine Sq (Sq (RD hnt (nn 5 []) [] [(6,pI (w64 (((p0.nodes.length:Nat):Int)-1)))] [] [] tv ?_))
 refine Bk ?_
 refine DW.whileO (fun (s1:(List Int)×Int×Int)=>Af [(1,pI s1.2.1),(2,rr 1016),(5,ow 1208 s1.1.length),(6,pI s1.2.2)] [(1016,bx (pm (Ag p0))),(1208,ob0 (roI s1.1))]) hm (Conv.ads [(.s 5,1208,1,elems Au 0 [])]) ?_
 intro s1 n1 hm
 unfold Ady at hm
 refine Sq (Sq (RD hnt (nn 2 []) [] [(12,pB (decide (s1.2.2≥0)))] [] [] tv ?_))
 refine Ar hm ?_ ?_
 ·intro h5 hm
  refine Sk ?_
  refine Sq ?_
  refine Jn (ι:=(List Int)×Int) (fun (y2:(List Int)×Int)=>Af [(1,pI y2.2),(2,rr 1016),(5,ow 1208 y2.1.length),(6,pI s1.2.2)] [(1016,bx (pm (Ag p0))),(1208,ob0 (roI y2.1))]) (fun y2=>(Vl s1 n1) y2=some RES) ?_ ?_
  ·intro y2 hm
   unfold Vl at hm
   refine RD hnt (nn 3 []) [] [(6,pI (w64 (s1.2.2-1)))] [] [] tv ?_
   exact jD (y2.1,y2.2,(w64 (s1.2.2-1))) hm Conv.eqK
  ·refine Bk ?_
   obtain ⟨g6,hm⟩:=go1 hm
   refine Sq (RD hnt (nn 8 []) [12] [(22,pB ((p0.nodes.getD (Int.toNat s1.2.2) Aq).id==s1.2.1))] [] [] (an g6.1 (an g6.2 tv)) ?_)
   refine Ar hm ?_ ?_
   ·intro h7 hm
    obtain ⟨g8,hm⟩:=go1 hm
    refine Sq (RN hnt (nn 5 []) [(2,rr 1016),(5,ow 1208 (s1.1 ++ [s1.2.1]).length),(6,pI s1.2.2)] [(1016,bx (pm (Ag p0))),(1208,ob0 (roI (s1.1 ++ [s1.2.1])))] [(5,ow 1208 (s1.1.length+1))] [(1208,.row 1 (s1.1.length+1) (De s1.1.length (elI s1.1) (cut 1 [vi s1.2.1])))] (an (by omega:(s1.1.length+1)*8≤140737488355328) tv) (by kernel_rfl) (.cons rfl (MLe.ownLen (enc:=Au) (d:=0) (f:=(De s1.1.length (elI s1.1) (cut 1 [vi s1.2.1]))) (RowIs.cat RowIs.elems (RowIs.lit (enc:=Au) (d:=0) (n:=1) (f:=(cut 1 [vi s1.2.1])) [s1.2.1] rfl (fun|0,_=>rfl|n+1,h=>absurd h (by omega))))) .nil) (.cons rfl (BLe.typed (RowIs.cat RowIs.elems (RowIs.lit (enc:=Au) (d:=0) (n:=1) (f:=(cut 1 [vi s1.2.1])) [s1.2.1] rfl (fun|0,_=>rfl|n+1,h=>absurd h (by omega))))) .nil) ?_)
    obtain ⟨g9,hm⟩:=go1 hm
    refine RD hnt (nn 7 []) [] [(1,pI (p0.nodes.getD (Int.toNat s1.2.2) Aq).parent)] [] [] (an g9.1 (an g9.2 tv)) ?_
    exact bD ((s1.1 ++ [s1.2.1]),(p0.nodes.getD (Int.toNat s1.2.2) Aq).parent) hm Conv.eqK
   ·intro h7 hm
    refine Sk ?_
    exact bD (s1.1,s1.2.1) hm Conv.t0
 ·intro h5 hm
  refine DW.exit ?_
  refine Ao ?_
  refine Ba ?_
  refine Ai ?_
  show DW _ _ _ _ _
  refine Sq (RK hnt (nn 2 []) [(4,ow 1208 s1.1.length)] [(1208,ob0 (roI s1.1))] tv ?_)
  obtain rfl:=sj hm
  exact DW.ret (An [roI s1.1] [1208] (ow 0 s1.1.length))
abbrev o9 (ks:List Nat) (b:Bool) (RES:List Int) (sm:List Nat := []):Orc := .call 72 ks b (ow 0 RES.length) [] [roI RES] sm

abbrev c6e1 (p0:Ae):Nat×MV:=(3,pI ((p0.nodes.length:Nat):Int))
theorem Kr (p0:Ae) (RES:Bool) (hm:Ky p0=some RES):Spec Tryz.prog 48 [.p (.agg (Ag p0))] [] (pB RES) [] []:=by
 unfold Ky at hm
 refine SO Tryz.func48 rfl rfl [(0,.p (.agg (Ag p0)))] [] ?_
 intro cx hnt
 refine Sq (RK hnt (nn 2 []) [(1,rr 1008)] [(1008,bx (pm (Ag p0)))] tv ?_)
 refine Sq (RD hnt (nn 4 []) [] [(c6e1 p0)] [] [] tv ?_)
 refine Sq (Sq (DW.regJ (sl2 := [(1,rr 1008),(c6e1 p0),(14,pB ((decide (((p0.nodes.length:Nat):Int)<1))||(decide (((p0.nodes.length:Nat):Int)>64))))]) (ob2 := [(1008,bx (pm (Ag p0)))]) ?_ ?_))
 ·rcases bt (decide (((p0.nodes.length:Nat):Int)<1)) with h1|h1
  ·exact RT hnt (nn 3 (sk 2 (pT :: []))) [(14,pB true)] (an3 h1 tv) (by kernel_rfl) (.cons rfl (.of_eq (by rw [h1]; try rfl)) .nil)
  ·exact RT hnt (nn 5 (pF :: [])) [(14,pB (decide (((p0.nodes.length:Nat):Int)>64)))] (an3 h1 tv) (by kernel_rfl) (.cons rfl (.of_eq (by rw [h1]; try rfl)) .nil)
 ·refine Ar hm ?_ ?_
  ·intro h2 hm
   refine Sq (RK hnt (.no :: []) [(2,pB false)] [] tv ?_)
   obtain rfl:=sj hm
   exact DW.ret (An [] [] (pB false))
  ·intro h2 hm
   refine Sk ?_
   refine Sq (Sq (RD hnt (.no :: []) [14] [(4,pI 0)] [] [] tv ?_))
   refine Bk ?_
   obtain ⟨hc1,hm⟩:=go1 hm
   refine DW.rangeO (fun (k1:Nat) (s1:Unit)=>Af [(1,rr 1008),(c6e1 p0),(4,pI ((k1:Nat):Int))] [(1008,bx (pm (Ag p0)))]) Aq hm Conv.eqK ?_
   intro k1 s1 n1 hk1 hs1 he1
   refine Sq (Sq (RD hnt (nn 3 []) [] [(17,pB (decide (((k1:Nat):Int)<((p0.nodes.length:Nat):Int))))] [] [] tv ?_))
   refine Cv (decide (((k1:Nat):Int)<((p0.nodes.length:Nat):Int))) ?_ ?_
   ·intro h32
    have hlt1:k1<p0.nodes.length:=by have:=of_decide_eq_true h32; omega
    have hm:=hs1 hlt1
    unfold Aau at hm
    refine Sk ?_
    refine Sq (Bk ?_)
    obtain ⟨r33,hr33,hm⟩:=bo hm
    refine Sq (RD hnt (nn 2 (o7 [] true r33 :: .no :: [])) [17] [(23,pB (!r33))] [] [] (an (Ahv p0 ((k1:Nat):Int) r33 hr33) tv) ?_)
    refine Ar hm ?_ ?_
    ·intro h34 hm
     refine Sq (RK hnt (.no :: []) [(2,pB false)] [] tv ?_)
     obtain rfl:=sj hm
     exact DW.ret (An [] [] (pB false))
    ·intro h34 hm
     refine Sk ?_
     refine DW.done ?_
     show DW _ _ _ _ _
     refine RD hnt (nn 3 []) [23] [(4,pI (w64 (((k1:Nat):Int)+1)))] [] [] tv ?_
     exact jD () ⟨hlt1,hm⟩ (Conv.tp [(4,pI (w64 (((k1:Nat):Int)+1)))] [] (by kernel_rfl) (.cons rfl (.of_eq (congrArg pI (Bt hlt1 hc1))) .nil) .nil)
   ·intro h32
    have hge1:¬ k1<p0.nodes.length:=by have:=of_decide_eq_false h32; omega
    have hm:=he1 hge1
    unfold AaD at hm
    refine DW.exit ?_
    refine Ao ?_
    refine Ba ?_
    refine Ai ?_
    show DW _ _ _ _ _
    refine Sq (Sq (RD hnt (.no :: []) [4,17] [(5,pI 0)] [] [] tv ?_))
    refine Bk ?_
    obtain ⟨hc4,hm⟩:=go1 hm
    refine DW.rangeO (fun (k4:Nat) (s4:Unit)=>Af [(1,rr 1008),(c6e1 p0),(5,pI ((k4:Nat):Int))] [(1008,bx (pm (Ag p0)))]) Aq hm Conv.eqK ?_
    intro k4 s4 n4 hk4 hs4 he4
    refine Sq (Sq (RD hnt (nn 3 []) [] [(26,pB (decide (((k4:Nat):Int)<((p0.nodes.length:Nat):Int))))] [] [] tv ?_))
    refine Cv (decide (((k4:Nat):Int)<((p0.nodes.length:Nat):Int))) ?_ ?_
    ·intro h49
     have hlt4:k4<p0.nodes.length:=by have:=of_decide_eq_true h49; omega
     have hm:=hs4 hlt4
     unfold Aaz at hm
     refine Sk ?_
     refine Sq (Bk ?_)
     obtain ⟨r50,hr50,hm⟩:=bo hm
     refine Sq (RD hnt (nn 7 (o9 [] true r50::nn 2 [])) [26] [(38,pB (decide (((r50.length:Nat):Int)>9)))] [] [] (an (nn0 k4) (an (ltc hlt4) (an (AeU p0 (p0.nodes.getD k4 Aq).id r50 hr50) tv))) ?_)
     refine Ar hm ?_ ?_
     ·intro h51 hm
      refine Sq (RK hnt (.no :: []) [(2,pB false)] [] tv ?_)
      obtain rfl:=sj hm
      exact DW.ret (An [] [] (pB false))
     ·intro h51 hm
      refine Sk ?_
      refine DW.done ?_
      show DW _ _ _ _ _
      refine RD hnt (nn 3 []) [38] [(5,pI (w64 (((k4:Nat):Int)+1)))] [] [] tv ?_
      exact jD () ⟨hlt4,hm⟩ (Conv.tp [(5,pI (w64 (((k4:Nat):Int)+1)))] [] (by kernel_rfl) (.cons rfl (.of_eq (congrArg pI (Bt hlt4 hc4))) .nil) .nil)
    ·intro h49
     have hge4:¬ k4<p0.nodes.length:=by have:=of_decide_eq_false h49; omega
     have hm:=he4 hge4
     unfold AaU at hm
     refine DW.exit ?_
     refine Ao ?_
     refine Ba ?_
     refine Ai ?_
     show DW _ _ _ _ _
     obtain ⟨g52,hm⟩:=go1 hm
     refine Sq ?_
     refine Jn (ι:=Bool) (fun (y7:Bool)=>Af [(2,pB y7)] []) (fun y7=>Sp y7=some RES) ?_ ?_
     ·intro y7 hm
      unfold Sp at hm
      obtain rfl:=sj hm
      exact DW.ret (An [] [] (pB y7))
     ·rcases bt (decide (p0.next>(p0.nodes.getD (Int.toNat (w64 (((p0.nodes.length:Nat):Int)-1))) Aq).id)) with h53|h53
      ·replace hm:=Az h53 hm
       refine RK hnt (nn 14 (pT :: .no :: [])) [(2,pB (decide (p0.next≤2147483648)))] [] (an g52.1 (an g52.2 (an4 h53 tv))) ?_
       exact jD (decide (p0.next≤2147483648)) hm .refl
      ·replace hm:=Ay h53 hm
       refine RK hnt (nn 11 (sk 3 (pF :: .no :: []))) [(2,pB false)] [] (an g52.1 (an g52.2 (an4 h53 tv))) ?_
       exact jD false hm .refl
abbrev o6 (ks:List Nat) (b:Bool) (RES:Bool) (sm:List Nat := []):Orc := .call 48 ks b (pB RES) [] [] sm

theorem AhC (p0:Ae) (p1:Int) (RES:Ax×Bool) (hm:Zb p0 p1=some RES):Spec Tryz.prog 76 [.p (.agg (Ag p0)),pI p1] [] (.p (.tup [.agg (Cc RES.1),vb RES.2])) [] []:=by
 unfold Zb at hm
 refine SO Tryz.func76 rfl rfl [(0,.p (.agg (Ag p0))),(1,pI p1)] [] ?_
 intro cx hnt
 refine Sq (RK hnt (nn 3 []) [(1,pI p1),(2,rr 1016),(4,rr 1032)] [(1016,bx (pm (Ag p0))),(1032,bx [pI 0,pI 0,pS ByteArray.empty,pI 0,pI 0,pI 0])] tv ?_)
 obtain ⟨r1,hr1,hm⟩:=bo hm
 refine Sq (Sq (RD hnt (.no::o6 [] true r1 :: .no :: []) [] [(9,pB (!r1))] [] [] (an (Kr p0 r1 hr1) tv) ?_))
 refine Ar hm ?_ ?_
 ·intro h2 hm
  refine Sq (RD hnt (nn 3 []) [1,2,9] [(5,pB false)] [1016] [] tv ?_)
  obtain rfl:=sj hm
  exact DW.ret (An [] [] (.p (.tup [.agg [vi 0,vi 0,vs ByteArray.empty,vi 0,vi 0,vi 0],vb false])))
 ·intro h2 hm
  refine Sk ?_
  refine Sq (Sq (RD hnt (.no :: []) [9] [(6,pI 0)] [] [] tv ?_))
  refine Bk ?_
  obtain ⟨hc1,hm⟩:=go1 hm
  refine DW.rangeO (fun (k1:Nat) (s1:Unit)=>Af [(1,pI p1),(2,rr 1016),(4,rr 1032),(6,pI ((k1:Nat):Int))] [(1016,bx (pm (Ag p0))),(1032,bx [pI 0,pI 0,pS ByteArray.empty,pI 0,pI 0,pI 0])]) Aq hm Conv.eqK ?_
  intro k1 s1 n1 hk1 hs1 he1
  refine Sq (Sq (RD hnt (nn 5 []) [] [(15,pB (decide (((k1:Nat):Int)<((p0.nodes.length:Nat):Int))))] [] [] tv ?_))
  refine Cv (decide (((k1:Nat):Int)<((p0.nodes.length:Nat):Int))) ?_ ?_
  ·intro h11
   have hlt1:k1<p0.nodes.length:=by have:=of_decide_eq_true h11; omega
   have hm:=hs1 hlt1
   unfold Afk at hm
   refine Sk ?_
   refine Sq (Bk ?_)
   refine Sq (RD hnt (nn 8 []) [15] [(25,pB ((p0.nodes.getD k1 Aq).id==p1))] [] [] (an (nn0 k1) (an (ltc hlt1) tv)) ?_)
   refine Ar hm ?_ ?_
   ·intro h12 hm
    refine Sq (RK hnt (nn 7 []) [(4,rr 1032),(5,pB true)] [(1032,bx (pm (Cc (p0.nodes.getD k1 Aq))))] (an (nn0 k1) (an (ltc hlt1) tv)) ?_)
    obtain rfl:=sj hm
    exact DW.ret (An [] [] (.p (.tup [.agg (Cc (p0.nodes.getD k1 Aq)),vb true])))
   ·intro h12 hm
    refine Sk ?_
    refine DW.done ?_
    show DW _ _ _ _ _
    refine RD hnt (nn 3 []) [25] [(6,pI (w64 (((k1:Nat):Int)+1)))] [] [] tv ?_
    exact jD () ⟨hlt1,hm⟩ (Conv.tp [(6,pI (w64 (((k1:Nat):Int)+1)))] [] (by kernel_rfl) (.cons rfl (.of_eq (congrArg pI (Bt hlt1 hc1))) .nil) .nil)
  ·intro h11
   have hge1:¬ k1<p0.nodes.length:=by have:=of_decide_eq_false h11; omega
   have hm:=he1 hge1
   unfold Afj at hm
   refine DW.exit ?_
   refine Ao ?_
   refine Ba ?_
   refine Ai ?_
   show DW _ _ _ _ _
   refine Sq (RD hnt (nn 3 []) [1,2,6,15] [(5,pB false)] [1016] [] tv ?_)
   obtain rfl:=sj hm
   exact DW.ret (An [] [] (.p (.tup [.agg [vi 0,vi 0,vs ByteArray.empty,vi 0,vi 0,vi 0],vb false])))
abbrev o11 (ks:List Nat) (b:Bool) (RES:Ax×Bool) (sm:List Nat := []):Orc := .call 76 ks b (.p (.tup [.agg (Cc RES.1),vb RES.2])) [] [] sm

theorem Wr (p0:Ae) (p1:Int) (RES:Bool) (hm:Td p0 p1=some RES):Spec Tryz.prog 50 [.p (.agg (Ag p0)),pI p1] [] (pB RES) [] []:=by
 unfold Td at hm
 refine SO Tryz.func50 rfl rfl [(0,.p (.agg (Ag p0))),(1,pI p1)] [] ?_
 intro cx hnt
 refine Sq (RK hnt (nn 2 []) [(1,pI p1),(2,rr 1016)] [(1016,bx (pm (Ag p0)))] tv ?_)
 obtain ⟨r1,hr1,hm⟩:=bo hm
 refine Sq (RK hnt (nn 2 (o11 [] true r1::nn 6 [])) [(6,pB r1.2)] [] (an (AhC p0 p1 r1 hr1) tv) ?_)
 refine Sq (RK hnt (nn 2 []) [(4,pB r1.2)] [] tv ?_)
 obtain rfl:=sj hm
 exact DW.ret (An [] [] (pB r1.2))
abbrev o10 (ks:List Nat) (b:Bool) (RES:Bool) (sm:List Nat := []):Orc := .call 50 ks b (pB RES) [] [] sm

theorem Yk (p0:Ae) (p1:Int) (RES:List Int) (hm:Nd p0 p1=some RES):Spec Tryz.prog 43 [.p (.agg (Ag p0)),pI p1] [] (ow 0 RES.length) [] [roI RES]:=by
 unfold Nd at hm
 refine SO Tryz.func43 rfl rfl [(0,.p (.agg (Ag p0))),(1,pI p1)] [] ?_
 intro cx hnt
 refine Sq (RK hnt (nn 2 []) [(1,pI p1),(2,rr 1016)] [(1016,bx (pm (Ag p0)))] tv ?_)
 obtain ⟨r1,hr1,hm⟩:=bo hm
 refine Sq (Sq (RD hnt (nn 2 (o10 [] true r1 :: .no :: [])) [] [(8,pB (!r1))] [] [] (an (Wr p0 p1 r1 hr1) tv) ?_))
 refine Ar hm ?_ ?_
 ·intro h2 hm
  refine Sq (RK hnt (.no :: []) [(4,.p (.sl .nil 0 0 (fun _ => [])))] [] tv ?_)
  refine DW.cv [] [(4,ow 100000 0)] [] [(100000,ob0 (roI []))] (Conv.ads [(.s 4,100000,1,elems Au 0 [])]) ?_
  obtain rfl:=sj hm
  exact DW.ret (An [roI []] [100000] (ow 0 0))
 ·intro h2 hm
  refine Sk ?_
  obtain ⟨r3,hr3,hm⟩:=bo hm
  refine Sq (RK hnt (nn 2 (o9 [] true r3 :: .no :: [])) [(4,ow 1088 r3.length)] [(1088,ob0 (roI r3))] (an (AeU p0 p1 r3 hr3) tv) ?_)
  obtain rfl:=sj hm
  exact DW.ret (An [roI r3] [1088] (ow 0 r3.length))
abbrev o13 (ks:List Nat) (b:Bool) (RES:List Int) (sm:List Nat := []):Orc := .call 43 ks b (ow 0 RES.length) [] [roI RES] sm

theorem Xt (p0:Ae) (p1:Int) (RES:Int) (hm:Wl p0 p1=some RES):Spec Tryz.prog 51 [.p (.agg (Ag p0)),pI p1] [] (pI RES) [] []:=by
 unfold Wl at hm
 refine SO Tryz.func51 rfl rfl [(0,.p (.agg (Ag p0))),(1,pI p1)] [] ?_
 intro cx hnt
 refine Sq (RK hnt (nn 2 []) [(1,pI p1),(2,rr 1016)] [(1016,bx (pm (Ag p0)))] tv ?_)
 obtain ⟨r1,hr1,hm⟩:=bo hm
 refine Sq (RK hnt (nn 2 (o13 [] true r1::nn 3 [])) [(4,pI (w64 (((r1.length:Nat):Int)-1)))] [] (an (Yk p0 p1 r1 hr1) tv) ?_)
 obtain rfl:=sj hm
 exact DW.ret (An [] [] (pI (w64 (((r1.length:Nat):Int)-1))))
abbrev o12 (ks:List Nat) (b:Bool) (RES:Int) (sm:List Nat := []):Orc := .call 51 ks b (pI RES) [] [] sm

theorem Ahu (p0:Ae) (RES:Ae) (hm:Zh p0=some RES):Spec Tryz.prog 52 [.p (.agg (Ag p0))] [] (.agg [ow 0 RES.nodes.length,pI RES.next]) [] [Dp RES.nodes]:=by
 unfold Zh at hm
 refine SO Tryz.func52 rfl rfl [(0,.p (.agg (Ag p0)))] [] ?_
 intro cx hnt
 refine Sq (RK hnt (nn 2 []) [(1,rr 1008),(2,rr 1016)] [(1008,bx (pm (Ag p0))),(1016,bx [.p (.sl .nil 0 0 (fun _ => [])),pI 0])] tv ?_)
 obtain ⟨g1,hm⟩:=go1 hm
 refine Sq (RN hnt (nn 7 []) [(2,rr 1016)] [(1016,bx [ow 1040 p0.nodes.length,pI p0.next]),(1040,ob0 (Dp p0.nodes))] [] [(1040,.row 6 p0.nodes.length (Zc p0.nodes))] (an (by omega:p0.nodes.length*56≤140737488355328) tv) (by kernel_rfl) .nil (.cons rfl (BLe.typed RowIs.elems) .nil) ?_)
 obtain rfl:=sj hm
 exact DW.ret (An [Dp p0.nodes] [1040] (.agg [ow 0 p0.nodes.length,pI p0.next]))
abbrev o14 (ks:List Nat) (b:Bool) (RES:Ae) (sm:List Nat := []):Orc := .call 52 ks b (.agg [ow 0 RES.nodes.length,pI RES.next]) [] [Dp RES.nodes] sm

abbrev c5e1 (p0:Ae) (p1:Int) (p2:ByteArray):=({ id:=p0.next,parent:=p1,name:=p2,control:=0,kind:=0,owner:=0 } : Ax)
abbrev c5e2 : Nat×Obj:=(1048,bx [.p (.sl .nil 0 0 (fun _ => [])),pI 0])
abbrev c5e3 (p0:Ae):Nat×Obj:=(1024,bx (pm (Ag p0)))
abbrev c5e4 : Nat×Obj:=(1048,bx [ow 100000 0,pI 0])
theorem AaK (p0:Ae) (p1:Int) (p2:ByteArray) (RES:Ae×Int×Int) (hm:Qp p0 p1 p2=some RES):Spec Tryz.prog 23 [.p (.agg (Ag p0)),pI p1,pS p2] [] (.tup [.agg [ow 0 RES.1.nodes.length,pI RES.1.next],pI RES.2.1,pI RES.2.2]) [] [Dp RES.1.nodes]:=by
 unfold Qp at hm
 refine SO Tryz.func23 rfl rfl [(0,.p (.agg (Ag p0))),(1,pI p1),(2,pS p2)] [] ?_
 intro cx hnt
 refine Sq (RD hnt (nn 4 []) [0] [(3,rr 1024),(6,rr 1048)] [] [(c5e3 p0),(c5e2)] tv ?_)
 obtain ⟨r1,hr1,hm⟩:=bo hm
 refine Sq (Sq ?_)
 refine Jn (ι:=Bool) (fun (y1:Bool)=>Af [(1,pI p1),(2,pS p2),(3,rr 1024),(6,rr 1048),(18,pB y1)] [(c5e3 p0),(c5e2)]) (fun y1=>(Wn p0 p1 p2) y1=some RES) ?_ ?_
 ·intro y1 hm
  unfold Wn at hm
  refine Ar hm ?_ ?_
  ·intro h4 hm
   refine Sq (RD hnt (nn 4 []) [1,2,3,18] [(7,pI 0),(8,pI 1)] [1024] [] tv ?_)
   refine DW.cv [] [] [] [(c5e4),(100000,ob0 (Dp []))] (Conv.ads [(.o 1048 0,100000,6,elems Cc Aq [])]) ?_
   obtain rfl:=sj hm
   exact DW.ret (An [Dp []] [100000] (.tup [.agg [ow 0 0,pI 0],pI 0,pI 1]))
  ·intro h4 hm
   refine Sk ?_
   obtain ⟨r5,hr5,hm⟩:=bo hm
   refine Sq (Sq (RD hnt (nn 2 (o10 [] true r5 :: .no :: [])) [18] [(23,pB (!r5))] [] [] (an (Wr p0 p1 r5 hr5) tv) ?_))
   refine Ar hm ?_ ?_
   ·intro h6 hm
    refine Sq (RD hnt (nn 4 []) [1,2,3,23] [(7,pI 0),(8,pI 4)] [1024] [] tv ?_)
    refine DW.cv [] [] [] [(c5e4),(100000,ob0 (Dp []))] (Conv.ads [(.o 1048 0,100000,6,elems Cc Aq [])]) ?_
    obtain rfl:=sj hm
    exact DW.ret (An [Dp []] [100000] (.tup [.agg [ow 0 0,pI 0],pI 0,pI 4]))
   ·intro h6 hm
    refine Sk ?_
    refine Sq (Sq (RD hnt (.no :: []) [23] [(9,pI 0)] [] [] tv ?_))
    refine Bk ?_
    obtain ⟨hc1,hm⟩:=go1 hm
    refine DW.rangeO (fun (k1:Nat) (s1:Unit)=>Af [(1,pI p1),(2,pS p2),(3,rr 1024),(6,rr 1048),(9,pI ((k1:Nat):Int))] [(c5e3 p0),(c5e2)]) Aq hm Conv.eqK ?_
    intro k1 s1 n1 hk1 hs1 he1
    refine Sq (Sq (RD hnt (nn 5 []) [] [(29,pB (decide (((k1:Nat):Int)<((p0.nodes.length:Nat):Int))))] [] [] tv ?_))
    refine Cv (decide (((k1:Nat):Int)<((p0.nodes.length:Nat):Int))) ?_ ?_
    ·intro h29
     have hlt1:k1<p0.nodes.length:=by have:=of_decide_eq_true h29; omega
     have hm:=hs1 hlt1
     unfold AcF at hm
     refine Sk ?_
     refine Sq (Bk ?_)
     refine Sq (DW.regJ (sl2 := [(1,pI p1),(2,pS p2),(3,rr 1024),(6,rr 1048),(9,pI ((k1:Nat):Int)),(49,pB (((p0.nodes.getD k1 Aq).parent==p1)&&(Fi (p0.nodes.getD k1 Aq).name p2)))]) (ob2 := [(c5e3 p0),(c5e2)]) ?_ ?_)
     ·rcases bt ((p0.nodes.getD k1 Aq).parent==p1) with h30|h30
      ·exact RT hnt (nn 17 (pT :: [])) [(49,pB (Fi (p0.nodes.getD k1 Aq).name p2))] (an (nn0 k1) (an (ltc hlt1) (an4 h30 (an (nn0 k1) (an (ltc hlt1) (an5 h30 tv)))))) (by kernel_rfl) (.cons rfl (.of_eq (by rw [h30]; try rfl)) .nil)
      ·exact RT hnt (nn 9 (sk 8 (pF :: []))) [(49,pB false)] (an (nn0 k1) (an (ltc hlt1) (an3 h30 (an6 h30 tv)))) (by kernel_rfl) (.cons rfl (.of_eq (by rw [h30]; try rfl)) .nil)
     ·refine Ar hm ?_ ?_
      ·intro h31 hm
       refine Sq (RD hnt (nn 4 []) [1,2,3,9,49] [(7,pI 0),(8,pI 5)] [1024] [] tv ?_)
       refine DW.cv [] [] [] [(c5e4),(100000,ob0 (Dp []))] (Conv.ads [(.o 1048 0,100000,6,elems Cc Aq [])]) ?_
       obtain rfl:=sj hm
       exact DW.ret (An [Dp []] [100000] (.tup [.agg [ow 0 0,pI 0],pI 0,pI 5]))
      ·intro h31 hm
       refine Sk ?_
       refine DW.done ?_
       show DW _ _ _ _ _
       refine RD hnt (nn 3 []) [49] [(9,pI (w64 (((k1:Nat):Int)+1)))] [] [] tv ?_
       exact jD () ⟨hlt1,hm⟩ (Conv.tp [(9,pI (w64 (((k1:Nat):Int)+1)))] [] (by kernel_rfl) (.cons rfl (.of_eq (congrArg pI (Bt hlt1 hc1))) .nil) .nil)
    ·intro h29
     have hge1:¬ k1<p0.nodes.length:=by have:=of_decide_eq_false h29; omega
     have hm:=he1 hge1
     unfold AcJ at hm
     refine DW.exit ?_
     refine Ao ?_
     refine Ba ?_
     refine Ai ?_
     show DW _ _ _ _ _
     obtain ⟨r32,hr32,hm⟩:=bo hm
     refine Sq (Sq ?_)
     refine Jn (ι:=Bool) (fun (y6:Bool)=>Af [(1,pI p1),(2,pS p2),(3,rr 1024),(6,rr 1048),(65,pB y6)] [(c5e3 p0),(c5e2)]) (fun y6=>(Qt p0 p1 p2) y6=some RES) ?_ ?_
     ·intro y6 hm
      unfold Qt at hm
      refine Ar hm ?_ ?_
      ·intro h35 hm
       refine Sq (RD hnt (nn 4 []) [1,2,3,65] [(7,pI 0),(8,pI 7)] [1024] [] tv ?_)
       refine DW.cv [] [] [] [(c5e4),(100000,ob0 (Dp []))] (Conv.ads [(.o 1048 0,100000,6,elems Cc Aq [])]) ?_
       obtain rfl:=sj hm
       exact DW.ret (An [Dp []] [100000] (.tup [.agg [ow 0 0,pI 0],pI 0,pI 7]))
      ·intro h35 hm
       refine Sk ?_
       obtain ⟨r36,hr36,hm⟩:=bo hm
       refine Sq (RD hnt (.no::o14 [] true r36::nn 2 []) [65] [(10,rr 1080)] [] [(1080,bx [ow 1544 r36.nodes.length,pI r36.next]),(1544,ob0 (Dp r36.nodes))] (an (Ahu p0 r36 hr36) tv) ?_)
       obtain ⟨g37,hm⟩:=go1 hm
       refine Sq (RN hnt (nn 11 []) [(3,rr 1024),(6,rr 1048),(10,rr 1080)] [(c5e3 p0),(c5e2),(1080,bx [ow 1544 (r36.nodes ++ [(c5e1 p0 p1 p2)]).length,pI r36.next]),(1544,ob0 (Dp (r36.nodes ++ [(c5e1 p0 p1 p2)])))] [] [(1080,.box [ow 1544 (r36.nodes.length+1),pI r36.next]),(1544,.row 6 (r36.nodes.length+1) (De r36.nodes.length (Zc r36.nodes) (cut 6 [vi p0.next,vi p1,vs p2,vi 0,vi 0,vi 0])))] (an (by omega:(r36.nodes.length+1)*56≤140737488355328) tv) (by kernel_rfl) .nil (.cons rfl (.box (.cons (MLe.ownLen (enc:=Cc) (d:=Aq) (f:=(De r36.nodes.length (Zc r36.nodes) (cut 6 [vi p0.next,vi p1,vs p2,vi 0,vi 0,vi 0]))) (RowIs.cat RowIs.elems (RowIs.lit (enc:=Cc) (d:=Aq) (n:=1) (f:=(cut 6 [vi p0.next,vi p1,vs p2,vi 0,vi 0,vi 0])) [(c5e1 p0 p1 p2)] rfl (fun|0,_=>rfl|n+1,h=>absurd h (by omega))))) (.cons .rfl .nil))) (.cons rfl (BLe.typed (RowIs.cat RowIs.elems (RowIs.lit (enc:=Cc) (d:=Aq) (n:=1) (f:=(cut 6 [vi p0.next,vi p1,vs p2,vi 0,vi 0,vi 0])) [(c5e1 p0 p1 p2)] rfl (fun|0,_=>rfl|n+1,h=>absurd h (by omega))))) .nil)) ?_)
       refine Sq (RD hnt (nn 5 []) [] [] [] [(1080,bx [ow 1544 (r36.nodes ++ [(c5e1 p0 p1 p2)]).length,pI (w64 (r36.next+1))])] tv ?_)
       refine Sq (RD hnt (nn 6 []) [3,10] [(7,pI p0.next),(8,pI 0)] [1024,1080] [(1048,bx [ow 1544 (r36.nodes ++ [(c5e1 p0 p1 p2)]).length,pI (w64 (r36.next+1))])] tv ?_)
       obtain rfl:=sj hm
       exact DW.ret (An [Dp (r36.nodes ++ [(c5e1 p0 p1 p2)])] [1544] (.tup [.agg [ow 0 (r36.nodes ++ [(c5e1 p0 p1 p2)]).length,pI (w64 (r36.next+1))],pI p0.next,pI 0]))
     ·rcases bt (decide (r32≥8)) with h33|h33
      ·replace hm:=Az h33 hm
       refine RD hnt (nn 2 (o12 [] true r32::nn 2 (sk 4 (pT :: .no::sk 3 (pT :: []))))) [9,29] [(65,pB true)] [] [] (an (Xt p0 p1 r32 hr32) (an5 h33 (an4 tt tv))) ?_
       exact jD true hm Conv.eqK
      ·replace hm:=Ay h33 hm
       rcases bt (decide (((p0.nodes.length:Nat):Int)≥64)) with h34|h34
       ·replace hm:=Az h34 hm
        refine RD hnt (nn 2 (o12 [] true r32::nn 6 (pF :: .no::sk 3 (pT :: [])))) [9,29] [(65,pB true)] [] [] (an (Xt p0 p1 r32 hr32) (an5 h33 (an4 h34 tv))) ?_
        exact jD true hm Conv.eqK
       ·replace hm:=Ay h34 hm
        refine RD hnt (nn 2 (o12 [] true r32::nn 6 (pF::nn 4 (pF :: [])))) [9,29] [(65,pB (decide (p0.next>2147483647)))] [] [] (an (Xt p0 p1 r32 hr32) (an5 h33 (an4 h34 tv))) ?_
        exact jD (decide (p0.next>2147483647)) hm Conv.eqK
 ·rcases bt (!r1) with h2|h2
  ·replace hm:=Az h2 hm
   refine RD hnt (.no::o6 [] true r1::nn 2 (sk 3 (pT :: []))) [] [(18,pB true)] [] [] (an (Kr p0 r1 hr1) (an4 h2 tv)) ?_
   exact jD true hm Conv.eqK
  ·replace hm:=Ay h2 hm
   obtain ⟨r3,hr3,hm⟩:=bo hm
   refine RD hnt (.no::o6 [] true r1::nn 3 (o8 [] true r3 :: .no::pF :: [])) [] [(18,pB (!r3))] [] [] (an (Kr p0 r1 hr1) (an2 h2 (an (Acv p2 r3 hr3) (an2 h2 tv)))) ?_
   exact jD (!r3) hm Conv.eqK
abbrev o5 (ks:List Nat) (b:Bool) (RES:Ae×Int×Int) (sm:List Nat := []):Orc := .call 23 ks b (.tup [.agg [ow 0 RES.1.nodes.length,pI RES.1.next],pI RES.2.1,pI RES.2.2]) [] [Dp RES.1.nodes] sm

abbrev c18e1 : Nat×Obj:=(1016,bx [pI 0,pI 0,pI 0,pI 0,pI 0,pI 0,pI 0,.p (.sl .nil 0 0 (fun _ => [])),.p (.sl .nil 0 0 (fun _ => [])),pI 0,pI 0,pI 0,pI 0,pI 0,pI 0,pB false,.p (.sl .nil 0 0 (fun _ => []))])
theorem Acw (p0:At) (RES:At) (hm:Ws p0=some RES):Spec Tryz.prog 73 [.p (.agg (Dn p0))] [] (.agg [pI RES.pidsMax,pI RES.weight,pI RES.quota,pI RES.period,pI RES.burst,pI RES.clampMin,pI RES.clampMax,ow 0 RES.cpus.length,ow 1 RES.mems.length,pI RES.partition,pI RES.memory.min,pI RES.memory.low,pI RES.memory.high,pI RES.memory.max,pI RES.memory.swapMax,pB RES.memory.together,ow 2 RES.devices.length]) [] [roI RES.cpus,roI RES.mems,Aj RES.devices]:=by
 unfold Ws at hm
 refine SO Tryz.func73 rfl rfl [(0,.p (.agg (Dn p0)))] [] ?_
 intro cx hnt
 refine Sq (RK hnt (nn 2 []) [(1,rr 1008),(2,rr 1016)] [(1008,bx (pm (Dn p0))),(c18e1)] tv ?_)
 obtain ⟨g1,g2,hm⟩:=go2 hm
 refine Sq (RN hnt (nn 10 []) [(1,rr 1008),(2,rr 1016)] [(1008,bx [pI p0.pidsMax,pI p0.weight,pI p0.quota,pI p0.period,pI p0.burst,pI p0.clampMin,pI p0.clampMax,ow 1040 p0.cpus.length,ow 1064 p0.mems.length,pI p0.partition,pI p0.memory.min,pI p0.memory.low,pI p0.memory.high,pI p0.memory.max,pI p0.memory.swapMax,pB p0.memory.together,.p (Db p0.devices)]),(c18e1),(1040,ob0 (roI p0.cpus)),(1064,ob0 (roI p0.mems))] [] [(1040,.row 1 p0.cpus.length (elI p0.cpus)),(1064,.row 1 p0.mems.length (elI p0.mems))] (an (by omega:p0.cpus.length*8≤140737488355328) (an (by omega:p0.mems.length*8≤140737488355328) tv)) (by kernel_rfl) .nil (.cons rfl (BLe.typed RowIs.elems) (.cons rfl (BLe.typed RowIs.elems) .nil)) ?_)
 obtain ⟨g3,hm⟩:=go1 hm
 refine Sq (RN hnt (nn 5 []) [(1,rr 1008),(2,rr 1016)] [(1008,bx [pI p0.pidsMax,pI p0.weight,pI p0.quota,pI p0.period,pI p0.burst,pI p0.clampMin,pI p0.clampMax,ow 1040 p0.cpus.length,ow 1064 p0.mems.length,pI p0.partition,pI p0.memory.min,pI p0.memory.low,pI p0.memory.high,pI p0.memory.max,pI p0.memory.swapMax,pB p0.memory.together,ow 1104 p0.devices.length]),(c18e1),(1040,ob0 (roI p0.cpus)),(1064,ob0 (roI p0.mems)),(1104,ob0 (Aj p0.devices))] [] [(1104,.row 7 p0.devices.length (Uz p0.devices))] (an (by omega:p0.devices.length*56≤140737488355328) tv) (by kernel_rfl) .nil (.cons rfl (BLe.typed RowIs.elems) .nil) ?_)
 refine Sq (RD hnt (nn 2 []) [1] [] [1008] [(1016,bx [pI p0.pidsMax,pI p0.weight,pI p0.quota,pI p0.period,pI p0.burst,pI p0.clampMin,pI p0.clampMax,ow 1040 p0.cpus.length,ow 1064 p0.mems.length,pI p0.partition,pI p0.memory.min,pI p0.memory.low,pI p0.memory.high,pI p0.memory.max,pI p0.memory.swapMax,pB p0.memory.together,ow 1104 p0.devices.length])] tv ?_)
 obtain rfl:=sj hm
 exact DW.ret (An [roI p0.cpus,roI p0.mems,Aj p0.devices] [1040,1064,1104] (.agg [pI p0.pidsMax,pI p0.weight,pI p0.quota,pI p0.period,pI p0.burst,pI p0.clampMin,pI p0.clampMax,ow 0 p0.cpus.length,ow 1 p0.mems.length,pI p0.partition,pI p0.memory.min,pI p0.memory.low,pI p0.memory.high,pI p0.memory.max,pI p0.memory.swapMax,pB p0.memory.together,ow 2 p0.devices.length]))
abbrev o18 (ks:List Nat) (b:Bool) (RES:At) (sm:List Nat := []):Orc := .call 73 ks b (.agg [pI RES.pidsMax,pI RES.weight,pI RES.quota,pI RES.period,pI RES.burst,pI RES.clampMin,pI RES.clampMax,ow 0 RES.cpus.length,ow 1 RES.mems.length,pI RES.partition,pI RES.memory.min,pI RES.memory.low,pI RES.memory.high,pI RES.memory.max,pI RES.memory.swapMax,pB RES.memory.together,ow 2 RES.devices.length]) [] [roI RES.cpus,roI RES.mems,Aj RES.devices] sm

theorem Vs (RES:Ih) (hm:Pe=some RES):Spec Tryz.prog 55 [] [] (.p (.agg (Mk RES))) [] []:=by
 unfold Pe at hm
 refine SO Tryz.func55 rfl rfl [] [] ?_
 intro cx hnt
 refine Sq (RK hnt (.no :: []) [(0,rr 1000)] [(1000,bx [pI 0,pI 0,pI 0,pI 0,pI 0,pB false])] tv ?_)
 refine Sq (RK hnt (nn 2 []) [(0,rr 1000)] [(1000,bx [pI 0,pI 0,pI 4611686018427387904,pI 4611686018427387904,pI 4611686018427387904,pB false])] tv ?_)
 obtain rfl:=sj hm
 exact DW.ret (An [] [] (.p (.agg [vi 0,vi 0,vi 4611686018427387904,vi 4611686018427387904,vi 4611686018427387904,vb false])))
abbrev o20 (ks:List Nat) (b:Bool) (RES:Ih) (sm:List Nat := []):Orc := .call 55 ks b (.p (.agg (Mk RES))) [] [] sm

theorem Un (RES:List Bf) (hm:On=some RES):Spec Tryz.prog 56 [] [] (ow 0 RES.length) [] [Aj RES]:=by
 unfold On at hm
 refine SO Tryz.func56 rfl rfl [] [] ?_
 intro cx hnt
 refine Sq (RK hnt (.no :: []) [] [] tv ?_)
 refine Sq (RK hnt (.no :: []) [(0,.p (.sl .nil 0 0 (fun _ => [])))] [] tv ?_)
 refine DW.cv [] [(0,ow 100000 0)] [] [(100000,ob0 (Aj []))] (Conv.ads [(.s 0,100000,7,elems Dx Lq [])]) ?_
 obtain rfl:=sj hm
 exact DW.ret (An [Aj []] [100000] (ow 0 0))
abbrev o21 (ks:List Nat) (b:Bool) (RES:List Bf) (sm:List Nat := []):Orc := .call 56 ks b (ow 0 RES.length) [] [Aj RES] sm

theorem Pc (RES:At) (hm:Nx=some RES):Spec Tryz.prog 29 [] [] (.agg [pI RES.pidsMax,pI RES.weight,pI RES.quota,pI RES.period,pI RES.burst,pI RES.clampMin,pI RES.clampMax,ow 0 RES.cpus.length,ow 1 RES.mems.length,pI RES.partition,pI RES.memory.min,pI RES.memory.low,pI RES.memory.high,pI RES.memory.max,pI RES.memory.swapMax,pB RES.memory.together,ow 2 RES.devices.length]) [] [roI RES.cpus,roI RES.mems,Aj RES.devices]:=by
 unfold Nx at hm
 refine SO Tryz.func29 rfl rfl [] [] ?_
 intro cx hnt
 refine Sq (RK hnt (.no :: []) [(0,rr 1000)] [(1000,bx [pI 0,pI 0,pI 0,pI 0,pI 0,pI 0,pI 0,.p (.sl .nil 0 0 (fun _ => [])),.p (.sl .nil 0 0 (fun _ => [])),pI 0,pI 0,pI 0,pI 0,pI 0,pI 0,pB false,.p (.sl .nil 0 0 (fun _ => []))])] tv ?_)
 obtain ⟨r1,hr1,hm⟩:=bo hm
 obtain ⟨r2,hr2,hm⟩:=bo hm
 refine Sq (RK hnt (o20 [] true r1::o21 [] true r2::nn 2 []) [(0,rr 1000)] [(1000,bx [pI 4611686018427387904,pI 100,pI 4611686018427387904,pI 100000,pI 0,pI 0,pI 10000,.p (.sl .nil 0 0 (fun _ => [])),.p (.sl .nil 0 0 (fun _ => [])),pI 0,pI r1.min,pI r1.low,pI r1.high,pI r1.max,pI r1.swapMax,pB r1.together,ow 1016 r2.length]),(1016,ob0 (Aj r2))] (an (Vs r1 hr1) (an (Un r2 hr2) tv)) ?_)
 refine DW.cv [] [] [] [(1000,bx [pI 4611686018427387904,pI 100,pI 4611686018427387904,pI 100000,pI 0,pI 0,pI 10000,ow 100000 0,ow 100001 0,pI 0,pI r1.min,pI r1.low,pI r1.high,pI r1.max,pI r1.swapMax,pB r1.together,ow 1016 r2.length]),(100000,ob0 (roI [])),(100001,ob0 (roI []))] (Conv.ads [(.o 1000 7,100000,1,elems Au 0 []),(.o 1000 8,100001,1,elems Au 0 [])]) ?_
 obtain rfl:=sj hm
 exact DW.ret (An [roI [],roI [],Aj r2] [100000,100001,1016] (.agg [pI 4611686018427387904,pI 100,pI 4611686018427387904,pI 100000,pI 0,pI 0,pI 10000,ow 0 0,ow 1 0,pI 0,pI r1.min,pI r1.low,pI r1.high,pI r1.max,pI r1.swapMax,pB r1.together,ow 2 r2.length]))
abbrev o19 (ks:List Nat) (b:Bool) (RES:At) (sm:List Nat := []):Orc := .call 29 ks b (.agg [pI RES.pidsMax,pI RES.weight,pI RES.quota,pI RES.period,pI RES.burst,pI RES.clampMin,pI RES.clampMax,ow 0 RES.cpus.length,ow 1 RES.mems.length,pI RES.partition,pI RES.memory.min,pI RES.memory.low,pI RES.memory.high,pI RES.memory.max,pI RES.memory.swapMax,pB RES.memory.together,ow 2 RES.devices.length]) [] [roI RES.cpus,roI RES.mems,Aj RES.devices] sm

abbrev c17e1 : Nat×Obj:=(1032,bx [pI 0,pI 0,pI 0,pI 0,pI 0,pI 0,pI 0,.p (.sl .nil 0 0 (fun _ => [])),.p (.sl .nil 0 0 (fun _ => [])),pI 0,pI 0,pI 0,pI 0,pI 0,pI 0,pB false,.p (.sl .nil 0 0 (fun _ => []))])
theorem Rg (p0:List Ab) (p1:Int) (RES:At) (hm:Jl p0 p1=some RES):Spec Tryz.prog 45 [.p (Ah p0),pI p1] [] (.agg [pI RES.pidsMax,pI RES.weight,pI RES.quota,pI RES.period,pI RES.burst,pI RES.clampMin,pI RES.clampMax,ow 0 RES.cpus.length,ow 1 RES.mems.length,pI RES.partition,pI RES.memory.min,pI RES.memory.low,pI RES.memory.high,pI RES.memory.max,pI RES.memory.swapMax,pB RES.memory.together,ow 2 RES.devices.length]) [] [roI RES.cpus,roI RES.mems,Aj RES.devices]:=by
 unfold Jl at hm
 refine SO Tryz.func45 rfl rfl [(0,.p (Ah p0)),(1,pI p1)] [] ?_
 intro cx hnt
 refine Sq (RD hnt (.no :: []) [] [(4,rr 1032)] [] [(c17e1)] tv ?_)
 refine Sq (Sq (RD hnt (.no :: []) [] [(5,pI 0)] [] [] tv ?_))
 refine Bk ?_
 obtain ⟨hc1,hm⟩:=go1 hm
 refine DW.rangeO (fun (k1:Nat) (s1:Unit)=>Af [(0,.p (Ah p0)),(1,pI p1),(4,rr 1032),(5,pI ((k1:Nat):Int))] [(c17e1)]) Ap hm Conv.eqK ?_
 intro k1 s1 n1 hk1 hs1 he1
 refine Sq (Sq (RD hnt (nn 4 []) [] [(9,pB (decide (((k1:Nat):Int)<((p0.length:Nat):Int))))] [] [] tv ?_))
 refine Cv (decide (((k1:Nat):Int)<((p0.length:Nat):Int))) ?_ ?_
 ·intro h13
  have hlt1:k1<p0.length:=by have:=of_decide_eq_true h13; omega
  have hm:=hs1 hlt1
  unfold Ya at hm
  refine Sk ?_
  refine Sq (Bk ?_)
  refine Sq (RD hnt (nn 7 []) [9] [(18,pB ((p0.getD k1 Ap).group==p1))] [] [] (an (nn0 k1) (an (ltc hlt1) tv)) ?_)
  refine Ar hm ?_ ?_
  ·intro h14 hm
   obtain ⟨r15,hr15,hm⟩:=bo hm
   refine Sq (RK hnt (nn 5 (o18 [] true r15 :: .no :: [])) [(4,rr 1032)] [(1032,bx [pI r15.pidsMax,pI r15.weight,pI r15.quota,pI r15.period,pI r15.burst,pI r15.clampMin,pI r15.clampMax,ow 1192 r15.cpus.length,ow 1193 r15.mems.length,pI r15.partition,pI r15.memory.min,pI r15.memory.low,pI r15.memory.high,pI r15.memory.max,pI r15.memory.swapMax,pB r15.memory.together,ow 1194 r15.devices.length]),(1192,ob0 (roI r15.cpus)),(1193,ob0 (roI r15.mems)),(1194,ob0 (Aj r15.devices))] (an (nn0 k1) (an (ltc hlt1) (an (Acw (p0.getD k1 Ap).settings r15 hr15) tv))) ?_)
   obtain rfl:=sj hm
   exact DW.ret (An [roI r15.cpus,roI r15.mems,Aj r15.devices] [1192,1193,1194] (.agg [pI r15.pidsMax,pI r15.weight,pI r15.quota,pI r15.period,pI r15.burst,pI r15.clampMin,pI r15.clampMax,ow 0 r15.cpus.length,ow 1 r15.mems.length,pI r15.partition,pI r15.memory.min,pI r15.memory.low,pI r15.memory.high,pI r15.memory.max,pI r15.memory.swapMax,pB r15.memory.together,ow 2 r15.devices.length]))
  ·intro h14 hm
   refine Sk ?_
   refine DW.done ?_
   show DW _ _ _ _ _
   refine RD hnt (nn 3 []) [18] [(5,pI (w64 (((k1:Nat):Int)+1)))] [] [] tv ?_
   exact jD () ⟨hlt1,hm⟩ (Conv.tp [(5,pI (w64 (((k1:Nat):Int)+1)))] [] (by kernel_rfl) (.cons rfl (.of_eq (congrArg pI (Bt hlt1 hc1))) .nil) .nil)
 ·intro h13
  have hge1:¬ k1<p0.length:=by have:=of_decide_eq_false h13; omega
  have hm:=he1 hge1
  unfold AbK at hm
  refine DW.exit ?_
  refine Ao ?_
  refine Ba ?_
  refine Ai ?_
  show DW _ _ _ _ _
  obtain ⟨r16,hr16,hm⟩:=bo hm
  refine Sq (RK hnt (o19 [] true r16 :: .no :: []) [(4,rr 1032)] [(1032,bx [pI r16.pidsMax,pI r16.weight,pI r16.quota,pI r16.period,pI r16.burst,pI r16.clampMin,pI r16.clampMax,ow 1200 r16.cpus.length,ow 1201 r16.mems.length,pI r16.partition,pI r16.memory.min,pI r16.memory.low,pI r16.memory.high,pI r16.memory.max,pI r16.memory.swapMax,pB r16.memory.together,ow 1202 r16.devices.length]),(1200,ob0 (roI r16.cpus)),(1201,ob0 (roI r16.mems)),(1202,ob0 (Aj r16.devices))] (an (Pc r16 hr16) tv) ?_)
  obtain rfl:=sj hm
  exact DW.ret (An [roI r16.cpus,roI r16.mems,Aj r16.devices] [1200,1201,1202] (.agg [pI r16.pidsMax,pI r16.weight,pI r16.quota,pI r16.period,pI r16.burst,pI r16.clampMin,pI r16.clampMax,ow 0 r16.cpus.length,ow 1 r16.mems.length,pI r16.partition,pI r16.memory.min,pI r16.memory.low,pI r16.memory.high,pI r16.memory.max,pI r16.memory.swapMax,pB r16.memory.together,ow 2 r16.devices.length]))
abbrev o17 (ks:List Nat) (b:Bool) (RES:At) (sm:List Nat := []):Orc := .call 45 ks b (.agg [pI RES.pidsMax,pI RES.weight,pI RES.quota,pI RES.period,pI RES.burst,pI RES.clampMin,pI RES.clampMax,ow 0 RES.cpus.length,ow 1 RES.mems.length,pI RES.partition,pI RES.memory.min,pI RES.memory.low,pI RES.memory.high,pI RES.memory.max,pI RES.memory.swapMax,pB RES.memory.together,ow 2 RES.devices.length]) [] [roI RES.cpus,roI RES.mems,Aj RES.devices] sm

abbrev c22e1 : Nat×Obj:=(1032,bx [pI 0,pI 0,pI 0,pI 0,pI 0,pI 0,pI 0,.p (.sl .nil 0 0 (fun _ => [])),.p (.sl .nil 0 0 (fun _ => [])),pI 0,pI 0,pI 0,pI 0,pI 0,pI 0,pB false,.p (.sl .nil 0 0 (fun _ => []))])
theorem AgC (p0:List Ab) (p1:Int) (RES:At) (hm:Jl p0 p1=some RES):Spec Tryz.prog 45 [.p (Ah p0),pI p1] [] (.p (.agg (Dn RES))) [] []:=by
 unfold Jl at hm
 refine SO Tryz.func45 rfl rfl [(0,.p (Ah p0)),(1,pI p1)] [] ?_
 intro cx hnt
 refine Sq (RD hnt (.no :: []) [] [(4,rr 1032)] [] [(c22e1)] tv ?_)
 refine Sq (Sq (RD hnt (.no :: []) [] [(5,pI 0)] [] [] tv ?_))
 refine Bk ?_
 obtain ⟨hc1,hm⟩:=go1 hm
 refine DW.rangeO (fun (k1:Nat) (s1:Unit)=>Af [(0,.p (Ah p0)),(1,pI p1),(4,rr 1032),(5,pI ((k1:Nat):Int))] [(c22e1)]) Ap hm Conv.eqK ?_
 intro k1 s1 n1 hk1 hs1 he1
 refine Sq (Sq (RD hnt (nn 4 []) [] [(9,pB (decide (((k1:Nat):Int)<((p0.length:Nat):Int))))] [] [] tv ?_))
 refine Cv (decide (((k1:Nat):Int)<((p0.length:Nat):Int))) ?_ ?_
 ·intro h13
  have hlt1:k1<p0.length:=by have:=of_decide_eq_true h13; omega
  have hm:=hs1 hlt1
  unfold Ya at hm
  refine Sk ?_
  refine Sq (Bk ?_)
  refine Sq (RD hnt (nn 7 []) [9] [(18,pB ((p0.getD k1 Ap).group==p1))] [] [] (an (nn0 k1) (an (ltc hlt1) tv)) ?_)
  refine Ar hm ?_ ?_
  ·intro h14 hm
   obtain ⟨r15,hr15,hm⟩:=bo hm
   refine Sq (RK hnt (nn 5 (o18 [] true r15 :: .no :: [])) [(4,rr 1032)] [(1032,bx [pI r15.pidsMax,pI r15.weight,pI r15.quota,pI r15.period,pI r15.burst,pI r15.clampMin,pI r15.clampMax,ow 1192 r15.cpus.length,ow 1193 r15.mems.length,pI r15.partition,pI r15.memory.min,pI r15.memory.low,pI r15.memory.high,pI r15.memory.max,pI r15.memory.swapMax,pB r15.memory.together,ow 1194 r15.devices.length]),(1192,ob0 (roI r15.cpus)),(1193,ob0 (roI r15.mems)),(1194,ob0 (Aj r15.devices))] (an (nn0 k1) (an (ltc hlt1) (an (Acw (p0.getD k1 Ap).settings r15 hr15) tv))) ?_)
   obtain rfl:=sj hm
   exact DW.ret (An [] [] (.p (.agg (Dn r15))))
  ·intro h14 hm
   refine Sk ?_
   refine DW.done ?_
   show DW _ _ _ _ _
   refine RD hnt (nn 3 []) [18] [(5,pI (w64 (((k1:Nat):Int)+1)))] [] [] tv ?_
   exact jD () ⟨hlt1,hm⟩ (Conv.tp [(5,pI (w64 (((k1:Nat):Int)+1)))] [] (by kernel_rfl) (.cons rfl (.of_eq (congrArg pI (Bt hlt1 hc1))) .nil) .nil)
 ·intro h13
  have hge1:¬ k1<p0.length:=by have:=of_decide_eq_false h13; omega
  have hm:=he1 hge1
  unfold AbK at hm
  refine DW.exit ?_
  refine Ao ?_
  refine Ba ?_
  refine Ai ?_
  show DW _ _ _ _ _
  obtain ⟨r16,hr16,hm⟩:=bo hm
  refine Sq (RK hnt (o19 [] true r16 :: .no :: []) [(4,rr 1032)] [(1032,bx [pI r16.pidsMax,pI r16.weight,pI r16.quota,pI r16.period,pI r16.burst,pI r16.clampMin,pI r16.clampMax,ow 1200 r16.cpus.length,ow 1201 r16.mems.length,pI r16.partition,pI r16.memory.min,pI r16.memory.low,pI r16.memory.high,pI r16.memory.max,pI r16.memory.swapMax,pB r16.memory.together,ow 1202 r16.devices.length]),(1200,ob0 (roI r16.cpus)),(1201,ob0 (roI r16.mems)),(1202,ob0 (Aj r16.devices))] (an (Pc r16 hr16) tv) ?_)
  obtain rfl:=sj hm
  exact DW.ret (An [] [] (.p (.agg (Dn r16))))
abbrev o22 (ks:List Nat) (b:Bool) (RES:At) (sm:List Nat := []):Orc := .call 45 ks b (.p (.agg (Dn RES))) [] [] sm

abbrev c16e1 (p0:Ae) (k1:Nat) (r20:At):=({ group:=(p0.nodes.getD k1 Aq).id,settings:=r20 } : Ab)
theorem Afv (p0:Ae) (p1:List Ab) (RES:List Ab) (hm:Wb p0 p1=some RES):Spec Tryz.prog 53 [.p (.agg (Ag p0)),.p (Ah p1)] [] (ow 0 RES.length) [] [Ed RES]:=by
 unfold Wb at hm
 refine SO Tryz.func53 rfl rfl [(0,.p (.agg (Ag p0))),(1,.p (Ah p1))] [] ?_
 intro cx hnt
 refine Sq (RD hnt (nn 2 []) [0] [(2,rr 1016)] [] [(1016,bx (pm (Ag p0)))] tv ?_)
 obtain ⟨r1,hr1,hm⟩:=bo hm
 refine Sq (Sq (RD hnt (.no::o6 [] true r1 :: .no :: []) [] [(9,pB (!r1))] [] [] (an (Kr p0 r1 hr1) tv) ?_))
 refine Ar hm ?_ ?_
 ·intro h2 hm
  refine Sq (RK hnt (.no :: []) [(4,.p (.sl .nil 0 0 (fun _ => [])))] [] tv ?_)
  refine DW.cv [] [(4,ow 100000 0)] [] [(100000,ob0 (Ed []))] (Conv.ads [(.s 4,100000,18,elems Es Ap [])]) ?_
  obtain rfl:=sj hm
  exact DW.ret (An [Ed []] [100000] (ow 0 0))
 ·intro h2 hm
  refine Sk ?_
  refine Sq (RD hnt (.no :: []) [9] [(5,.p (.sl .nil 0 0 (fun _ => [])))] [] [] tv ?_)
  refine Sq (Sq (RD hnt (.no :: []) [] [(6,pI 0)] [] [] tv ?_))
  refine Bk ?_
  obtain ⟨hc1,hm⟩:=go1 hm
  refine DW.rangeO (fun (k1:Nat) (s1:List Ab)=>Af [(1,.p (Ah p1)),(2,rr 1016),(5,ow 1272 s1.length),(6,pI ((k1:Nat):Int))] [(1016,bx (pm (Ag p0))),(1272,ob0 (Ed s1))]) Aq hm (Conv.ads [(.s 5,1272,18,elems Es Ap [])]) ?_
  intro k1 s1 n1 hk1 hs1 he1
  refine Sq (Sq (RD hnt (nn 5 []) [] [(14,pB (decide (((k1:Nat):Int)<((p0.nodes.length:Nat):Int))))] [] [] tv ?_))
  refine Cv (decide (((k1:Nat):Int)<((p0.nodes.length:Nat):Int))) ?_ ?_
  ·intro h18
   have hlt1:k1<p0.nodes.length:=by have:=of_decide_eq_true h18; omega
   have hm:=hs1 hlt1
   unfold Xo at hm
   refine Sk ?_
   refine Sq (Bk ?_)
   obtain ⟨r20,hr20,hm⟩:=bo hm
   obtain ⟨g21,hm⟩:=go1 hm
   refine RN hnt (nn 14 (o22 [] true r20::nn 4 [])) [(1,.p (Ah p1)),(2,rr 1016),(5,ow 1272 (s1 ++ [(c16e1 p0 k1 r20)]).length),(6,pI ((k1:Nat):Int))] [(1016,bx (pm (Ag p0))),(1272,ob0 (Ed (s1 ++ [(c16e1 p0 k1 r20)])))] [(5,ow 1272 (s1.length+1))] [(1272,.row 18 (s1.length+1) (De s1.length (Vd s1) (cut 18 [vi (p0.nodes.getD k1 Aq).id,vi r20.pidsMax,vi r20.weight,vi r20.quota,vi r20.period,vi r20.burst,vi r20.clampMin,vi r20.clampMax,slI r20.cpus,slI r20.mems,vi r20.partition,vi r20.memory.min,vi r20.memory.low,vi r20.memory.high,vi r20.memory.max,vi r20.memory.swapMax,vb r20.memory.together,Db r20.devices])))] (an (nn0 k1) (an (ltc hlt1) (an (nn0 k1) (an (ltc hlt1) (an (AgC p1 (p0.nodes.getD k1 Aq).id r20 hr20) (an (by omega:(s1.length+1)*192≤140737488355328) tv)))))) (by kernel_rfl) (.cons rfl (MLe.ownLen (enc:=Es) (d:=Ap) (f:=(De s1.length (Vd s1) (cut 18 [vi (p0.nodes.getD k1 Aq).id,vi r20.pidsMax,vi r20.weight,vi r20.quota,vi r20.period,vi r20.burst,vi r20.clampMin,vi r20.clampMax,slI r20.cpus,slI r20.mems,vi r20.partition,vi r20.memory.min,vi r20.memory.low,vi r20.memory.high,vi r20.memory.max,vi r20.memory.swapMax,vb r20.memory.together,Db r20.devices]))) (RowIs.cat RowIs.elems (RowIs.lit (enc:=Es) (d:=Ap) (n:=1) (f:=(cut 18 [vi (p0.nodes.getD k1 Aq).id,vi r20.pidsMax,vi r20.weight,vi r20.quota,vi r20.period,vi r20.burst,vi r20.clampMin,vi r20.clampMax,slI r20.cpus,slI r20.mems,vi r20.partition,vi r20.memory.min,vi r20.memory.low,vi r20.memory.high,vi r20.memory.max,vi r20.memory.swapMax,vb r20.memory.together,Db r20.devices])) [(c16e1 p0 k1 r20)] rfl (fun|0,_=>rfl|n+1,h=>absurd h (by omega))))) .nil) (.cons rfl (BLe.typed (RowIs.cat RowIs.elems (RowIs.lit (enc:=Es) (d:=Ap) (n:=1) (f:=(cut 18 [vi (p0.nodes.getD k1 Aq).id,vi r20.pidsMax,vi r20.weight,vi r20.quota,vi r20.period,vi r20.burst,vi r20.clampMin,vi r20.clampMax,slI r20.cpus,slI r20.mems,vi r20.partition,vi r20.memory.min,vi r20.memory.low,vi r20.memory.high,vi r20.memory.max,vi r20.memory.swapMax,vb r20.memory.together,Db r20.devices])) [(c16e1 p0 k1 r20)] rfl (fun|0,_=>rfl|n+1,h=>absurd h (by omega))))) .nil) ?_
   refine DW.done ?_
   show DW _ _ _ _ _
   refine RD hnt (nn 3 []) [] [(6,pI (w64 (((k1:Nat):Int)+1)))] [] [] tv ?_
   exact jD (s1 ++ [(c16e1 p0 k1 r20)]) ⟨hlt1,hm⟩ (Conv.tp [(6,pI (w64 (((k1:Nat):Int)+1)))] [] (by kernel_rfl) (.cons rfl (.of_eq (congrArg pI (Bt hlt1 hc1))) .nil) .nil)
  ·intro h18
   have hge1:¬ k1<p0.nodes.length:=by have:=of_decide_eq_false h18; omega
   have hm:=he1 hge1
   unfold Tm at hm
   refine DW.exit ?_
   refine Ao ?_
   refine Ba ?_
   refine Ai ?_
   show DW _ _ _ _ _
   refine Sq (RK hnt (nn 2 []) [(4,ow 1272 s1.length)] [(1272,ob0 (Ed s1))] tv ?_)
   obtain rfl:=sj hm
   exact DW.ret (An [Ed s1] [1272] (ow 0 s1.length))
abbrev o16 (ks:List Nat) (b:Bool) (RES:List Ab) (sm:List Nat := []):Orc := .call 53 ks b (ow 0 RES.length) [] [Ed RES] sm

theorem Ahm (p0:Ae) (RES:List Ab) (hm:Yt p0=some RES):Spec Tryz.prog 25 [.p (.agg (Ag p0))] [] (ow 0 RES.length) [] [Ed RES]:=by
 unfold Yt at hm
 refine SO Tryz.func25 rfl rfl [(0,.p (.agg (Ag p0)))] [] ?_
 intro cx hnt
 refine Sq (RK hnt (nn 2 []) [(1,rr 1008)] [(1008,bx (pm (Ag p0)))] tv ?_)
 obtain ⟨r1,hr1,hm⟩:=bo hm
 refine Sq (RK hnt (.no::o16 [] true r1 :: .no :: []) [(2,ow 1032 r1.length)] [(1032,ob0 (Ed r1))] (an (Spec.args (xs := [.p (.agg (Ag p0)),.p (.sl .nil 0 0 (fun _ => []))]) (Afv p0 [] r1 hr1) (.cons .rfl (.cons (.p PLe.nilL) .nil))) tv) ?_)
 obtain rfl:=sj hm
 exact DW.ret (An [Ed r1] [1032] (ow 0 r1.length))
abbrev o15 (ks:List Nat) (b:Bool) (RES:List Ab) (sm:List Nat := []):Orc := .call 25 ks b (ow 0 RES.length) [] [Ed RES] sm

theorem Aht (p0:Ax) (RES:Bool) (hm:Abm p0=some RES):Spec Tryz.prog 103 [.p (.agg (Cc p0))] [] (pB RES) [] []:=by
 unfold Abm at hm
 refine SO Tryz.func103 rfl rfl [(0,.p (.agg (Cc p0)))] [] ?_
 intro cx hnt
 refine Sq (RK hnt (nn 2 []) [(1,rr 1008)] [(1008,bx (pm (Cc p0)))] tv ?_)
 refine Sq (DW.regJ (sl2 := [(2,pB ((((p0.id==1)&&(p0.parent==0))&&(Fi p0.name ByteArray.empty))&&(p0.kind==0)))]) (ob2 := []) ?_ ?_)
 ·rcases bt (p0.id==1) with h1|h1
  ·rcases bt (p0.parent==0) with h2|h2
   ·rcases bt (Fi p0.name ByteArray.empty) with h3|h3
    ·exact RT hnt (nn 7 (pT::nn 4 (pT::nn 4 (pT :: .no :: [])))) [(2,pB (p0.kind==0))] (an4 h1 (an4 h2 (an4 h3 tv))) (by kernel_rfl) (.cons rfl (.of_eq (by rw [h1,h2,h3]; try rfl)) .nil)
    ·exact RT hnt (nn 7 (pT::nn 4 (pT :: .no::sk 3 (pF :: .no :: [])))) [(2,pB false)] (an4 h1 (an4 h2 (an4 h3 tv))) (by kernel_rfl) (.cons rfl (.of_eq (by rw [h1,h2,h3]; try rfl)) .nil)
   ·exact RT hnt (nn 7 (pT :: .no::sk 3 (pF :: .no::sk 3 (pF :: .no :: [])))) [(2,pB false)] (an4 h1 (an4 h2 (an4 ff tv))) (by kernel_rfl) (.cons rfl (.of_eq (by rw [h1,h2]; try rfl)) .nil)
  ·exact RT hnt (nn 4 (sk 3 (pF :: .no::sk 3 (pF :: .no::sk 3 (pF :: .no :: []))))) [(2,pB false)] (an4 h1 (an2 ff (an6 ff tv))) (by kernel_rfl) (.cons rfl (.of_eq (by rw [h1]; try rfl)) .nil)
 ·refine DW.ret ?_
  obtain rfl:=sj hm
  exact An [] [] (pB ((((p0.id==1)&&(p0.parent==0))&&(Fi p0.name ByteArray.empty))&&(p0.kind==0)))
abbrev o27 (ks:List Nat) (b:Bool) (RES:Bool) (sm:List Nat := []):Orc := .call 103 ks b (pB RES) [] [] sm

theorem Ago (p0:Int) (RES:Bool) (hm:Aaf p0=some RES):Spec Tryz.prog 129 [.p (vk .u8 p0)] [] (pB RES) [] []:=by
 unfold Aaf at hm
 refine SO Tryz.func129 rfl rfl [(0,.p (vk .u8 p0))] [] ?_
 intro cx hnt
 refine Sq (RD hnt (.no :: []) [] [] [] [] tv ?_)
 refine Sq (DW.regJ (sl2 := [(2,pB ((((((decide (p0≥97))&&(decide (p0≤122)))||((decide (p0≥65))&&(decide (p0≤90))))||((decide (p0≥48))&&(decide (p0≤57))))||(p0==95))||(p0==45)))]) (ob2 := []) ?_ ?_)
 ·rcases bt (decide (p0≥97)) with h1|h1
  ·rcases bt (decide (p0≤122)) with h2|h2
   ·exact RT hnt (nn 5 (pT :: .no::sk 6 (pT :: .no::sk 6 (pT :: .no::sk 2 (pT :: .no::sk 2 (pT :: .no :: [])))))) [(2,pB true)] (an3 h1 (an5 h2 (an5 tt (an6 tt tv)))) (by kernel_rfl) (.cons rfl (.of_eq (by rw [h1,h2]; try rfl)) .nil)
   ·rcases bt (decide (p0≥65)) with h3|h3
    ·rcases bt (decide (p0≤90)) with h4|h4
     ·exact RT hnt (nn 5 (pT::nn 6 (pT::pF :: .no::sk 6 (pT :: .no::sk 2 (pT :: .no::sk 2 (pT :: .no :: [])))))) [(2,pB true)] (an3 h1 (an3 h2 (an2 h3 (an h2 (an h3 (an h2 (an5 h4 (an6 tt tv)))))))) (by kernel_rfl) (.cons rfl (.of_eq (by rw [h1,h2,h3,h4]; try rfl)) .nil)
     ·rcases bt (decide (p0≥48)) with h5|h5
      ·rcases bt (decide (p0≤57)) with h6|h6
       ·exact RT hnt (nn 5 (pT::nn 6 (pT::pF::nn 6 (pT::pF :: .no::sk 2 (pT :: .no::sk 2 (pT :: .no :: [])))))) [(2,pB true)] (an3 h1 (an3 h2 (an2 h3 (an h2 (an h3 (an h2 (an3 h4 (an2 h5 (an h4 (an h5 (an h4 (an3 h6 (an3 tt tv))))))))))))) (by kernel_rfl) (.cons rfl (.of_eq (by rw [h1,h2,h3,h4,h5,h6]; try rfl)) .nil)
       ·rcases bt (p0==95) with h7|h7
        ·exact RT hnt (nn 5 (pT::nn 6 (pT::pF::nn 6 (pT::pF::nn 3 (pF :: .no::sk 2 (pT :: .no :: [])))))) [(2,pB true)] (an3 h1 (an3 h2 (an2 h3 (an h2 (an h3 (an h2 (an3 h4 (an2 h5 (an h4 (an h5 (an h4 (an3 h6 (an3 h7 tv))))))))))))) (by kernel_rfl) (.cons rfl (.of_eq (by rw [h1,h2,h3,h4,h5,h6,h7]; try rfl)) .nil)
        ·exact RT hnt (nn 5 (pT::nn 6 (pT::pF::nn 6 (pT::pF::nn 3 (pF::nn 3 (pF :: .no :: [])))))) [(2,pB (p0==45))] (an3 h1 (an3 h2 (an2 h3 (an h2 (an h3 (an h2 (an3 h4 (an2 h5 (an h4 (an h5 (an h4 (an3 h6 (an3 h7 tv))))))))))))) (by kernel_rfl) (.cons rfl (.of_eq (by rw [h1,h2,h3,h4,h5,h6,h7]; try rfl)) .nil)
      ·rcases bt (p0==95) with h8|h8
       ·exact RT hnt (nn 5 (pT::nn 6 (pT::pF::nn 4 (sk 2 (pF::pF::nn 3 (pF :: .no::sk 2 (pT :: .no :: []))))))) [(2,pB true)] (an3 h1 (an3 h2 (an2 h3 (an h2 (an h3 (an h2 (an3 h4 (an2 h5 (an h4 (an h5 (an h4 (an3 ff (an3 h8 tv))))))))))))) (by kernel_rfl) (.cons rfl (.of_eq (by rw [h1,h2,h3,h4,h5,h8]; try rfl)) .nil)
       ·exact RT hnt (nn 5 (pT::nn 6 (pT::pF::nn 4 (sk 2 (pF::pF::nn 3 (pF::nn 3 (pF :: .no :: []))))))) [(2,pB (p0==45))] (an3 h1 (an3 h2 (an2 h3 (an h2 (an h3 (an h2 (an3 h4 (an2 h5 (an h4 (an h5 (an h4 (an3 ff (an3 h8 tv))))))))))))) (by kernel_rfl) (.cons rfl (.of_eq (by rw [h1,h2,h3,h4,h5,h8]; try rfl)) .nil)
    ·rcases bt (decide (p0≥48)) with h9|h9
     ·rcases bt (decide (p0≤57)) with h10|h10
      ·exact RT hnt (nn 5 (pT::nn 4 (sk 2 (pF::pF::nn 6 (pT::pF :: .no::sk 2 (pT :: .no::sk 2 (pT :: .no :: []))))))) [(2,pB true)] (an3 h1 (an3 h2 (an2 h3 (an h2 (an h3 (an h2 (an3 ff (an2 h9 (an ff (an h9 (an ff (an3 h10 (an3 tt tv))))))))))))) (by kernel_rfl) (.cons rfl (.of_eq (by rw [h1,h2,h3,h9,h10]; try rfl)) .nil)
      ·rcases bt (p0==95) with h11|h11
       ·exact RT hnt (nn 5 (pT::nn 4 (sk 2 (pF::pF::nn 6 (pT::pF::nn 3 (pF :: .no::sk 2 (pT :: .no :: []))))))) [(2,pB true)] (an3 h1 (an3 h2 (an2 h3 (an h2 (an h3 (an h2 (an3 ff (an2 h9 (an ff (an h9 (an ff (an3 h10 (an3 h11 tv))))))))))))) (by kernel_rfl) (.cons rfl (.of_eq (by rw [h1,h2,h3,h9,h10,h11]; try rfl)) .nil)
       ·exact RT hnt (nn 5 (pT::nn 4 (sk 2 (pF::pF::nn 6 (pT::pF::nn 3 (pF::nn 3 (pF :: .no :: []))))))) [(2,pB (p0==45))] (an3 h1 (an3 h2 (an2 h3 (an h2 (an h3 (an h2 (an3 ff (an2 h9 (an ff (an h9 (an ff (an3 h10 (an3 h11 tv))))))))))))) (by kernel_rfl) (.cons rfl (.of_eq (by rw [h1,h2,h3,h9,h10,h11]; try rfl)) .nil)
     ·rcases bt (p0==95) with h12|h12
      ·exact RT hnt (nn 5 (pT::nn 4 (sk 2 (pF::pF::nn 4 (sk 2 (pF::pF::nn 3 (pF :: .no::sk 2 (pT :: .no :: [])))))))) [(2,pB true)] (an3 h1 (an3 h2 (an2 h3 (an h2 (an h3 (an h2 (an3 ff (an2 h9 (an ff (an h9 (an4 ff (an3 h12 tv)))))))))))) (by kernel_rfl) (.cons rfl (.of_eq (by rw [h1,h2,h3,h9,h12]; try rfl)) .nil)
      ·exact RT hnt (nn 5 (pT::nn 4 (sk 2 (pF::pF::nn 4 (sk 2 (pF::pF::nn 3 (pF::nn 3 (pF :: .no :: [])))))))) [(2,pB (p0==45))] (an3 h1 (an3 h2 (an2 h3 (an h2 (an h3 (an h2 (an3 ff (an2 h9 (an ff (an h9 (an4 ff (an3 h12 tv)))))))))))) (by kernel_rfl) (.cons rfl (.of_eq (by rw [h1,h2,h3,h9,h12]; try rfl)) .nil)
  ·rcases bt (decide (p0≥65)) with h13|h13
   ·rcases bt (decide (p0≤90)) with h14|h14
    ·exact RT hnt (nn 3 (sk 2 (pF::nn 6 (pT::pF :: .no::sk 6 (pT :: .no::sk 2 (pT :: .no::sk 2 (pT :: .no :: []))))))) [(2,pB true)] (an3 h1 (an3 ff (an2 h13 (an ff (an h13 (an ff (an5 h14 (an6 tt tv)))))))) (by kernel_rfl) (.cons rfl (.of_eq (by rw [h1,h13,h14]; try rfl)) .nil)
    ·rcases bt (decide (p0≥48)) with h15|h15
     ·rcases bt (decide (p0≤57)) with h16|h16
      ·exact RT hnt (nn 3 (sk 2 (pF::nn 6 (pT::pF::nn 6 (pT::pF :: .no::sk 2 (pT :: .no::sk 2 (pT :: .no :: []))))))) [(2,pB true)] (an3 h1 (an3 ff (an2 h13 (an ff (an h13 (an ff (an3 h14 (an2 h15 (an h14 (an h15 (an h14 (an3 h16 (an3 tt tv))))))))))))) (by kernel_rfl) (.cons rfl (.of_eq (by rw [h1,h13,h14,h15,h16]; try rfl)) .nil)
      ·rcases bt (p0==95) with h17|h17
       ·exact RT hnt (nn 3 (sk 2 (pF::nn 6 (pT::pF::nn 6 (pT::pF::nn 3 (pF :: .no::sk 2 (pT :: .no :: []))))))) [(2,pB true)] (an3 h1 (an3 ff (an2 h13 (an ff (an h13 (an ff (an3 h14 (an2 h15 (an h14 (an h15 (an h14 (an3 h16 (an3 h17 tv))))))))))))) (by kernel_rfl) (.cons rfl (.of_eq (by rw [h1,h13,h14,h15,h16,h17]; try rfl)) .nil)
       ·exact RT hnt (nn 3 (sk 2 (pF::nn 6 (pT::pF::nn 6 (pT::pF::nn 3 (pF::nn 3 (pF :: .no :: []))))))) [(2,pB (p0==45))] (an3 h1 (an3 ff (an2 h13 (an ff (an h13 (an ff (an3 h14 (an2 h15 (an h14 (an h15 (an h14 (an3 h16 (an3 h17 tv))))))))))))) (by kernel_rfl) (.cons rfl (.of_eq (by rw [h1,h13,h14,h15,h16,h17]; try rfl)) .nil)
     ·rcases bt (p0==95) with h18|h18
      ·exact RT hnt (nn 3 (sk 2 (pF::nn 6 (pT::pF::nn 4 (sk 2 (pF::pF::nn 3 (pF :: .no::sk 2 (pT :: .no :: [])))))))) [(2,pB true)] (an3 h1 (an3 ff (an2 h13 (an ff (an h13 (an ff (an3 h14 (an2 h15 (an h14 (an h15 (an h14 (an3 ff (an3 h18 tv))))))))))))) (by kernel_rfl) (.cons rfl (.of_eq (by rw [h1,h13,h14,h15,h18]; try rfl)) .nil)
      ·exact RT hnt (nn 3 (sk 2 (pF::nn 6 (pT::pF::nn 4 (sk 2 (pF::pF::nn 3 (pF::nn 3 (pF :: .no :: [])))))))) [(2,pB (p0==45))] (an3 h1 (an3 ff (an2 h13 (an ff (an h13 (an ff (an3 h14 (an2 h15 (an h14 (an h15 (an h14 (an3 ff (an3 h18 tv))))))))))))) (by kernel_rfl) (.cons rfl (.of_eq (by rw [h1,h13,h14,h15,h18]; try rfl)) .nil)
   ·rcases bt (decide (p0≥48)) with h19|h19
    ·rcases bt (decide (p0≤57)) with h20|h20
     ·exact RT hnt (nn 3 (sk 2 (pF::nn 4 (sk 2 (pF::pF::nn 6 (pT::pF :: .no::sk 2 (pT :: .no::sk 2 (pT :: .no :: [])))))))) [(2,pB true)] (an3 h1 (an3 ff (an2 h13 (an ff (an h13 (an4 ff (an2 h19 (an ff (an h19 (an ff (an3 h20 (an3 tt tv)))))))))))) (by kernel_rfl) (.cons rfl (.of_eq (by rw [h1,h13,h19,h20]; try rfl)) .nil)
     ·rcases bt (p0==95) with h21|h21
      ·exact RT hnt (nn 3 (sk 2 (pF::nn 4 (sk 2 (pF::pF::nn 6 (pT::pF::nn 3 (pF :: .no::sk 2 (pT :: .no :: [])))))))) [(2,pB true)] (an3 h1 (an3 ff (an2 h13 (an ff (an h13 (an4 ff (an2 h19 (an ff (an h19 (an ff (an3 h20 (an3 h21 tv)))))))))))) (by kernel_rfl) (.cons rfl (.of_eq (by rw [h1,h13,h19,h20,h21]; try rfl)) .nil)
      ·exact RT hnt (nn 3 (sk 2 (pF::nn 4 (sk 2 (pF::pF::nn 6 (pT::pF::nn 3 (pF::nn 3 (pF :: .no :: [])))))))) [(2,pB (p0==45))] (an3 h1 (an3 ff (an2 h13 (an ff (an h13 (an4 ff (an2 h19 (an ff (an h19 (an ff (an3 h20 (an3 h21 tv)))))))))))) (by kernel_rfl) (.cons rfl (.of_eq (by rw [h1,h13,h19,h20,h21]; try rfl)) .nil)
    ·rcases bt (p0==95) with h22|h22
     ·exact RT hnt (nn 3 (sk 2 (pF::nn 4 (sk 2 (pF::pF::nn 4 (sk 2 (pF::pF::nn 3 (pF :: .no::sk 2 (pT :: .no :: []))))))))) [(2,pB true)] (an3 h1 (an3 ff (an2 h13 (an ff (an h13 (an4 ff (an2 h19 (an ff (an h19 (an4 ff (an3 h22 tv))))))))))) (by kernel_rfl) (.cons rfl (.of_eq (by rw [h1,h13,h19,h22]; try rfl)) .nil)
     ·exact RT hnt (nn 3 (sk 2 (pF::nn 4 (sk 2 (pF::pF::nn 4 (sk 2 (pF::pF::nn 3 (pF::nn 3 (pF :: .no :: []))))))))) [(2,pB (p0==45))] (an3 h1 (an3 ff (an2 h13 (an ff (an h13 (an4 ff (an2 h19 (an ff (an h19 (an4 ff (an3 h22 tv))))))))))) (by kernel_rfl) (.cons rfl (.of_eq (by rw [h1,h13,h19,h22]; try rfl)) .nil)
 ·refine DW.ret ?_
  obtain rfl:=sj hm
  exact An [] [] (pB ((((((decide (p0≥97))&&(decide (p0≤122)))||((decide (p0≥65))&&(decide (p0≤90))))||((decide (p0≥48))&&(decide (p0≤57))))||(p0==95))||(p0==45)))
abbrev o30 (ks:List Nat) (b:Bool) (RES:Bool) (sm:List Nat := []):Orc := .call 129 ks b (pB RES) [] [] sm

theorem Xw (p0:ByteArray) (RES:Bool) (hm:Wc p0=some RES):Spec Tryz.prog 124 [pS p0] [] (pB RES) [] []:=by
 unfold Wc at hm
 refine SO Tryz.func124 rfl rfl [(0,pS p0)] [] ?_
 intro cx hnt
 refine Sq (RK hnt (.no :: []) [(0,pS p0)] [] tv ?_)
 refine Sq (Sq (RN hnt (nn 4 []) [(0,pS p0),(6,.p (Ly 1 (encK .u8) 0 (Jx p0))),(7,pI ((p0.size:Nat):Int)),(8,pI 0)] [] [(6,.p (.sl .unk 1 p0.size (Acr p0)))] [] tv (by kernel_rfl) (.cons rfl (MLe.typed RowIs.bytes) .nil) .nil ?_))
 refine Bk ?_
 obtain ⟨hc1,hm⟩:=go1 hm
 refine DW.rangeO (fun (k1:Nat) (s1:Unit)=>Af [(0,pS p0),(6,.p (Ly 1 (encK .u8) 0 (Jx p0))),(7,pI ((p0.size:Nat):Int)),(8,pI ((k1:Nat):Int))] []) 0 hm .refl ?_
 intro k1 s1 n1 hk1 hs1 he1
 refine Sq (RD hnt (.no :: []) [] [(9,pB (decide (((k1:Nat):Int)<((p0.size:Nat):Int))))] [] [] tv ?_)
 refine Sq (Cv (decide (((k1:Nat):Int)<((p0.size:Nat):Int))) ?_ ?_)
 ·intro h15
  have hlt1:k1<(Jx p0).length:=by have:=of_decide_eq_true h15; have:=Rk p0; omega
  have hm:=hs1 hlt1
  unfold Aat at hm
  refine Sk ?_
  refine Sq (Bk ?_)
  refine Sq (RD hnt (nn 3 []) [9] [(4,.p (vk .u8 ((Jx p0).getD k1 0)))] [] [] (an (nn0 k1) (an (ltc hlt1) tv)) ?_)
  obtain ⟨r16,hr16,hm⟩:=bo hm
  refine Sq (RD hnt (.no::o30 [] true r16 :: .no :: []) [4] [(14,pB (!r16))] [] [] (an (Ago ((Jx p0).getD k1 0) r16 hr16) tv) ?_)
  refine Ar hm ?_ ?_
  ·intro h17 hm
   refine Sq (RK hnt (.no :: []) [(2,pB false)] [] tv ?_)
   obtain rfl:=sj hm
   exact DW.ret (An [] [] (pB false))
  ·intro h17 hm
   refine Sk ?_
   refine DW.done ?_
   show DW _ _ _ _ _
   refine RD hnt (nn 2 []) [14] [(8,pI (w64 (((k1:Nat):Int)+1)))] [] [] tv ?_
   exact jD () ⟨hlt1,hm⟩ (Conv.tp [(8,pI (w64 (((k1:Nat):Int)+1)))] [] (by kernel_rfl) (.cons rfl (.of_eq (congrArg pI (Bt hlt1 hc1))) .nil) .nil)
 ·intro h15
  have hge1:¬ k1<(Jx p0).length:=by have:=of_decide_eq_false h15; have:=Rk p0; omega
  have hm:=he1 hge1
  unfold AaJ at hm
  refine DW.exit ?_
  refine Ao ?_
  refine Ba ?_
  refine Ai ?_
  show DW _ _ _ _ _
  refine Sq ?_
  refine Jn (ι:=Bool) (fun (y3:Bool)=>Af [(2,pB y3)] []) (fun y3=>Pt y3=some RES) ?_ ?_
  ·intro y3 hm
   unfold Pt at hm
   obtain rfl:=sj hm
   exact DW.ret (An [] [] (pB y3))
  ·rcases bt (!(Fi p0 ByteArray.empty)) with h18|h18
   ·replace hm:=Az h18 hm
    rcases bt (decide (((p0.size:Nat):Int)≤32)) with h19|h19
    ·replace hm:=Az h19 hm
     obtain ⟨g20,hm⟩:=go1 hm
     refine RK hnt (nn 6 (pT::nn 4 (pT :: .no :: []))) [(2,pB ((((Bx p0 0):Nat):Int) != 45))] [] (an4 h18 (an2 h19 (an (nn0 0) (an (ltc g20) (an2 h19 tv))))) ?_
     exact jD ((((Bx p0 0):Nat):Int) != 45) hm .refl
    ·replace hm:=Ay h19 hm
     refine RK hnt (nn 6 (pT :: .no::sk 3 (pF :: .no :: []))) [(2,pB false)] [] (an4 h18 (an4 h19 tv)) ?_
     exact jD false hm .refl
   ·replace hm:=Ay h18 hm
    refine RK hnt (nn 3 (sk 3 (pF :: .no::sk 3 (pF :: .no :: [])))) [(2,pB false)] [] (an4 h18 (an4 ff tv)) ?_
    exact jD false hm .refl
abbrev o29 (ks:List Nat) (b:Bool) (RES:Bool) (sm:List Nat := []):Orc := .call 124 ks b (pB RES) [] [] sm

abbrev c28e1 (p1:Ax):Nat×Obj:=(1024,bx (pm (Cc p1)))
theorem AhH (p0:List Ax) (p1:Ax) (RES:Bool) (hm:Yw p0 p1=some RES):Spec Tryz.prog 104 [.p (Da p0),.p (.agg (Cc p1))] [] (pB RES) [] []:=by
 unfold Yw at hm
 refine SO Tryz.func104 rfl rfl [(0,.p (Da p0)),(1,.p (.agg (Cc p1)))] [] ?_
 intro cx hnt
 refine Sq (RD hnt (nn 2 []) [1] [(3,rr 1024)] [] [(c28e1 p1)] tv ?_)
 obtain ⟨g1,hm⟩:=go1 hm
 refine Sq (Sq ?_)
 refine Jn (ι:=Bool) (fun (y1:Bool)=>Af [(0,.p (Da p0)),(3,rr 1024),(33,pB y1)] [(c28e1 p1)]) (fun y1=>(Kz p0 p1) y1=some RES) ?_ ?_
 ·intro y1 hm
  unfold Kz at hm
  refine Ar hm ?_ ?_
  ·intro h6 hm
   refine Sq (RK hnt (.no :: []) [(4,pB false)] [] tv ?_)
   obtain rfl:=sj hm
   exact DW.ret (An [] [] (pB false))
  ·intro h6 hm
   refine Sk ?_
   refine Sq (RD hnt (.no :: []) [33] [(5,pB false)] [] [] tv ?_)
   refine Sq (Sq (RD hnt (nn 3 []) [0] [(34,.p (Da p0)),(35,pI ((p0.length:Nat):Int)),(36,pI 0)] [] [] tv ?_))
   refine Bk ?_
   obtain ⟨hc1,hm⟩:=go1 hm
   refine DW.rangeO (fun (k1:Nat) (s1:Bool)=>Af [(3,rr 1024),(5,pB s1),(34,.p (Da p0)),(35,pI ((p0.length:Nat):Int)),(36,pI ((k1:Nat):Int))] [(c28e1 p1)]) Aq hm Conv.eqK ?_
   intro k1 s1 n1 hk1 hs1 he1
   refine Sq (RD hnt (.no :: []) [] [(37,pB (decide (((k1:Nat):Int)<((p0.length:Nat):Int))))] [] [] tv ?_)
   refine Sq (Cv (decide (((k1:Nat):Int)<((p0.length:Nat):Int))) ?_ ?_)
   ·intro h16
    have hlt1:k1<p0.length:=by have:=of_decide_eq_true h16; omega
    have hm:=hs1 hlt1
    unfold AbW at hm
    refine Sk ?_
    refine Sq (Bk ?_)
    refine Sq (RD hnt (nn 4 []) [37] [(7,rr 1056)] [] [(1056,bx (pm (Cc (p0.getD k1 Aq))))] (an (nn0 k1) (an (ltc hlt1) tv)) ?_)
    refine Sq (DW.regJ (sl2 := [(3,rr 1024),(5,pB (s1||((p0.getD k1 Aq).id==p1.parent))),(7,rr 1056),(34,.p (Da p0)),(35,pI ((p0.length:Nat):Int)),(36,pI ((k1:Nat):Int))]) (ob2 := [(c28e1 p1),(1056,bx (pm (Cc (p0.getD k1 Aq))))]) ?_ ?_)
    ·rcases bt s1 with h17|h17
     ·exact RT hnt (nn 2 (sk 5 (pT :: .no :: []))) [(5,pB true)] (an6 h17 tv) (by kernel_rfl) (.cons rfl (.of_eq (by rw [h17]; try rfl)) .nil)
     ·exact RT hnt (nn 7 (pF :: .no :: [])) [(5,pB ((p0.getD k1 Aq).id==p1.parent))] (an6 h17 tv) (by kernel_rfl) (.cons rfl (.of_eq (by rw [h17]; try rfl)) .nil)
    ·refine Sq (DW.regJ (sl2 := [(3,rr 1024),(5,pB (s1||((p0.getD k1 Aq).id==p1.parent))),(34,.p (Da p0)),(35,pI ((p0.length:Nat):Int)),(36,pI ((k1:Nat):Int)),(59,pB (((p0.getD k1 Aq).parent==p1.parent)&&(Fi (p0.getD k1 Aq).name p1.name)))]) (ob2 := [(c28e1 p1)]) ?_ ?_)
     ·rcases bt ((p0.getD k1 Aq).parent==p1.parent) with h18|h18
      ·exact RT hnt (nn 11 (pT :: [])) [(59,pB (Fi (p0.getD k1 Aq).name p1.name))] (an6 h18 tv) (by kernel_rfl) (.cons rfl (.of_eq (by rw [h18]; try rfl)) .nil)
      ·exact RT hnt (nn 6 (sk 5 (pF :: []))) [(59,pB false)] (an6 h18 tv) (by kernel_rfl) (.cons rfl (.of_eq (by rw [h18]; try rfl)) .nil)
     ·refine Ar hm ?_ ?_
      ·intro h19 hm
       refine Sq (RK hnt (.no :: []) [(4,pB false)] [] tv ?_)
       obtain rfl:=sj hm
       exact DW.ret (An [] [] (pB false))
      ·intro h19 hm
       refine Sk ?_
       refine DW.done ?_
       show DW _ _ _ _ _
       refine RD hnt (nn 2 []) [59] [(36,pI (w64 (((k1:Nat):Int)+1)))] [] [] tv ?_
       exact jD (s1||((p0.getD k1 Aq).id==p1.parent)) ⟨hlt1,hm⟩ (Conv.tp [(36,pI (w64 (((k1:Nat):Int)+1)))] [] (by kernel_rfl) (.cons rfl (.of_eq (congrArg pI (Bt hlt1 hc1))) .nil) .nil)
   ·intro h16
    have hge1:¬ k1<p0.length:=by have:=of_decide_eq_false h16; omega
    have hm:=he1 hge1
    unfold AeS at hm
    refine DW.exit ?_
    refine Ao ?_
    refine Ba ?_
    refine Ai ?_
    show DW _ _ _ _ _
    refine Sq (RK hnt (nn 2 []) [(4,pB s1)] [] tv ?_)
    obtain rfl:=sj hm
    exact DW.ret (An [] [] (pB s1))
 ·rcases bt (decide (p1.id≤(p0.getD (Int.toNat (w64 (((p0.length:Nat):Int)-1))) Aq).id)) with h2|h2
  ·replace hm:=Az h2 hm
   refine RD hnt (nn 11 (sk 4 (pT :: .no::sk 8 (pT :: [])))) [] [(33,pB true)] [] [] (an g1.1 (an g1.2 (an5 h2 (an6 tt tv)))) ?_
   exact jD true hm Conv.eqK
  ·replace hm:=Ay h2 hm
   obtain ⟨r3,hr3,hm⟩:=bo hm
   rcases bt (!r3) with h4|h4
   ·replace hm:=Az h4 hm
    refine RD hnt (nn 13 (o29 [] true r3 :: .no::pF :: .no::sk 8 (pT :: []))) [] [(33,pB true)] [] [] (an g1.1 (an g1.2 (an3 h2 (an (Xw p1.name r3 hr3) (an2 h2 (an6 h4 tv)))))) ?_
    exact jD true hm Conv.eqK
   ·replace hm:=Ay h4 hm
    rcases bt (p1.kind != 0) with h5|h5
    ·replace hm:=Az h5 hm
     refine RD hnt (nn 13 (o29 [] true r3 :: .no::pF::nn 8 (pT::pF :: []))) [] [(33,pB (p1.kind != 1))] [] [] (an g1.1 (an g1.2 (an3 h2 (an (Xw p1.name r3 hr3) (an2 h2 (an4 h4 (an3 h5 (an h4 (an h5 (an h4 tv)))))))))) ?_
     exact jD (p1.kind != 1) hm Conv.eqK
    ·replace hm:=Ay h5 hm
     refine RD hnt (nn 13 (o29 [] true r3 :: .no::pF::nn 5 (sk 3 (pF::pF :: [])))) [] [(33,pB false)] [] [] (an g1.1 (an g1.2 (an3 h2 (an (Xw p1.name r3 hr3) (an2 h2 (an4 h4 (an3 h5 (an h4 (an h5 (an h4 tv)))))))))) ?_
     exact jD false hm Conv.eqK
abbrev o28 (ks:List Nat) (b:Bool) (RES:Bool) (sm:List Nat := []):Orc := .call 104 ks b (pB RES) [] [] sm

abbrev c26e1 (s1:IMap Int) (p0:Ae) (k1:Nat):=(s1.set (p0.nodes.getD k1 Aq).id (w64 ((s1.get (p0.nodes.getD k1 Aq).parent)+1)))
abbrev c26e2 (p0:Ae):Nat×MV:=(27,pI ((p0.nodes.length:Nat):Int))
abbrev c26e3 (p0:Ae):Nat×Obj:=(1008,bx (pm (Ag p0)))
theorem Acp (p0:Ae) (RES:Bool) (hm:Qm p0=some RES):Spec Tryz.prog 77 [.p (.agg (Ag p0))] [] (pB RES) [] []:=by
 unfold Qm at hm
 refine SO Tryz.func77 rfl rfl [(0,.p (.agg (Ag p0)))] [] ?_
 intro cx hnt
 refine Sq (RK hnt (nn 2 []) [(1,rr 1008)] [(c26e3 p0)] tv ?_)
 refine Sq (Sq ?_)
 refine Jn (ι:=Bool) (fun (y1:Bool)=>Af [(1,rr 1008),(23,pB y1)] [(c26e3 p0)]) (fun y1=>(Qc p0) y1=some RES) ?_ ?_
 ·intro y1 hm
  unfold Qc at hm
  refine Ar hm ?_ ?_
  ·intro h5 hm
   refine Sq (RK hnt (.no :: []) [(2,pB false)] [] tv ?_)
   obtain rfl:=sj hm
   exact DW.ret (An [] [] (pB false))
  ·intro h5 hm
   refine Sk ?_
   refine Sq (RD hnt (nn 2 []) [23] [(3,.mref 1192 0)] [] [(1192,ob0 (Ce vi (vi 0) (IMap.empty 0)))] tv ?_)
   refine Sq (Sq (RD hnt (nn 4 []) [] [(26,.p (Da p0.nodes)),(c26e2 p0),(28,pI 0)] [] [] tv ?_))
   refine Bk ?_
   obtain ⟨hc1,hm⟩:=go1 hm
   refine DW.rangeO (fun (k1:Nat) (s1:IMap Int)=>Af [(1,rr 1008),(3,.mref 1192 0),(26,.p (Da p0.nodes)),(c26e2 p0),(28,pI ((k1:Nat):Int))] [(c26e3 p0),(1192,ob0 (Ce vi (vi 0) s1))]) Aq hm Conv.eqK ?_
   intro k1 s1 n1 hk1 hs1 he1
   refine Sq (RD hnt (.no :: []) [] [(29,pB (decide (((k1:Nat):Int)<((p0.nodes.length:Nat):Int))))] [] [] tv ?_)
   refine Sq (Cv (decide (((k1:Nat):Int)<((p0.nodes.length:Nat):Int))) ?_ ?_)
   ·intro h36
    have hlt1:k1<p0.nodes.length:=by have:=of_decide_eq_true h36; omega
    have hm:=hs1 hlt1
    unfold AaI at hm
    refine Sk ?_
    refine Sq (Bk ?_)
    refine Sq (RD hnt (nn 6 []) [29] [(4,pI ((k1:Nat):Int)),(5,rr 1040)] [] [(1040,bx (pm (Cc (p0.nodes.getD k1 Aq))))] (an (nn0 k1) (an (ltc hlt1) tv)) ?_)
    refine Sq (Sq ?_)
    refine Jn (ι:=Bool) (fun (y8:Bool)=>Af [(1,rr 1008),(3,.mref 1192 0),(4,pI ((k1:Nat):Int)),(5,rr 1040),(26,.p (Da p0.nodes)),(c26e2 p0),(28,pI ((k1:Nat):Int)),(64,pB y8)] [(c26e3 p0),(1040,bx (pm (Cc (p0.nodes.getD k1 Aq)))),(1192,ob0 (Ce vi (vi 0) s1))]) (fun y8=>(Hu k1 (p0.nodes.getD k1 Aq) s1 n1) y8=some RES) ?_ ?_
    ·intro y8 hm
     unfold Hu at hm
     refine Ar hm ?_ ?_
     ·intro h44 hm
      refine Sq (RK hnt (.no :: []) [(2,pB false)] [] tv ?_)
      obtain rfl:=sj hm
      exact DW.ret (An [] [] (pB false))
     ·intro h44 hm
      refine Sk ?_
      refine Sq (Sq (RD hnt (nn 2 []) [4,64] [(66,pB (decide (((k1:Nat):Int)>0)))] [] [] tv ?_))
      refine Jn (ι:=IMap Int) (fun (y9:IMap Int)=>Af [(1,rr 1008),(3,.mref 1192 0),(5,rr 1040),(26,.p (Da p0.nodes)),(c26e2 p0),(28,pI ((k1:Nat):Int))] [(c26e3 p0),(1040,bx (pm (Cc (p0.nodes.getD k1 Aq)))),(1192,ob0 (Ce vi (vi 0) y9))]) (fun y9=>(Sh (p0.nodes.getD k1 Aq) n1) y9=some RES) ?_ ?_
      ·intro y9 hm
       unfold Sh at hm
       refine Sq (RD hnt (nn 5 []) [5] [(79,pB (decide ((y9.get (p0.nodes.getD k1 Aq).id)>8)))] [1040] [] (an (PLe.rfl:PLe (vi 0) (vi 0)) tv) ?_)
       refine Ar hm ?_ ?_
       ·intro h46 hm
        refine Sq (RK hnt (.no :: []) [(2,pB false)] [] tv ?_)
        obtain rfl:=sj hm
        exact DW.ret (An [] [] (pB false))
       ·intro h46 hm
        refine Sk ?_
        refine DW.done ?_
        show DW _ _ _ _ _
        refine RD hnt (nn 2 []) [79] [(28,pI (w64 (((k1:Nat):Int)+1)))] [] [] tv ?_
        exact jD y9 ⟨hlt1,hm⟩ (Conv.tp [(28,pI (w64 (((k1:Nat):Int)+1)))] [] (by kernel_rfl) (.cons rfl (.of_eq (congrArg pI (Bt hlt1 hc1))) .nil) .nil)
      ·refine Ar hm ?_ ?_
       ·intro h45 hm
        refine RD hnt (nn 8 (.asM (vi 0) (c26e1 s1 p0 k1).has (fun j=>vi ((c26e1 s1 p0 k1).get j)) :: [])) [66] [] [] [(1192,ob0 (Ce vi (vi 0) (c26e1 s1 p0 k1)))] (an (PLe.rfl:PLe (vi 0) (vi 0)) (an (Aas vi (vi 0) s1 (p0.nodes.getD k1 Aq).id (w64 ((s1.get (p0.nodes.getD k1 Aq).parent)+1)) PLe.rfl) tv)) ?_
        exact jD (c26e1 s1 p0 k1) hm Conv.eqK
       ·intro h45 hm
        refine Sk ?_
        exact jD s1 hm Conv.t0
    ·rcases bt (decide ((p0.nodes.getD k1 Aq).control<0)) with h37|h37
     ·replace hm:=Az h37 hm
      refine RD hnt (nn 4 (sk 4 (pT :: .no::sk 3 (pT :: .no::sk 3 (pT :: .no::sk 11 (pT :: [])))))) [] [(64,pB true)] [] [] (an5 h37 (an tt (an6 tt (an6 tt tv)))) ?_
      exact jD true hm Conv.eqK
     ·replace hm:=Ay h37 hm
      rcases bt ((Xu .i64 (p0.nodes.getD k1 Aq).control 31) != 0) with h38|h38
      ·replace hm:=Az h38 hm
       refine RD hnt (nn 8 (pF :: .no::sk 3 (pT :: .no::sk 3 (pT :: .no::sk 11 (pT :: []))))) [] [(64,pB true)] [] [] (an5 h37 (an4 h38 (an3 tt (an6 tt tv)))) ?_
       exact jD true hm Conv.eqK
      ·replace hm:=Ay h38 hm
       rcases bt (decide ((p0.nodes.getD k1 Aq).owner<0)) with h39|h39
       ·replace hm:=Az h39 hm
        refine RD hnt (nn 8 (pF::nn 4 (pF :: .no::sk 3 (pT :: .no::sk 11 (pT :: []))))) [] [(64,pB true)] [] [] (an5 h37 (an4 h38 (an4 h39 (an5 tt tv)))) ?_
        exact jD true hm Conv.eqK
       ·replace hm:=Ay h39 hm
        rcases bt (decide ((p0.nodes.getD k1 Aq).owner>1048576)) with h40|h40
        ·replace hm:=Az h40 hm
         refine RD hnt (nn 8 (pF::nn 4 (pF::nn 4 (pF :: .no::sk 11 (pT :: []))))) [] [(64,pB true)] [] [] (an5 h37 (an4 h38 (an4 h39 (an5 h40 tv)))) ?_
         exact jD true hm Conv.eqK
        ·replace hm:=Ay h40 hm
         rcases bt (decide (((k1:Nat):Int)>0)) with h41|h41
         ·replace hm:=Az h41 hm
          obtain ⟨g42,hm⟩:=go1 hm
          obtain ⟨r43,hr43,hm⟩:=bo hm
          refine RD hnt (nn 8 (pF::nn 4 (pF::nn 4 (pF::nn 9 (o28 [] true r43 :: .no::pT::pF :: []))))) [] [(64,pB (!r43))] [] [] (an5 h37 (an4 h38 (an4 h39 (an3 h40 (an4 h41 (an (by omega:(0:Int)≤0) (an (by omega:(0:Int)≤((k1:Nat):Int)) (an (by omega:((k1:Nat):Int)≤((p0.nodes.length:Nat):Int)) (an2 h41 (an (Spec.args (xs := [.p (.sl .unk 6 k1 (Zc p0.nodes)),.p (.agg (Cc (p0.nodes.getD k1 Aq)))]) (AhH (p0.nodes.take k1) (p0.nodes.getD k1 Aq) r43 hr43) (.cons (.p (PLe.typed (RowIs.elems.take (by omega)))) (.cons .rfl .nil))) (an h41 (an h40 (an h41 (an h40 tv)))))))))))))) ?_
          exact jD (!r43) hm Conv.eqK
         ·replace hm:=Ay h41 hm
          refine RD hnt (nn 8 (pF::nn 4 (pF::nn 4 (pF::nn 4 (sk 7 (pF::pF :: [])))))) [] [(64,pB false)] [] [] (an5 h37 (an4 h38 (an4 h39 (an3 h40 (an h41 (an6 h41 (an h40 (an h41 (an h40 tv))))))))) ?_
          exact jD false hm Conv.eqK
   ·intro h36
    have hge1:¬ k1<p0.nodes.length:=by have:=of_decide_eq_false h36; omega
    have hm:=he1 hge1
    unfold AaG at hm
    refine DW.exit ?_
    refine Ao ?_
    refine Ba ?_
    refine Ai ?_
    show DW _ _ _ _ _
    obtain ⟨g47,hm⟩:=go1 hm
    refine Sq ?_
    refine Jn (ι:=Bool) (fun (y10:Bool)=>Af [(2,pB y10)] []) (fun y10=>Rh y10=some RES) ?_ ?_
    ·intro y10 hm
     unfold Rh at hm
     obtain rfl:=sj hm
     exact DW.ret (An [] [] (pB y10))
    ·rcases bt (decide (p0.next>(p0.nodes.getD (Int.toNat (w64 (((p0.nodes.length:Nat):Int)-1))) Aq).id)) with h48|h48
     ·replace hm:=Az h48 hm
      refine RK hnt (nn 16 (pT :: .no :: [])) [(2,pB (decide (p0.next≤2147483648)))] [] (an g47.1 (an g47.2 (an4 h48 tv))) ?_
      exact jD (decide (p0.next≤2147483648)) hm .refl
     ·replace hm:=Ay h48 hm
      refine RK hnt (nn 13 (sk 3 (pF :: .no :: []))) [(2,pB false)] [] (an g47.1 (an g47.2 (an4 h48 tv))) ?_
      exact jD false hm .refl
 ·rcases bt (decide (((p0.nodes.length:Nat):Int)<1)) with h1|h1
  ·replace hm:=Az h1 hm
   refine RD hnt (nn 5 (sk 4 (pT :: .no::sk 6 (pT :: [])))) [] [(23,pB true)] [] [] (an5 h1 (an tt (an6 tt tv))) ?_
   exact jD true hm Conv.eqK
  ·replace hm:=Ay h1 hm
   rcases bt (decide (((p0.nodes.length:Nat):Int)>64)) with h2|h2
   ·replace hm:=Az h2 hm
    refine RD hnt (nn 9 (pF :: .no::sk 6 (pT :: []))) [] [(23,pB true)] [] [] (an5 h1 (an h2 (an6 h2 tv))) ?_
    exact jD true hm Conv.eqK
   ·replace hm:=Ay h2 hm
    obtain ⟨g3,hm⟩:=go1 hm
    obtain ⟨r4,hr4,hm⟩:=bo hm
    refine RD hnt (nn 9 (pF::nn 5 (o27 [] true r4 :: .no::pF :: []))) [] [(23,pB (!r4))] [] [] (an5 h1 (an3 h2 (an (nn0 0) (an (ltc g3) (an2 h2 (an (Aht (p0.nodes.getD 0 Aq) r4 hr4) (an2 h2 tv))))))) ?_
    exact jD (!r4) hm Conv.eqK
abbrev o26 (ks:List Nat) (b:Bool) (RES:Bool) (sm:List Nat := []):Orc := .call 77 ks b (pB RES) [] [] sm

theorem Ac (p0:Int) (p1:Int) (p2:Int) (RES:Bool) (hm:Dd p0 p1 p2=some RES):Spec Tryz.prog 105 [pI p0,pI p1,pI p2] [] (pB RES) [] []:=by
 unfold Dd at hm
 refine SO Tryz.func105 rfl rfl [(0,pI p0),(1,pI p1),(2,pI p2)] [] ?_
 intro cx hnt
 refine Sq (RD hnt (.no :: []) [] [] [] [] tv ?_)
 refine Sq (DW.regJ (sl2 := [(6,pB ((decide (p0≥p1))&&(decide (p0≤p2))))]) (ob2 := []) ?_ ?_)
 ·rcases bt (decide (p0≥p1)) with h1|h1
  ·exact RT hnt (nn 7 (pT :: .no :: [])) [(6,pB (decide (p0≤p2)))] (an4 h1 tv) (by kernel_rfl) (.cons rfl (.of_eq (by rw [h1]; try rfl)) .nil)
  ·exact RT hnt (nn 4 (sk 3 (pF :: .no :: []))) [(6,pB false)] (an4 h1 tv) (by kernel_rfl) (.cons rfl (.of_eq (by rw [h1]; try rfl)) .nil)
 ·refine DW.ret ?_
  obtain rfl:=sj hm
  exact An [] [] (pB ((decide (p0≥p1))&&(decide (p0≤p2))))
abbrev o32 (ks:List Nat) (b:Bool) (RES:Bool) (sm:List Nat := []):Orc := .call 105 ks b (pB RES) [] [] sm

theorem Bv (p0:At) (RES:Bool) (hm:Jk p0=some RES):Spec Tryz.prog 106 [.p (.agg (Dn p0))] [] (pB RES) [] []:=by
 unfold Jk at hm
 refine SO Tryz.func106 rfl rfl [(0,.p (.agg (Dn p0)))] [] ?_
 intro cx hnt
 refine Sq (RK hnt (nn 2 []) [(1,rr 1008)] [(1008,bx (pm (Dn p0)))] tv ?_)
 refine Sq (Sq (RD hnt (nn 3 []) [] [(5,pB (p0.quota==4611686018427387904))] [] [] tv ?_))
 refine Ar hm ?_ ?_
 ·intro h1 hm
  obtain ⟨r2,hr2,hm⟩:=bo hm
  refine Sq ?_
  refine Jn (ι:=Bool) (fun (y1:Bool)=>Af [(2,pB y1)] []) (fun y1=>Ka y1=some RES) ?_ ?_
  ·intro y1 hm
   unfold Ka at hm
   obtain rfl:=sj hm
   exact DW.ret (An [] [] (pB y1))
  ·rcases bt r2 with h3|h3
   ·replace hm:=Az h3 hm
    refine RK hnt (nn 2 (o32 [] true r2::nn 4 (pT :: .no :: []))) [(2,pB (p0.burst==0))] [] (an (Ac p0.period 1 1000000 r2 hr2) (an4 h3 tv)) ?_
    exact jD (p0.burst==0) hm .refl
   ·replace hm:=Ay h3 hm
    refine RK hnt (nn 2 (o32 [] true r2 :: .no::sk 3 (pF :: .no :: []))) [(2,pB false)] [] (an (Ac p0.period 1 1000000 r2 hr2) (an4 h3 tv)) ?_
    exact jD false hm .refl
 ·intro h1 hm
  refine Sk ?_
  obtain ⟨r4,hr4,hm⟩:=bo hm
  refine Sq ?_
  refine Jn (ι:=Bool) (fun (y2:Bool)=>Af [(2,pB y2)] []) (fun y2=>Io y2=some RES) ?_ ?_
  ·intro y2 hm
   unfold Io at hm
   obtain rfl:=sj hm
   exact DW.ret (An [] [] (pB y2))
  ·rcases bt r4 with h5|h5
   ·replace hm:=Az h5 hm
    obtain ⟨r6,hr6,hm⟩:=bo hm
    rcases bt r6 with h7|h7
    ·replace hm:=Az h7 hm
     obtain ⟨r8,hr8,hm⟩:=bo hm
     refine RK hnt (nn 2 (o32 [] true r4::nn 3 (o32 [] true r6::pT::nn 5 (o32 [] true r8::pT :: .no :: [])))) [(2,pB r8)] [] (an (Ac p0.period 1 1000000 r4 hr4) (an3 h5 (an (Ac p0.quota 1 1000000 r6 hr6) (an h5 (an5 h7 (an (Ac p0.burst 0 p0.quota r8 hr8) (an h7 tv))))))) ?_
     exact jD r8 hm .refl
    ·replace hm:=Ay h7 hm
     refine RK hnt (nn 2 (o32 [] true r4::nn 3 (o32 [] true r6::pT :: .no::sk 5 (pF :: .no :: [])))) [(2,pB false)] [] (an (Ac p0.period 1 1000000 r4 hr4) (an3 h5 (an (Ac p0.quota 1 1000000 r6 hr6) (an h5 (an6 h7 tv))))) ?_
     exact jD false hm .refl
   ·replace hm:=Ay h5 hm
    refine RK hnt (nn 2 (o32 [] true r4 :: .no::sk 3 (pF :: .no::sk 5 (pF :: .no :: [])))) [(2,pB false)] [] (an (Ac p0.period 1 1000000 r4 hr4) (an4 h5 (an6 ff tv))) ?_
    exact jD false hm .refl
abbrev o33 (ks:List Nat) (b:Bool) (RES:Bool) (sm:List Nat := []):Orc := .call 106 ks b (pB RES) [] [] sm

theorem Cy (p0:List Int) (p1:Int) (RES:Bool) (hm:Kt p0 p1=some RES):Spec Tryz.prog 59 [.p (slI p0),pI p1] [] (pB RES) [] []:=by
 unfold Kt at hm
 refine SO Tryz.func59 rfl rfl [(0,.p (slI p0)),(1,pI p1)] [] ?_
 intro cx hnt
 refine Sq (RD hnt (.no :: []) [] [] [] [] tv ?_)
 refine Sq (Sq (RD hnt (nn 3 []) [] [(7,.p (slI p0)),(8,pI ((p0.length:Nat):Int)),(9,pI 0)] [] [] tv ?_))
 refine Bk ?_
 obtain ⟨hc1,hm⟩:=go1 hm
 refine DW.rangeO (fun (k1:Nat) (s1:Unit)=>Af [(0,.p (slI p0)),(1,pI p1),(7,.p (slI p0)),(8,pI ((p0.length:Nat):Int)),(9,pI ((k1:Nat):Int))] []) 0 hm Conv.eqK ?_
 intro k1 s1 n1 hk1 hs1 he1
 refine Sq (RD hnt (.no :: []) [] [(10,pB (decide (((k1:Nat):Int)<((p0.length:Nat):Int))))] [] [] tv ?_)
 refine Sq (Cv (decide (((k1:Nat):Int)<((p0.length:Nat):Int))) ?_ ?_)
 ·intro h15
  have hlt1:k1<p0.length:=by have:=of_decide_eq_true h15; omega
  have hm:=hs1 hlt1
  unfold AaX at hm
  refine Sk ?_
  refine Sq (Bk ?_)
  refine Sq (RD hnt (nn 5 []) [10] [(5,pI ((k1:Nat):Int)),(6,pI (p0.getD k1 0))] [] [] (an (nn0 k1) (an (ltc hlt1) tv)) ?_)
  refine Sq ?_
  refine Jn (ι:=Bool) (fun (y3:Bool)=>Af [(0,.p (slI p0)),(1,pI p1),(7,.p (slI p0)),(8,pI ((p0.length:Nat):Int)),(9,pI ((k1:Nat):Int)),(33,pB y3)] []) (fun y3=>(Nn n1) y3=some RES) ?_ ?_
  ·intro y3 hm
   unfold Nn at hm
   refine Ar hm ?_ ?_
   ·intro h20 hm
    refine Sq (RK hnt (.no :: []) [(4,pB false)] [] tv ?_)
    obtain rfl:=sj hm
    exact DW.ret (An [] [] (pB false))
   ·intro h20 hm
    refine Sk ?_
    refine DW.done ?_
    show DW _ _ _ _ _
    refine RD hnt (nn 2 []) [33] [(9,pI (w64 (((k1:Nat):Int)+1)))] [] [] tv ?_
    exact jD () ⟨hlt1,hm⟩ (Conv.tp [(9,pI (w64 (((k1:Nat):Int)+1)))] [] (by kernel_rfl) (.cons rfl (.of_eq (congrArg pI (Bt hlt1 hc1))) .nil) .nil)
  ·rcases bt (decide ((p0.getD k1 0)<0)) with h16|h16
   ·replace hm:=Az h16 hm
    refine RD hnt (nn 3 (sk 3 (pT :: .no::sk 11 (pT :: [])))) [5,6] [(33,pB true)] [] [] (an4 h16 (an5 tt tv)) ?_
    exact jD true hm Conv.eqK
   ·replace hm:=Ay h16 hm
    rcases bt (decide ((p0.getD k1 0)≥p1)) with h17|h17
    ·replace hm:=Az h17 hm
     refine RD hnt (nn 6 (pF :: .no::sk 11 (pT :: []))) [5,6] [(33,pB true)] [] [] (an4 h16 (an5 h17 tv)) ?_
     exact jD true hm Conv.eqK
    ·replace hm:=Ay h17 hm
     rcases bt (decide (((k1:Nat):Int)>0)) with h18|h18
     ·replace hm:=Az h18 hm
      obtain ⟨g19,hm⟩:=go1 hm
      refine RD hnt (nn 6 (pF::nn 11 (pT::pF :: []))) [5,6] [(33,pB (decide ((p0.getD k1 0)≤(p0.getD (Int.toNat (w64 (((k1:Nat):Int)-1))) 0))))] [] [] (an4 h16 (an3 h17 (an5 h18 (an g19.1 (an g19.2 (an2 h18 (an h17 (an h18 (an h17 tv))))))))) ?_
      exact jD (decide ((p0.getD k1 0)≤(p0.getD (Int.toNat (w64 (((k1:Nat):Int)-1))) 0))) hm Conv.eqK
     ·replace hm:=Ay h18 hm
      refine RD hnt (nn 6 (pF::nn 4 (sk 7 (pF::pF :: [])))) [5,6] [(33,pB false)] [] [] (an4 h16 (an3 h17 (an h18 (an6 h18 (an h17 (an h18 (an h17 tv))))))) ?_
      exact jD false hm Conv.eqK
 ·intro h15
  have hge1:¬ k1<p0.length:=by have:=of_decide_eq_false h15; omega
  have hm:=he1 hge1
  unfold AdH at hm
  refine DW.exit ?_
  refine Ao ?_
  refine Ba ?_
  refine Ai ?_
  show DW _ _ _ _ _
  refine Sq (RK hnt (.no :: []) [(4,pB true)] [] tv ?_)
  obtain rfl:=sj hm
  exact DW.ret (An [] [] (pB true))
abbrev o34 (ks:List Nat) (b:Bool) (RES:Bool) (sm:List Nat := []):Orc := .call 59 ks b (pB RES) [] [] sm

theorem Aw (p0:Int) (p1:Int) (p2:Int) (RES:Bool) (hm:Fy p0 p1 p2=some RES):Spec Tryz.prog 125 [pI p0,pI p1,pI p2] [] (pB RES) [] []:=by
 unfold Fy at hm
 refine SO Tryz.func125 rfl rfl [(0,pI p0),(1,pI p1),(2,pI p2)] [] ?_
 intro cx hnt
 refine Sq (RD hnt (.no :: []) [] [] [] [] tv ?_)
 refine Sq (DW.regJ (sl2 := [(6,pB (((decide (p0≥p1))&&(decide (p0≤p2)))||(p0==4611686018427387904)))]) (ob2 := []) ?_ ?_)
 ·rcases bt (decide (p0≥p1)) with h1|h1
  ·rcases bt (decide (p0≤p2)) with h2|h2
   ·exact RT hnt (nn 7 (pT :: .no::sk 2 (pT :: .no :: []))) [(6,pB true)] (an4 h1 (an3 h2 tv)) (by kernel_rfl) (.cons rfl (.of_eq (by rw [h1,h2]; try rfl)) .nil)
   ·exact RT hnt (nn 7 (pT::nn 3 (pF :: .no :: []))) [(6,pB (p0==4611686018427387904))] (an4 h1 (an3 h2 tv)) (by kernel_rfl) (.cons rfl (.of_eq (by rw [h1,h2]; try rfl)) .nil)
  ·exact RT hnt (nn 4 (sk 3 (pF::nn 3 (pF :: .no :: [])))) [(6,pB (p0==4611686018427387904))] (an4 h1 (an3 ff tv)) (by kernel_rfl) (.cons rfl (.of_eq (by rw [h1]; try rfl)) .nil)
 ·refine DW.ret ?_
  obtain rfl:=sj hm
  exact An [] [] (pB (((decide (p0≥p1))&&(decide (p0≤p2)))||(p0==4611686018427387904)))
abbrev o36 (ks:List Nat) (b:Bool) (RES:Bool) (sm:List Nat := []):Orc := .call 125 ks b (pB RES) [] [] sm

theorem Ds (p0:Ih) (RES:Bool) (hm:Dt p0=some RES):Spec Tryz.prog 107 [.p (.agg (Mk p0))] [] (pB RES) [] []:=by
 unfold Dt at hm
 refine SO Tryz.func107 rfl rfl [(0,.p (.agg (Mk p0)))] [] ?_
 intro cx hnt
 refine Sq (RK hnt (nn 2 []) [(1,rr 1008)] [(1008,bx (pm (Mk p0)))] tv ?_)
 obtain ⟨r1,hr1,hm⟩:=bo hm
 refine Sq ?_
 refine Jn (ι:=Bool) (fun (y1:Bool)=>Af [(2,pB y1)] []) (fun y1=>Hf y1=some RES) ?_ ?_
 ·intro y1 hm
  unfold Hf at hm
  obtain rfl:=sj hm
  exact DW.ret (An [] [] (pB y1))
 ·rcases bt r1 with h2|h2
  ·replace hm:=Az h2 hm
   obtain ⟨r3,hr3,hm⟩:=bo hm
   rcases bt r3 with h4|h4
   ·replace hm:=Az h4 hm
    obtain ⟨r5,hr5,hm⟩:=bo hm
    rcases bt r5 with h6|h6
    ·replace hm:=Az h6 hm
     obtain ⟨r7,hr7,hm⟩:=bo hm
     rcases bt r7 with h8|h8
     ·replace hm:=Az h8 hm
      obtain ⟨r9,hr9,hm⟩:=bo hm
      refine RK hnt (nn 2 (o36 [] true r1::nn 3 (o36 [] true r3::pT::nn 3 (o36 [] true r5::pT::nn 3 (o36 [] true r7::pT::nn 3 (o36 [] true r9::pT :: .no :: [])))))) [(2,pB r9)] [] (an (Aw p0.min 0 1099511627776 r1 hr1) (an3 h2 (an (Aw p0.low 0 1099511627776 r3 hr3) (an h2 (an3 h4 (an (Aw p0.high 0 1099511627776 r5 hr5) (an h4 (an3 h6 (an (Aw p0.max 0 1099511627776 r7 hr7) (an h6 (an3 h8 (an (Aw p0.swapMax 0 1099511627776 r9 hr9) (an h8 tv))))))))))))) ?_
      exact jD r9 hm .refl
     ·replace hm:=Ay h8 hm
      refine RK hnt (nn 2 (o36 [] true r1::nn 3 (o36 [] true r3::pT::nn 3 (o36 [] true r5::pT::nn 3 (o36 [] true r7::pT :: .no::sk 3 (pF :: .no :: [])))))) [(2,pB false)] [] (an (Aw p0.min 0 1099511627776 r1 hr1) (an3 h2 (an (Aw p0.low 0 1099511627776 r3 hr3) (an h2 (an3 h4 (an (Aw p0.high 0 1099511627776 r5 hr5) (an h4 (an3 h6 (an (Aw p0.max 0 1099511627776 r7 hr7) (an h6 (an4 h8 tv))))))))))) ?_
      exact jD false hm .refl
    ·replace hm:=Ay h6 hm
     refine RK hnt (nn 2 (o36 [] true r1::nn 3 (o36 [] true r3::pT::nn 3 (o36 [] true r5::pT :: .no::sk 3 (pF :: .no::sk 3 (pF :: .no :: [])))))) [(2,pB false)] [] (an (Aw p0.min 0 1099511627776 r1 hr1) (an3 h2 (an (Aw p0.low 0 1099511627776 r3 hr3) (an h2 (an3 h4 (an (Aw p0.high 0 1099511627776 r5 hr5) (an h4 (an4 h6 (an4 ff tv))))))))) ?_
     exact jD false hm .refl
   ·replace hm:=Ay h4 hm
    refine RK hnt (nn 2 (o36 [] true r1::nn 3 (o36 [] true r3::pT :: .no::sk 3 (pF :: .no::sk 3 (pF :: .no::sk 3 (pF :: .no :: [])))))) [(2,pB false)] [] (an (Aw p0.min 0 1099511627776 r1 hr1) (an3 h2 (an (Aw p0.low 0 1099511627776 r3 hr3) (an h2 (an4 h4 (an2 ff (an6 ff tv))))))) ?_
    exact jD false hm .refl
  ·replace hm:=Ay h2 hm
   refine RK hnt (nn 2 (o36 [] true r1 :: .no::sk 3 (pF :: .no::sk 3 (pF :: .no::sk 3 (pF :: .no::sk 3 (pF :: .no :: [])))))) [(2,pB false)] [] (an (Aw p0.min 0 1099511627776 r1 hr1) (an4 h2 (an6 ff (an6 ff tv)))) ?_
   exact jD false hm .refl
abbrev o35 (ks:List Nat) (b:Bool) (RES:Bool) (sm:List Nat := []):Orc := .call 107 ks b (pB RES) [] [] sm
end Go.Dm


/- Go functions compute their models, printed by a program. -/
namespace Go.Dm
open Go.Proofs
set_option linter.unusedVariables false
abbrev Dk (p0:List Bf) (k1:Nat):=(p0.getD k1 Lq)
theorem Ib (p0:List Bf) (RES:Bool) (hm:Dj p0=some RES):Spec Tryz.prog 108 [.p (Db p0)] [] (pB RES) [] []:=by
 unfold Dj at hm
 refine SO Tryz.func108 rfl rfl [(0,.p (Db p0))] [] ?_
 intro cx hnt
 refine Sq (RD hnt (.no :: []) [] [] [] [] tv ?_)
 refine Sq (Sq (RD hnt (.no :: []) [] [(3,pI 0)] [] [] tv ?_))
 refine Bk ?_
 obtain ⟨hc1,hm⟩:=go1 hm
 refine DW.rangeO (fun (k1:Nat) (s1:Unit)=>Af [(0,.p (Db p0)),(3,pI ((k1:Nat):Int))] []) Lq hm Conv.eqK ?_
 intro k1 s1 n1 hk1 hs1 he1
 refine Sq (Sq (RD hnt (nn 4 []) [] [(8,pB (decide (((k1:Nat):Int)<((p0.length:Nat):Int))))] [] [] tv ?_))
 refine Cv (decide (((k1:Nat):Int)<((p0.length:Nat):Int))) ?_ ?_
 ·intro h61
  have hlt1:k1<p0.length:=by have:=of_decide_eq_true h61; omega
  have hm:=hs1 hlt1
  unfold Th at hm
  refine Sk ?_
  refine Sq (Bk ?_)
  refine Sq (RD hnt (nn 6 []) [8] [(4,rr 1032)] [] [(1032,bx (pm (Dx (Dk p0 k1))))] (an (nn0 k1) (an (ltc hlt1) tv)) ?_)
  refine Sq ?_
  refine Jn (ι:=Bool) (fun (y3:Bool)=>Af [(0,.p (Db p0)),(3,pI ((k1:Nat):Int)),(81,pB y3)] []) (fun y3=>(Bj n1) y3=some RES) ?_ ?_
  ·intro y3 hm
   unfold Bj at hm
   refine Ar hm ?_ ?_
   ·intro h89 hm
    refine Sq (RK hnt (.no :: []) [(2,pB false)] [] tv ?_)
    obtain rfl:=sj hm
    exact DW.ret (An [] [] (pB false))
   ·intro h89 hm
    refine Sk ?_
    refine DW.done ?_
    show DW _ _ _ _ _
    refine RD hnt (nn 3 []) [81] [(3,pI (w64 (((k1:Nat):Int)+1)))] [] [] tv ?_
    exact jD () ⟨hlt1,hm⟩ (Conv.tp [(3,pI (w64 (((k1:Nat):Int)+1)))] [] (by kernel_rfl) (.cons rfl (.of_eq (congrArg pI (Bt hlt1 hc1))) .nil) .nil)
  ·rcases bt (decide ((Dk p0 k1).device<0)) with h62|h62
   ·replace hm:=Az h62 hm
    refine RD hnt (nn 4 (sk 3 (pT :: .no::sk 13 (pT :: .no::sk 3 (pT :: .no::sk 3 (pT :: .no::sk 4 (pT :: .no::sk 4 (pT :: .no::sk 4 (pT :: .no::sk 4 (pT :: .no::sk 3 (pT :: .no::sk 3 (pT :: [])))))))))))) [4] [(81,pB true)] [1032] [] (an4 h62 (an5 tt (an6 tt (an6 tt (an6 tt (an6 tt (an6 tt (an6 tt tv)))))))) ?_
    exact jD true hm Conv.eqK
   ·replace hm:=Ay h62 hm
    rcases bt (decide ((Dk p0 k1).device≥8)) with h63|h63
    ·replace hm:=Az h63 hm
     refine RD hnt (nn 7 (pF :: .no::sk 13 (pT :: .no::sk 3 (pT :: .no::sk 3 (pT :: .no::sk 4 (pT :: .no::sk 4 (pT :: .no::sk 4 (pT :: .no::sk 4 (pT :: .no::sk 3 (pT :: .no::sk 3 (pT :: []))))))))))) [4] [(81,pB true)] [1032] [] (an4 h62 (an5 h63 (an6 tt (an6 tt (an6 tt (an6 tt (an6 tt (an6 tt tv)))))))) ?_
     exact jD true hm Conv.eqK
    ·replace hm:=Ay h63 hm
     rcases bt (decide (((k1:Nat):Int)>0)) with h64|h64
     ·replace hm:=Az h64 hm
      obtain ⟨g65,hm⟩:=go1 hm
      rcases bt (decide ((Dk p0 k1).device≤(p0.getD (Int.toNat (w64 (((k1:Nat):Int)-1))) Lq).device)) with h66|h66
      ·replace hm:=Az h66 hm
       refine RD hnt (nn 7 (pF::nn 13 (pT::pF :: .no::sk 3 (pT :: .no::sk 3 (pT :: .no::sk 4 (pT :: .no::sk 4 (pT :: .no::sk 4 (pT :: .no::sk 4 (pT :: .no::sk 3 (pT :: .no::sk 3 (pT :: []))))))))))) [4] [(81,pB true)] [1032] [] (an4 h62 (an3 h63 (an6 h64 (an g65.1 (an g65.2 (an3 h64 (an h63 (an h64 (an h63 (an4 h66 (an2 tt (an6 tt (an6 tt (an6 tt (an6 tt (an6 tt tv)))))))))))))))) ?_
       exact jD true hm Conv.eqK
      ·replace hm:=Ay h66 hm
       rcases bt (decide ((Dk p0 k1).weight<1)) with h67|h67
       ·replace hm:=Az h67 hm
        refine RD hnt (nn 7 (pF::nn 13 (pT::pF::nn 4 (pF :: .no::sk 3 (pT :: .no::sk 4 (pT :: .no::sk 4 (pT :: .no::sk 4 (pT :: .no::sk 4 (pT :: .no::sk 3 (pT :: .no::sk 3 (pT :: []))))))))))) [4] [(81,pB true)] [1032] [] (an4 h62 (an3 h63 (an6 h64 (an g65.1 (an g65.2 (an3 h64 (an h63 (an h64 (an h63 (an4 h66 (an4 h67 (an4 tt (an6 tt (an6 tt (an6 tt (an6 tt tv)))))))))))))))) ?_
        exact jD true hm Conv.eqK
       ·replace hm:=Ay h67 hm
        rcases bt (decide ((Dk p0 k1).weight>10000)) with h68|h68
        ·replace hm:=Az h68 hm
         refine RD hnt (nn 7 (pF::nn 13 (pT::pF::nn 4 (pF::nn 4 (pF :: .no::sk 4 (pT :: .no::sk 4 (pT :: .no::sk 4 (pT :: .no::sk 4 (pT :: .no::sk 3 (pT :: .no::sk 3 (pT :: []))))))))))) [4] [(81,pB true)] [1032] [] (an4 h62 (an3 h63 (an6 h64 (an g65.1 (an g65.2 (an3 h64 (an h63 (an h64 (an h63 (an4 h66 (an4 h67 (an5 h68 (an5 tt (an6 tt (an6 tt (an6 tt tv)))))))))))))))) ?_
         exact jD true hm Conv.eqK
        ·replace hm:=Ay h68 hm
         obtain ⟨r69,hr69,hm⟩:=bo hm
         rcases bt (!r69) with h70|h70
         ·replace hm:=Az h70 hm
          refine RD hnt (nn 7 (pF::nn 13 (pT::pF::nn 4 (pF::nn 4 (pF::nn 3 (o36 [] true r69 :: .no::pF :: .no::sk 4 (pT :: .no::sk 4 (pT :: .no::sk 4 (pT :: .no::sk 3 (pT :: .no::sk 3 (pT :: []))))))))))) [4] [(81,pB true)] [1032] [] (an4 h62 (an3 h63 (an6 h64 (an g65.1 (an g65.2 (an3 h64 (an h63 (an h64 (an h63 (an4 h66 (an4 h67 (an3 h68 (an (Aw (Dk p0 k1).readPages 1 1073741824 r69 hr69) (an2 h68 (an5 h70 (an6 tt (an6 tt (an6 tt tv)))))))))))))))))) ?_
          exact jD true hm Conv.eqK
         ·replace hm:=Ay h70 hm
          obtain ⟨r71,hr71,hm⟩:=bo hm
          rcases bt (!r71) with h72|h72
          ·replace hm:=Az h72 hm
           refine RD hnt (nn 7 (pF::nn 13 (pT::pF::nn 4 (pF::nn 4 (pF::nn 3 (o36 [] true r69 :: .no::pF::nn 3 (o36 [] true r71 :: .no::pF :: .no::sk 4 (pT :: .no::sk 4 (pT :: .no::sk 3 (pT :: .no::sk 3 (pT :: []))))))))))) [4] [(81,pB true)] [1032] [] (an4 h62 (an3 h63 (an6 h64 (an g65.1 (an g65.2 (an3 h64 (an h63 (an h64 (an h63 (an4 h66 (an4 h67 (an3 h68 (an (Aw (Dk p0 k1).readPages 1 1073741824 r69 hr69) (an2 h68 (an3 h70 (an (Aw (Dk p0 k1).writePages 1 1073741824 r71 hr71) (an2 h70 (an5 h72 (an tt (an6 tt (an6 tt tv))))))))))))))))))))) ?_
           exact jD true hm Conv.eqK
          ·replace hm:=Ay h72 hm
           obtain ⟨r73,hr73,hm⟩:=bo hm
           rcases bt (!r73) with h74|h74
           ·replace hm:=Az h74 hm
            refine RD hnt (nn 7 (pF::nn 13 (pT::pF::nn 4 (pF::nn 4 (pF::nn 3 (o36 [] true r69 :: .no::pF::nn 3 (o36 [] true r71 :: .no::pF::nn 3 (o36 [] true r73 :: .no::pF :: .no::sk 4 (pT :: .no::sk 3 (pT :: .no::sk 3 (pT :: []))))))))))) [4] [(81,pB true)] [1032] [] (an4 h62 (an3 h63 (an6 h64 (an g65.1 (an g65.2 (an3 h64 (an h63 (an h64 (an h63 (an4 h66 (an4 h67 (an3 h68 (an (Aw (Dk p0 k1).readPages 1 1073741824 r69 hr69) (an2 h68 (an3 h70 (an (Aw (Dk p0 k1).writePages 1 1073741824 r71 hr71) (an2 h70 (an3 h72 (an (Aw (Dk p0 k1).readOps 1 1073741824 r73 hr73) (an2 h72 (an5 h74 (an2 tt (an6 tt tv))))))))))))))))))))))) ?_
            exact jD true hm Conv.eqK
           ·replace hm:=Ay h74 hm
            obtain ⟨r75,hr75,hm⟩:=bo hm
            rcases bt (!r75) with h76|h76
            ·replace hm:=Az h76 hm
             refine RD hnt (nn 7 (pF::nn 13 (pT::pF::nn 4 (pF::nn 4 (pF::nn 3 (o36 [] true r69 :: .no::pF::nn 3 (o36 [] true r71 :: .no::pF::nn 3 (o36 [] true r73 :: .no::pF::nn 3 (o36 [] true r75 :: .no::pF :: .no::sk 3 (pT :: .no::sk 3 (pT :: []))))))))))) [4] [(81,pB true)] [1032] [] (an4 h62 (an3 h63 (an6 h64 (an g65.1 (an g65.2 (an3 h64 (an h63 (an h64 (an h63 (an4 h66 (an4 h67 (an3 h68 (an (Aw (Dk p0 k1).readPages 1 1073741824 r69 hr69) (an2 h68 (an3 h70 (an (Aw (Dk p0 k1).writePages 1 1073741824 r71 hr71) (an2 h70 (an3 h72 (an (Aw (Dk p0 k1).readOps 1 1073741824 r73 hr73) (an2 h72 (an3 h74 (an (Aw (Dk p0 k1).writeOps 1 1073741824 r75 hr75) (an2 h74 (an4 h76 (an4 tt tv))))))))))))))))))))))))) ?_
             exact jD true hm Conv.eqK
            ·replace hm:=Ay h76 hm
             rcases bt (decide ((Dk p0 k1).target<0)) with h77|h77
             ·replace hm:=Az h77 hm
              refine RD hnt (nn 7 (pF::nn 13 (pT::pF::nn 4 (pF::nn 4 (pF::nn 3 (o36 [] true r69 :: .no::pF::nn 3 (o36 [] true r71 :: .no::pF::nn 3 (o36 [] true r73 :: .no::pF::nn 3 (o36 [] true r75 :: .no::pF::nn 4 (pF :: .no::sk 3 (pT :: []))))))))))) [4] [(81,pB true)] [1032] [] (an4 h62 (an3 h63 (an6 h64 (an g65.1 (an g65.2 (an3 h64 (an h63 (an h64 (an h63 (an4 h66 (an4 h67 (an3 h68 (an (Aw (Dk p0 k1).readPages 1 1073741824 r69 hr69) (an2 h68 (an3 h70 (an (Aw (Dk p0 k1).writePages 1 1073741824 r71 hr71) (an2 h70 (an3 h72 (an (Aw (Dk p0 k1).readOps 1 1073741824 r73 hr73) (an2 h72 (an3 h74 (an (Aw (Dk p0 k1).writeOps 1 1073741824 r75 hr75) (an2 h74 (an4 h76 (an4 h77 tv))))))))))))))))))))))))) ?_
              exact jD true hm Conv.eqK
             ·replace hm:=Ay h77 hm
              refine RD hnt (nn 7 (pF::nn 13 (pT::pF::nn 4 (pF::nn 4 (pF::nn 3 (o36 [] true r69 :: .no::pF::nn 3 (o36 [] true r71 :: .no::pF::nn 3 (o36 [] true r73 :: .no::pF::nn 3 (o36 [] true r75 :: .no::pF::nn 4 (pF::nn 4 (pF :: []))))))))))) [4] [(81,pB (decide ((Dk p0 k1).target>1048576)))] [1032] [] (an4 h62 (an3 h63 (an6 h64 (an g65.1 (an g65.2 (an3 h64 (an h63 (an h64 (an h63 (an4 h66 (an4 h67 (an3 h68 (an (Aw (Dk p0 k1).readPages 1 1073741824 r69 hr69) (an2 h68 (an3 h70 (an (Aw (Dk p0 k1).writePages 1 1073741824 r71 hr71) (an2 h70 (an3 h72 (an (Aw (Dk p0 k1).readOps 1 1073741824 r73 hr73) (an2 h72 (an3 h74 (an (Aw (Dk p0 k1).writeOps 1 1073741824 r75 hr75) (an2 h74 (an4 h76 (an4 h77 tv))))))))))))))))))))))))) ?_
              exact jD (decide ((Dk p0 k1).target>1048576)) hm Conv.eqK
     ·replace hm:=Ay h64 hm
      rcases bt (decide ((Dk p0 k1).weight<1)) with h78|h78
      ·replace hm:=Az h78 hm
       refine RD hnt (nn 7 (pF::nn 4 (sk 9 (pF::pF::nn 4 (pF :: .no::sk 3 (pT :: .no::sk 4 (pT :: .no::sk 4 (pT :: .no::sk 4 (pT :: .no::sk 4 (pT :: .no::sk 3 (pT :: .no::sk 3 (pT :: [])))))))))))) [4] [(81,pB true)] [1032] [] (an4 h62 (an3 h63 (an3 h64 (an6 h64 (an h63 (an h64 (an h63 (an4 ff (an4 h78 (an4 tt (an6 tt (an6 tt (an6 tt (an6 tt tv)))))))))))))) ?_
       exact jD true hm Conv.eqK
      ·replace hm:=Ay h78 hm
       rcases bt (decide ((Dk p0 k1).weight>10000)) with h79|h79
       ·replace hm:=Az h79 hm
        refine RD hnt (nn 7 (pF::nn 4 (sk 9 (pF::pF::nn 4 (pF::nn 4 (pF :: .no::sk 4 (pT :: .no::sk 4 (pT :: .no::sk 4 (pT :: .no::sk 4 (pT :: .no::sk 3 (pT :: .no::sk 3 (pT :: [])))))))))))) [4] [(81,pB true)] [1032] [] (an4 h62 (an3 h63 (an3 h64 (an6 h64 (an h63 (an h64 (an h63 (an4 ff (an4 h78 (an5 h79 (an5 tt (an6 tt (an6 tt (an6 tt tv)))))))))))))) ?_
        exact jD true hm Conv.eqK
       ·replace hm:=Ay h79 hm
        obtain ⟨r80,hr80,hm⟩:=bo hm
        rcases bt (!r80) with h81|h81
        ·replace hm:=Az h81 hm
         refine RD hnt (nn 7 (pF::nn 4 (sk 9 (pF::pF::nn 4 (pF::nn 4 (pF::nn 3 (o36 [] true r80 :: .no::pF :: .no::sk 4 (pT :: .no::sk 4 (pT :: .no::sk 4 (pT :: .no::sk 3 (pT :: .no::sk 3 (pT :: [])))))))))))) [4] [(81,pB true)] [1032] [] (an4 h62 (an3 h63 (an3 h64 (an6 h64 (an h63 (an h64 (an h63 (an4 ff (an4 h78 (an3 h79 (an (Aw (Dk p0 k1).readPages 1 1073741824 r80 hr80) (an2 h79 (an5 h81 (an6 tt (an6 tt (an6 tt tv)))))))))))))))) ?_
         exact jD true hm Conv.eqK
        ·replace hm:=Ay h81 hm
         obtain ⟨r82,hr82,hm⟩:=bo hm
         rcases bt (!r82) with h83|h83
         ·replace hm:=Az h83 hm
          refine RD hnt (nn 7 (pF::nn 4 (sk 9 (pF::pF::nn 4 (pF::nn 4 (pF::nn 3 (o36 [] true r80 :: .no::pF::nn 3 (o36 [] true r82 :: .no::pF :: .no::sk 4 (pT :: .no::sk 4 (pT :: .no::sk 3 (pT :: .no::sk 3 (pT :: [])))))))))))) [4] [(81,pB true)] [1032] [] (an4 h62 (an3 h63 (an3 h64 (an6 h64 (an h63 (an h64 (an h63 (an4 ff (an4 h78 (an3 h79 (an (Aw (Dk p0 k1).readPages 1 1073741824 r80 hr80) (an2 h79 (an3 h81 (an (Aw (Dk p0 k1).writePages 1 1073741824 r82 hr82) (an2 h81 (an5 h83 (an tt (an6 tt (an6 tt tv))))))))))))))))))) ?_
          exact jD true hm Conv.eqK
         ·replace hm:=Ay h83 hm
          obtain ⟨r84,hr84,hm⟩:=bo hm
          rcases bt (!r84) with h85|h85
          ·replace hm:=Az h85 hm
           refine RD hnt (nn 7 (pF::nn 4 (sk 9 (pF::pF::nn 4 (pF::nn 4 (pF::nn 3 (o36 [] true r80 :: .no::pF::nn 3 (o36 [] true r82 :: .no::pF::nn 3 (o36 [] true r84 :: .no::pF :: .no::sk 4 (pT :: .no::sk 3 (pT :: .no::sk 3 (pT :: [])))))))))))) [4] [(81,pB true)] [1032] [] (an4 h62 (an3 h63 (an3 h64 (an6 h64 (an h63 (an h64 (an h63 (an4 ff (an4 h78 (an3 h79 (an (Aw (Dk p0 k1).readPages 1 1073741824 r80 hr80) (an2 h79 (an3 h81 (an (Aw (Dk p0 k1).writePages 1 1073741824 r82 hr82) (an2 h81 (an3 h83 (an (Aw (Dk p0 k1).readOps 1 1073741824 r84 hr84) (an2 h83 (an5 h85 (an2 tt (an6 tt tv))))))))))))))))))))) ?_
           exact jD true hm Conv.eqK
          ·replace hm:=Ay h85 hm
           obtain ⟨r86,hr86,hm⟩:=bo hm
           rcases bt (!r86) with h87|h87
           ·replace hm:=Az h87 hm
            refine RD hnt (nn 7 (pF::nn 4 (sk 9 (pF::pF::nn 4 (pF::nn 4 (pF::nn 3 (o36 [] true r80 :: .no::pF::nn 3 (o36 [] true r82 :: .no::pF::nn 3 (o36 [] true r84 :: .no::pF::nn 3 (o36 [] true r86 :: .no::pF :: .no::sk 3 (pT :: .no::sk 3 (pT :: [])))))))))))) [4] [(81,pB true)] [1032] [] (an4 h62 (an3 h63 (an3 h64 (an6 h64 (an h63 (an h64 (an h63 (an4 ff (an4 h78 (an3 h79 (an (Aw (Dk p0 k1).readPages 1 1073741824 r80 hr80) (an2 h79 (an3 h81 (an (Aw (Dk p0 k1).writePages 1 1073741824 r82 hr82) (an2 h81 (an3 h83 (an (Aw (Dk p0 k1).readOps 1 1073741824 r84 hr84) (an2 h83 (an3 h85 (an (Aw (Dk p0 k1).writeOps 1 1073741824 r86 hr86) (an2 h85 (an4 h87 (an4 tt tv))))))))))))))))))))))) ?_
            exact jD true hm Conv.eqK
           ·replace hm:=Ay h87 hm
            rcases bt (decide ((Dk p0 k1).target<0)) with h88|h88
            ·replace hm:=Az h88 hm
             refine RD hnt (nn 7 (pF::nn 4 (sk 9 (pF::pF::nn 4 (pF::nn 4 (pF::nn 3 (o36 [] true r80 :: .no::pF::nn 3 (o36 [] true r82 :: .no::pF::nn 3 (o36 [] true r84 :: .no::pF::nn 3 (o36 [] true r86 :: .no::pF::nn 4 (pF :: .no::sk 3 (pT :: [])))))))))))) [4] [(81,pB true)] [1032] [] (an4 h62 (an3 h63 (an3 h64 (an6 h64 (an h63 (an h64 (an h63 (an4 ff (an4 h78 (an3 h79 (an (Aw (Dk p0 k1).readPages 1 1073741824 r80 hr80) (an2 h79 (an3 h81 (an (Aw (Dk p0 k1).writePages 1 1073741824 r82 hr82) (an2 h81 (an3 h83 (an (Aw (Dk p0 k1).readOps 1 1073741824 r84 hr84) (an2 h83 (an3 h85 (an (Aw (Dk p0 k1).writeOps 1 1073741824 r86 hr86) (an2 h85 (an4 h87 (an4 h88 tv))))))))))))))))))))))) ?_
             exact jD true hm Conv.eqK
            ·replace hm:=Ay h88 hm
             refine RD hnt (nn 7 (pF::nn 4 (sk 9 (pF::pF::nn 4 (pF::nn 4 (pF::nn 3 (o36 [] true r80 :: .no::pF::nn 3 (o36 [] true r82 :: .no::pF::nn 3 (o36 [] true r84 :: .no::pF::nn 3 (o36 [] true r86 :: .no::pF::nn 4 (pF::nn 4 (pF :: [])))))))))))) [4] [(81,pB (decide ((Dk p0 k1).target>1048576)))] [1032] [] (an4 h62 (an3 h63 (an3 h64 (an6 h64 (an h63 (an h64 (an h63 (an4 ff (an4 h78 (an3 h79 (an (Aw (Dk p0 k1).readPages 1 1073741824 r80 hr80) (an2 h79 (an3 h81 (an (Aw (Dk p0 k1).writePages 1 1073741824 r82 hr82) (an2 h81 (an3 h83 (an (Aw (Dk p0 k1).readOps 1 1073741824 r84 hr84) (an2 h83 (an3 h85 (an (Aw (Dk p0 k1).writeOps 1 1073741824 r86 hr86) (an2 h85 (an4 h87 (an4 h88 tv))))))))))))))))))))))) ?_
             exact jD (decide ((Dk p0 k1).target>1048576)) hm Conv.eqK
 ·intro h61
  have hge1:¬ k1<p0.length:=by have:=of_decide_eq_false h61; omega
  have hm:=he1 hge1
  unfold Zf at hm
  refine DW.exit ?_
  refine Ao ?_
  refine Ba ?_
  refine Ai ?_
  show DW _ _ _ _ _
  refine Sq (RK hnt (nn 4 []) [(2,pB (decide (((p0.length:Nat):Int)≤8)))] [] tv ?_)
  obtain rfl:=sj hm
  exact DW.ret (An [] [] (pB (decide (((p0.length:Nat):Int)≤8))))
abbrev o37 (ks:List Nat) (b:Bool) (RES:Bool) (sm:List Nat := []):Orc := .call 108 ks b (pB RES) [] [] sm

theorem Aei (p0:At) (RES:Bool) (hm:Pj p0=some RES):Spec Tryz.prog 78 [.p (.agg (Dn p0))] [] (pB RES) [] []:=by
 unfold Pj at hm
 refine SO Tryz.func78 rfl rfl [(0,.p (.agg (Dn p0)))] [] ?_
 intro cx hnt
 refine Sq (RK hnt (nn 2 []) [(1,rr 1008)] [(1008,bx (pm (Dn p0)))] tv ?_)
 refine Sq ?_
 refine Jn (ι:=Bool) (fun (y1:Bool)=>Af [(2,pB y1)] []) (fun y1=>Ca y1=some RES) ?_ ?_
 ·intro y1 hm
  unfold Ca at hm
  obtain rfl:=sj hm
  exact DW.ret (An [] [] (pB y1))
 ·rcases bt (p0.pidsMax==4611686018427387904) with h1|h1
  ·replace hm:=Az h1 hm
   obtain ⟨r21,hr21,hm⟩:=bo hm
   rcases bt r21 with h22|h22
   ·replace hm:=Az h22 hm
    obtain ⟨r23,hr23,hm⟩:=bo hm
    rcases bt r23 with h24|h24
    ·replace hm:=Az h24 hm
     obtain ⟨r25,hr25,hm⟩:=bo hm
     rcases bt r25 with h26|h26
     ·replace hm:=Az h26 hm
      obtain ⟨r27,hr27,hm⟩:=bo hm
      rcases bt r27 with h28|h28
      ·replace hm:=Az h28 hm
       obtain ⟨r29,hr29,hm⟩:=bo hm
       rcases bt r29 with h30|h30
       ·replace hm:=Az h30 hm
        obtain ⟨r31,hr31,hm⟩:=bo hm
        rcases bt r31 with h32|h32
        ·replace hm:=Az h32 hm
         obtain ⟨r33,hr33,hm⟩:=bo hm
         rcases bt r33 with h34|h34
         ·replace hm:=Az h34 hm
          obtain ⟨r35,hr35,hm⟩:=bo hm
          rcases bt r35 with h36|h36
          ·replace hm:=Az h36 hm
           obtain ⟨r37,hr37,hm⟩:=bo hm
           refine RK hnt (nn 4 (sk 3 (pT::nn 3 (o32 [] true r21::pT::nn 2 (o33 [] true r23::pT::nn 3 (o32 [] true r25::pT::nn 3 (o32 [] true r27::pT::nn 3 (o34 [] true r29::pT::nn 3 (o34 [] true r31::pT::nn 3 (o32 [] true r33::pT::nn 3 (o35 [] true r35::pT::nn 3 (o37 [] true r37::pT :: .no :: [])))))))))))) [(2,pB r37)] [] (an4 h1 (an3 tt (an (Ac p0.weight 1 10000 r21 hr21) (an tt (an2 h22 (an (Bv p0 r23 hr23) (an h22 (an3 h24 (an (Ac p0.clampMin 0 10000 r25 hr25) (an h24 (an3 h26 (an (Ac p0.clampMax 0 10000 r27 hr27) (an h26 (an3 h28 (an (Cy p0.cpus 16 r29 hr29) (an h28 (an3 h30 (an (Cy p0.mems 8 r31 hr31) (an h30 (an3 h32 (an (Ac p0.partition 0 1 r33 hr33) (an h32 (an3 h34 (an (Ds p0.memory r35 hr35) (an h34 (an3 h36 (an (Ib p0.devices r37 hr37) (an h36 tv)))))))))))))))))))))))))))) ?_
           exact jD r37 hm .refl
          ·replace hm:=Ay h36 hm
           refine RK hnt (nn 4 (sk 3 (pT::nn 3 (o32 [] true r21::pT::nn 2 (o33 [] true r23::pT::nn 3 (o32 [] true r25::pT::nn 3 (o32 [] true r27::pT::nn 3 (o34 [] true r29::pT::nn 3 (o34 [] true r31::pT::nn 3 (o32 [] true r33::pT::nn 3 (o35 [] true r35::pT :: .no::sk 3 (pF :: .no :: [])))))))))))) [(2,pB false)] [] (an4 h1 (an3 tt (an (Ac p0.weight 1 10000 r21 hr21) (an tt (an2 h22 (an (Bv p0 r23 hr23) (an h22 (an3 h24 (an (Ac p0.clampMin 0 10000 r25 hr25) (an h24 (an3 h26 (an (Ac p0.clampMax 0 10000 r27 hr27) (an h26 (an3 h28 (an (Cy p0.cpus 16 r29 hr29) (an h28 (an3 h30 (an (Cy p0.mems 8 r31 hr31) (an h30 (an3 h32 (an (Ac p0.partition 0 1 r33 hr33) (an h32 (an3 h34 (an (Ds p0.memory r35 hr35) (an h34 (an4 h36 tv)))))))))))))))))))))))))) ?_
           exact jD false hm .refl
         ·replace hm:=Ay h34 hm
          refine RK hnt (nn 4 (sk 3 (pT::nn 3 (o32 [] true r21::pT::nn 2 (o33 [] true r23::pT::nn 3 (o32 [] true r25::pT::nn 3 (o32 [] true r27::pT::nn 3 (o34 [] true r29::pT::nn 3 (o34 [] true r31::pT::nn 3 (o32 [] true r33::pT :: .no::sk 3 (pF :: .no::sk 3 (pF :: .no :: [])))))))))))) [(2,pB false)] [] (an4 h1 (an3 tt (an (Ac p0.weight 1 10000 r21 hr21) (an tt (an2 h22 (an (Bv p0 r23 hr23) (an h22 (an3 h24 (an (Ac p0.clampMin 0 10000 r25 hr25) (an h24 (an3 h26 (an (Ac p0.clampMax 0 10000 r27 hr27) (an h26 (an3 h28 (an (Cy p0.cpus 16 r29 hr29) (an h28 (an3 h30 (an (Cy p0.mems 8 r31 hr31) (an h30 (an3 h32 (an (Ac p0.partition 0 1 r33 hr33) (an h32 (an4 h34 (an4 ff tv)))))))))))))))))))))))) ?_
          exact jD false hm .refl
        ·replace hm:=Ay h32 hm
         refine RK hnt (nn 4 (sk 3 (pT::nn 3 (o32 [] true r21::pT::nn 2 (o33 [] true r23::pT::nn 3 (o32 [] true r25::pT::nn 3 (o32 [] true r27::pT::nn 3 (o34 [] true r29::pT::nn 3 (o34 [] true r31::pT :: .no::sk 3 (pF :: .no::sk 3 (pF :: .no::sk 3 (pF :: .no :: [])))))))))))) [(2,pB false)] [] (an4 h1 (an3 tt (an (Ac p0.weight 1 10000 r21 hr21) (an tt (an2 h22 (an (Bv p0 r23 hr23) (an h22 (an3 h24 (an (Ac p0.clampMin 0 10000 r25 hr25) (an h24 (an3 h26 (an (Ac p0.clampMax 0 10000 r27 hr27) (an h26 (an3 h28 (an (Cy p0.cpus 16 r29 hr29) (an h28 (an3 h30 (an (Cy p0.mems 8 r31 hr31) (an h30 (an4 h32 (an2 ff (an6 ff tv)))))))))))))))))))))) ?_
         exact jD false hm .refl
       ·replace hm:=Ay h30 hm
        refine RK hnt (nn 4 (sk 3 (pT::nn 3 (o32 [] true r21::pT::nn 2 (o33 [] true r23::pT::nn 3 (o32 [] true r25::pT::nn 3 (o32 [] true r27::pT::nn 3 (o34 [] true r29::pT :: .no::sk 3 (pF :: .no::sk 3 (pF :: .no::sk 3 (pF :: .no::sk 3 (pF :: .no :: [])))))))))))) [(2,pB false)] [] (an4 h1 (an3 tt (an (Ac p0.weight 1 10000 r21 hr21) (an tt (an2 h22 (an (Bv p0 r23 hr23) (an h22 (an3 h24 (an (Ac p0.clampMin 0 10000 r25 hr25) (an h24 (an3 h26 (an (Ac p0.clampMax 0 10000 r27 hr27) (an h26 (an3 h28 (an (Cy p0.cpus 16 r29 hr29) (an h28 (an4 h30 (an6 ff (an6 ff tv))))))))))))))))))) ?_
        exact jD false hm .refl
      ·replace hm:=Ay h28 hm
       refine RK hnt (nn 4 (sk 3 (pT::nn 3 (o32 [] true r21::pT::nn 2 (o33 [] true r23::pT::nn 3 (o32 [] true r25::pT::nn 3 (o32 [] true r27::pT :: .no::sk 3 (pF :: .no::sk 3 (pF :: .no::sk 3 (pF :: .no::sk 3 (pF :: .no::sk 3 (pF :: .no :: [])))))))))))) [(2,pB false)] [] (an4 h1 (an3 tt (an (Ac p0.weight 1 10000 r21 hr21) (an tt (an2 h22 (an (Bv p0 r23 hr23) (an h22 (an3 h24 (an (Ac p0.clampMin 0 10000 r25 hr25) (an h24 (an3 h26 (an (Ac p0.clampMax 0 10000 r27 hr27) (an h26 (an4 h28 (an4 ff (an6 ff (an6 ff tv))))))))))))))))) ?_
       exact jD false hm .refl
     ·replace hm:=Ay h26 hm
      refine RK hnt (nn 4 (sk 3 (pT::nn 3 (o32 [] true r21::pT::nn 2 (o33 [] true r23::pT::nn 3 (o32 [] true r25::pT :: .no::sk 3 (pF :: .no::sk 3 (pF :: .no::sk 3 (pF :: .no::sk 3 (pF :: .no::sk 3 (pF :: .no::sk 3 (pF :: .no :: [])))))))))))) [(2,pB false)] [] (an4 h1 (an3 tt (an (Ac p0.weight 1 10000 r21 hr21) (an tt (an2 h22 (an (Bv p0 r23 hr23) (an h22 (an3 h24 (an (Ac p0.clampMin 0 10000 r25 hr25) (an h24 (an4 h26 (an2 ff (an6 ff (an6 ff (an6 ff tv))))))))))))))) ?_
      exact jD false hm .refl
    ·replace hm:=Ay h24 hm
     refine RK hnt (nn 4 (sk 3 (pT::nn 3 (o32 [] true r21::pT::nn 2 (o33 [] true r23::pT :: .no::sk 3 (pF :: .no::sk 3 (pF :: .no::sk 3 (pF :: .no::sk 3 (pF :: .no::sk 3 (pF :: .no::sk 3 (pF :: .no::sk 3 (pF :: .no :: [])))))))))))) [(2,pB false)] [] (an4 h1 (an3 tt (an (Ac p0.weight 1 10000 r21 hr21) (an tt (an2 h22 (an (Bv p0 r23 hr23) (an h22 (an4 h24 (an6 ff (an6 ff (an6 ff (an6 ff tv)))))))))))) ?_
     exact jD false hm .refl
   ·replace hm:=Ay h22 hm
    refine RK hnt (nn 4 (sk 3 (pT::nn 3 (o32 [] true r21::pT :: .no::sk 2 (pF :: .no::sk 3 (pF :: .no::sk 3 (pF :: .no::sk 3 (pF :: .no::sk 3 (pF :: .no::sk 3 (pF :: .no::sk 3 (pF :: .no::sk 3 (pF :: .no :: [])))))))))))) [(2,pB false)] [] (an4 h1 (an3 tt (an (Ac p0.weight 1 10000 r21 hr21) (an tt (an3 h22 (an4 ff (an6 ff (an6 ff (an6 ff (an6 ff tv)))))))))) ?_
    exact jD false hm .refl
  ·replace hm:=Ay h1 hm
   obtain ⟨r2,hr2,hm⟩:=bo hm
   rcases bt r2 with h3|h3
   ·replace hm:=Az h3 hm
    obtain ⟨r4,hr4,hm⟩:=bo hm
    rcases bt r4 with h5|h5
    ·replace hm:=Az h5 hm
     obtain ⟨r6,hr6,hm⟩:=bo hm
     rcases bt r6 with h7|h7
     ·replace hm:=Az h7 hm
      obtain ⟨r8,hr8,hm⟩:=bo hm
      rcases bt r8 with h9|h9
      ·replace hm:=Az h9 hm
       obtain ⟨r10,hr10,hm⟩:=bo hm
       rcases bt r10 with h11|h11
       ·replace hm:=Az h11 hm
        obtain ⟨r12,hr12,hm⟩:=bo hm
        rcases bt r12 with h13|h13
        ·replace hm:=Az h13 hm
         obtain ⟨r14,hr14,hm⟩:=bo hm
         rcases bt r14 with h15|h15
         ·replace hm:=Az h15 hm
          obtain ⟨r16,hr16,hm⟩:=bo hm
          rcases bt r16 with h17|h17
          ·replace hm:=Az h17 hm
           obtain ⟨r18,hr18,hm⟩:=bo hm
           rcases bt r18 with h19|h19
           ·replace hm:=Az h19 hm
            obtain ⟨r20,hr20,hm⟩:=bo hm
            refine RK hnt (nn 6 (o32 [] true r2::pF::nn 3 (o32 [] true r4::pT::nn 2 (o33 [] true r6::pT::nn 3 (o32 [] true r8::pT::nn 3 (o32 [] true r10::pT::nn 3 (o34 [] true r12::pT::nn 3 (o34 [] true r14::pT::nn 3 (o32 [] true r16::pT::nn 3 (o35 [] true r18::pT::nn 3 (o37 [] true r20::pT :: .no :: []))))))))))) [(2,pB r20)] [] (an3 h1 (an (Ac p0.pidsMax 0 1099511627776 r2 hr2) (an h1 (an3 h3 (an (Ac p0.weight 1 10000 r4 hr4) (an h3 (an2 h5 (an (Bv p0 r6 hr6) (an h5 (an3 h7 (an (Ac p0.clampMin 0 10000 r8 hr8) (an h7 (an3 h9 (an (Ac p0.clampMax 0 10000 r10 hr10) (an h9 (an3 h11 (an (Cy p0.cpus 16 r12 hr12) (an h11 (an3 h13 (an (Cy p0.mems 8 r14 hr14) (an h13 (an3 h15 (an (Ac p0.partition 0 1 r16 hr16) (an h15 (an3 h17 (an (Ds p0.memory r18 hr18) (an h17 (an3 h19 (an (Ib p0.devices r20 hr20) (an h19 tv)))))))))))))))))))))))))))))) ?_
            exact jD r20 hm .refl
           ·replace hm:=Ay h19 hm
            refine RK hnt (nn 6 (o32 [] true r2::pF::nn 3 (o32 [] true r4::pT::nn 2 (o33 [] true r6::pT::nn 3 (o32 [] true r8::pT::nn 3 (o32 [] true r10::pT::nn 3 (o34 [] true r12::pT::nn 3 (o34 [] true r14::pT::nn 3 (o32 [] true r16::pT::nn 3 (o35 [] true r18::pT :: .no::sk 3 (pF :: .no :: []))))))))))) [(2,pB false)] [] (an3 h1 (an (Ac p0.pidsMax 0 1099511627776 r2 hr2) (an h1 (an3 h3 (an (Ac p0.weight 1 10000 r4 hr4) (an h3 (an2 h5 (an (Bv p0 r6 hr6) (an h5 (an3 h7 (an (Ac p0.clampMin 0 10000 r8 hr8) (an h7 (an3 h9 (an (Ac p0.clampMax 0 10000 r10 hr10) (an h9 (an3 h11 (an (Cy p0.cpus 16 r12 hr12) (an h11 (an3 h13 (an (Cy p0.mems 8 r14 hr14) (an h13 (an3 h15 (an (Ac p0.partition 0 1 r16 hr16) (an h15 (an3 h17 (an (Ds p0.memory r18 hr18) (an h17 (an4 h19 tv)))))))))))))))))))))))))))) ?_
            exact jD false hm .refl
          ·replace hm:=Ay h17 hm
           refine RK hnt (nn 6 (o32 [] true r2::pF::nn 3 (o32 [] true r4::pT::nn 2 (o33 [] true r6::pT::nn 3 (o32 [] true r8::pT::nn 3 (o32 [] true r10::pT::nn 3 (o34 [] true r12::pT::nn 3 (o34 [] true r14::pT::nn 3 (o32 [] true r16::pT :: .no::sk 3 (pF :: .no::sk 3 (pF :: .no :: []))))))))))) [(2,pB false)] [] (an3 h1 (an (Ac p0.pidsMax 0 1099511627776 r2 hr2) (an h1 (an3 h3 (an (Ac p0.weight 1 10000 r4 hr4) (an h3 (an2 h5 (an (Bv p0 r6 hr6) (an h5 (an3 h7 (an (Ac p0.clampMin 0 10000 r8 hr8) (an h7 (an3 h9 (an (Ac p0.clampMax 0 10000 r10 hr10) (an h9 (an3 h11 (an (Cy p0.cpus 16 r12 hr12) (an h11 (an3 h13 (an (Cy p0.mems 8 r14 hr14) (an h13 (an3 h15 (an (Ac p0.partition 0 1 r16 hr16) (an h15 (an4 h17 (an4 ff tv)))))))))))))))))))))))))) ?_
           exact jD false hm .refl
         ·replace hm:=Ay h15 hm
          refine RK hnt (nn 6 (o32 [] true r2::pF::nn 3 (o32 [] true r4::pT::nn 2 (o33 [] true r6::pT::nn 3 (o32 [] true r8::pT::nn 3 (o32 [] true r10::pT::nn 3 (o34 [] true r12::pT::nn 3 (o34 [] true r14::pT :: .no::sk 3 (pF :: .no::sk 3 (pF :: .no::sk 3 (pF :: .no :: []))))))))))) [(2,pB false)] [] (an3 h1 (an (Ac p0.pidsMax 0 1099511627776 r2 hr2) (an h1 (an3 h3 (an (Ac p0.weight 1 10000 r4 hr4) (an h3 (an2 h5 (an (Bv p0 r6 hr6) (an h5 (an3 h7 (an (Ac p0.clampMin 0 10000 r8 hr8) (an h7 (an3 h9 (an (Ac p0.clampMax 0 10000 r10 hr10) (an h9 (an3 h11 (an (Cy p0.cpus 16 r12 hr12) (an h11 (an3 h13 (an (Cy p0.mems 8 r14 hr14) (an h13 (an4 h15 (an2 ff (an6 ff tv)))))))))))))))))))))))) ?_
          exact jD false hm .refl
        ·replace hm:=Ay h13 hm
         refine RK hnt (nn 6 (o32 [] true r2::pF::nn 3 (o32 [] true r4::pT::nn 2 (o33 [] true r6::pT::nn 3 (o32 [] true r8::pT::nn 3 (o32 [] true r10::pT::nn 3 (o34 [] true r12::pT :: .no::sk 3 (pF :: .no::sk 3 (pF :: .no::sk 3 (pF :: .no::sk 3 (pF :: .no :: []))))))))))) [(2,pB false)] [] (an3 h1 (an (Ac p0.pidsMax 0 1099511627776 r2 hr2) (an h1 (an3 h3 (an (Ac p0.weight 1 10000 r4 hr4) (an h3 (an2 h5 (an (Bv p0 r6 hr6) (an h5 (an3 h7 (an (Ac p0.clampMin 0 10000 r8 hr8) (an h7 (an3 h9 (an (Ac p0.clampMax 0 10000 r10 hr10) (an h9 (an3 h11 (an (Cy p0.cpus 16 r12 hr12) (an h11 (an4 h13 (an6 ff (an6 ff tv))))))))))))))))))))) ?_
         exact jD false hm .refl
       ·replace hm:=Ay h11 hm
        refine RK hnt (nn 6 (o32 [] true r2::pF::nn 3 (o32 [] true r4::pT::nn 2 (o33 [] true r6::pT::nn 3 (o32 [] true r8::pT::nn 3 (o32 [] true r10::pT :: .no::sk 3 (pF :: .no::sk 3 (pF :: .no::sk 3 (pF :: .no::sk 3 (pF :: .no::sk 3 (pF :: .no :: []))))))))))) [(2,pB false)] [] (an3 h1 (an (Ac p0.pidsMax 0 1099511627776 r2 hr2) (an h1 (an3 h3 (an (Ac p0.weight 1 10000 r4 hr4) (an h3 (an2 h5 (an (Bv p0 r6 hr6) (an h5 (an3 h7 (an (Ac p0.clampMin 0 10000 r8 hr8) (an h7 (an3 h9 (an (Ac p0.clampMax 0 10000 r10 hr10) (an h9 (an4 h11 (an4 ff (an6 ff (an6 ff tv))))))))))))))))))) ?_
        exact jD false hm .refl
      ·replace hm:=Ay h9 hm
       refine RK hnt (nn 6 (o32 [] true r2::pF::nn 3 (o32 [] true r4::pT::nn 2 (o33 [] true r6::pT::nn 3 (o32 [] true r8::pT :: .no::sk 3 (pF :: .no::sk 3 (pF :: .no::sk 3 (pF :: .no::sk 3 (pF :: .no::sk 3 (pF :: .no::sk 3 (pF :: .no :: []))))))))))) [(2,pB false)] [] (an3 h1 (an (Ac p0.pidsMax 0 1099511627776 r2 hr2) (an h1 (an3 h3 (an (Ac p0.weight 1 10000 r4 hr4) (an h3 (an2 h5 (an (Bv p0 r6 hr6) (an h5 (an3 h7 (an (Ac p0.clampMin 0 10000 r8 hr8) (an h7 (an4 h9 (an2 ff (an6 ff (an6 ff (an6 ff tv))))))))))))))))) ?_
       exact jD false hm .refl
     ·replace hm:=Ay h7 hm
      refine RK hnt (nn 6 (o32 [] true r2::pF::nn 3 (o32 [] true r4::pT::nn 2 (o33 [] true r6::pT :: .no::sk 3 (pF :: .no::sk 3 (pF :: .no::sk 3 (pF :: .no::sk 3 (pF :: .no::sk 3 (pF :: .no::sk 3 (pF :: .no::sk 3 (pF :: .no :: []))))))))))) [(2,pB false)] [] (an3 h1 (an (Ac p0.pidsMax 0 1099511627776 r2 hr2) (an h1 (an3 h3 (an (Ac p0.weight 1 10000 r4 hr4) (an h3 (an2 h5 (an (Bv p0 r6 hr6) (an h5 (an4 h7 (an6 ff (an6 ff (an6 ff (an6 ff tv)))))))))))))) ?_
      exact jD false hm .refl
    ·replace hm:=Ay h5 hm
     refine RK hnt (nn 6 (o32 [] true r2::pF::nn 3 (o32 [] true r4::pT :: .no::sk 2 (pF :: .no::sk 3 (pF :: .no::sk 3 (pF :: .no::sk 3 (pF :: .no::sk 3 (pF :: .no::sk 3 (pF :: .no::sk 3 (pF :: .no::sk 3 (pF :: .no :: []))))))))))) [(2,pB false)] [] (an3 h1 (an (Ac p0.pidsMax 0 1099511627776 r2 hr2) (an h1 (an3 h3 (an (Ac p0.weight 1 10000 r4 hr4) (an h3 (an3 h5 (an4 ff (an6 ff (an6 ff (an6 ff (an6 ff tv)))))))))))) ?_
     exact jD false hm .refl
   ·replace hm:=Ay h3 hm
    refine RK hnt (nn 6 (o32 [] true r2::pF :: .no::sk 3 (pF :: .no::sk 2 (pF :: .no::sk 3 (pF :: .no::sk 3 (pF :: .no::sk 3 (pF :: .no::sk 3 (pF :: .no::sk 3 (pF :: .no::sk 3 (pF :: .no::sk 3 (pF :: .no :: []))))))))))) [(2,pB false)] [] (an3 h1 (an (Ac p0.pidsMax 0 1099511627776 r2 hr2) (an h1 (an4 h3 (an ff (an6 ff (an6 ff (an6 ff (an6 ff (an6 ff tv)))))))))) ?_
    exact jD false hm .refl
abbrev o31 (ks:List Nat) (b:Bool) (RES:Bool) (sm:List Nat := []):Orc := .call 78 ks b (pB RES) [] [] sm

theorem Ug (p0:Ae) (p1:List Ab) (RES:Bool) (hm:Ri p0 p1=some RES):Spec Tryz.prog 58 [.p (.agg (Ag p0)),.p (Ah p1)] [] (pB RES) [] []:=by
 unfold Ri at hm
 refine SO Tryz.func58 rfl rfl [(0,.p (.agg (Ag p0))),(1,.p (Ah p1))] [] ?_
 intro cx hnt
 refine Sq (RD hnt (nn 2 []) [0] [(2,rr 1016)] [] [(1016,bx (pm (Ag p0)))] tv ?_)
 obtain ⟨r1,hr1,hm⟩:=bo hm
 refine Sq (Sq ?_)
 refine Jn (ι:=Bool) (fun (y1:Bool)=>Af [(1,.p (Ah p1)),(2,rr 1016),(17,pB y1)] [(1016,bx (pm (Ag p0)))]) (fun y1=>(Lw p0 p1) y1=some RES) ?_ ?_
 ·intro y1 hm
  unfold Lw at hm
  refine Ar hm ?_ ?_
  ·intro h3 hm
   refine Sq (RK hnt (.no :: []) [(4,pB false)] [] tv ?_)
   obtain rfl:=sj hm
   exact DW.ret (An [] [] (pB false))
  ·intro h3 hm
   refine Sk ?_
   refine Sq (Sq (RK hnt (nn 4 []) [(1,.p (Ah p1)),(19,.p (Da p0.nodes)),(20,pI ((p0.nodes.length:Nat):Int)),(21,pI 0)] [] tv ?_))
   refine Bk ?_
   obtain ⟨hc1,hm⟩:=go1 hm
   refine DW.rangeO (fun (k1:Nat) (s1:Unit)=>Af [(1,.p (Ah p1)),(19,.p (Da p0.nodes)),(20,pI ((p0.nodes.length:Nat):Int)),(21,pI ((k1:Nat):Int))] []) Aq hm .refl ?_
   intro k1 s1 n1 hk1 hs1 he1
   refine Sq (RD hnt (.no :: []) [] [(22,pB (decide (((k1:Nat):Int)<((p0.nodes.length:Nat):Int))))] [] [] tv ?_)
   refine Sq (Cv (decide (((k1:Nat):Int)<((p0.nodes.length:Nat):Int))) ?_ ?_)
   ·intro h18
    have hlt1:k1<p0.nodes.length:=by have:=of_decide_eq_true h18; omega
    have hm:=hs1 hlt1
    unfold Wf at hm
    refine Sk ?_
    refine Sq (Bk ?_)
    refine Sq (RD hnt (nn 6 []) [22] [(5,pI ((k1:Nat):Int)),(6,rr 1048)] [] [(1048,bx (pm (Cc (p0.nodes.getD k1 Aq))))] (an (nn0 k1) (an (ltc hlt1) tv)) ?_)
    obtain ⟨g19,hm⟩:=go1 hm
    refine Sq ?_
    refine Jn (ι:=Bool) (fun (y4:Bool)=>Af [(1,.p (Ah p1)),(19,.p (Da p0.nodes)),(20,pI ((p0.nodes.length:Nat):Int)),(21,pI ((k1:Nat):Int)),(42,pB y4)] []) (fun y4=>(Ny n1) y4=some RES) ?_ ?_
    ·intro y4 hm
     unfold Ny at hm
     refine Ar hm ?_ ?_
     ·intro h23 hm
      refine Sq (RK hnt (.no :: []) [(4,pB false)] [] tv ?_)
      obtain rfl:=sj hm
      exact DW.ret (An [] [] (pB false))
     ·intro h23 hm
      refine Sk ?_
      refine DW.done ?_
      show DW _ _ _ _ _
      refine RD hnt (nn 2 []) [42] [(21,pI (w64 (((k1:Nat):Int)+1)))] [] [] tv ?_
      exact jD () ⟨hlt1,hm⟩ (Conv.tp [(21,pI (w64 (((k1:Nat):Int)+1)))] [] (by kernel_rfl) (.cons rfl (.of_eq (congrArg pI (Bt hlt1 hc1))) .nil) .nil)
    ·rcases bt ((p1.getD k1 Ap).group != (p0.nodes.getD k1 Aq).id) with h20|h20
     ·replace hm:=Az h20 hm
      refine RD hnt (nn 9 (sk 7 (pT :: []))) [5,6] [(42,pB true)] [1048] [] (an (nn0 k1) (an (ltc g19) (an2 h20 (an6 h20 tv)))) ?_
      exact jD true hm Conv.eqK
     ·replace hm:=Ay h20 hm
      obtain ⟨g21,hm⟩:=go1 hm
      obtain ⟨r22,hr22,hm⟩:=bo hm
      refine RD hnt (nn 14 (o31 [] true r22 :: .no::pF :: [])) [5,6] [(42,pB (!r22))] [1048] [] (an (nn0 k1) (an (ltc g19) (an3 h20 (an (nn0 k1) (an (ltc g21) (an3 h20 (an (Aei (p1.getD k1 Ap).settings r22 hr22) (an2 h20 tv)))))))) ?_
      exact jD (!r22) hm Conv.eqK
   ·intro h18
    have hge1:¬ k1<p0.nodes.length:=by have:=of_decide_eq_false h18; omega
    have hm:=he1 hge1
    unfold Abw at hm
    refine DW.exit ?_
    refine Ao ?_
    refine Ba ?_
    refine Ai ?_
    show DW _ _ _ _ _
    refine Sq (RK hnt (.no :: []) [(4,pB true)] [] tv ?_)
    obtain rfl:=sj hm
    exact DW.ret (An [] [] (pB true))
 ·rcases bt (!r1) with h2|h2
  ·replace hm:=Az h2 hm
   refine RD hnt (.no::o26 [] true r1::nn 2 (sk 6 (pT :: []))) [] [(17,pB true)] [] [] (an (Acp p0 r1 hr1) (an h2 (an6 h2 tv))) ?_
   exact jD true hm Conv.eqK
  ·replace hm:=Ay h2 hm
   refine RD hnt (.no::o26 [] true r1::nn 8 (pF :: [])) [] [(17,pB (((p1.length:Nat):Int) != ((p0.nodes.length:Nat):Int)))] [] [] (an (Acp p0 r1 hr1) (an h2 (an6 h2 tv))) ?_
   exact jD (((p1.length:Nat):Int) != ((p0.nodes.length:Nat):Int)) hm Conv.eqK
abbrev o25 (ks:List Nat) (b:Bool) (RES:Bool) (sm:List Nat := []):Orc := .call 58 ks b (pB RES) [] [] sm

theorem Pd (p0:Ae) (p1:List Ab) (p2:List Int) (p3:Int) (RES:Bool) (hm:Hz p0 p1 p2 p3=some RES):Spec Tryz.prog 32 [.p (.agg (Ag p0)),.p (Ah p1),.p (slI p2),pI p3] [] (pB RES) [] []:=by
 unfold Hz at hm
 refine SO Tryz.func32 rfl rfl [(0,.p (.agg (Ag p0))),(1,.p (Ah p1)),(2,.p (slI p2)),(3,pI p3)] [] ?_
 intro cx hnt
 refine Sq (RD hnt (nn 2 []) [0] [(4,rr 1032)] [] [(1032,bx (pm (Ag p0)))] tv ?_)
 obtain ⟨r1,hr1,hm⟩:=bo hm
 refine Sq ?_
 refine Jn (ι:=Bool) (fun (y1:Bool)=>Af [(8,pB y1)] []) (fun y1=>Lr y1=some RES) ?_ ?_
 ·intro y1 hm
  unfold Lr at hm
  obtain rfl:=sj hm
  exact DW.ret (An [] [] (pB y1))
 ·rcases bt r1 with h2|h2
  ·replace hm:=Az h2 hm
   rcases bt (decide (((p2.length:Nat):Int)>0)) with h3|h3
   ·replace hm:=Az h3 hm
    obtain ⟨r4,hr4,hm⟩:=bo hm
    refine RK hnt (nn 2 (o25 [] true r1::nn 4 (pT::nn 3 (o34 [] true r4::pT :: .no :: [])))) [(8,pB r4)] [] (an (Ug p0 p1 r1 hr1) (an4 h2 (an3 h3 (an (Cy p2 p3 r4 hr4) (an h3 tv))))) ?_
    exact jD r4 hm .refl
   ·replace hm:=Ay h3 hm
    refine RK hnt (nn 2 (o25 [] true r1::nn 4 (pT :: .no::sk 3 (pF :: .no :: [])))) [(8,pB false)] [] (an (Ug p0 p1 r1 hr1) (an4 h2 (an4 h3 tv))) ?_
    exact jD false hm .refl
  ·replace hm:=Ay h2 hm
   refine RK hnt (nn 2 (o25 [] true r1 :: .no::sk 3 (pF :: .no::sk 3 (pF :: .no :: [])))) [(8,pB false)] [] (an (Ug p0 p1 r1 hr1) (an4 h2 (an4 ff tv))) ?_
   exact jD false hm .refl
abbrev o24 (ks:List Nat) (b:Bool) (RES:Bool) (sm:List Nat := []):Orc := .call 32 ks b (pB RES) [] [] sm

theorem AbR (p0:List Int) (RES:List Int) (hm:Co p0=some RES):Spec Tryz.prog 34 [.p (.sl .nn 1 p0.length (elems Au 0 p0))] [] (ow 0 RES.length) [] [roI RES]:=by
 unfold Co at hm
 refine SO Tryz.func34 rfl rfl [(0,.p (.sl .nn 1 p0.length (elems Au 0 p0)))] [] ?_
 intro cx hnt
 refine Sq (RD hnt (.no :: []) [] [] [] [] tv ?_)
 refine Sq (Sq (RD hnt (nn 2 []) [] [(4,pB false)] [] [] tv ?_))
 refine AeC ff ?_
 refine Sk ?_
 obtain ⟨g1,hm⟩:=go1 hm
 refine Sq (RN hnt (nn 4 []) [(2,ow 1040 p0.length)] [(1040,ob0 (roI p0))] [(2,ow 1040 (0+p0.length))] [(1040,.row 1 (0+p0.length) (De 0 (cut 1 []) (elI p0)))] (an (by omega:(0+p0.length)*8≤140737488355328) tv) (by kernel_rfl) (.cons rfl (MLe.ownLen (enc:=Au) (d:=0) (f:=(De 0 (cut 1 []) (elI p0))) (RowIs.cat RowIs.nil RowIs.elems)) .nil) (.cons rfl (BLe.typed (RowIs.cat RowIs.nil RowIs.elems)) .nil) ?_)
 obtain rfl:=sj hm
 exact DW.ret (An [roI p0] [1040] (ow 0 p0.length))

theorem Abb (p0:List Int) (RES:List Int) (hm:Iz p0=some RES):Spec Tryz.prog 34 [.p (.sl .nil 1 0 (elems Au 0 p0))] [] (ow 0 RES.length) [] [roI RES]:=by
 unfold Iz at hm
 refine SO Tryz.func34 rfl rfl [(0,.p (.sl .nil 1 0 (elems Au 0 p0)))] [] ?_
 intro cx hnt
 refine Sq (RD hnt (.no :: []) [] [] [] [] tv ?_)
 refine Sq (Sq (RD hnt (nn 2 []) [] [(4,pB true)] [] [] tv ?_))
 refine condT tt ?_
 refine Sq (RK hnt (.no :: []) [(2,.p (.sl .nil 0 0 (fun _ => [])))] [] tv ?_)
 refine DW.cv [] [(2,ow 100000 0)] [] [(100000,ob0 (roI []))] (Conv.ads [(.s 2,100000,1,elems Au 0 [])]) ?_
 obtain rfl:=sj hm
 exact DW.ret (An [roI []] [100000] (ow 0 0))

theorem Gw (p0:List Int) (RES:List Int) (hm:Co p0=some RES):Spec Tryz.prog 34 [.p (slI p0)] [] (ow 0 RES.length) [] [roI RES] :=
  Spec.unk (fun h=>Abb p0 RES (by have e:p0 = []:=List.eq_nil_of_length_eq_zero h; subst e; simpa [Co,Iz] using hm)) (AbR p0 RES hm)
abbrev o39 (ks:List Nat) (b:Bool) (RES:List Int) (sm:List Nat := []):Orc := .call 34 ks b (ow 0 RES.length) [] [roI RES] sm

abbrev c41e1 (p0:Ae):Nat×MV:=(10,pI ((p0.nodes.length:Nat):Int))
theorem Adn (p0:Ae) (p1:Int) (RES:List Int) (hm:Nz p0 p1=some RES):Spec Tryz.prog 79 [.p (.agg (Ag p0)),pI p1] [] (ow 0 RES.length) [] [roI RES]:=by
 unfold Nz at hm
 refine SO Tryz.func79 rfl rfl [(0,.p (.agg (Ag p0))),(1,pI p1)] [] ?_
 intro cx hnt
 refine Sq (RK hnt (nn 2 []) [(1,pI p1),(2,rr 1016)] [(1016,bx (pm (Ag p0)))] tv ?_)
 refine Sq (RD hnt (.no :: []) [] [(5,.p (.sl .nil 0 0 (fun _ => [])))] [] [] tv ?_)
 refine Sq (Sq (RD hnt (nn 4 []) [2] [(9,.p (Da p0.nodes)),(c41e1 p0),(11,pI 0)] [1016] [] tv ?_))
 refine Bk ?_
 obtain ⟨hc1,hm⟩:=go1 hm
 refine DW.rangeO (fun (k1:Nat) (s1:List Int)=>Af [(1,pI p1),(5,ow 1184 s1.length),(9,.p (Da p0.nodes)),(c41e1 p0),(11,pI ((k1:Nat):Int))] [(1184,ob0 (roI s1))]) Aq hm (Conv.ads [(.s 5,1184,1,elems Au 0 [])]) ?_
 intro k1 s1 n1 hk1 hs1 he1
 refine Sq (RD hnt (.no :: []) [] [(12,pB (decide (((k1:Nat):Int)<((p0.nodes.length:Nat):Int))))] [] [] tv ?_)
 refine Sq (Cv (decide (((k1:Nat):Int)<((p0.nodes.length:Nat):Int))) ?_ ?_)
 ·intro h8
  have hlt1:k1<p0.nodes.length:=by have:=of_decide_eq_true h8; omega
  have hm:=hs1 hlt1
  unfold Uf at hm
  refine Sk ?_
  refine Sq ?_
  refine Jn (ι:=List Int) (fun (y3:List Int)=>Af [(1,pI p1),(5,ow 1184 y3.length),(9,.p (Da p0.nodes)),(c41e1 p0),(11,pI ((k1:Nat):Int))] [(1184,ob0 (roI y3))]) (fun y3=>(Md n1) y3=some RES) ?_ ?_
  ·intro y3 hm
   unfold Md at hm
   refine RD hnt (nn 2 []) [] [(11,pI (w64 (((k1:Nat):Int)+1)))] [] [] tv ?_
   exact jD y3 ⟨hlt1,hm⟩ (Conv.tp [(11,pI (w64 (((k1:Nat):Int)+1)))] [] (by kernel_rfl) (.cons rfl (.of_eq (congrArg pI (Bt hlt1 hc1))) .nil) .nil)
  ·refine Bk ?_
   refine Sq (RD hnt (nn 4 []) [12] [(7,rr 1056)] [] [(1056,bx (pm (Cc (p0.nodes.getD k1 Aq))))] (an (nn0 k1) (an (ltc hlt1) tv)) ?_)
   refine Sq (RD hnt (nn 4 []) [] [(18,pB ((p0.nodes.getD k1 Aq).parent==p1))] [] [] tv ?_)
   refine Ar hm ?_ ?_
   ·intro h9 hm
    obtain ⟨g10,hm⟩:=go1 hm
    refine RN hnt (nn 6 []) [(1,pI p1),(5,ow 1184 (s1 ++ [(p0.nodes.getD k1 Aq).id]).length),(9,.p (Da p0.nodes)),(c41e1 p0),(11,pI ((k1:Nat):Int))] [(1184,ob0 (roI (s1 ++ [(p0.nodes.getD k1 Aq).id])))] [(5,ow 1184 (s1.length+1))] [(1184,.row 1 (s1.length+1) (De s1.length (elI s1) (cut 1 [vi (p0.nodes.getD k1 Aq).id])))] (an (by omega:(s1.length+1)*8≤140737488355328) tv) (by kernel_rfl) (.cons rfl (MLe.ownLen (enc:=Au) (d:=0) (f:=(De s1.length (elI s1) (cut 1 [vi (p0.nodes.getD k1 Aq).id]))) (RowIs.cat RowIs.elems (RowIs.lit (enc:=Au) (d:=0) (n:=1) (f:=(cut 1 [vi (p0.nodes.getD k1 Aq).id])) [(p0.nodes.getD k1 Aq).id] rfl (fun|0,_=>rfl|n+1,h=>absurd h (by omega))))) .nil) (.cons rfl (BLe.typed (RowIs.cat RowIs.elems (RowIs.lit (enc:=Au) (d:=0) (n:=1) (f:=(cut 1 [vi (p0.nodes.getD k1 Aq).id])) [(p0.nodes.getD k1 Aq).id] rfl (fun|0,_=>rfl|n+1,h=>absurd h (by omega))))) .nil) ?_
    exact bD (s1 ++ [(p0.nodes.getD k1 Aq).id]) hm .refl
   ·intro h9 hm
    refine Sk ?_
    exact bD s1 hm Conv.t0
 ·intro h8
  have hge1:¬ k1<p0.nodes.length:=by have:=of_decide_eq_false h8; omega
  have hm:=he1 hge1
  unfold Zt at hm
  refine DW.exit ?_
  refine Ao ?_
  refine Ba ?_
  refine Ai ?_
  show DW _ _ _ _ _
  refine Sq (RK hnt (nn 2 []) [(4,ow 1184 s1.length)] [(1184,ob0 (roI s1))] tv ?_)
  obtain rfl:=sj hm
  exact DW.ret (An [roI s1] [1184] (ow 0 s1.length))
abbrev o41 (ks:List Nat) (b:Bool) (RES:List Int) (sm:List Nat := []):Orc := .call 79 ks b (ow 0 RES.length) [] [roI RES] sm

theorem AeI (p0:Ab) (p1:Int) (RES:Bool) (hm:Uw p0 p1=some RES):Spec Tryz.prog 101 [.p (.agg (Es p0)),rr 0] [.box [pI p1]] (pB RES) [.box [pI p1]] []:=by
 unfold Uw at hm
 refine SO Tryz.func101 rfl rfl [(0,.p (.agg (Es p0))),(1,rr 0)] [(0,bx [pI p1])] ?_
 intro cx hnt
 refine Sq (RD hnt (nn 2 []) [0] [(2,rr 1016)] [] [(1016,bx (pm (Es p0)))] tv ?_)
 refine Sq (RK hnt (nn 5 []) [(3,pB (p0.group==p1))] [(0,bx [pI p1])] tv ?_)
 obtain rfl:=sj hm
 exact DW.ret (An [.box [pI p1]] [] (pB (p0.group==p1)))

theorem Qd (p0:List Ab) (p1c0:Int) (RES:Int) (hm:Fs p0 p1c0=some RES):Spec Tryz.prog 100 [.p (Ah p0),.fn 101 [rr 0]] [.box [pI p1c0]] (pI RES) [.box [pI p1c0]] []:=by
 unfold Fs at hm
 refine SO Tryz.func100 rfl rfl [(0,.p (Ah p0)),(1,.fn 101 [rr 0])] [(0,bx [pI p1c0])] ?_
 intro cx hnt
 refine Sq (RD hnt (.no :: []) [] [] [] [] tv ?_)
 refine Sq (Sq (RD hnt (nn 3 []) [] [(7,pI ((p0.length:Nat):Int)),(8,pI 0)] [] [] tv ?_))
 refine Bk ?_
 obtain ⟨hc1,hm⟩:=go1 hm
 refine DW.rangeO (fun (k1:Nat) (s1:Unit)=>Af [(0,.p (Ah p0)),(1,.fn 101 [rr 0]),(7,pI ((p0.length:Nat):Int)),(8,pI ((k1:Nat):Int))] [(0,bx [pI p1c0])]) Ap hm Conv.eqK ?_
 intro k1 s1 n1 hk1 hs1 he1
 refine Sq (RD hnt (.no :: []) [] [(9,pB (decide (((k1:Nat):Int)<((p0.length:Nat):Int))))] [] [] tv ?_)
 refine Sq (Cv (decide (((k1:Nat):Int)<((p0.length:Nat):Int))) ?_ ?_)
 ·intro h9
  have hlt1:k1<p0.length:=by have:=of_decide_eq_true h9; omega
  have hm:=hs1 hlt1
  unfold Gz at hm
  refine Sk ?_
  refine Sq (Bk ?_)
  refine Sq (RD hnt (nn 2 []) [9] [(5,pI ((k1:Nat):Int))] [] [] tv ?_)
  obtain ⟨r10,hr10,hm⟩:=bo hm
  refine Sq (RD hnt (nn 5 (.call 101 [0] true (pB r10) [.box [pI p1c0]] [] [] :: [])) [] [(16,pB r10)] [] [] (an (nn0 k1) (an (ltc hlt1) (an (AeI (p0.getD k1 Ap) p1c0 r10 hr10) (an tv tv)))) ?_)
  refine Ar hm ?_ ?_
  ·intro h11 hm
   refine Sq (RK hnt (nn 2 []) [(4,pI ((k1:Nat):Int))] [(0,bx [pI p1c0])] tv ?_)
   obtain rfl:=sj hm
   exact DW.ret (An [.box [pI p1c0]] [] (pI ((k1:Nat):Int)))
  ·intro h11 hm
   refine Sk ?_
   refine DW.done ?_
   show DW _ _ _ _ _
   refine RD hnt (nn 2 []) [5,16] [(8,pI (w64 (((k1:Nat):Int)+1)))] [] [] tv ?_
   exact jD () ⟨hlt1,hm⟩ (Conv.tp [(8,pI (w64 (((k1:Nat):Int)+1)))] [] (by kernel_rfl) (.cons rfl (.of_eq (congrArg pI (Bt hlt1 hc1))) .nil) .nil)
 ·intro h9
  have hge1:¬ k1<p0.length:=by have:=of_decide_eq_false h9; omega
  have hm:=he1 hge1
  unfold Kg at hm
  refine DW.exit ?_
  refine Ao ?_
  refine Ba ?_
  refine Ai ?_
  show DW _ _ _ _ _
  refine Sq (RK hnt (.no :: []) [(4,pI (-1))] [(0,bx [pI p1c0])] tv ?_)
  obtain rfl:=sj hm
  exact DW.ret (An [.box [pI p1c0]] [] (pI (-1)))

theorem AfL (p0:List Ab) (p1:Int) (RES:Int) (hm:Xz p0 p1=some RES):Spec Tryz.prog 69 [.p (Ah p0),pI p1] [] (pI RES) [] []:=by
 unfold Xz at hm
 refine SO Tryz.func69 rfl rfl [(0,.p (Ah p0)),(1,pI p1)] [] ?_
 intro cx hnt
 refine Sq (RD hnt (nn 2 []) [1] [(3,rr 1024)] [] [(1024,bx [pI p1])] tv ?_)
 obtain ⟨r1,hr1,hm⟩:=bo hm
 refine Sq (RK hnt (nn 2 (.call 100 [1024] true (pI r1) [.box [pI p1]] [] [] :: .no :: [])) [(4,pI r1)] [] (an (Qd p0 p1 r1 hr1) (an tv tv)) ?_)
 obtain rfl:=sj hm
 exact DW.ret (An [] [] (pI r1))
abbrev o43 (ks:List Nat) (b:Bool) (RES:Int) (sm:List Nat := []):Orc := .call 69 ks b (pI RES) [] [] sm

theorem AcB (RES:At) (hm:Ve=some RES):Spec Tryz.prog 70 [] [] (.agg [pI RES.pidsMax,pI RES.weight,pI RES.quota,pI RES.period,pI RES.burst,pI RES.clampMin,pI RES.clampMax,ow 0 RES.cpus.length,ow 1 RES.mems.length,pI RES.partition,pI RES.memory.min,pI RES.memory.low,pI RES.memory.high,pI RES.memory.max,pI RES.memory.swapMax,pB RES.memory.together,ow 2 RES.devices.length]) [] [roI RES.cpus,roI RES.mems,Aj RES.devices]:=by
 unfold Ve at hm
 refine SO Tryz.func70 rfl rfl [] [] ?_
 intro cx hnt
 refine Sq (RK hnt (.no :: []) [(0,rr 1000)] [(1000,bx [pI 0,pI 0,pI 0,pI 0,pI 0,pI 0,pI 0,.p (.sl .nil 0 0 (fun _ => [])),.p (.sl .nil 0 0 (fun _ => [])),pI 0,pI 0,pI 0,pI 0,pI 0,pI 0,pB false,.p (.sl .nil 0 0 (fun _ => []))])] tv ?_)
 obtain ⟨r1,hr1,hm⟩:=bo hm
 obtain ⟨r2,hr2,hm⟩:=bo hm
 refine Sq (RK hnt (o20 [] true r1::o21 [] true r2::nn 2 []) [(0,rr 1000)] [(1000,bx [pI 4611686018427387904,pI 100,pI 4611686018427387904,pI 100000,pI 0,pI 0,pI 10000,.p (.sl .nil 0 0 (fun _ => [])),.p (.sl .nil 0 0 (fun _ => [])),pI 0,pI r1.min,pI r1.low,pI r1.high,pI r1.max,pI r1.swapMax,pB r1.together,ow 1016 r2.length]),(1016,ob0 (Aj r2))] (an (Vs r1 hr1) (an (Un r2 hr2) tv)) ?_)
 refine DW.cv [] [] [] [(1000,bx [pI 4611686018427387904,pI 100,pI 4611686018427387904,pI 100000,pI 0,pI 0,pI 10000,ow 100000 0,ow 100001 0,pI 0,pI r1.min,pI r1.low,pI r1.high,pI r1.max,pI r1.swapMax,pB r1.together,ow 1016 r2.length]),(100000,ob0 (roI [])),(100001,ob0 (roI []))] (Conv.ads [(.o 1000 7,100000,1,elems Au 0 []),(.o 1000 8,100001,1,elems Au 0 [])]) ?_
 obtain rfl:=sj hm
 exact DW.ret (An [roI [],roI [],Aj r2] [100000,100001,1016] (.agg [pI 4611686018427387904,pI 100,pI 4611686018427387904,pI 100000,pI 0,pI 0,pI 10000,ow 0 0,ow 1 0,pI 0,pI r1.min,pI r1.low,pI r1.high,pI r1.max,pI r1.swapMax,pB r1.together,ow 2 r2.length]))
abbrev o46 (ks:List Nat) (b:Bool) (RES:At) (sm:List Nat := []):Orc := .call 70 ks b (.agg [pI RES.pidsMax,pI RES.weight,pI RES.quota,pI RES.period,pI RES.burst,pI RES.clampMin,pI RES.clampMax,ow 0 RES.cpus.length,ow 1 RES.mems.length,pI RES.partition,pI RES.memory.min,pI RES.memory.low,pI RES.memory.high,pI RES.memory.max,pI RES.memory.swapMax,pB RES.memory.together,ow 2 RES.devices.length]) [] [roI RES.cpus,roI RES.mems,Aj RES.devices] sm

theorem Uj (p0:List Bf) (RES:List Bf) (hm:Fm p0=some RES):Spec Tryz.prog 102 [.p (.sl .nn 7 p0.length (elems Dx (default:Bf) p0))] [] (ow 0 RES.length) [] [Aj RES]:=by
 unfold Fm at hm
 refine SO Tryz.func102 rfl rfl [(0,.p (.sl .nn 7 p0.length (elems Dx (default:Bf) p0)))] [] ?_
 intro cx hnt
 refine Sq (RD hnt (.no :: []) [] [] [] [] tv ?_)
 refine Sq (Sq (RD hnt (nn 2 []) [] [(4,pB false)] [] [] tv ?_))
 refine AeC ff ?_
 refine Sk ?_
 obtain ⟨g1,hm⟩:=go1 hm
 refine Sq (RN hnt (nn 4 []) [(2,ow 1040 p0.length)] [(1040,ob0 (Aj p0))] [(2,ow 1040 (0+p0.length))] [(1040,.row 7 (0+p0.length) (De 0 (cut 7 []) (Uz p0)))] (an (by omega:(0+p0.length)*56≤140737488355328) tv) (by kernel_rfl) (.cons rfl (MLe.ownLen (enc:=Dx) (d:=Lq) (f:=(De 0 (cut 7 []) (Uz p0))) (RowIs.cat RowIs.nil RowIs.elems)) .nil) (.cons rfl (BLe.typed (RowIs.cat RowIs.nil RowIs.elems)) .nil) ?_)
 obtain rfl:=sj hm
 exact DW.ret (An [Aj p0] [1040] (ow 0 p0.length))

theorem Ua (p0:List Bf) (RES:List Bf) (hm:Jy p0=some RES):Spec Tryz.prog 102 [.p (.sl .nil 7 0 (elems Dx (default:Bf) p0))] [] (ow 0 RES.length) [] [Aj RES]:=by
 unfold Jy at hm
 refine SO Tryz.func102 rfl rfl [(0,.p (.sl .nil 7 0 (elems Dx (default:Bf) p0)))] [] ?_
 intro cx hnt
 refine Sq (RD hnt (.no :: []) [] [] [] [] tv ?_)
 refine Sq (Sq (RD hnt (nn 2 []) [] [(4,pB true)] [] [] tv ?_))
 refine condT tt ?_
 refine Sq (RK hnt (.no :: []) [(2,.p (.sl .nil 0 0 (fun _ => [])))] [] tv ?_)
 refine DW.cv [] [(2,ow 100000 0)] [] [(100000,ob0 (Aj []))] (Conv.ads [(.s 2,100000,7,elems Dx Lq [])]) ?_
 obtain rfl:=sj hm
 exact DW.ret (An [Aj []] [100000] (ow 0 0))

theorem Vw (p0:List Bf) (RES:List Bf) (hm:Fm p0=some RES):Spec Tryz.prog 102 [.p (Db p0)] [] (ow 0 RES.length) [] [Aj RES] :=
  Spec.unk (fun h=>Ua p0 RES (by have e:p0 = []:=List.eq_nil_of_length_eq_zero h; subst e; simpa [Fm,Jy] using hm)) (Uj p0 RES hm)
abbrev o48 (ks:List Nat) (b:Bool) (RES:List Bf) (sm:List Nat := []):Orc := .call 102 ks b (ow 0 RES.length) [] [Aj RES] sm

theorem AeO (p0:At) (RES:At) (hm:Qz p0=some RES):Spec Tryz.prog 71 [.p (.agg (Dn p0))] [] (.agg [pI RES.pidsMax,pI RES.weight,pI RES.quota,pI RES.period,pI RES.burst,pI RES.clampMin,pI RES.clampMax,ow 0 RES.cpus.length,ow 1 RES.mems.length,pI RES.partition,pI RES.memory.min,pI RES.memory.low,pI RES.memory.high,pI RES.memory.max,pI RES.memory.swapMax,pB RES.memory.together,ow 2 RES.devices.length]) [] [roI RES.cpus,roI RES.mems,Aj RES.devices]:=by
 unfold Qz at hm
 refine SO Tryz.func71 rfl rfl [(0,.p (.agg (Dn p0)))] [] ?_
 intro cx hnt
 refine Sq (RK hnt (nn 2 []) [(1,rr 1008),(2,rr 1016)] [(1008,bx (pm (Dn p0))),(1016,bx [pI 0,pI 0,pI 0,pI 0,pI 0,pI 0,pI 0,.p (.sl .nil 0 0 (fun _ => [])),.p (.sl .nil 0 0 (fun _ => [])),pI 0,pI 0,pI 0,pI 0,pI 0,pI 0,pB false,.p (.sl .nil 0 0 (fun _ => []))])] tv ?_)
 obtain ⟨r1,hr1,hm⟩:=bo hm
 obtain ⟨r2,hr2,hm⟩:=bo hm
 obtain ⟨r3,hr3,hm⟩:=bo hm
 refine Sq (RD hnt (nn 2 (o39 [] true r1::nn 2 (o39 [] true r2::nn 2 (o48 [] true r3::nn 6 [])))) [] [] [] [(1008,bx [pI p0.pidsMax,pI p0.weight,pI p0.quota,pI p0.period,pI p0.burst,pI p0.clampMin,pI p0.clampMax,ow 1040 r1.length,ow 1064 r2.length,pI p0.partition,pI p0.memory.min,pI p0.memory.low,pI p0.memory.high,pI p0.memory.max,pI p0.memory.swapMax,pB p0.memory.together,ow 1088 r3.length]),(1040,ob0 (roI r1)),(1064,ob0 (roI r2)),(1088,ob0 (Aj r3))] (an (Gw p0.cpus r1 hr1) (an (Gw p0.mems r2 hr2) (an (Vw p0.devices r3 hr3) tv))) ?_)
 refine Sq (RD hnt (nn 2 []) [1] [] [1008] [(1016,bx [pI p0.pidsMax,pI p0.weight,pI p0.quota,pI p0.period,pI p0.burst,pI p0.clampMin,pI p0.clampMax,ow 1040 r1.length,ow 1064 r2.length,pI p0.partition,pI p0.memory.min,pI p0.memory.low,pI p0.memory.high,pI p0.memory.max,pI p0.memory.swapMax,pB p0.memory.together,ow 1088 r3.length])] tv ?_)
 obtain rfl:=sj hm
 exact DW.ret (An [roI r1,roI r2,Aj r3] [1040,1064,1088] (.agg [pI p0.pidsMax,pI p0.weight,pI p0.quota,pI p0.period,pI p0.burst,pI p0.clampMin,pI p0.clampMax,ow 0 r1.length,ow 1 r2.length,pI p0.partition,pI p0.memory.min,pI p0.memory.low,pI p0.memory.high,pI p0.memory.max,pI p0.memory.swapMax,pB p0.memory.together,ow 2 r3.length]))
abbrev o47 (ks:List Nat) (b:Bool) (RES:At) (sm:List Nat := []):Orc := .call 71 ks b (.agg [pI RES.pidsMax,pI RES.weight,pI RES.quota,pI RES.period,pI RES.burst,pI RES.clampMin,pI RES.clampMax,ow 0 RES.cpus.length,ow 1 RES.mems.length,pI RES.partition,pI RES.memory.min,pI RES.memory.low,pI RES.memory.high,pI RES.memory.max,pI RES.memory.swapMax,pB RES.memory.together,ow 2 RES.devices.length]) [] [roI RES.cpus,roI RES.mems,Aj RES.devices] sm

theorem Uy (p0:List Ab) (p1:Int) (RES:At) (hm:Nm p0 p1=some RES):Spec Tryz.prog 42 [.p (Ah p0),pI p1] [] (.agg [pI RES.pidsMax,pI RES.weight,pI RES.quota,pI RES.period,pI RES.burst,pI RES.clampMin,pI RES.clampMax,ow 0 RES.cpus.length,ow 1 RES.mems.length,pI RES.partition,pI RES.memory.min,pI RES.memory.low,pI RES.memory.high,pI RES.memory.max,pI RES.memory.swapMax,pB RES.memory.together,ow 2 RES.devices.length]) [] [roI RES.cpus,roI RES.mems,Aj RES.devices]:=by
 unfold Nm at hm
 refine SO Tryz.func42 rfl rfl [(0,.p (Ah p0)),(1,pI p1)] [] ?_
 intro cx hnt
 refine Sq (RD hnt (.no :: []) [] [(4,rr 1032)] [] [(1032,bx [pI 0,pI 0,pI 0,pI 0,pI 0,pI 0,pI 0,.p (.sl .nil 0 0 (fun _ => [])),.p (.sl .nil 0 0 (fun _ => [])),pI 0,pI 0,pI 0,pI 0,pI 0,pI 0,pB false,.p (.sl .nil 0 0 (fun _ => []))])] tv ?_)
 obtain ⟨r1,hr1,hm⟩:=bo hm
 refine Sq (RD hnt (nn 2 (o43 [] true r1 :: .no :: [])) [1] [(5,pI r1)] [] [] (an (AfL p0 p1 r1 hr1) tv) ?_)
 refine Sq (Sq (RD hnt (nn 2 []) [] [(10,pB (decide (r1<0)))] [] [] tv ?_))
 refine Ar hm ?_ ?_
 ·intro h2 hm
  obtain ⟨r3,hr3,hm⟩:=bo hm
  refine Sq (RK hnt (o46 [] true r3 :: .no :: []) [(4,rr 1032)] [(1032,bx [pI r3.pidsMax,pI r3.weight,pI r3.quota,pI r3.period,pI r3.burst,pI r3.clampMin,pI r3.clampMax,ow 1088 r3.cpus.length,ow 1089 r3.mems.length,pI r3.partition,pI r3.memory.min,pI r3.memory.low,pI r3.memory.high,pI r3.memory.max,pI r3.memory.swapMax,pB r3.memory.together,ow 1090 r3.devices.length]),(1088,ob0 (roI r3.cpus)),(1089,ob0 (roI r3.mems)),(1090,ob0 (Aj r3.devices))] (an (AcB r3 hr3) tv) ?_)
  obtain rfl:=sj hm
  exact DW.ret (An [roI r3.cpus,roI r3.mems,Aj r3.devices] [1088,1089,1090] (.agg [pI r3.pidsMax,pI r3.weight,pI r3.quota,pI r3.period,pI r3.burst,pI r3.clampMin,pI r3.clampMax,ow 0 r3.cpus.length,ow 1 r3.mems.length,pI r3.partition,pI r3.memory.min,pI r3.memory.low,pI r3.memory.high,pI r3.memory.max,pI r3.memory.swapMax,pB r3.memory.together,ow 2 r3.devices.length]))
 ·intro h2 hm
  refine Sk ?_
  obtain ⟨g4,hm⟩:=go1 hm
  obtain ⟨r5,hr5,hm⟩:=bo hm
  refine Sq (RK hnt (nn 5 (o47 [] true r5 :: .no :: [])) [(4,rr 1032)] [(1032,bx [pI r5.pidsMax,pI r5.weight,pI r5.quota,pI r5.period,pI r5.burst,pI r5.clampMin,pI r5.clampMax,ow 1136 r5.cpus.length,ow 1137 r5.mems.length,pI r5.partition,pI r5.memory.min,pI r5.memory.low,pI r5.memory.high,pI r5.memory.max,pI r5.memory.swapMax,pB r5.memory.together,ow 1138 r5.devices.length]),(1136,ob0 (roI r5.cpus)),(1137,ob0 (roI r5.mems)),(1138,ob0 (Aj r5.devices))] (an g4.1 (an g4.2 (an (AeO (p0.getD (Int.toNat r1) Ap).settings r5 hr5) tv))) ?_)
  obtain rfl:=sj hm
  exact DW.ret (An [roI r5.cpus,roI r5.mems,Aj r5.devices] [1136,1137,1138] (.agg [pI r5.pidsMax,pI r5.weight,pI r5.quota,pI r5.period,pI r5.burst,pI r5.clampMin,pI r5.clampMax,ow 0 r5.cpus.length,ow 1 r5.mems.length,pI r5.partition,pI r5.memory.min,pI r5.memory.low,pI r5.memory.high,pI r5.memory.max,pI r5.memory.swapMax,pB r5.memory.together,ow 2 r5.devices.length]))
abbrev o42 (ks:List Nat) (b:Bool) (RES:At) (sm:List Nat := []):Orc := .call 42 ks b (.agg [pI RES.pidsMax,pI RES.weight,pI RES.quota,pI RES.period,pI RES.burst,pI RES.clampMin,pI RES.clampMax,ow 0 RES.cpus.length,ow 1 RES.mems.length,pI RES.partition,pI RES.memory.min,pI RES.memory.low,pI RES.memory.high,pI RES.memory.max,pI RES.memory.swapMax,pB RES.memory.together,ow 2 RES.devices.length]) [] [roI RES.cpus,roI RES.mems,Aj RES.devices] sm

theorem AcE (p0:List Int) (p1:Int) (RES:Int) (hm:Nq p0 p1=some RES):Spec Tryz.prog 74 [.p (slI p0),pI p1] [] (pI RES) [] []:=by
 unfold Nq at hm
 refine SO Tryz.func74 rfl rfl [(0,.p (slI p0)),(1,pI p1)] [] ?_
 intro cx hnt
 refine Sq (RD hnt (.no :: []) [] [] [] [] tv ?_)
 refine Sq (Sq (RD hnt (nn 3 []) [] [(7,pI ((p0.length:Nat):Int)),(8,pI 0)] [] [] tv ?_))
 refine Bk ?_
 obtain ⟨hc1,hm⟩:=go1 hm
 refine DW.rangeO (fun (k1:Nat) (s1:Unit)=>Af [(0,.p (slI p0)),(1,pI p1),(7,pI ((p0.length:Nat):Int)),(8,pI ((k1:Nat):Int))] []) 0 hm Conv.eqK ?_
 intro k1 s1 n1 hk1 hs1 he1
 refine Sq (RD hnt (.no :: []) [] [(9,pB (decide (((k1:Nat):Int)<((p0.length:Nat):Int))))] [] [] tv ?_)
 refine Sq (Cv (decide (((k1:Nat):Int)<((p0.length:Nat):Int))) ?_ ?_)
 ·intro h7
  have hlt1:k1<p0.length:=by have:=of_decide_eq_true h7; omega
  have hm:=hs1 hlt1
  unfold Zg at hm
  refine Sk ?_
  refine Sq (Bk ?_)
  refine Sq (RD hnt (nn 2 []) [9] [(5,pI ((k1:Nat):Int))] [] [] tv ?_)
  refine Sq (RD hnt (nn 6 []) [] [(16,pB (p1==(p0.getD k1 0)))] [] [] (an (nn0 k1) (an (ltc hlt1) tv)) ?_)
  refine Ar hm ?_ ?_
  ·intro h8 hm
   refine Sq (RK hnt (nn 2 []) [(4,pI ((k1:Nat):Int))] [] tv ?_)
   obtain rfl:=sj hm
   exact DW.ret (An [] [] (pI ((k1:Nat):Int)))
  ·intro h8 hm
   refine Sk ?_
   refine DW.done ?_
   show DW _ _ _ _ _
   refine RD hnt (nn 2 []) [5,16] [(8,pI (w64 (((k1:Nat):Int)+1)))] [] [] tv ?_
   exact jD () ⟨hlt1,hm⟩ (Conv.tp [(8,pI (w64 (((k1:Nat):Int)+1)))] [] (by kernel_rfl) (.cons rfl (.of_eq (congrArg pI (Bt hlt1 hc1))) .nil) .nil)
 ·intro h7
  have hge1:¬ k1<p0.length:=by have:=of_decide_eq_false h7; omega
  have hm:=he1 hge1
  unfold Ym at hm
  refine DW.exit ?_
  refine Ao ?_
  refine Ba ?_
  refine Ai ?_
  show DW _ _ _ _ _
  refine Sq (RK hnt (.no :: []) [(4,pI (-1))] [] tv ?_)
  obtain rfl:=sj hm
  exact DW.ret (An [] [] (pI (-1)))
abbrev o55 (ks:List Nat) (b:Bool) (RES:Int) (sm:List Nat := []):Orc := .call 74 ks b (pI RES) [] [] sm

theorem Tz (p0:List Int) (p1:Int) (RES:Bool) (hm:Gf p0 p1=some RES):Spec Tryz.prog 46 [.p (slI p0),pI p1] [] (pB RES) [] []:=by
 unfold Gf at hm
 refine SO Tryz.func46 rfl rfl [(0,.p (slI p0)),(1,pI p1)] [] ?_
 intro cx hnt
 refine Sq (RD hnt (.no :: []) [] [] [] [] tv ?_)
 obtain ⟨r1,hr1,hm⟩:=bo hm
 refine Sq (RK hnt (nn 2 (o55 [] true r1::nn 2 [])) [(4,pB (decide (r1≥0)))] [] (an (AcE p0 p1 r1 hr1) tv) ?_)
 obtain rfl:=sj hm
 exact DW.ret (An [] [] (pB (decide (r1≥0))))
abbrev o54 (ks:List Nat) (b:Bool) (RES:Bool) (sm:List Nat := []):Orc := .call 46 ks b (pB RES) [] [] sm

theorem AaE (p0:List Int) (p1:Int) (RES:Bool) (hm:Vc p0 p1=some RES):Spec Tryz.prog 99 [.p (slI p0),pI p1] [] (pB RES) [] []:=by
 unfold Vc at hm
 refine SO Tryz.func99 rfl rfl [(0,.p (slI p0)),(1,pI p1)] [] ?_
 intro cx hnt
 refine Sq (RD hnt (.no :: []) [] [] [] [] tv ?_)
 obtain ⟨r1,hr1,hm⟩:=bo hm
 refine Sq (RK hnt (nn 2 (o54 [] true r1 :: .no :: [])) [(4,pB r1)] [] (an (Tz p0 p1 r1 hr1) tv) ?_)
 obtain rfl:=sj hm
 exact DW.ret (An [] [] (pB r1))
abbrev o53 (ks:List Nat) (b:Bool) (RES:Bool) (sm:List Nat := []):Orc := .call 99 ks b (pB RES) [] [] sm

theorem AeQ (p0:Int) (p1:List Int) (RES:Bool) (hm:Uq p0 p1=some RES):Spec Tryz.prog 110 [pI p0,rr 0] [.box [.p (slI p1)]] (pB RES) [.box [.p (slI p1)]] []:=by
 unfold Uq at hm
 refine SO Tryz.func110 rfl rfl [(0,pI p0),(1,rr 0)] [(0,bx [.p (slI p1)])] ?_
 intro cx hnt
 refine Sq (RD hnt (.no :: []) [] [] [] [] tv ?_)
 obtain ⟨r1,hr1,hm⟩:=bo hm
 refine Sq (RD hnt (nn 2 (o53 [] true r1::nn 2 [])) [0,1] [(3,pB (!r1))] [] [] (an (AaE p1 p0 r1 hr1) tv) ?_)
 obtain rfl:=sj hm
 exact DW.ret (An [.box [.p (slI p1)]] [] (pB (!r1)))

theorem Rv (p0:List Int) (p1c0:List Int) (RES:Int) (hm:Gh p0 p1c0=some RES):Spec Tryz.prog 126 [.p (slI p0),.fn 110 [rr 0]] [.box [.p (slI p1c0)]] (pI RES) [.box [.p (slI p1c0)]] []:=by
 unfold Gh at hm
 refine SO Tryz.func126 rfl rfl [(0,.p (slI p0)),(1,.fn 110 [rr 0])] [(0,bx [.p (slI p1c0)])] ?_
 intro cx hnt
 refine Sq (RD hnt (.no :: []) [] [] [] [] tv ?_)
 refine Sq (Sq (RD hnt (nn 3 []) [] [(7,pI ((p0.length:Nat):Int)),(8,pI 0)] [] [] tv ?_))
 refine Bk ?_
 obtain ⟨hc1,hm⟩:=go1 hm
 refine DW.rangeO (fun (k1:Nat) (s1:Unit)=>Af [(0,.p (slI p0)),(1,.fn 110 [rr 0]),(7,pI ((p0.length:Nat):Int)),(8,pI ((k1:Nat):Int))] [(0,bx [.p (slI p1c0)])]) 0 hm Conv.eqK ?_
 intro k1 s1 n1 hk1 hs1 he1
 refine Sq (RD hnt (.no :: []) [] [(9,pB (decide (((k1:Nat):Int)<((p0.length:Nat):Int))))] [] [] tv ?_)
 refine Sq (Cv (decide (((k1:Nat):Int)<((p0.length:Nat):Int))) ?_ ?_)
 ·intro h9
  have hlt1:k1<p0.length:=by have:=of_decide_eq_true h9; omega
  have hm:=hs1 hlt1
  unfold Ht at hm
  refine Sk ?_
  refine Sq (Bk ?_)
  refine Sq (RD hnt (nn 2 []) [9] [(5,pI ((k1:Nat):Int))] [] [] tv ?_)
  obtain ⟨r10,hr10,hm⟩:=bo hm
  refine Sq (RD hnt (nn 5 (.call 110 [0] true (pB r10) [.box [.p (slI p1c0)]] [] [] :: [])) [] [(16,pB r10)] [] [] (an (nn0 k1) (an (ltc hlt1) (an (AeQ (p0.getD k1 0) p1c0 r10 hr10) (an tv tv)))) ?_)
  refine Ar hm ?_ ?_
  ·intro h11 hm
   refine Sq (RK hnt (nn 2 []) [(4,pI ((k1:Nat):Int))] [(0,bx [.p (slI p1c0)])] tv ?_)
   obtain rfl:=sj hm
   exact DW.ret (An [.box [.p (slI p1c0)]] [] (pI ((k1:Nat):Int)))
  ·intro h11 hm
   refine Sk ?_
   refine DW.done ?_
   show DW _ _ _ _ _
   refine RD hnt (nn 2 []) [5,16] [(8,pI (w64 (((k1:Nat):Int)+1)))] [] [] tv ?_
   exact jD () ⟨hlt1,hm⟩ (Conv.tp [(8,pI (w64 (((k1:Nat):Int)+1)))] [] (by kernel_rfl) (.cons rfl (.of_eq (congrArg pI (Bt hlt1 hc1))) .nil) .nil)
 ·intro h9
  have hge1:¬ k1<p0.length:=by have:=of_decide_eq_false h9; omega
  have hm:=he1 hge1
  unfold Li at hm
  refine DW.exit ?_
  refine Ao ?_
  refine Ba ?_
  refine Ai ?_
  show DW _ _ _ _ _
  refine Sq (RK hnt (.no :: []) [(4,pI (-1))] [(0,bx [.p (slI p1c0)])] tv ?_)
  obtain rfl:=sj hm
  exact DW.ret (An [.box [.p (slI p1c0)]] [] (pI (-1)))

theorem Qe (p0:List Int) (p1c0:List Int) (RES:Bool) (hm:Ft p0 p1c0=some RES):Spec Tryz.prog 109 [.p (slI p0),.fn 110 [rr 0]] [.box [.p (slI p1c0)]] (pB RES) [.box [.p (slI p1c0)]] []:=by
 unfold Ft at hm
 refine SO Tryz.func109 rfl rfl [(0,.p (slI p0)),(1,.fn 110 [rr 0])] [(0,bx [.p (slI p1c0)])] ?_
 intro cx hnt
 refine Sq (RD hnt (.no :: []) [] [] [] [] tv ?_)
 obtain ⟨r1,hr1,hm⟩:=bo hm
 refine Sq (RD hnt (nn 2 (.call 126 [0] true (pI r1) [.box [.p (slI p1c0)]] [] []::nn 2 [])) [0,1] [(4,pB (decide (r1≥0)))] [] [] (an (Rv p0 p1c0 r1 hr1) (an tv tv)) ?_)
 obtain rfl:=sj hm
 exact DW.ret (An [.box [.p (slI p1c0)]] [] (pB (decide (r1≥0))))

theorem Abf (p0:List Int) (p1:List Int) (RES:Bool) (hm:Rn p0 p1=some RES):Spec Tryz.prog 80 [.p (slI p0),.p (slI p1)] [] (pB RES) [] []:=by
 unfold Rn at hm
 refine SO Tryz.func80 rfl rfl [(0,.p (slI p0)),(1,.p (slI p1))] [] ?_
 intro cx hnt
 refine Sq (RD hnt (nn 2 []) [1] [(3,rr 1024)] [] [(1024,bx [.p (slI p1)])] tv ?_)
 obtain ⟨r1,hr1,hm⟩:=bo hm
 refine Sq (RK hnt (nn 2 (.call 109 [1024] true (pB r1) [.box [.p (slI p1)]] [] []::nn 2 [])) [(4,pB (!r1))] [] (an (Qe p0 p1 r1 hr1) (an tv tv)) ?_)
 obtain rfl:=sj hm
 exact DW.ret (An [] [] (pB (!r1)))
abbrev o49 (ks:List Nat) (b:Bool) (RES:Bool) (sm:List Nat := []):Orc := .call 80 ks b (pB RES) [] [] sm

abbrev c61e1 (y3:Int×Int):=(w64 (y3.2+(w64 (((Bx (bs [0,1,2,2,3,3,3,3,4,4,4,4,4,4,4,4,5,5,5,5,5,5,5,5,5,5,5,5,5,5,5,5,6,6,6,6,6,6,6,6,6,6,6,6,6,6,6,6,6,6,6,6,6,6,6,6,6,6,6,6,6,6,6,6,7,7,7,7,7,7,7,7,7,7,7,7,7,7,7,7,7,7,7,7,7,7,7,7,7,7,7,7,7,7,7,7,7,7,7,7,7,7,7,7,7,7,7,7,7,7,7,7,7,7,7,7,7,7,7,7,7,7,7,7,7,7,7,7,8,8,8,8,8,8,8,8,8,8,8,8,8,8,8,8,8,8,8,8,8,8,8,8,8,8,8,8,8,8,8,8,8,8,8,8,8,8,8,8,8,8,8,8,8,8,8,8,8,8,8,8,8,8,8,8,8,8,8,8,8,8,8,8,8,8,8,8,8,8,8,8,8,8,8,8,8,8,8,8,8,8,8,8,8,8,8,8,8,8,8,8,8,8,8,8,8,8,8,8,8,8,8,8,8,8,8,8,8,8,8,8,8,8,8,8,8,8,8,8,8,8,8,8,8,8,8,8]) (Int.toNat (IntKind.u8.wrap y3.1))):Nat):Int))))
theorem AgH (p0:Int) (RES:Int) (hm:AcM p0=some RES):Spec Tryz.prog 93 [.p (vk .u64 p0)] [] (pI RES) [] []:=by
 unfold AcM at hm
 refine SO Tryz.func93 rfl rfl [(0,.p (vk .u64 p0))] [] ?_
 intro cx hnt
 refine Sq (RD hnt (.no :: []) [] [(2,pI 0)] [] [] tv ?_)
 refine Sq (Sq (RD hnt (nn 2 []) [] [(4,pB (decide (p0≥4294967296)))] [] [] tv ?_))
 refine Jn (ι:=Int×Int) (fun (y1:Int×Int)=>Af [(0,.p (vk .u64 y1.1)),(2,pI y1.2)] []) (fun y1=>Vy y1=some RES) ?_ ?_
 ·intro y1 hm
  unfold Vy at hm
  refine Sq (Sq (RD hnt (nn 2 []) [] [(8,pB (decide (y1.1≥65536)))] [] [] tv ?_))
  refine Jn (ι:=Int×Int) (fun (y2:Int×Int)=>Af [(0,.p (vk .u64 y2.1)),(2,pI y2.2)] []) (fun y2=>Wz y2=some RES) ?_ ?_
  ·intro y2 hm
   unfold Wz at hm
   refine Sq (Sq (RD hnt (nn 2 []) [] [(14,pB (decide (y2.1≥256)))] [] [] tv ?_))
   refine Jn (ι:=Int×Int) (fun (y3:Int×Int)=>Af [(0,.p (vk .u64 y3.1)),(2,pI y3.2)] []) (fun y3=>Wm y3=some RES) ?_ ?_
   ·intro y3 hm
    unfold Wm at hm
    obtain ⟨g4,hm⟩:=go1 hm
    refine Sq (RK hnt (nn 7 []) [(2,pI (c61e1 y3))] [] (an g4.1 (an g4.2 tv)) ?_)
    obtain rfl:=sj hm
    exact DW.ret (An [] [] (pI (c61e1 y3)))
   ·refine Ar hm ?_ ?_
    ·intro h3 hm
     refine Sq (RK hnt (nn 3 []) [(0,.p (vk .u64 (kshr .u64 y2.1 8))),(2,pI y2.2)] [] (an (by decide:(0:Int)≤8) tv) ?_)
     refine RD hnt (nn 3 []) [] [(2,pI (w64 (y2.2+8)))] [] [] tv ?_
     exact jD ((kshr .u64 y2.1 8),(w64 (y2.2+8))) hm Conv.eqK
    ·intro h3 hm
     refine Sk ?_
     exact jD (y2.1,y2.2) hm Conv.t0
  ·refine Ar hm ?_ ?_
   ·intro h2 hm
    refine Sq (RK hnt (nn 3 []) [(0,.p (vk .u64 (kshr .u64 y1.1 16))),(2,pI y1.2)] [] (an (by decide:(0:Int)≤16) tv) ?_)
    refine RD hnt (nn 3 []) [] [(2,pI (w64 (y1.2+16)))] [] [] tv ?_
    exact jD ((kshr .u64 y1.1 16),(w64 (y1.2+16))) hm Conv.eqK
   ·intro h2 hm
    refine Sk ?_
    exact jD (y1.1,y1.2) hm Conv.t0
 ·refine Ar hm ?_ ?_
  ·intro h1 hm
   refine Sq (RK hnt (nn 3 []) [(0,.p (vk .u64 (kshr .u64 p0 32)))] [] (an (by decide:(0:Int)≤32) tv) ?_)
   refine RD hnt (.no :: []) [] [(2,pI 32)] [] [] tv ?_
   exact jD ((kshr .u64 p0 32),32) hm Conv.eqK
  ·intro h1 hm
   refine Sk ?_
   exact jD (p0,0) hm Conv.t0
abbrev o61 (ks:List Nat) (b:Bool) (RES:Int) (sm:List Nat := []):Orc := .call 93 ks b (pI RES) [] [] sm

theorem Adw (p0:Int) (RES:Int) (hm:Vi p0=some RES):Spec Tryz.prog 64 [.p (vk .u64 p0)] [] (pI RES) [] []:=by
 unfold Vi at hm
 refine SO Tryz.func64 rfl rfl [(0,.p (vk .u64 p0))] [] ?_
 intro cx hnt
 refine Sq (RD hnt (.no :: []) [] [] [] [] tv ?_)
 refine Sq (AeC ff ?_)
 refine Sk ?_
 obtain ⟨r1,hr1,hm⟩:=bo hm
 refine Sq (RK hnt (.no::o61 [] true r1 :: .no :: []) [(2,pI r1)] [] (an (AgH p0 r1 hr1) tv) ?_)
 obtain rfl:=sj hm
 exact DW.ret (An [] [] (pI r1))
abbrev o60 (ks:List Nat) (b:Bool) (RES:Int) (sm:List Nat := []):Orc := .call 64 ks b (pI RES) [] [] sm

theorem Me (p0:Int) (RES:Bool) (hm:Rf p0=some RES):Spec Tryz.prog 118 [pI p0] [] (pB RES) [] []:=by
 unfold Rf at hm
 refine SO Tryz.func118 rfl rfl [(0,pI p0)] [] ?_
 intro cx hnt
 refine Sq (RK hnt (.no :: []) [(0,pI p0)] [] tv ?_)
 refine Sq (RK hnt (nn 4 []) [(2,pB (p0 != p0))] [] tv ?_)
 obtain rfl:=sj hm
 exact DW.ret (An [] [] (pB (p0 != p0)))
abbrev o65 (ks:List Nat) (b:Bool) (RES:Bool) (sm:List Nat := []):Orc := .call 118 ks b (pB RES) [] [] sm

theorem Dv (p0:Int) (p1:Int) (RES:Bool) (hm:Ec p0 p1=some RES):Spec Tryz.prog 89 [pI p0,pI p1] [] (pB RES) [] []:=by
 unfold Ec at hm
 refine SO Tryz.func89 rfl rfl [(0,pI p0),(1,pI p1)] [] ?_
 intro cx hnt
 refine Sq (RD hnt (.no :: []) [] [] [] [] tv ?_)
 obtain ⟨r1,hr1,hm⟩:=bo hm
 refine Sq ?_
 refine Jn (ι:=Bool) (fun (y1:Bool)=>Af [(4,pB y1)] []) (fun y1=>Na y1=some RES) ?_ ?_
 ·intro y1 hm
  unfold Na at hm
  obtain rfl:=sj hm
  exact DW.ret (An [] [] (pB y1))
 ·rcases bt r1 with h2|h2
  ·replace hm:=Az h2 hm
   obtain ⟨r3,hr3,hm⟩:=bo hm
   rcases bt (!r3) with h4|h4
   ·replace hm:=Az h4 hm
    refine RK hnt (.no::o65 [] true r1::nn 2 (o65 [] true r3 :: .no::pT :: .no::sk 3 (pT :: .no :: []))) [(4,pB true)] [] (an (Me p0 r1 hr1) (an2 h2 (an (Me p1 r3 hr3) (an2 h2 (an4 h4 tv))))) ?_
    exact jD true hm .refl
   ·replace hm:=Ay h4 hm
    refine RK hnt (.no::o65 [] true r1::nn 2 (o65 [] true r3 :: .no::pT::nn 4 (pF :: .no :: []))) [(4,pB (decide (p0<p1)))] [] (an (Me p0 r1 hr1) (an2 h2 (an (Me p1 r3 hr3) (an2 h2 (an4 h4 tv))))) ?_
    exact jD (decide (p0<p1)) hm .refl
  ·replace hm:=Ay h2 hm
   refine RK hnt (.no::o65 [] true r1 :: .no::sk 3 (pF::nn 4 (pF :: .no :: []))) [(4,pB (decide (p0<p1)))] [] (an (Me p0 r1 hr1) (an4 h2 (an4 ff tv))) ?_
   exact jD (decide (p0<p1)) hm .refl
abbrev o64 (ks:List Nat) (b:Bool) (RES:Bool) (sm:List Nat := []):Orc := .call 89 ks b (pB RES) [] [] sm

abbrev Aes (s4:(List Int)×Int):=(s4.1.getD (Int.toNat (w64 (s4.2-1))) 0)
abbrev c63e2 (s4:(List Int)×Int):=(Bs (Bs (elI s4.1) (Int.toNat s4.2) [vi (Aes s4)]) (Int.toNat (w64 (s4.2-1))) (setRange ((Bs (elI s4.1) (Int.toNat s4.2) [vi (Aes s4)]) (Int.toNat (w64 (s4.2-1)))) 0 [vi (s4.1.getD (Int.toNat s4.2) 0)]))
abbrev c63e3 (s4:(List Int)×Int):=((s4.1.set (Int.toNat s4.2) (Aes s4)).set (Int.toNat (w64 (s4.2-1))) (s4.1.getD (Int.toNat s4.2) 0))
theorem To (p0:List Int) (p1:Int) (p2:Int) (RES:List Int) (hm:Fr p0 p1 p2=some RES):Spec Tryz.prog 83 [ow 0 p0.length,pI p1,pI p2] [roI p0] (.p (.tup [])) [roI RES] []:=by
 unfold Fr at hm
 refine SO Tryz.func83 rfl rfl [(0,ow 0 p0.length),(1,pI p1),(2,pI p2)] [(0,ob0 (roI p0))] ?_
 intro cx hnt
 refine Sq (RD hnt (nn 3 []) [] [(6,pI (w64 (p1+1)))] [] [] tv ?_)
 refine Bk ?_
 obtain ⟨hc1,hm⟩:=go1 hm
 refine DW.forO (fun (k1:Int) (s1:List Int)=>Af [(0,ow 0 s1.length),(1,pI p1),(2,pI p2),(6,pI k1)] [(0,ob0 (roI s1))]) (lo:=(w64 (p1+1))) (hi:=p2) hm Conv.eqK ?_
 intro k1 s1 n1 hk1 hs1 he1
 refine Sq (Sq (RD hnt (nn 3 []) [] [(12,pB (decide (k1<p2)))] [] [] tv ?_))
 refine Cv (decide (k1<p2)) ?_ ?_
 ·intro h75
  have hlt1:k1<p2:=by have:=of_decide_eq_true h75; omega
  have hm:=hs1 hlt1
  unfold Jb at hm
  refine Sk ?_
  refine Sq (Bk ?_)
  refine Sq (RD hnt (nn 2 []) [12] [(7,pI k1)] [] [] tv ?_)
  refine Bk ?_
  refine DW.whileO (fun (s4:(List Int)×Int)=>Af [(0,ow 0 s4.1.length),(1,pI p1),(2,pI p2),(6,pI k1),(7,pI s4.2)] [(0,ob0 (roI s4.1))]) hm Conv.eqK ?_
  intro s4 n4 hm
  unfold Jc at hm
  refine Sq (Sq ?_)
  refine Jn (ι:=Bool) (fun (y6:Bool)=>Af [(0,ow 0 s4.1.length),(1,pI p1),(2,pI p2),(6,pI k1),(7,pI s4.2),(30,pB y6)] [(0,ob0 (roI s4.1))]) (fun y6=>(Et n1 s4 n4) y6=some RES) ?_ ?_
  ·intro y6 hm
   unfold Et at hm
   refine Ar hm ?_ ?_
   ·intro h97 hm
    refine Sk ?_
    refine Sq (Bk ?_)
    obtain ⟨g98,g99,g100,g101,hm⟩:=go4 hm
    obtain ⟨g102,g103,g104,g105,hm⟩:=go4 hm
    refine RN hnt (nn 18 []) [(0,ow 0 (c63e3 s4).length),(1,pI p1),(2,pI p2),(6,pI k1),(7,pI s4.2)] [(0,ob0 (roI (c63e3 s4)))] [(0,ow 0 s4.1.length)] [(0,.row 1 s4.1.length (c63e2 s4))] (an g98.1 (an g98.2 (an g99 (an g100.1 (an g100.2 (an g101 (an g102.1 (an g102.2 (an g103 (an g104.1 (an g104.2 (an g105 tv)))))))))))) (by kernel_rfl) (.cons rfl (MLe.ownLen (enc:=Au) (d:=0) (f:=(c63e2 s4)) (RowIs.updR (RowIs.upd RowIs.elems (Aes s4) rfl) (by omega) (s4.1.getD (Int.toNat s4.2) 0) rfl)) .nil) (.cons rfl (BLe.typed (RowIs.updR (RowIs.upd RowIs.elems (Aes s4) rfl) (by omega) (s4.1.getD (Int.toNat s4.2) 0) rfl)) .nil) ?_
    refine DW.done ?_
    show DW _ _ _ _ _
    refine RD hnt (nn 3 []) [] [(7,pI (w64 (s4.2-1)))] [] [] tv ?_
    exact jD ((c63e3 s4),(w64 (s4.2-1))) hm Conv.eqK
   ·intro h97 hm
    refine DW.exit ?_
    refine Ao ?_
    refine Ba ?_
    refine Ai ?_
    show DW _ _ _ _ _
    refine DW.done ?_
    show DW _ _ _ _ _
    refine RD hnt (nn 3 []) [7,30] [(6,pI (w64 (k1+1)))] [] [] tv ?_
    exact jD s4.1 ⟨hlt1,hm⟩ (Conv.tp [(6,pI (w64 (k1+1)))] [] (by kernel_rfl) (.cons rfl (.of_eq (congrArg pI (Rm (lo:=(w64 (p1+1))) (hi:=p2) (by omega) hk1 hlt1 (by omega)))) .nil) .nil)
  ·rcases bt (decide (s4.2>p1)) with h91|h91
   ·replace hm:=Az h91 hm
    obtain ⟨g92,g93,g94,g95,hm⟩:=go4 hm
    obtain ⟨r96,hr96,hm⟩:=bo hm
    refine RD hnt (nn 13 (o64 [] true r96::pT :: [])) [] [(30,pB r96)] [] [] (an3 h91 (an g92.1 (an g92.2 (an h91 (an g93 (an4 h91 (an g94.1 (an g94.2 (an h91 (an g95 (an h91 (an (Dv (s4.1.getD (Int.toNat s4.2) 0) (Aes s4) r96 hr96) (an h91 tv))))))))))))) ?_
    exact jD r96 hm Conv.eqK
   ·replace hm:=Ay h91 hm
    refine RD hnt (nn 4 (sk 10 (pF :: []))) [] [(30,pB false)] [] [] (an5 h91 (an6 h91 tv)) ?_
    exact jD false hm Conv.eqK
 ·intro h75
  have hge1:¬ k1<p2:=by have:=of_decide_eq_false h75; omega
  have hm:=he1 hge1
  unfold Mu at hm
  refine DW.exit ?_
  refine Ao ?_
  refine Ba ?_
  refine Ai ?_
  show DW _ _ _ _ _
  refine DW.done ?_
  obtain rfl:=sj hm
  exact endK [roI s1] [] (.p (.tup []))
abbrev o63 (ks:List Nat) (b:Bool) (RES:List Int) (sm:List Nat := []):Orc := .call 83 ks b (.p (.tup [])) [roI RES] [] sm

abbrev c67e1 (s1:(List Int)×Int) (p3:Int) (y4:Int):=(Bs (Bs (elI s1.1) (Int.toNat (w64 (p3+s1.2))) [vi (s1.1.getD (Int.toNat (w64 (p3+y4))) 0)]) (Int.toNat (w64 (p3+y4))) (setRange ((Bs (elI s1.1) (Int.toNat (w64 (p3+s1.2))) [vi (s1.1.getD (Int.toNat (w64 (p3+y4))) 0)]) (Int.toNat (w64 (p3+y4)))) 0 [vi (s1.1.getD (Int.toNat (w64 (p3+s1.2))) 0)]))
abbrev c67e2 (s1:(List Int)×Int) (p3:Int) (y4:Int):=((s1.1.set (Int.toNat (w64 (p3+s1.2))) (s1.1.getD (Int.toNat (w64 (p3+y4))) 0)).set (Int.toNat (w64 (p3+y4))) (s1.1.getD (Int.toNat (w64 (p3+s1.2))) 0))
abbrev Aae (s1:(List Int)×Int):=(w64 ((w64 (2*s1.2))+1))
theorem Oq (p0:List Int) (p1:Int) (p2:Int) (p3:Int) (RES:List Int) (hm:Fu p0 p1 p2 p3=some RES):Spec Tryz.prog 113 [ow 0 p0.length,pI p1,pI p2,pI p3] [roI p0] (.p (.tup [])) [roI RES] []:=by
 unfold Fu at hm
 refine SO Tryz.func113 rfl rfl [(0,ow 0 p0.length),(1,pI p1),(2,pI p2),(3,pI p3)] [(0,ob0 (roI p0))] ?_
 intro cx hnt
 refine Sq (RD hnt (nn 2 []) [1] [(8,pI p1)] [] [] tv ?_)
 refine Bk ?_
 refine DW.whileO (fun (s1:(List Int)×Int)=>Af [(0,ow 0 s1.1.length),(2,pI p2),(3,pI p3),(8,pI s1.2)] [(0,ob0 (roI s1.1))]) hm Conv.eqK ?_
 intro s1 n1 hm
 unfold Kq at hm
 refine Bk ?_
 refine Sq (RD hnt (nn 4 []) [] [(9,pI (Aae s1))] [] [] tv ?_)
 refine Sq (Sq (RD hnt (nn 3 []) [] [(16,pB (decide ((Aae s1)≥p2)))] [] [] tv ?_))
 refine Ar hm ?_ ?_
 ·intro h23 hm
  refine DW.exit ?_
  refine Pv (by decide) ?_
  refine Ba ?_
  refine Ao ?_
  refine Ba ?_
  refine Ai ?_
  show DW _ _ _ _ _
  refine DW.done ?_
  obtain rfl:=sj hm
  exact endK [roI s1.1] [] (.p (.tup []))
 ·intro h23 hm
  refine Sk ?_
  refine Sq (Sq ?_)
  refine Jn (ι:=Bool) (fun (y3:Bool)=>Af [(0,ow 0 s1.1.length),(2,pI p2),(3,pI p3),(8,pI s1.2),(9,pI (Aae s1)),(36,pB y3)] [(0,ob0 (roI s1.1))]) (fun y3=>(Gi p3 s1 n1) y3=some RES) ?_ ?_
  ·intro y3 hm
   unfold Gi at hm
   refine Jn (ι:=Int) (fun (y4:Int)=>Af [(0,ow 0 s1.1.length),(2,pI p2),(3,pI p3),(8,pI s1.2),(9,pI y4)] [(0,ob0 (roI s1.1))]) (fun y4=>(Fb p3 s1 n1) y4=some RES) ?_ ?_
   ·intro y4 hm
    unfold Fb at hm
    obtain ⟨g31,g32,g33,g34,hm⟩:=go4 hm
    obtain ⟨r35,hr35,hm⟩:=bo hm
    refine Sq (Sq (RD hnt (nn 12 (o64 [] true r35 :: .no :: [])) [] [(52,pB (!r35))] [] [] (an g31.1 (an g31.2 (an g32 (an g33.1 (an g33.2 (an g34 (an (Dv (s1.1.getD (Int.toNat (w64 (p3+s1.2))) 0) (s1.1.getD (Int.toNat (w64 (p3+y4))) 0) r35 hr35) tv))))))) ?_))
    refine Ar hm ?_ ?_
    ·intro h36 hm
     obtain rfl:=sj hm
     exact DW.ret (An [roI s1.1] [] (.p (.tup [])))
    ·intro h36 hm
     refine Sk ?_
     obtain ⟨g37,g38,g39,g40,hm⟩:=go4 hm
     obtain ⟨g41,g42,g43,g44,hm⟩:=go4 hm
     refine Sq (RN hnt (nn 24 []) [(0,ow 0 (c67e2 s1 p3 y4).length),(2,pI p2),(3,pI p3),(9,pI y4)] [(0,ob0 (roI (c67e2 s1 p3 y4)))] [(0,ow 0 s1.1.length)] [(0,.row 1 s1.1.length (c67e1 s1 p3 y4))] (an g37.1 (an g37.2 (an g38 (an g39.1 (an g39.2 (an g40 (an g41.1 (an g41.2 (an g42 (an g43.1 (an g43.2 (an g44 tv)))))))))))) (by kernel_rfl) (.cons rfl (MLe.ownLen (enc:=Au) (d:=0) (f:=(c67e1 s1 p3 y4)) (RowIs.updR (RowIs.upd RowIs.elems (s1.1.getD (Int.toNat (w64 (p3+y4))) 0) rfl) (by omega) (s1.1.getD (Int.toNat (w64 (p3+s1.2))) 0) rfl)) .nil) (.cons rfl (BLe.typed (RowIs.updR (RowIs.upd RowIs.elems (s1.1.getD (Int.toNat (w64 (p3+y4))) 0) rfl) (by omega) (s1.1.getD (Int.toNat (w64 (p3+s1.2))) 0) rfl)) .nil) ?_)
     refine RD hnt (nn 2 []) [9] [(8,pI y4)] [] [] tv ?_
     refine DW.done ?_
     show DW _ _ _ _ _
     exact jD ((c67e2 s1 p3 y4),y4) hm Conv.eqK
   ·refine Ar hm ?_ ?_
    ·intro h30 hm
     refine RD hnt (nn 3 []) [36] [(9,pI (w64 ((Aae s1)+1)))] [] [] tv ?_
     exact jD (w64 ((Aae s1)+1)) hm Conv.eqK
    ·intro h30 hm
     refine Sk ?_
     exact jD (Aae s1) hm Conv.t0
  ·rcases bt (decide ((w64 ((Aae s1)+1))<p2)) with h24|h24
   ·replace hm:=Az h24 hm
    obtain ⟨g25,g26,g27,g28,hm⟩:=go4 hm
    obtain ⟨r29,hr29,hm⟩:=bo hm
    refine RD hnt (nn 18 (o64 [] true r29::pT :: [])) [16] [(36,pB r29)] [] [] (an5 h24 (an g25.1 (an g25.2 (an h24 (an g26 (an6 h24 (an g27.1 (an g27.2 (an h24 (an g28 (an h24 (an (Dv (s1.1.getD (Int.toNat (w64 (p3+(Aae s1)))) 0) (s1.1.getD (Int.toNat (w64 ((w64 (p3+(Aae s1)))+1))) 0) r29 hr29) (an h24 tv))))))))))))) ?_
    exact jD r29 hm Conv.eqK
   ·replace hm:=Ay h24 hm
    refine RD hnt (nn 5 (sk 14 (pF :: []))) [16] [(36,pB false)] [] [] (an3 h24 (an6 h24 (an6 h24 tv))) ?_
    exact jD false hm Conv.eqK
abbrev o67 (ks:List Nat) (b:Bool) (RES:List Int) (sm:List Nat := []):Orc := .call 113 ks b (.p (.tup [])) [roI RES] [] sm

abbrev c66e1 (s3:(List Int)×Int) (p1:Int):=((s3.1.set (Int.toNat p1) (s3.1.getD (Int.toNat (w64 (p1+s3.2))) 0)).set (Int.toNat (w64 (p1+s3.2))) (s3.1.getD (Int.toNat p1) 0))
abbrev c66e2 (s3:(List Int)×Int) (p1:Int):=(Bs (Bs (elI s3.1) (Int.toNat p1) [vi (s3.1.getD (Int.toNat (w64 (p1+s3.2))) 0)]) (Int.toNat (w64 (p1+s3.2))) (setRange ((Bs (elI s3.1) (Int.toNat p1) [vi (s3.1.getD (Int.toNat (w64 (p1+s3.2))) 0)]) (Int.toNat (w64 (p1+s3.2)))) 0 [vi (s3.1.getD (Int.toNat p1) 0)]))
theorem Wi (p0:List Int) (p1:Int) (p2:Int) (RES:List Int) (hm:Ha p0 p1 p2=some RES):Spec Tryz.prog 84 [ow 0 p0.length,pI p1,pI p2] [roI p0] (.p (.tup [])) [roI RES] []:=by
 unfold Ha at hm
 refine SO Tryz.func84 rfl rfl [(0,ow 0 p0.length),(1,pI p1),(2,pI p2)] [(0,ob0 (roI p0))] ?_
 intro cx hnt
 refine Sq (RD hnt (nn 2 []) [] [(6,pI p1)] [] [] tv ?_)
 refine Sq (RD hnt (.no :: []) [] [(7,pI 0)] [] [] tv ?_)
 refine Sq (RD hnt (nn 4 []) [1,2] [(8,pI (w64 (p2-p1)))] [] [] tv ?_)
 refine Sq (Sq (RD hnt (nn 4 []) [] [(9,pI (w64 (Int.tdiv (w64 ((w64 (p2-p1))-1)) 2)))] [] [] (an (by decide:(2:Int)≠0) tv) ?_))
 refine Bk ?_
 refine DW.whileO (fun (s1:(List Int)×Int)=>Af [(0,ow 0 s1.1.length),(6,pI p1),(7,pI 0),(8,pI (w64 (p2-p1))),(9,pI s1.2)] [(0,ob0 (roI s1.1))]) hm Conv.eqK ?_
 intro s1 n1 hm
 unfold Kp at hm
 refine Sq (Sq (RD hnt (nn 2 []) [] [(19,pB (decide (s1.2≥0)))] [] [] tv ?_))
 refine Ar hm ?_ ?_
 ·intro h26 hm
  refine Sk ?_
  refine Sq (Bk ?_)
  obtain ⟨r27,hr27,hm⟩:=bo hm
  obtain ⟨g28,hm⟩:=go1 hm
  refine RN hnt (nn 4 (o67 [0] true r27 :: [])) [(0,ow 0 r27.length),(6,pI p1),(7,pI 0),(8,pI (w64 (p2-p1))),(9,pI s1.2)] [(0,ob0 (roI r27))] [(0,ow 0 s1.1.length)] [] (an (Oq s1.1 s1.2 (w64 (p2-p1)) p1 r27 hr27) (an (⟨rfl,g28⟩:Body.same (roI s1.1) (roI r27)) tv)) (by kernel_rfl) (.cons rfl (MLe.of_eq (congrArg (MV.own 0 0 0) g28)) .nil) .nil ?_
  refine DW.done ?_
  show DW _ _ _ _ _
  refine RD hnt (nn 3 []) [] [(9,pI (w64 (s1.2-1)))] [] [] tv ?_
  exact jD (r27,(w64 (s1.2-1))) hm Conv.eqK
 ·intro h26 hm
  refine DW.exit ?_
  refine Ao ?_
  refine Ba ?_
  refine Ai ?_
  show DW _ _ _ _ _
  refine Sq (RD hnt (nn 3 []) [8,9,19] [(10,pI (w64 ((w64 (p2-p1))-1)))] [] [] tv ?_)
  refine Bk ?_
  refine DW.whileO (fun (s3:(List Int)×Int)=>Af [(0,ow 0 s3.1.length),(6,pI p1),(7,pI 0),(10,pI s3.2)] [(0,ob0 (roI s3.1))]) hm Conv.eqK ?_
  intro s3 n3 hm
  unfold Ko at hm
  refine Sq (Sq (RD hnt (nn 2 []) [] [(30,pB (decide (s3.2≥0)))] [] [] tv ?_))
  refine Ar hm ?_ ?_
  ·intro h40 hm
   refine Sk ?_
   refine Sq (Bk ?_)
   obtain ⟨g41,g42,g43,g44,hm⟩:=go4 hm
   obtain ⟨g45,g46,g47,g48,hm⟩:=go4 hm
   refine Sq (RN hnt (nn 20 []) [(0,ow 0 (c66e1 s3 p1).length),(6,pI p1),(7,pI 0),(10,pI s3.2)] [(0,ob0 (roI (c66e1 s3 p1)))] [(0,ow 0 s3.1.length)] [(0,.row 1 s3.1.length (c66e2 s3 p1))] (an g41.1 (an g41.2 (an g42 (an g43.1 (an g43.2 (an g44 (an g45.1 (an g45.2 (an g46 (an g47.1 (an g47.2 (an g48 tv)))))))))))) (by kernel_rfl) (.cons rfl (MLe.ownLen (enc:=Au) (d:=0) (f:=(c66e2 s3 p1)) (RowIs.updR (RowIs.upd RowIs.elems (s3.1.getD (Int.toNat (w64 (p1+s3.2))) 0) rfl) (by omega) (s3.1.getD (Int.toNat p1) 0) rfl)) .nil) (.cons rfl (BLe.typed (RowIs.updR (RowIs.upd RowIs.elems (s3.1.getD (Int.toNat (w64 (p1+s3.2))) 0) rfl) (by omega) (s3.1.getD (Int.toNat p1) 0) rfl)) .nil) ?_)
   obtain ⟨r49,hr49,hm⟩:=bo hm
   obtain ⟨g50,hm⟩:=go1 hm
   refine RN hnt (nn 4 (o67 [0] true r49 :: [])) [(0,ow 0 r49.length),(6,pI p1),(7,pI 0),(10,pI s3.2)] [(0,ob0 (roI r49))] [(0,ow 0 (c66e1 s3 p1).length)] [] (an (Oq (c66e1 s3 p1) 0 s3.2 p1 r49 hr49) (an (⟨rfl,g50⟩:Body.same (roI (c66e1 s3 p1)) (roI r49)) tv)) (by kernel_rfl) (.cons rfl (MLe.of_eq (congrArg (MV.own 0 0 0) g50)) .nil) .nil ?_
   refine DW.done ?_
   show DW _ _ _ _ _
   refine RD hnt (nn 3 []) [] [(10,pI (w64 (s3.2-1)))] [] [] tv ?_
   exact jD (r49,(w64 (s3.2-1))) hm Conv.eqK
  ·intro h40 hm
   refine DW.exit ?_
   refine Ao ?_
   refine Ba ?_
   refine Ai ?_
   show DW _ _ _ _ _
   refine DW.done ?_
   obtain rfl:=sj hm
   exact endK [roI s3.1] [] (.p (.tup []))
abbrev o66 (ks:List Nat) (b:Bool) (RES:List Int) (sm:List Nat := []):Orc := .call 84 ks b (.p (.tup [])) [roI RES] [] sm

theorem Kn (p0:List Int) (p1:Int) (p2:Int) (p3:Int) (RES:Int×Int×Int) (hm:Fj p0 p1 p2 p3=some RES):Spec Tryz.prog 127 [.p (slI p0),pI p1,pI p2,rr 0] [.box [pI p3]] (.p (.tup [vi RES.1,vi RES.2.1])) [.box [pI RES.2.2]] []:=by
 unfold Fj at hm
 refine SO Tryz.func127 rfl rfl [(0,.p (slI p0)),(1,pI p1),(2,pI p2),(3,rr 0)] [(0,bx [pI p3])] ?_
 intro cx hnt
 refine Sq (RD hnt (nn 2 []) [] [] [] [] tv ?_)
 obtain ⟨g1,g2,hm⟩:=go2 hm
 obtain ⟨r3,hr3,hm⟩:=bo hm
 refine Sq (Sq (RD hnt (nn 8 (o64 [] true r3 :: [])) [0] [(18,pB r3)] [] [] (an g1.1 (an g1.2 (an g2.1 (an g2.2 (an (Dv (p0.getD (Int.toNat p2) 0) (p0.getD (Int.toNat p1) 0) r3 hr3) tv))))) ?_))
 refine Ar hm ?_ ?_
 ·intro h4 hm
  refine Sq (RD hnt (nn 6 []) [3,18] [] [] [(0,bx [pI (w64 (p3+1))])] tv ?_)
  refine Sq (RD hnt (nn 4 []) [1,2] [(8,pI p2),(9,pI p1)] [] [] tv ?_)
  obtain rfl:=sj hm
  exact DW.ret (An [.box [pI (w64 (p3+1))]] [] (.p (.tup [vi p2,vi p1])))
 ·intro h4 hm
  refine Sk ?_
  refine Sq (RK hnt (nn 4 []) [(8,pI p1),(9,pI p2)] [(0,bx [pI p3])] tv ?_)
  obtain rfl:=sj hm
  exact DW.ret (An [.box [pI p3]] [] (.p (.tup [vi p1,vi p2])))
abbrev o71 (ks:List Nat) (b:Bool) (RES:Int×Int×Int) (sm:List Nat := []):Orc := .call 127 ks b (.p (.tup [vi RES.1,vi RES.2.1])) [.box [pI RES.2.2]] [] sm

theorem Pw (p0:List Int) (p1:Int) (p2:Int) (p3:Int) (p4:Int) (RES:Int×Int) (hm:Gk p0 p1 p2 p3 p4=some RES):Spec Tryz.prog 117 [.p (slI p0),pI p1,pI p2,pI p3,rr 0] [.box [pI p4]] (pI RES.1) [.box [pI RES.2]] []:=by
 unfold Gk at hm
 refine SO Tryz.func117 rfl rfl [(0,.p (slI p0)),(1,pI p1),(2,pI p2),(3,pI p3),(4,rr 0)] [(0,bx [pI p4])] ?_
 intro cx hnt
 refine Sq (RD hnt (.no :: []) [] [] [] [] tv ?_)
 obtain ⟨r1,hr1,hm⟩:=bo hm
 refine Sq (RD hnt (nn 4 (o71 [0] true r1::nn 5 [])) [] [(1,pI r1.1),(2,pI r1.2.1)] [] [(0,bx [pI r1.2.2])] (an (Kn p0 p1 p2 p4 r1 hr1) (an tv tv)) ?_)
 obtain ⟨r2,hr2,hm⟩:=bo hm
 refine Sq (RD hnt (nn 4 (o71 [0] true r2::nn 5 [])) [3] [(2,pI r2.1)] [] [(0,bx [pI r2.2.2])] (an (Kn p0 r1.2.1 p3 r1.2.2 r2 hr2) (an tv tv)) ?_)
 obtain ⟨r3,hr3,hm⟩:=bo hm
 refine Sq (RK hnt (nn 4 (o71 [0] true r3::nn 5 [])) [(2,pI r3.2.1)] [(0,bx [pI r3.2.2])] (an (Kn p0 r1.1 r2.1 r2.2.2 r3 hr3) (an tv tv)) ?_)
 refine Sq (RD hnt (nn 2 []) [2] [(10,pI r3.2.1)] [] [] tv ?_)
 obtain rfl:=sj hm
 exact DW.ret (An [.box [pI r3.2.2]] [] (pI r3.2.1))
abbrev o70 (ks:List Nat) (b:Bool) (RES:Int×Int) (sm:List Nat := []):Orc := .call 117 ks b (pI RES.1) [.box [pI RES.2]] [] sm

theorem Hv (p0:List Int) (p1:Int) (p2:Int) (RES:Int×Int) (hm:Dh p0 p1 p2=some RES):Spec Tryz.prog 116 [.p (slI p0),pI p1,rr 0] [.box [pI p2]] (pI RES.1) [.box [pI RES.2]] []:=by
 unfold Dh at hm
 refine SO Tryz.func116 rfl rfl [(0,.p (slI p0)),(1,pI p1),(2,rr 0)] [(0,bx [pI p2])] ?_
 intro cx hnt
 refine Sq (RD hnt (.no :: []) [] [] [] [] tv ?_)
 obtain ⟨r1,hr1,hm⟩:=bo hm
 refine Sq (RK hnt (nn 7 (o70 [0] true r1 :: .no :: [])) [(6,pI r1.1)] [(0,bx [pI r1.2])] (an (Pw p0 (w64 (p1-1)) p1 (w64 (p1+1)) p2 r1 hr1) (an tv tv)) ?_)
 obtain rfl:=sj hm
 exact DW.ret (An [.box [pI r1.2]] [] (pI r1.1))
abbrev o69 (ks:List Nat) (b:Bool) (RES:Int×Int) (sm:List Nat := []):Orc := .call 116 ks b (pI RES.1) [.box [pI RES.2]] [] sm

abbrev AbF (p2:Int) (p1:Int):=(w64 (Int.tdiv (w64 (p2-p1)) 4))
abbrev c68e2 (p1:Int) (p2:Int):=(w64 (p1+(w64 ((AbF p2 p1)*2))))
theorem Ul (p0:List Int) (p1:Int) (p2:Int) (RES:Int×Int) (hm:Ge p0 p1 p2=some RES):Spec Tryz.prog 86 [.p (slI p0),pI p1,pI p2] [] (.p (.tup [vi RES.1,vi RES.2])) [] []:=by
 unfold Ge at hm
 refine SO Tryz.func86 rfl rfl [(0,.p (slI p0)),(1,pI p1),(2,pI p2)] [] ?_
 intro cx hnt
 refine Sq (RD hnt (nn 2 []) [] [] [] [] tv ?_)
 refine Sq (RD hnt (nn 4 []) [2] [(8,pI (w64 (p2-p1)))] [] [] tv ?_)
 refine Sq (RD hnt (.no :: []) [] [(9,rr 1072)] [] [(1072,bx [pI 0])] tv ?_)
 refine Sq (RD hnt (nn 6 []) [] [(10,pI (w64 (p1+(w64 ((AbF p2 p1)*1)))))] [] [] (an (by decide:(4:Int)≠0) tv) ?_)
 refine Sq (RD hnt (nn 6 []) [] [(11,pI (c68e2 p1 p2))] [] [] (an (by decide:(4:Int)≠0) tv) ?_)
 refine Sq (RD hnt (nn 6 []) [1] [(12,pI (w64 (p1+(w64 ((AbF p2 p1)*3)))))] [] [] (an (by decide:(4:Int)≠0) tv) ?_)
 refine Sq (Sq (RD hnt (nn 2 []) [] [(32,pB (decide ((w64 (p2-p1))≥8)))] [] [] tv ?_))
 refine Jn (ι:=Int×Int) (fun (y1:Int×Int)=>Af [(9,rr 1072),(11,pI y1.2)] [(1072,bx [pI y1.1])]) (fun y1=>Ei y1=some RES) ?_ ?_
 ·intro y1 hm
  unfold Ei at hm
  refine Sq (RK hnt (.no :: []) [(11,pI y1.2),(49,pI y1.1)] [] tv ?_)
  refine Bk ?_
  refine Sq (RD hnt (nn 2 []) [] [(51,pB (y1.1==0))] [] [] tv ?_)
  refine Ar hm ?_ ?_
  ·intro h7 hm
   refine Sq (RK hnt (nn 3 []) [(6,pI y1.2),(7,pI 1)] [] tv ?_)
   obtain rfl:=sj hm
   exact DW.ret (An [] [] (.p (.tup [vi y1.2,vi 1])))
  ·intro h7 hm
   refine Sq (RK hnt (nn 2 []) [(11,pI y1.2),(54,pB (y1.1==12))] [] tv ?_)
   refine Ar hm ?_ ?_
   ·intro h8 hm
    refine Sq (RK hnt (nn 3 []) [(6,pI y1.2),(7,pI 2)] [] tv ?_)
    obtain rfl:=sj hm
    exact DW.ret (An [] [] (.p (.tup [vi y1.2,vi 2])))
   ·intro h8 hm
    refine Sq (RK hnt (nn 3 []) [(6,pI y1.2),(7,pI 0)] [] tv ?_)
    obtain rfl:=sj hm
    exact DW.ret (An [] [] (.p (.tup [vi y1.2,vi 0])))
 ·refine Ar hm ?_ ?_
  ·intro h1 hm
   refine Sq (Sq (RD hnt (nn 2 []) [8,32] [(34,pB (decide ((w64 (p2-p1))≥50)))] [] [] tv ?_))
   refine Jn (ι:=Int×Int×Int×Int) (fun (y2:Int×Int×Int×Int)=>Af [(0,.p (slI p0)),(9,rr 1072),(10,pI y2.2.1),(11,pI y2.2.2.1),(12,pI y2.2.2.2)] [(1072,bx [pI y2.1])]) (fun y2=>(Eh p0) y2=some RES) ?_ ?_
   ·intro y2 hm
    unfold Eh at hm
    obtain ⟨r6,hr6,hm⟩:=bo hm
    refine RK hnt (nn 4 (o70 [1072] true r6 :: .no :: [])) [(9,rr 1072),(11,pI r6.1)] [(1072,bx [pI r6.2])] (an (Pw p0 y2.2.1 y2.2.2.1 y2.2.2.2 y2.1 r6 hr6) (an tv tv)) ?_
    exact jD (r6.2,r6.1) hm .refl
   ·refine Ar hm ?_ ?_
    ·intro h2 hm
     obtain ⟨r3,hr3,hm⟩:=bo hm
     refine Sq (RK hnt (nn 2 (o69 [1072] true r3 :: .no :: [])) [(0,.p (slI p0)),(9,rr 1072),(10,pI r3.1),(11,pI (c68e2 p1 p2)),(12,pI (w64 (p1+(w64 ((AbF p2 p1)*3)))))] [(1072,bx [pI r3.2])] (an (Hv p0 (w64 (p1+(w64 ((AbF p2 p1)*1)))) 0 r3 hr3) (an tv tv)) ?_)
     obtain ⟨r4,hr4,hm⟩:=bo hm
     refine Sq (RD hnt (nn 2 (o69 [1072] true r4 :: .no :: [])) [] [(11,pI r4.1)] [] [(1072,bx [pI r4.2])] (an (Hv p0 (c68e2 p1 p2) r3.2 r4 hr4) (an tv tv)) ?_)
     obtain ⟨r5,hr5,hm⟩:=bo hm
     refine RD hnt (nn 2 (o69 [1072] true r5 :: .no :: [])) [] [(12,pI r5.1)] [] [(1072,bx [pI r5.2])] (an (Hv p0 (w64 (p1+(w64 ((AbF p2 p1)*3)))) r4.2 r5 hr5) (an tv tv)) ?_
     exact jD (r5.2,r3.1,r4.1,r5.1) hm Conv.eqK
    ·intro h2 hm
     refine Sk ?_
     exact jD (0,(w64 (p1+(w64 ((AbF p2 p1)*1)))),(c68e2 p1 p2),(w64 (p1+(w64 ((AbF p2 p1)*3))))) hm Conv.t0
  ·intro h1 hm
   refine Sk ?_
   exact jD (0,(c68e2 p1 p2)) hm Conv.t0
abbrev o68 (ks:List Nat) (b:Bool) (RES:Int×Int) (sm:List Nat := []):Orc := .call 86 ks b (.p (.tup [vi RES.1,vi RES.2])) [] [] sm

abbrev c72e1 (s1:(List Int)×Int×Int):=(Bs (Bs (elI s1.1) (Int.toNat s1.2.1) [vi (s1.1.getD (Int.toNat s1.2.2) 0)]) (Int.toNat s1.2.2) (setRange ((Bs (elI s1.1) (Int.toNat s1.2.1) [vi (s1.1.getD (Int.toNat s1.2.2) 0)]) (Int.toNat s1.2.2)) 0 [vi (s1.1.getD (Int.toNat s1.2.1) 0)]))
abbrev c72e2 (s1:(List Int)×Int×Int):=((s1.1.set (Int.toNat s1.2.1) (s1.1.getD (Int.toNat s1.2.2) 0)).set (Int.toNat s1.2.2) (s1.1.getD (Int.toNat s1.2.1) 0))
theorem Ud (p0:List Int) (p1:Int) (p2:Int) (RES:List Int) (hm:Fx p0 p1 p2=some RES):Spec Tryz.prog 87 [ow 0 p0.length,pI p1,pI p2] [roI p0] (.p (.tup [])) [roI RES] []:=by
 unfold Fx at hm
 refine SO Tryz.func87 rfl rfl [(0,ow 0 p0.length),(1,pI p1),(2,pI p2)] [(0,ob0 (roI p0))] ?_
 intro cx hnt
 refine Sq (RD hnt (nn 2 []) [1] [(6,pI p1)] [] [] tv ?_)
 refine Sq (RD hnt (nn 3 []) [2] [(7,pI (w64 (p2-1)))] [] [] tv ?_)
 refine Bk ?_
 refine DW.whileO (fun (s1:(List Int)×Int×Int)=>Af [(0,ow 0 s1.1.length),(6,pI s1.2.1),(7,pI s1.2.2)] [(0,ob0 (roI s1.1))]) hm Conv.eqK ?_
 intro s1 n1 hm
 unfold Jg at hm
 refine Sq (Sq (RD hnt (nn 3 []) [] [(13,pB (decide (s1.2.1<s1.2.2)))] [] [] tv ?_))
 refine Ar hm ?_ ?_
 ·intro h10 hm
  refine Sk ?_
  refine Bk ?_
  obtain ⟨g11,g12,g13,g14,hm⟩:=go4 hm
  obtain ⟨g15,g16,g17,g18,hm⟩:=go4 hm
  refine Sq (RN hnt (nn 16 []) [(0,ow 0 (c72e2 s1).length),(6,pI s1.2.1),(7,pI s1.2.2)] [(0,ob0 (roI (c72e2 s1)))] [(0,ow 0 s1.1.length)] [(0,.row 1 s1.1.length (c72e1 s1))] (an g11.1 (an g11.2 (an g12 (an g13.1 (an g13.2 (an g14 (an g15.1 (an g15.2 (an g16 (an g17.1 (an g17.2 (an g18 tv)))))))))))) (by kernel_rfl) (.cons rfl (MLe.ownLen (enc:=Au) (d:=0) (f:=(c72e1 s1)) (RowIs.updR (RowIs.upd RowIs.elems (s1.1.getD (Int.toNat s1.2.2) 0) rfl) (by omega) (s1.1.getD (Int.toNat s1.2.1) 0) rfl)) .nil) (.cons rfl (BLe.typed (RowIs.updR (RowIs.upd RowIs.elems (s1.1.getD (Int.toNat s1.2.2) 0) rfl) (by omega) (s1.1.getD (Int.toNat s1.2.1) 0) rfl)) .nil) ?_)
  refine Sq (RD hnt (nn 3 []) [] [(6,pI (w64 (s1.2.1+1)))] [] [] tv ?_)
  refine RD hnt (nn 3 []) [] [(7,pI (w64 (s1.2.2-1)))] [] [] tv ?_
  refine DW.done ?_
  show DW _ _ _ _ _
  exact jD ((c72e2 s1),(w64 (s1.2.1+1)),(w64 (s1.2.2-1))) hm Conv.eqK
 ·intro h10 hm
  refine DW.exit ?_
  refine Ao ?_
  refine Ba ?_
  refine Ai ?_
  show DW _ _ _ _ _
  refine DW.done ?_
  obtain rfl:=sj hm
  exact endK [roI s1.1] [] (.p (.tup []))
abbrev o72 (ks:List Nat) (b:Bool) (RES:List Int) (sm:List Nat := []):Orc := .call 87 ks b (.p (.tup [])) [roI RES] [] sm

abbrev Aew (s15:(List Int)×Int):=(s15.1.getD (Int.toNat (w64 (s15.2-1))) 0)
abbrev c73e2 (s1:(List Int)×Int) (s12:Int):=(Bs (Bs (elI s1.1) (Int.toNat s12) [vi (s1.1.getD (Int.toNat (w64 (s12-1))) 0)]) (Int.toNat (w64 (s12-1))) (setRange ((Bs (elI s1.1) (Int.toNat s12) [vi (s1.1.getD (Int.toNat (w64 (s12-1))) 0)]) (Int.toNat (w64 (s12-1)))) 0 [vi (s1.1.getD (Int.toNat s12) 0)]))
abbrev c73e3 (s16:List Int) (k16:Int):=(Bs (Bs (elI s16) (Int.toNat k16) [vi (s16.getD (Int.toNat (w64 (k16-1))) 0)]) (Int.toNat (w64 (k16-1))) (setRange ((Bs (elI s16) (Int.toNat k16) [vi (s16.getD (Int.toNat (w64 (k16-1))) 0)]) (Int.toNat (w64 (k16-1)))) 0 [vi (s16.getD (Int.toNat k16) 0)]))
abbrev c73e4 (s1:(List Int)×Int) (s12:Int):=((s1.1.set (Int.toNat s12) (s1.1.getD (Int.toNat (w64 (s12-1))) 0)).set (Int.toNat (w64 (s12-1))) (s1.1.getD (Int.toNat s12) 0))
abbrev c73e5 (s16:List Int) (k16:Int):=((s16.set (Int.toNat k16) (s16.getD (Int.toNat (w64 (k16-1))) 0)).set (Int.toNat (w64 (k16-1))) (s16.getD (Int.toNat k16) 0))
abbrev c73e6 (s15:(List Int)×Int):=(Bs (Bs (elI s15.1) (Int.toNat s15.2) [vi (Aew s15)]) (Int.toNat (w64 (s15.2-1))) (setRange ((Bs (elI s15.1) (Int.toNat s15.2) [vi (Aew s15)]) (Int.toNat (w64 (s15.2-1)))) 0 [vi (s15.1.getD (Int.toNat s15.2) 0)]))
abbrev c73e7 (s15:(List Int)×Int):=((s15.1.set (Int.toNat s15.2) (Aew s15)).set (Int.toNat (w64 (s15.2-1))) (s15.1.getD (Int.toNat s15.2) 0))
theorem Ph (p0:List Int) (p1:Int) (p2:Int) (RES:Bool×(List Int)) (hm:Eb p0 p1 p2=some RES):Spec Tryz.prog 88 [ow 0 p0.length,pI p1,pI p2] [roI p0] (pB RES.1) [roI RES.2] []:=by
 unfold Eb at hm
 refine SO Tryz.func88 rfl rfl [(0,ow 0 p0.length),(1,pI p1),(2,pI p2)] [(0,ob0 (roI p0))] ?_
 intro cx hnt
 refine Sq (RD hnt (.no :: []) [] [] [] [] tv ?_)
 refine Sq (RD hnt (nn 3 []) [] [(7,pI (w64 (p1+1)))] [] [] tv ?_)
 refine Sq (Sq (RD hnt (.no :: []) [] [(8,pI 0)] [] [] tv ?_))
 refine Bk ?_
 refine DW.forO (fun (k1:Int) (s1:(List Int)×Int)=>Af [(0,ow 0 s1.1.length),(1,pI p1),(2,pI p2),(7,pI s1.2),(8,pI k1)] [(0,ob0 (roI s1.1))]) (lo:=0) (hi:=5) hm Conv.eqK ?_
 intro k1 s1 n1 hk1 hs1 he1
 refine Sq (Sq (RD hnt (nn 2 []) [] [(14,pB (decide (k1<5)))] [] [] tv ?_))
 refine Cv (decide (k1<5)) ?_ ?_
 ·intro h391
  have hlt1:k1<5:=by have:=of_decide_eq_true h391; omega
  have hm:=hs1 hlt1
  unfold Gv at hm
  refine Sk ?_
  refine Sq ?_
  refine Jn (ι:=(List Int)×Int) (fun (y11:(List Int)×Int)=>Af [(0,ow 0 y11.1.length),(1,pI p1),(2,pI p2),(7,pI y11.2),(8,pI k1)] [(0,ob0 (roI y11.1))]) (fun y11=>(Cf n1) y11=some RES) ?_ ?_
  ·intro y11 hm
   unfold Cf at hm
   refine RD hnt (nn 3 []) [] [(8,pI (w64 (k1+1)))] [] [] tv ?_
   exact jD (y11.1,y11.2) ⟨hlt1,hm⟩ (Conv.tp [(8,pI (w64 (k1+1)))] [] (by kernel_rfl) (.cons rfl (.of_eq (congrArg pI (Rm (lo:=0) (hi:=5) (by omega) hk1 hlt1 (by omega)))) .nil) .nil)
  ·refine Bk ?_
   refine Sq (Bk ?_)
   refine DW.whileO (fun (s12:Int)=>Af [(0,ow 0 s1.1.length),(1,pI p1),(2,pI p2),(7,pI s12),(8,pI k1)] [(0,ob0 (roI s1.1))]) hm Conv.t0 ?_
   intro s12 n12 hm
   unfold Gr at hm
   refine Sq (Sq ?_)
   refine Jn (ι:=Bool) (fun (y14:Bool)=>Af [(0,ow 0 s1.1.length),(1,pI p1),(2,pI p2),(7,pI s12),(8,pI k1),(32,pB y14)] [(0,ob0 (roI s1.1))]) (fun y14=>(Cg p1 p2 s1 n1 s12 n12) y14=some RES) ?_ ?_
   ·intro y14 hm
    unfold Cg at hm
    refine Ar hm ?_ ?_
    ·intro h492 hm
     refine Sk ?_
     refine Bk ?_
     refine RD hnt (nn 3 []) [32] [(7,pI (w64 (s12+1)))] [] [] tv ?_
     refine DW.done ?_
     show DW _ _ _ _ _
     exact jD (w64 (s12+1)) hm Conv.eqK
    ·intro h492 hm
     refine DW.exit ?_
     refine Ao ?_
     refine Ba ?_
     refine Ai ?_
     show DW _ _ _ _ _
     refine Sq (Sq (RD hnt (nn 3 []) [32] [(37,pB (s12==p2))] [] [] tv ?_))
     refine Ar hm ?_ ?_
     ·intro h493 hm
      refine Sq (RK hnt (.no :: []) [(6,pB true)] [(0,ob0 (roI s1.1))] tv ?_)
      obtain rfl:=sj hm
      exact DW.ret (An [roI s1.1] [] (pB true))
     ·intro h493 hm
      refine Sk ?_
      refine Sq (Sq (RD hnt (nn 4 []) [37] [(41,pB (decide ((w64 (p2-p1))<50)))] [] [] tv ?_))
      refine Ar hm ?_ ?_
      ·intro h494 hm
       refine Sq (RK hnt (.no :: []) [(6,pB false)] [(0,ob0 (roI s1.1))] tv ?_)
       obtain rfl:=sj hm
       exact DW.ret (An [roI s1.1] [] (pB false))
      ·intro h494 hm
       refine Sk ?_
       obtain ⟨g495,g496,g497,g498,hm⟩:=go4 hm
       obtain ⟨g499,g500,g501,g502,hm⟩:=go4 hm
       refine Sq (RN hnt (nn 18 []) [(0,ow 0 (c73e4 s1 s12).length),(1,pI p1),(2,pI p2),(7,pI s12),(8,pI k1)] [(0,ob0 (roI (c73e4 s1 s12)))] [(0,ow 0 s1.1.length)] [(0,.row 1 s1.1.length (c73e2 s1 s12))] (an g495.1 (an g495.2 (an g496 (an g497.1 (an g497.2 (an g498 (an g499.1 (an g499.2 (an g500 (an g501.1 (an g501.2 (an g502 tv)))))))))))) (by kernel_rfl) (.cons rfl (MLe.ownLen (enc:=Au) (d:=0) (f:=(c73e2 s1 s12)) (RowIs.updR (RowIs.upd RowIs.elems (s1.1.getD (Int.toNat (w64 (s12-1))) 0) rfl) (by omega) (s1.1.getD (Int.toNat s12) 0) rfl)) .nil) (.cons rfl (BLe.typed (RowIs.updR (RowIs.upd RowIs.elems (s1.1.getD (Int.toNat (w64 (s12-1))) 0) rfl) (by omega) (s1.1.getD (Int.toNat s12) 0) rfl)) .nil) ?_)
       refine Sq (Sq (RD hnt (nn 4 []) [] [(61,pB (decide ((w64 (s12-p1))≥2)))] [] [] tv ?_))
       refine Jn (ι:=List Int) (fun (y15:List Int)=>Af [(0,ow 0 y15.length),(1,pI p1),(2,pI p2),(7,pI s12),(8,pI k1)] [(0,ob0 (roI y15))]) (fun y15=>(Bz p2 n1 s12) y15=some RES) ?_ ?_
       ·intro y15 hm
        unfold Bz at hm
        refine Sq (RD hnt (nn 4 []) [] [(98,pB (decide ((w64 (p2-s12))≥2)))] [] [] tv ?_)
        refine Ar hm ?_ ?_
        ·intro h534 hm
         refine Sq (RD hnt (nn 3 []) [98] [(10,pI (w64 (s12+1)))] [] [] tv ?_)
         refine Bk ?_
         obtain ⟨hc16,hm⟩:=go1 hm
         refine DW.forO (fun (k16:Int) (s16:List Int)=>Af [(0,ow 0 s16.length),(1,pI p1),(2,pI p2),(7,pI s12),(8,pI k1),(10,pI k16)] [(0,ob0 (roI s16))]) (lo:=(w64 (s12+1))) (hi:=p2) hm Conv.eqK ?_
         intro k16 s16 n16 hk16 hs16 he16
         refine Sq (Sq (RD hnt (nn 3 []) [] [(103,pB (decide (k16<p2)))] [] [] tv ?_))
         refine Cv (decide (k16<p2)) ?_ ?_
         ·intro h565
          have hlt16:k16<p2:=by have:=of_decide_eq_true h565; omega
          have hm:=hs16 hlt16
          unfold Gq at hm
          refine Sk ?_
          refine Sq (Bk ?_)
          obtain ⟨g566,g567,g568,g569,hm⟩:=go4 hm
          obtain ⟨r570,hr570,hm⟩:=bo hm
          refine Sq (Sq (RD hnt (nn 9 (o64 [] true r570 :: .no :: [])) [103] [(116,pB (!r570))] [] [] (an g566.1 (an g566.2 (an g567 (an g568.1 (an g568.2 (an g569 (an (Dv (s16.getD (Int.toNat k16) 0) (s16.getD (Int.toNat (w64 (k16-1))) 0) r570 hr570) tv))))))) ?_))
          refine Ar hm ?_ ?_
          ·intro h571 hm
           refine DW.exit ?_
           refine Pv (by decide) ?_
           refine Ba ?_
           refine Ao ?_
           refine Ba ?_
           refine Ai ?_
           show DW _ _ _ _ _
           exact bD (s16,s12) hm Conv.t0
          ·intro h571 hm
           refine Sk ?_
           obtain ⟨g572,g573,g574,g575,hm⟩:=go4 hm
           obtain ⟨g576,g577,g578,g579,hm⟩:=go4 hm
           refine RN hnt (nn 18 []) [(0,ow 0 (c73e5 s16 k16).length),(1,pI p1),(2,pI p2),(7,pI s12),(8,pI k1),(10,pI k16)] [(0,ob0 (roI (c73e5 s16 k16)))] [(0,ow 0 s16.length)] [(0,.row 1 s16.length (c73e3 s16 k16))] (an g572.1 (an g572.2 (an g573 (an g574.1 (an g574.2 (an g575 (an g576.1 (an g576.2 (an g577 (an g578.1 (an g578.2 (an g579 tv)))))))))))) (by kernel_rfl) (.cons rfl (MLe.ownLen (enc:=Au) (d:=0) (f:=(c73e3 s16 k16)) (RowIs.updR (RowIs.upd RowIs.elems (s16.getD (Int.toNat (w64 (k16-1))) 0) rfl) (by omega) (s16.getD (Int.toNat k16) 0) rfl)) .nil) (.cons rfl (BLe.typed (RowIs.updR (RowIs.upd RowIs.elems (s16.getD (Int.toNat (w64 (k16-1))) 0) rfl) (by omega) (s16.getD (Int.toNat k16) 0) rfl)) .nil) ?_
           refine DW.done ?_
           show DW _ _ _ _ _
           refine RD hnt (nn 3 []) [] [(10,pI (w64 (k16+1)))] [] [] tv ?_
           exact jD (c73e5 s16 k16) ⟨hlt16,hm⟩ (Conv.tp [(10,pI (w64 (k16+1)))] [] (by kernel_rfl) (.cons rfl (.of_eq (congrArg pI (Rm (lo:=(w64 (s12+1))) (hi:=p2) (by omega) hk16 hlt16 (by omega)))) .nil) .nil)
         ·intro h565
          have hge16:¬ k16<p2:=by have:=of_decide_eq_false h565; omega
          have hm:=he16 hge16
          unfold Js at hm
          refine DW.exit ?_
          refine Ao ?_
          refine Ba ?_
          refine Ai ?_
          show DW _ _ _ _ _
          exact bD (s16,s12) hm Conv.t0
        ·intro h534 hm
         refine Sk ?_
         exact bD (y15,s12) hm Conv.t0
       ·refine Ar hm ?_ ?_
        ·intro h503 hm
         refine Sq (RD hnt (nn 3 []) [61] [(9,pI (w64 (s12-1)))] [] [] tv ?_)
         refine Bk ?_
         refine DW.whileO (fun (s15:(List Int)×Int)=>Af [(0,ow 0 s15.1.length),(1,pI p1),(2,pI p2),(7,pI s12),(8,pI k1),(9,pI s15.2)] [(0,ob0 (roI s15.1))]) hm Conv.eqK ?_
         intro s15 n15 hm
         unfold Gs at hm
         refine Sq (Sq (RD hnt (nn 2 []) [] [(65,pB (decide (s15.2≥1)))] [] [] tv ?_))
         refine Ar hm ?_ ?_
         ·intro h519 hm
          refine Sk ?_
          refine Sq (Bk ?_)
          obtain ⟨g520,g521,g522,g523,hm⟩:=go4 hm
          obtain ⟨r524,hr524,hm⟩:=bo hm
          refine Sq (Sq (RD hnt (nn 9 (o64 [] true r524 :: .no :: [])) [65] [(78,pB (!r524))] [] [] (an g520.1 (an g520.2 (an g521 (an g522.1 (an g522.2 (an g523 (an (Dv (s15.1.getD (Int.toNat s15.2) 0) (Aew s15) r524 hr524) tv))))))) ?_))
          refine Ar hm ?_ ?_
          ·intro h525 hm
           refine DW.exit ?_
           refine Pv (by decide) ?_
           refine Ba ?_
           refine Ao ?_
           refine Ba ?_
           refine Ai ?_
           show DW _ _ _ _ _
           exact jD s15.1 hm Conv.t0
          ·intro h525 hm
           refine Sk ?_
           obtain ⟨g526,g527,g528,g529,hm⟩:=go4 hm
           obtain ⟨g530,g531,g532,g533,hm⟩:=go4 hm
           refine RN hnt (nn 18 []) [(0,ow 0 (c73e7 s15).length),(1,pI p1),(2,pI p2),(7,pI s12),(8,pI k1),(9,pI s15.2)] [(0,ob0 (roI (c73e7 s15)))] [(0,ow 0 s15.1.length)] [(0,.row 1 s15.1.length (c73e6 s15))] (an g526.1 (an g526.2 (an g527 (an g528.1 (an g528.2 (an g529 (an g530.1 (an g530.2 (an g531 (an g532.1 (an g532.2 (an g533 tv)))))))))))) (by kernel_rfl) (.cons rfl (MLe.ownLen (enc:=Au) (d:=0) (f:=(c73e6 s15)) (RowIs.updR (RowIs.upd RowIs.elems (Aew s15) rfl) (by omega) (s15.1.getD (Int.toNat s15.2) 0) rfl)) .nil) (.cons rfl (BLe.typed (RowIs.updR (RowIs.upd RowIs.elems (Aew s15) rfl) (by omega) (s15.1.getD (Int.toNat s15.2) 0) rfl)) .nil) ?_
           refine DW.done ?_
           show DW _ _ _ _ _
           refine RD hnt (nn 3 []) [] [(9,pI (w64 (s15.2-1)))] [] [] tv ?_
           exact jD ((c73e7 s15),(w64 (s15.2-1))) hm Conv.eqK
         ·intro h519 hm
          refine DW.exit ?_
          refine Ao ?_
          refine Ba ?_
          refine Ai ?_
          show DW _ _ _ _ _
          exact jD s15.1 hm Conv.t0
        ·intro h503 hm
         refine Sk ?_
         exact jD (c73e4 s1 s12) hm Conv.t0
   ·rcases bt (decide (s12<p2)) with h486|h486
    ·replace hm:=Az h486 hm
     obtain ⟨g487,g488,g489,g490,hm⟩:=go4 hm
     obtain ⟨r491,hr491,hm⟩:=bo hm
     refine RD hnt (nn 13 (o64 [] true r491 :: .no::pT :: [])) [] [(32,pB (!r491))] [] [] (an3 h486 (an g487.1 (an g487.2 (an h486 (an g488 (an4 h486 (an g489.1 (an g489.2 (an h486 (an g490 (an h486 (an (Dv (s1.1.getD (Int.toNat s12) 0) (s1.1.getD (Int.toNat (w64 (s12-1))) 0) r491 hr491) (an2 h486 tv))))))))))))) ?_
     exact jD (!r491) hm Conv.eqK
    ·replace hm:=Ay h486 hm
     refine RD hnt (nn 4 (sk 11 (pF :: []))) [] [(32,pB false)] [] [] (an6 h486 (an6 h486 tv)) ?_
     exact jD false hm Conv.eqK
 ·intro h391
  have hge1:¬ k1<5:=by have:=of_decide_eq_false h391; omega
  have hm:=he1 hge1
  unfold Kb at hm
  refine DW.exit ?_
  refine Ao ?_
  refine Ba ?_
  refine Ai ?_
  show DW _ _ _ _ _
  refine Sq (RK hnt (.no :: []) [(6,pB false)] [(0,ob0 (roI s1.1))] tv ?_)
  obtain rfl:=sj hm
  exact DW.ret (An [roI s1.1] [] (pB false))
abbrev o73 (ks:List Nat) (b:Bool) (RES:Bool×(List Int)) (sm:List Nat := []):Orc := .call 88 ks b (pB RES.1) [roI RES.2] [] sm
end Go.Dm

