/- Texts of the proof of CpusetValid: the data machine, the models of the Go functions, their contracts. -/
import Derived.Test.YtkkeddafdmjhlaaGreatCpusetValidA3
set_option linter.unusedVariables false
set_option linter.unusedSimpArgs false
/- Go functions compute their models, printed by a program. -/
namespace Go.Dm
open Go.Proofs
set_option linter.unusedVariables false
abbrev Cq (p0 : List As) (k1 : Nat) := (p0.getD k1 (default : As))
theorem To (p0 : List As) (RES : Bool) (hm : El p0 = some RES) : Spec Tryz.prog 140 [.p (Co p0)] [] (pB RES) [] [] := by
 unfold El at hm
 refine SO Tryz.func140 rfl rfl [(0,.p (Co p0))] [] ?_
 intro cx hnt
 refine Sq (RD hnt (.no :: []) [] [] [] [] tv ?_)
 refine Sq (Sq (RD hnt (.no :: []) [] [(3,pI 0)] [] [] tv ?_))
 refine Bk ?_
 obtain ⟨hc1,hm⟩ := go1 hm
 refine DW.rangeO (fun (k1 : Nat) (s1 : Unit) => Ae [(0,.p (Co p0)),(3,pI ((k1 : Nat) : Int))] []) Lo hm Conv.eqK ?_
 intro k1 s1 n1 hk1 hs1 he1
 refine Sq (Sq (RD hnt (nn 4 []) [] [(8,pB (decide (((k1 : Nat) : Int) < ((p0.length : Nat) : Int))))] [] [] tv ?_))
 refine Ej (decide (((k1 : Nat) : Int) < ((p0.length : Nat) : Int))) ?_ ?_
 ·intro h61
  have hlt1 : k1 < p0.length := by have := of_decide_eq_true h61; omega
  have hm := hs1 hlt1
  unfold Po at hm
  refine Sk ?_
  refine Sq (Bk ?_)
  refine Sq (RD hnt (nn 6 []) [8] [(4,rr 1032)] [] [(1032,bx (pm (Db (Cq p0 k1))))] (an (nn0 k1) (an (ltc hlt1) tv)) ?_)
  refine Sq ?_
  refine Jn (ι := Bool) (fun (y3 : Bool) => Ae [(0,.p (Co p0)),(3,pI ((k1 : Nat) : Int)),(81,pB y3)] []) (fun y3 => (Bb n1) y3 = some RES) ?_ ?_
  ·intro y3 hm
   unfold Bb at hm
   refine Aq hm ?_ ?_
   ·intro h89 hm
    refine Sq (RK hnt (.no :: []) [(2,pB false)] [] tv ?_)
    obtain rfl := sj hm
    exact DW.ret (Am [] [] (pB false))
   ·intro h89 hm
    refine Sk ?_
    refine DW.done ?_
    show DW _ _ _ _ _
    refine RD hnt (nn 3 []) [81] [(3,pI (w64 (((k1 : Nat) : Int) + 1)))] [] [] tv ?_
    exact jD () ⟨hlt1,hm⟩ (Conv.tp [(3,pI (w64 (((k1 : Nat) : Int) + 1)))] [] (by kernel_rfl) (.cons rfl (.of_eq (congrArg pI (Da hlt1 hc1))) .nil) .nil)
  ·rcases bt (decide ((Cq p0 k1).device < 0)) with h62 | h62
   ·replace hm := Bc h62 hm
    refine RD hnt (nn 4 (sk 3 (pT :: .no :: sk 13 (pT :: .no :: sk 3 (pT :: .no :: sk 3 (pT :: .no :: sk 4 (pT :: .no :: sk 4 (pT :: .no :: sk 4 (pT :: .no :: sk 4 (pT :: .no :: sk 3 (pT :: .no :: sk 3 (pT :: [])))))))))))) [4] [(81,pB true)] [1032] [] (an4 h62 (an5 tt (an6 tt (an6 tt (an6 tt (an6 tt (an6 tt (an6 tt tv)))))))) ?_
    exact jD true hm Conv.eqK
   ·replace hm := Bd h62 hm
    rcases bt (decide ((Cq p0 k1).device ≥ 8)) with h63 | h63
    ·replace hm := Bc h63 hm
     refine RD hnt (nn 7 (pF :: .no :: sk 13 (pT :: .no :: sk 3 (pT :: .no :: sk 3 (pT :: .no :: sk 4 (pT :: .no :: sk 4 (pT :: .no :: sk 4 (pT :: .no :: sk 4 (pT :: .no :: sk 3 (pT :: .no :: sk 3 (pT :: []))))))))))) [4] [(81,pB true)] [1032] [] (an4 h62 (an5 h63 (an6 tt (an6 tt (an6 tt (an6 tt (an6 tt (an6 tt tv)))))))) ?_
     exact jD true hm Conv.eqK
    ·replace hm := Bd h63 hm
     rcases bt (decide (((k1 : Nat) : Int) > 0)) with h64 | h64
     ·replace hm := Bc h64 hm
      obtain ⟨g65,hm⟩ := go1 hm
      rcases bt (decide ((Cq p0 k1).device ≤ (p0.getD (Int.toNat (w64 (((k1 : Nat) : Int) - 1))) Lo).device)) with h66 | h66
      ·replace hm := Bc h66 hm
       refine RD hnt (nn 7 (pF :: nn 13 (pT :: pF :: .no :: sk 3 (pT :: .no :: sk 3 (pT :: .no :: sk 4 (pT :: .no :: sk 4 (pT :: .no :: sk 4 (pT :: .no :: sk 4 (pT :: .no :: sk 3 (pT :: .no :: sk 3 (pT :: []))))))))))) [4] [(81,pB true)] [1032] [] (an4 h62 (an3 h63 (an6 h64 (an g65.1 (an g65.2 (an3 h64 (an h63 (an h64 (an h63 (an4 h66 (an2 tt (an6 tt (an6 tt (an6 tt (an6 tt (an6 tt tv)))))))))))))))) ?_
       exact jD true hm Conv.eqK
      ·replace hm := Bd h66 hm
       rcases bt (decide ((Cq p0 k1).weight < 1)) with h67 | h67
       ·replace hm := Bc h67 hm
        refine RD hnt (nn 7 (pF :: nn 13 (pT :: pF :: nn 4 (pF :: .no :: sk 3 (pT :: .no :: sk 4 (pT :: .no :: sk 4 (pT :: .no :: sk 4 (pT :: .no :: sk 4 (pT :: .no :: sk 3 (pT :: .no :: sk 3 (pT :: []))))))))))) [4] [(81,pB true)] [1032] [] (an4 h62 (an3 h63 (an6 h64 (an g65.1 (an g65.2 (an3 h64 (an h63 (an h64 (an h63 (an4 h66 (an4 h67 (an4 tt (an6 tt (an6 tt (an6 tt (an6 tt tv)))))))))))))))) ?_
        exact jD true hm Conv.eqK
       ·replace hm := Bd h67 hm
        rcases bt (decide ((Cq p0 k1).weight > 10000)) with h68 | h68
        ·replace hm := Bc h68 hm
         refine RD hnt (nn 7 (pF :: nn 13 (pT :: pF :: nn 4 (pF :: nn 4 (pF :: .no :: sk 4 (pT :: .no :: sk 4 (pT :: .no :: sk 4 (pT :: .no :: sk 4 (pT :: .no :: sk 3 (pT :: .no :: sk 3 (pT :: []))))))))))) [4] [(81,pB true)] [1032] [] (an4 h62 (an3 h63 (an6 h64 (an g65.1 (an g65.2 (an3 h64 (an h63 (an h64 (an h63 (an4 h66 (an4 h67 (an5 h68 (an5 tt (an6 tt (an6 tt (an6 tt tv)))))))))))))))) ?_
         exact jD true hm Conv.eqK
        ·replace hm := Bd h68 hm
         obtain ⟨r69,hr69,hm⟩ := bo hm
         rcases bt (!r69) with h70 | h70
         ·replace hm := Bc h70 hm
          refine RD hnt (nn 7 (pF :: nn 13 (pT :: pF :: nn 4 (pF :: nn 4 (pF :: nn 3 (o36 [] true r69 :: .no :: pF :: .no :: sk 4 (pT :: .no :: sk 4 (pT :: .no :: sk 4 (pT :: .no :: sk 3 (pT :: .no :: sk 3 (pT :: []))))))))))) [4] [(81,pB true)] [1032] [] (an4 h62 (an3 h63 (an6 h64 (an g65.1 (an g65.2 (an3 h64 (an h63 (an h64 (an h63 (an4 h66 (an4 h67 (an3 h68 (an (Ai (Cq p0 k1).readPages 1 1073741824 r69 hr69) (an2 h68 (an5 h70 (an6 tt (an6 tt (an6 tt tv)))))))))))))))))) ?_
          exact jD true hm Conv.eqK
         ·replace hm := Bd h70 hm
          obtain ⟨r71,hr71,hm⟩ := bo hm
          rcases bt (!r71) with h72 | h72
          ·replace hm := Bc h72 hm
           refine RD hnt (nn 7 (pF :: nn 13 (pT :: pF :: nn 4 (pF :: nn 4 (pF :: nn 3 (o36 [] true r69 :: .no :: pF :: nn 3 (o36 [] true r71 :: .no :: pF :: .no :: sk 4 (pT :: .no :: sk 4 (pT :: .no :: sk 3 (pT :: .no :: sk 3 (pT :: []))))))))))) [4] [(81,pB true)] [1032] [] (an4 h62 (an3 h63 (an6 h64 (an g65.1 (an g65.2 (an3 h64 (an h63 (an h64 (an h63 (an4 h66 (an4 h67 (an3 h68 (an (Ai (Cq p0 k1).readPages 1 1073741824 r69 hr69) (an2 h68 (an3 h70 (an (Ai (Cq p0 k1).writePages 1 1073741824 r71 hr71) (an2 h70 (an5 h72 (an tt (an6 tt (an6 tt tv))))))))))))))))))))) ?_
           exact jD true hm Conv.eqK
          ·replace hm := Bd h72 hm
           obtain ⟨r73,hr73,hm⟩ := bo hm
           rcases bt (!r73) with h74 | h74
           ·replace hm := Bc h74 hm
            refine RD hnt (nn 7 (pF :: nn 13 (pT :: pF :: nn 4 (pF :: nn 4 (pF :: nn 3 (o36 [] true r69 :: .no :: pF :: nn 3 (o36 [] true r71 :: .no :: pF :: nn 3 (o36 [] true r73 :: .no :: pF :: .no :: sk 4 (pT :: .no :: sk 3 (pT :: .no :: sk 3 (pT :: []))))))))))) [4] [(81,pB true)] [1032] [] (an4 h62 (an3 h63 (an6 h64 (an g65.1 (an g65.2 (an3 h64 (an h63 (an h64 (an h63 (an4 h66 (an4 h67 (an3 h68 (an (Ai (Cq p0 k1).readPages 1 1073741824 r69 hr69) (an2 h68 (an3 h70 (an (Ai (Cq p0 k1).writePages 1 1073741824 r71 hr71) (an2 h70 (an3 h72 (an (Ai (Cq p0 k1).readOps 1 1073741824 r73 hr73) (an2 h72 (an5 h74 (an2 tt (an6 tt tv))))))))))))))))))))))) ?_
            exact jD true hm Conv.eqK
           ·replace hm := Bd h74 hm
            obtain ⟨r75,hr75,hm⟩ := bo hm
            rcases bt (!r75) with h76 | h76
            ·replace hm := Bc h76 hm
             refine RD hnt (nn 7 (pF :: nn 13 (pT :: pF :: nn 4 (pF :: nn 4 (pF :: nn 3 (o36 [] true r69 :: .no :: pF :: nn 3 (o36 [] true r71 :: .no :: pF :: nn 3 (o36 [] true r73 :: .no :: pF :: nn 3 (o36 [] true r75 :: .no :: pF :: .no :: sk 3 (pT :: .no :: sk 3 (pT :: []))))))))))) [4] [(81,pB true)] [1032] [] (an4 h62 (an3 h63 (an6 h64 (an g65.1 (an g65.2 (an3 h64 (an h63 (an h64 (an h63 (an4 h66 (an4 h67 (an3 h68 (an (Ai (Cq p0 k1).readPages 1 1073741824 r69 hr69) (an2 h68 (an3 h70 (an (Ai (Cq p0 k1).writePages 1 1073741824 r71 hr71) (an2 h70 (an3 h72 (an (Ai (Cq p0 k1).readOps 1 1073741824 r73 hr73) (an2 h72 (an3 h74 (an (Ai (Cq p0 k1).writeOps 1 1073741824 r75 hr75) (an2 h74 (an4 h76 (an4 tt tv))))))))))))))))))))))))) ?_
             exact jD true hm Conv.eqK
            ·replace hm := Bd h76 hm
             rcases bt (decide ((Cq p0 k1).target < 0)) with h77 | h77
             ·replace hm := Bc h77 hm
              refine RD hnt (nn 7 (pF :: nn 13 (pT :: pF :: nn 4 (pF :: nn 4 (pF :: nn 3 (o36 [] true r69 :: .no :: pF :: nn 3 (o36 [] true r71 :: .no :: pF :: nn 3 (o36 [] true r73 :: .no :: pF :: nn 3 (o36 [] true r75 :: .no :: pF :: nn 4 (pF :: .no :: sk 3 (pT :: []))))))))))) [4] [(81,pB true)] [1032] [] (an4 h62 (an3 h63 (an6 h64 (an g65.1 (an g65.2 (an3 h64 (an h63 (an h64 (an h63 (an4 h66 (an4 h67 (an3 h68 (an (Ai (Cq p0 k1).readPages 1 1073741824 r69 hr69) (an2 h68 (an3 h70 (an (Ai (Cq p0 k1).writePages 1 1073741824 r71 hr71) (an2 h70 (an3 h72 (an (Ai (Cq p0 k1).readOps 1 1073741824 r73 hr73) (an2 h72 (an3 h74 (an (Ai (Cq p0 k1).writeOps 1 1073741824 r75 hr75) (an2 h74 (an4 h76 (an4 h77 tv))))))))))))))))))))))))) ?_
              exact jD true hm Conv.eqK
             ·replace hm := Bd h77 hm
              refine RD hnt (nn 7 (pF :: nn 13 (pT :: pF :: nn 4 (pF :: nn 4 (pF :: nn 3 (o36 [] true r69 :: .no :: pF :: nn 3 (o36 [] true r71 :: .no :: pF :: nn 3 (o36 [] true r73 :: .no :: pF :: nn 3 (o36 [] true r75 :: .no :: pF :: nn 4 (pF :: nn 4 (pF :: []))))))))))) [4] [(81,pB (decide ((Cq p0 k1).target > 1048576)))] [1032] [] (an4 h62 (an3 h63 (an6 h64 (an g65.1 (an g65.2 (an3 h64 (an h63 (an h64 (an h63 (an4 h66 (an4 h67 (an3 h68 (an (Ai (Cq p0 k1).readPages 1 1073741824 r69 hr69) (an2 h68 (an3 h70 (an (Ai (Cq p0 k1).writePages 1 1073741824 r71 hr71) (an2 h70 (an3 h72 (an (Ai (Cq p0 k1).readOps 1 1073741824 r73 hr73) (an2 h72 (an3 h74 (an (Ai (Cq p0 k1).writeOps 1 1073741824 r75 hr75) (an2 h74 (an4 h76 (an4 h77 tv))))))))))))))))))))))))) ?_
              exact jD (decide ((Cq p0 k1).target > 1048576)) hm Conv.eqK
     ·replace hm := Bd h64 hm
      rcases bt (decide ((Cq p0 k1).weight < 1)) with h78 | h78
      ·replace hm := Bc h78 hm
       refine RD hnt (nn 7 (pF :: nn 4 (sk 9 (pF :: pF :: nn 4 (pF :: .no :: sk 3 (pT :: .no :: sk 4 (pT :: .no :: sk 4 (pT :: .no :: sk 4 (pT :: .no :: sk 4 (pT :: .no :: sk 3 (pT :: .no :: sk 3 (pT :: [])))))))))))) [4] [(81,pB true)] [1032] [] (an4 h62 (an3 h63 (an3 h64 (an6 h64 (an h63 (an h64 (an h63 (an4 ff (an4 h78 (an4 tt (an6 tt (an6 tt (an6 tt (an6 tt tv)))))))))))))) ?_
       exact jD true hm Conv.eqK
      ·replace hm := Bd h78 hm
       rcases bt (decide ((Cq p0 k1).weight > 10000)) with h79 | h79
       ·replace hm := Bc h79 hm
        refine RD hnt (nn 7 (pF :: nn 4 (sk 9 (pF :: pF :: nn 4 (pF :: nn 4 (pF :: .no :: sk 4 (pT :: .no :: sk 4 (pT :: .no :: sk 4 (pT :: .no :: sk 4 (pT :: .no :: sk 3 (pT :: .no :: sk 3 (pT :: [])))))))))))) [4] [(81,pB true)] [1032] [] (an4 h62 (an3 h63 (an3 h64 (an6 h64 (an h63 (an h64 (an h63 (an4 ff (an4 h78 (an5 h79 (an5 tt (an6 tt (an6 tt (an6 tt tv)))))))))))))) ?_
        exact jD true hm Conv.eqK
       ·replace hm := Bd h79 hm
        obtain ⟨r80,hr80,hm⟩ := bo hm
        rcases bt (!r80) with h81 | h81
        ·replace hm := Bc h81 hm
         refine RD hnt (nn 7 (pF :: nn 4 (sk 9 (pF :: pF :: nn 4 (pF :: nn 4 (pF :: nn 3 (o36 [] true r80 :: .no :: pF :: .no :: sk 4 (pT :: .no :: sk 4 (pT :: .no :: sk 4 (pT :: .no :: sk 3 (pT :: .no :: sk 3 (pT :: [])))))))))))) [4] [(81,pB true)] [1032] [] (an4 h62 (an3 h63 (an3 h64 (an6 h64 (an h63 (an h64 (an h63 (an4 ff (an4 h78 (an3 h79 (an (Ai (Cq p0 k1).readPages 1 1073741824 r80 hr80) (an2 h79 (an5 h81 (an6 tt (an6 tt (an6 tt tv)))))))))))))))) ?_
         exact jD true hm Conv.eqK
        ·replace hm := Bd h81 hm
         obtain ⟨r82,hr82,hm⟩ := bo hm
         rcases bt (!r82) with h83 | h83
         ·replace hm := Bc h83 hm
          refine RD hnt (nn 7 (pF :: nn 4 (sk 9 (pF :: pF :: nn 4 (pF :: nn 4 (pF :: nn 3 (o36 [] true r80 :: .no :: pF :: nn 3 (o36 [] true r82 :: .no :: pF :: .no :: sk 4 (pT :: .no :: sk 4 (pT :: .no :: sk 3 (pT :: .no :: sk 3 (pT :: [])))))))))))) [4] [(81,pB true)] [1032] [] (an4 h62 (an3 h63 (an3 h64 (an6 h64 (an h63 (an h64 (an h63 (an4 ff (an4 h78 (an3 h79 (an (Ai (Cq p0 k1).readPages 1 1073741824 r80 hr80) (an2 h79 (an3 h81 (an (Ai (Cq p0 k1).writePages 1 1073741824 r82 hr82) (an2 h81 (an5 h83 (an tt (an6 tt (an6 tt tv))))))))))))))))))) ?_
          exact jD true hm Conv.eqK
         ·replace hm := Bd h83 hm
          obtain ⟨r84,hr84,hm⟩ := bo hm
          rcases bt (!r84) with h85 | h85
          ·replace hm := Bc h85 hm
           refine RD hnt (nn 7 (pF :: nn 4 (sk 9 (pF :: pF :: nn 4 (pF :: nn 4 (pF :: nn 3 (o36 [] true r80 :: .no :: pF :: nn 3 (o36 [] true r82 :: .no :: pF :: nn 3 (o36 [] true r84 :: .no :: pF :: .no :: sk 4 (pT :: .no :: sk 3 (pT :: .no :: sk 3 (pT :: [])))))))))))) [4] [(81,pB true)] [1032] [] (an4 h62 (an3 h63 (an3 h64 (an6 h64 (an h63 (an h64 (an h63 (an4 ff (an4 h78 (an3 h79 (an (Ai (Cq p0 k1).readPages 1 1073741824 r80 hr80) (an2 h79 (an3 h81 (an (Ai (Cq p0 k1).writePages 1 1073741824 r82 hr82) (an2 h81 (an3 h83 (an (Ai (Cq p0 k1).readOps 1 1073741824 r84 hr84) (an2 h83 (an5 h85 (an2 tt (an6 tt tv))))))))))))))))))))) ?_
           exact jD true hm Conv.eqK
          ·replace hm := Bd h85 hm
           obtain ⟨r86,hr86,hm⟩ := bo hm
           rcases bt (!r86) with h87 | h87
           ·replace hm := Bc h87 hm
            refine RD hnt (nn 7 (pF :: nn 4 (sk 9 (pF :: pF :: nn 4 (pF :: nn 4 (pF :: nn 3 (o36 [] true r80 :: .no :: pF :: nn 3 (o36 [] true r82 :: .no :: pF :: nn 3 (o36 [] true r84 :: .no :: pF :: nn 3 (o36 [] true r86 :: .no :: pF :: .no :: sk 3 (pT :: .no :: sk 3 (pT :: [])))))))))))) [4] [(81,pB true)] [1032] [] (an4 h62 (an3 h63 (an3 h64 (an6 h64 (an h63 (an h64 (an h63 (an4 ff (an4 h78 (an3 h79 (an (Ai (Cq p0 k1).readPages 1 1073741824 r80 hr80) (an2 h79 (an3 h81 (an (Ai (Cq p0 k1).writePages 1 1073741824 r82 hr82) (an2 h81 (an3 h83 (an (Ai (Cq p0 k1).readOps 1 1073741824 r84 hr84) (an2 h83 (an3 h85 (an (Ai (Cq p0 k1).writeOps 1 1073741824 r86 hr86) (an2 h85 (an4 h87 (an4 tt tv))))))))))))))))))))))) ?_
            exact jD true hm Conv.eqK
           ·replace hm := Bd h87 hm
            rcases bt (decide ((Cq p0 k1).target < 0)) with h88 | h88
            ·replace hm := Bc h88 hm
             refine RD hnt (nn 7 (pF :: nn 4 (sk 9 (pF :: pF :: nn 4 (pF :: nn 4 (pF :: nn 3 (o36 [] true r80 :: .no :: pF :: nn 3 (o36 [] true r82 :: .no :: pF :: nn 3 (o36 [] true r84 :: .no :: pF :: nn 3 (o36 [] true r86 :: .no :: pF :: nn 4 (pF :: .no :: sk 3 (pT :: [])))))))))))) [4] [(81,pB true)] [1032] [] (an4 h62 (an3 h63 (an3 h64 (an6 h64 (an h63 (an h64 (an h63 (an4 ff (an4 h78 (an3 h79 (an (Ai (Cq p0 k1).readPages 1 1073741824 r80 hr80) (an2 h79 (an3 h81 (an (Ai (Cq p0 k1).writePages 1 1073741824 r82 hr82) (an2 h81 (an3 h83 (an (Ai (Cq p0 k1).readOps 1 1073741824 r84 hr84) (an2 h83 (an3 h85 (an (Ai (Cq p0 k1).writeOps 1 1073741824 r86 hr86) (an2 h85 (an4 h87 (an4 h88 tv))))))))))))))))))))))) ?_
             exact jD true hm Conv.eqK
            ·replace hm := Bd h88 hm
             refine RD hnt (nn 7 (pF :: nn 4 (sk 9 (pF :: pF :: nn 4 (pF :: nn 4 (pF :: nn 3 (o36 [] true r80 :: .no :: pF :: nn 3 (o36 [] true r82 :: .no :: pF :: nn 3 (o36 [] true r84 :: .no :: pF :: nn 3 (o36 [] true r86 :: .no :: pF :: nn 4 (pF :: nn 4 (pF :: [])))))))))))) [4] [(81,pB (decide ((Cq p0 k1).target > 1048576)))] [1032] [] (an4 h62 (an3 h63 (an3 h64 (an6 h64 (an h63 (an h64 (an h63 (an4 ff (an4 h78 (an3 h79 (an (Ai (Cq p0 k1).readPages 1 1073741824 r80 hr80) (an2 h79 (an3 h81 (an (Ai (Cq p0 k1).writePages 1 1073741824 r82 hr82) (an2 h81 (an3 h83 (an (Ai (Cq p0 k1).readOps 1 1073741824 r84 hr84) (an2 h83 (an3 h85 (an (Ai (Cq p0 k1).writeOps 1 1073741824 r86 hr86) (an2 h85 (an4 h87 (an4 h88 tv))))))))))))))))))))))) ?_
             exact jD (decide ((Cq p0 k1).target > 1048576)) hm Conv.eqK
 ·intro h61
  have hge1 : ¬ k1 < p0.length := by have := of_decide_eq_false h61; omega
  have hm := he1 hge1
  unfold Ut at hm
  refine DW.exit ?_
  refine Ap ?_
  refine Au ?_
  refine Aj ?_
  show DW _ _ _ _ _
  refine Sq (RK hnt (nn 4 []) [(2,pB (decide (((p0.length : Nat) : Int) ≤ 8)))] [] tv ?_)
  obtain rfl := sj hm
  exact DW.ret (Am [] [] (pB (decide (((p0.length : Nat) : Int) ≤ 8))))
abbrev o37 (ks : List Nat) (b : Bool) (RES : Bool) (sm : List Nat := []) : Orc := .call 140 ks b (pB RES) [] [] sm

theorem Abg (p0 : Ao) (RES : Bool) (hm : Ng p0 = some RES) : Spec Tryz.prog 149 [.p (.agg (Dv p0))] [] (pB RES) [] [] := by
 unfold Ng at hm
 refine SO Tryz.func149 rfl rfl [(0,.p (.agg (Dv p0)))] [] ?_
 intro cx hnt
 refine Sq (RK hnt (nn 2 []) [(1,rr 1008)] [(1008,bx (pm (Dv p0)))] tv ?_)
 refine Sq ?_
 refine Jn (ι := Bool) (fun (y1 : Bool) => Ae [(2,pB y1)] []) (fun y1 => Bm y1 = some RES) ?_ ?_
 ·intro y1 hm
  unfold Bm at hm
  obtain rfl := sj hm
  exact DW.ret (Am [] [] (pB y1))
 ·rcases bt (p0.pidsMax == 4611686018427387904) with h1 | h1
  ·replace hm := Bc h1 hm
   obtain ⟨r21,hr21,hm⟩ := bo hm
   rcases bt r21 with h22 | h22
   ·replace hm := Bc h22 hm
    obtain ⟨r23,hr23,hm⟩ := bo hm
    rcases bt r23 with h24 | h24
    ·replace hm := Bc h24 hm
     obtain ⟨r25,hr25,hm⟩ := bo hm
     rcases bt r25 with h26 | h26
     ·replace hm := Bc h26 hm
      obtain ⟨r27,hr27,hm⟩ := bo hm
      rcases bt r27 with h28 | h28
      ·replace hm := Bc h28 hm
       obtain ⟨r29,hr29,hm⟩ := bo hm
       rcases bt r29 with h30 | h30
       ·replace hm := Bc h30 hm
        obtain ⟨r31,hr31,hm⟩ := bo hm
        rcases bt r31 with h32 | h32
        ·replace hm := Bc h32 hm
         obtain ⟨r33,hr33,hm⟩ := bo hm
         rcases bt r33 with h34 | h34
         ·replace hm := Bc h34 hm
          obtain ⟨r35,hr35,hm⟩ := bo hm
          rcases bt r35 with h36 | h36
          ·replace hm := Bc h36 hm
           obtain ⟨r37,hr37,hm⟩ := bo hm
           refine RK hnt (nn 4 (sk 3 (pT :: nn 3 (o32 [] true r21 :: pT :: nn 2 (o33 [] true r23 :: pT :: nn 3 (o32 [] true r25 :: pT :: nn 3 (o32 [] true r27 :: pT :: nn 3 (o34 [] true r29 :: pT :: nn 3 (o34 [] true r31 :: pT :: nn 3 (o32 [] true r33 :: pT :: nn 3 (o35 [] true r35 :: pT :: nn 3 (o37 [] true r37 :: pT :: .no :: [])))))))))))) [(2,pB r37)] [] (an4 h1 (an3 tt (an (Aa p0.weight 1 10000 r21 hr21) (an tt (an2 h22 (an (Bh p0 r23 hr23) (an h22 (an3 h24 (an (Aa p0.clampMin 0 10000 r25 hr25) (an h24 (an3 h26 (an (Aa p0.clampMax 0 10000 r27 hr27) (an h26 (an3 h28 (an (Cf p0.cpus 16 r29 hr29) (an h28 (an3 h30 (an (Cf p0.mems 8 r31 hr31) (an h30 (an3 h32 (an (Aa p0.partition 0 1 r33 hr33) (an h32 (an3 h34 (an (Li p0.memory r35 hr35) (an h34 (an3 h36 (an (To p0.devices r37 hr37) (an h36 tv)))))))))))))))))))))))))))) ?_
           exact jD r37 hm .refl
          ·replace hm := Bd h36 hm
           refine RK hnt (nn 4 (sk 3 (pT :: nn 3 (o32 [] true r21 :: pT :: nn 2 (o33 [] true r23 :: pT :: nn 3 (o32 [] true r25 :: pT :: nn 3 (o32 [] true r27 :: pT :: nn 3 (o34 [] true r29 :: pT :: nn 3 (o34 [] true r31 :: pT :: nn 3 (o32 [] true r33 :: pT :: nn 3 (o35 [] true r35 :: pT :: .no :: sk 3 (pF :: .no :: [])))))))))))) [(2,pB false)] [] (an4 h1 (an3 tt (an (Aa p0.weight 1 10000 r21 hr21) (an tt (an2 h22 (an (Bh p0 r23 hr23) (an h22 (an3 h24 (an (Aa p0.clampMin 0 10000 r25 hr25) (an h24 (an3 h26 (an (Aa p0.clampMax 0 10000 r27 hr27) (an h26 (an3 h28 (an (Cf p0.cpus 16 r29 hr29) (an h28 (an3 h30 (an (Cf p0.mems 8 r31 hr31) (an h30 (an3 h32 (an (Aa p0.partition 0 1 r33 hr33) (an h32 (an3 h34 (an (Li p0.memory r35 hr35) (an h34 (an4 h36 tv)))))))))))))))))))))))))) ?_
           exact jD false hm .refl
         ·replace hm := Bd h34 hm
          refine RK hnt (nn 4 (sk 3 (pT :: nn 3 (o32 [] true r21 :: pT :: nn 2 (o33 [] true r23 :: pT :: nn 3 (o32 [] true r25 :: pT :: nn 3 (o32 [] true r27 :: pT :: nn 3 (o34 [] true r29 :: pT :: nn 3 (o34 [] true r31 :: pT :: nn 3 (o32 [] true r33 :: pT :: .no :: sk 3 (pF :: .no :: sk 3 (pF :: .no :: [])))))))))))) [(2,pB false)] [] (an4 h1 (an3 tt (an (Aa p0.weight 1 10000 r21 hr21) (an tt (an2 h22 (an (Bh p0 r23 hr23) (an h22 (an3 h24 (an (Aa p0.clampMin 0 10000 r25 hr25) (an h24 (an3 h26 (an (Aa p0.clampMax 0 10000 r27 hr27) (an h26 (an3 h28 (an (Cf p0.cpus 16 r29 hr29) (an h28 (an3 h30 (an (Cf p0.mems 8 r31 hr31) (an h30 (an3 h32 (an (Aa p0.partition 0 1 r33 hr33) (an h32 (an4 h34 (an4 ff tv)))))))))))))))))))))))) ?_
          exact jD false hm .refl
        ·replace hm := Bd h32 hm
         refine RK hnt (nn 4 (sk 3 (pT :: nn 3 (o32 [] true r21 :: pT :: nn 2 (o33 [] true r23 :: pT :: nn 3 (o32 [] true r25 :: pT :: nn 3 (o32 [] true r27 :: pT :: nn 3 (o34 [] true r29 :: pT :: nn 3 (o34 [] true r31 :: pT :: .no :: sk 3 (pF :: .no :: sk 3 (pF :: .no :: sk 3 (pF :: .no :: [])))))))))))) [(2,pB false)] [] (an4 h1 (an3 tt (an (Aa p0.weight 1 10000 r21 hr21) (an tt (an2 h22 (an (Bh p0 r23 hr23) (an h22 (an3 h24 (an (Aa p0.clampMin 0 10000 r25 hr25) (an h24 (an3 h26 (an (Aa p0.clampMax 0 10000 r27 hr27) (an h26 (an3 h28 (an (Cf p0.cpus 16 r29 hr29) (an h28 (an3 h30 (an (Cf p0.mems 8 r31 hr31) (an h30 (an4 h32 (an2 ff (an6 ff tv)))))))))))))))))))))) ?_
         exact jD false hm .refl
       ·replace hm := Bd h30 hm
        refine RK hnt (nn 4 (sk 3 (pT :: nn 3 (o32 [] true r21 :: pT :: nn 2 (o33 [] true r23 :: pT :: nn 3 (o32 [] true r25 :: pT :: nn 3 (o32 [] true r27 :: pT :: nn 3 (o34 [] true r29 :: pT :: .no :: sk 3 (pF :: .no :: sk 3 (pF :: .no :: sk 3 (pF :: .no :: sk 3 (pF :: .no :: [])))))))))))) [(2,pB false)] [] (an4 h1 (an3 tt (an (Aa p0.weight 1 10000 r21 hr21) (an tt (an2 h22 (an (Bh p0 r23 hr23) (an h22 (an3 h24 (an (Aa p0.clampMin 0 10000 r25 hr25) (an h24 (an3 h26 (an (Aa p0.clampMax 0 10000 r27 hr27) (an h26 (an3 h28 (an (Cf p0.cpus 16 r29 hr29) (an h28 (an4 h30 (an6 ff (an6 ff tv))))))))))))))))))) ?_
        exact jD false hm .refl
      ·replace hm := Bd h28 hm
       refine RK hnt (nn 4 (sk 3 (pT :: nn 3 (o32 [] true r21 :: pT :: nn 2 (o33 [] true r23 :: pT :: nn 3 (o32 [] true r25 :: pT :: nn 3 (o32 [] true r27 :: pT :: .no :: sk 3 (pF :: .no :: sk 3 (pF :: .no :: sk 3 (pF :: .no :: sk 3 (pF :: .no :: sk 3 (pF :: .no :: [])))))))))))) [(2,pB false)] [] (an4 h1 (an3 tt (an (Aa p0.weight 1 10000 r21 hr21) (an tt (an2 h22 (an (Bh p0 r23 hr23) (an h22 (an3 h24 (an (Aa p0.clampMin 0 10000 r25 hr25) (an h24 (an3 h26 (an (Aa p0.clampMax 0 10000 r27 hr27) (an h26 (an4 h28 (an4 ff (an6 ff (an6 ff tv))))))))))))))))) ?_
       exact jD false hm .refl
     ·replace hm := Bd h26 hm
      refine RK hnt (nn 4 (sk 3 (pT :: nn 3 (o32 [] true r21 :: pT :: nn 2 (o33 [] true r23 :: pT :: nn 3 (o32 [] true r25 :: pT :: .no :: sk 3 (pF :: .no :: sk 3 (pF :: .no :: sk 3 (pF :: .no :: sk 3 (pF :: .no :: sk 3 (pF :: .no :: sk 3 (pF :: .no :: [])))))))))))) [(2,pB false)] [] (an4 h1 (an3 tt (an (Aa p0.weight 1 10000 r21 hr21) (an tt (an2 h22 (an (Bh p0 r23 hr23) (an h22 (an3 h24 (an (Aa p0.clampMin 0 10000 r25 hr25) (an h24 (an4 h26 (an2 ff (an6 ff (an6 ff (an6 ff tv))))))))))))))) ?_
      exact jD false hm .refl
    ·replace hm := Bd h24 hm
     refine RK hnt (nn 4 (sk 3 (pT :: nn 3 (o32 [] true r21 :: pT :: nn 2 (o33 [] true r23 :: pT :: .no :: sk 3 (pF :: .no :: sk 3 (pF :: .no :: sk 3 (pF :: .no :: sk 3 (pF :: .no :: sk 3 (pF :: .no :: sk 3 (pF :: .no :: sk 3 (pF :: .no :: [])))))))))))) [(2,pB false)] [] (an4 h1 (an3 tt (an (Aa p0.weight 1 10000 r21 hr21) (an tt (an2 h22 (an (Bh p0 r23 hr23) (an h22 (an4 h24 (an6 ff (an6 ff (an6 ff (an6 ff tv)))))))))))) ?_
     exact jD false hm .refl
   ·replace hm := Bd h22 hm
    refine RK hnt (nn 4 (sk 3 (pT :: nn 3 (o32 [] true r21 :: pT :: .no :: sk 2 (pF :: .no :: sk 3 (pF :: .no :: sk 3 (pF :: .no :: sk 3 (pF :: .no :: sk 3 (pF :: .no :: sk 3 (pF :: .no :: sk 3 (pF :: .no :: sk 3 (pF :: .no :: [])))))))))))) [(2,pB false)] [] (an4 h1 (an3 tt (an (Aa p0.weight 1 10000 r21 hr21) (an tt (an3 h22 (an4 ff (an6 ff (an6 ff (an6 ff (an6 ff tv)))))))))) ?_
    exact jD false hm .refl
  ·replace hm := Bd h1 hm
   obtain ⟨r2,hr2,hm⟩ := bo hm
   rcases bt r2 with h3 | h3
   ·replace hm := Bc h3 hm
    obtain ⟨r4,hr4,hm⟩ := bo hm
    rcases bt r4 with h5 | h5
    ·replace hm := Bc h5 hm
     obtain ⟨r6,hr6,hm⟩ := bo hm
     rcases bt r6 with h7 | h7
     ·replace hm := Bc h7 hm
      obtain ⟨r8,hr8,hm⟩ := bo hm
      rcases bt r8 with h9 | h9
      ·replace hm := Bc h9 hm
       obtain ⟨r10,hr10,hm⟩ := bo hm
       rcases bt r10 with h11 | h11
       ·replace hm := Bc h11 hm
        obtain ⟨r12,hr12,hm⟩ := bo hm
        rcases bt r12 with h13 | h13
        ·replace hm := Bc h13 hm
         obtain ⟨r14,hr14,hm⟩ := bo hm
         rcases bt r14 with h15 | h15
         ·replace hm := Bc h15 hm
          obtain ⟨r16,hr16,hm⟩ := bo hm
          rcases bt r16 with h17 | h17
          ·replace hm := Bc h17 hm
           obtain ⟨r18,hr18,hm⟩ := bo hm
           rcases bt r18 with h19 | h19
           ·replace hm := Bc h19 hm
            obtain ⟨r20,hr20,hm⟩ := bo hm
            refine RK hnt (nn 6 (o32 [] true r2 :: pF :: nn 3 (o32 [] true r4 :: pT :: nn 2 (o33 [] true r6 :: pT :: nn 3 (o32 [] true r8 :: pT :: nn 3 (o32 [] true r10 :: pT :: nn 3 (o34 [] true r12 :: pT :: nn 3 (o34 [] true r14 :: pT :: nn 3 (o32 [] true r16 :: pT :: nn 3 (o35 [] true r18 :: pT :: nn 3 (o37 [] true r20 :: pT :: .no :: []))))))))))) [(2,pB r20)] [] (an3 h1 (an (Aa p0.pidsMax 0 1099511627776 r2 hr2) (an h1 (an3 h3 (an (Aa p0.weight 1 10000 r4 hr4) (an h3 (an2 h5 (an (Bh p0 r6 hr6) (an h5 (an3 h7 (an (Aa p0.clampMin 0 10000 r8 hr8) (an h7 (an3 h9 (an (Aa p0.clampMax 0 10000 r10 hr10) (an h9 (an3 h11 (an (Cf p0.cpus 16 r12 hr12) (an h11 (an3 h13 (an (Cf p0.mems 8 r14 hr14) (an h13 (an3 h15 (an (Aa p0.partition 0 1 r16 hr16) (an h15 (an3 h17 (an (Li p0.memory r18 hr18) (an h17 (an3 h19 (an (To p0.devices r20 hr20) (an h19 tv)))))))))))))))))))))))))))))) ?_
            exact jD r20 hm .refl
           ·replace hm := Bd h19 hm
            refine RK hnt (nn 6 (o32 [] true r2 :: pF :: nn 3 (o32 [] true r4 :: pT :: nn 2 (o33 [] true r6 :: pT :: nn 3 (o32 [] true r8 :: pT :: nn 3 (o32 [] true r10 :: pT :: nn 3 (o34 [] true r12 :: pT :: nn 3 (o34 [] true r14 :: pT :: nn 3 (o32 [] true r16 :: pT :: nn 3 (o35 [] true r18 :: pT :: .no :: sk 3 (pF :: .no :: []))))))))))) [(2,pB false)] [] (an3 h1 (an (Aa p0.pidsMax 0 1099511627776 r2 hr2) (an h1 (an3 h3 (an (Aa p0.weight 1 10000 r4 hr4) (an h3 (an2 h5 (an (Bh p0 r6 hr6) (an h5 (an3 h7 (an (Aa p0.clampMin 0 10000 r8 hr8) (an h7 (an3 h9 (an (Aa p0.clampMax 0 10000 r10 hr10) (an h9 (an3 h11 (an (Cf p0.cpus 16 r12 hr12) (an h11 (an3 h13 (an (Cf p0.mems 8 r14 hr14) (an h13 (an3 h15 (an (Aa p0.partition 0 1 r16 hr16) (an h15 (an3 h17 (an (Li p0.memory r18 hr18) (an h17 (an4 h19 tv)))))))))))))))))))))))))))) ?_
            exact jD false hm .refl
          ·replace hm := Bd h17 hm
           refine RK hnt (nn 6 (o32 [] true r2 :: pF :: nn 3 (o32 [] true r4 :: pT :: nn 2 (o33 [] true r6 :: pT :: nn 3 (o32 [] true r8 :: pT :: nn 3 (o32 [] true r10 :: pT :: nn 3 (o34 [] true r12 :: pT :: nn 3 (o34 [] true r14 :: pT :: nn 3 (o32 [] true r16 :: pT :: .no :: sk 3 (pF :: .no :: sk 3 (pF :: .no :: []))))))))))) [(2,pB false)] [] (an3 h1 (an (Aa p0.pidsMax 0 1099511627776 r2 hr2) (an h1 (an3 h3 (an (Aa p0.weight 1 10000 r4 hr4) (an h3 (an2 h5 (an (Bh p0 r6 hr6) (an h5 (an3 h7 (an (Aa p0.clampMin 0 10000 r8 hr8) (an h7 (an3 h9 (an (Aa p0.clampMax 0 10000 r10 hr10) (an h9 (an3 h11 (an (Cf p0.cpus 16 r12 hr12) (an h11 (an3 h13 (an (Cf p0.mems 8 r14 hr14) (an h13 (an3 h15 (an (Aa p0.partition 0 1 r16 hr16) (an h15 (an4 h17 (an4 ff tv)))))))))))))))))))))))))) ?_
           exact jD false hm .refl
         ·replace hm := Bd h15 hm
          refine RK hnt (nn 6 (o32 [] true r2 :: pF :: nn 3 (o32 [] true r4 :: pT :: nn 2 (o33 [] true r6 :: pT :: nn 3 (o32 [] true r8 :: pT :: nn 3 (o32 [] true r10 :: pT :: nn 3 (o34 [] true r12 :: pT :: nn 3 (o34 [] true r14 :: pT :: .no :: sk 3 (pF :: .no :: sk 3 (pF :: .no :: sk 3 (pF :: .no :: []))))))))))) [(2,pB false)] [] (an3 h1 (an (Aa p0.pidsMax 0 1099511627776 r2 hr2) (an h1 (an3 h3 (an (Aa p0.weight 1 10000 r4 hr4) (an h3 (an2 h5 (an (Bh p0 r6 hr6) (an h5 (an3 h7 (an (Aa p0.clampMin 0 10000 r8 hr8) (an h7 (an3 h9 (an (Aa p0.clampMax 0 10000 r10 hr10) (an h9 (an3 h11 (an (Cf p0.cpus 16 r12 hr12) (an h11 (an3 h13 (an (Cf p0.mems 8 r14 hr14) (an h13 (an4 h15 (an2 ff (an6 ff tv)))))))))))))))))))))))) ?_
          exact jD false hm .refl
        ·replace hm := Bd h13 hm
         refine RK hnt (nn 6 (o32 [] true r2 :: pF :: nn 3 (o32 [] true r4 :: pT :: nn 2 (o33 [] true r6 :: pT :: nn 3 (o32 [] true r8 :: pT :: nn 3 (o32 [] true r10 :: pT :: nn 3 (o34 [] true r12 :: pT :: .no :: sk 3 (pF :: .no :: sk 3 (pF :: .no :: sk 3 (pF :: .no :: sk 3 (pF :: .no :: []))))))))))) [(2,pB false)] [] (an3 h1 (an (Aa p0.pidsMax 0 1099511627776 r2 hr2) (an h1 (an3 h3 (an (Aa p0.weight 1 10000 r4 hr4) (an h3 (an2 h5 (an (Bh p0 r6 hr6) (an h5 (an3 h7 (an (Aa p0.clampMin 0 10000 r8 hr8) (an h7 (an3 h9 (an (Aa p0.clampMax 0 10000 r10 hr10) (an h9 (an3 h11 (an (Cf p0.cpus 16 r12 hr12) (an h11 (an4 h13 (an6 ff (an6 ff tv))))))))))))))))))))) ?_
         exact jD false hm .refl
       ·replace hm := Bd h11 hm
        refine RK hnt (nn 6 (o32 [] true r2 :: pF :: nn 3 (o32 [] true r4 :: pT :: nn 2 (o33 [] true r6 :: pT :: nn 3 (o32 [] true r8 :: pT :: nn 3 (o32 [] true r10 :: pT :: .no :: sk 3 (pF :: .no :: sk 3 (pF :: .no :: sk 3 (pF :: .no :: sk 3 (pF :: .no :: sk 3 (pF :: .no :: []))))))))))) [(2,pB false)] [] (an3 h1 (an (Aa p0.pidsMax 0 1099511627776 r2 hr2) (an h1 (an3 h3 (an (Aa p0.weight 1 10000 r4 hr4) (an h3 (an2 h5 (an (Bh p0 r6 hr6) (an h5 (an3 h7 (an (Aa p0.clampMin 0 10000 r8 hr8) (an h7 (an3 h9 (an (Aa p0.clampMax 0 10000 r10 hr10) (an h9 (an4 h11 (an4 ff (an6 ff (an6 ff tv))))))))))))))))))) ?_
        exact jD false hm .refl
      ·replace hm := Bd h9 hm
       refine RK hnt (nn 6 (o32 [] true r2 :: pF :: nn 3 (o32 [] true r4 :: pT :: nn 2 (o33 [] true r6 :: pT :: nn 3 (o32 [] true r8 :: pT :: .no :: sk 3 (pF :: .no :: sk 3 (pF :: .no :: sk 3 (pF :: .no :: sk 3 (pF :: .no :: sk 3 (pF :: .no :: sk 3 (pF :: .no :: []))))))))))) [(2,pB false)] [] (an3 h1 (an (Aa p0.pidsMax 0 1099511627776 r2 hr2) (an h1 (an3 h3 (an (Aa p0.weight 1 10000 r4 hr4) (an h3 (an2 h5 (an (Bh p0 r6 hr6) (an h5 (an3 h7 (an (Aa p0.clampMin 0 10000 r8 hr8) (an h7 (an4 h9 (an2 ff (an6 ff (an6 ff (an6 ff tv))))))))))))))))) ?_
       exact jD false hm .refl
     ·replace hm := Bd h7 hm
      refine RK hnt (nn 6 (o32 [] true r2 :: pF :: nn 3 (o32 [] true r4 :: pT :: nn 2 (o33 [] true r6 :: pT :: .no :: sk 3 (pF :: .no :: sk 3 (pF :: .no :: sk 3 (pF :: .no :: sk 3 (pF :: .no :: sk 3 (pF :: .no :: sk 3 (pF :: .no :: sk 3 (pF :: .no :: []))))))))))) [(2,pB false)] [] (an3 h1 (an (Aa p0.pidsMax 0 1099511627776 r2 hr2) (an h1 (an3 h3 (an (Aa p0.weight 1 10000 r4 hr4) (an h3 (an2 h5 (an (Bh p0 r6 hr6) (an h5 (an4 h7 (an6 ff (an6 ff (an6 ff (an6 ff tv)))))))))))))) ?_
      exact jD false hm .refl
    ·replace hm := Bd h5 hm
     refine RK hnt (nn 6 (o32 [] true r2 :: pF :: nn 3 (o32 [] true r4 :: pT :: .no :: sk 2 (pF :: .no :: sk 3 (pF :: .no :: sk 3 (pF :: .no :: sk 3 (pF :: .no :: sk 3 (pF :: .no :: sk 3 (pF :: .no :: sk 3 (pF :: .no :: sk 3 (pF :: .no :: []))))))))))) [(2,pB false)] [] (an3 h1 (an (Aa p0.pidsMax 0 1099511627776 r2 hr2) (an h1 (an3 h3 (an (Aa p0.weight 1 10000 r4 hr4) (an h3 (an3 h5 (an4 ff (an6 ff (an6 ff (an6 ff (an6 ff tv)))))))))))) ?_
     exact jD false hm .refl
   ·replace hm := Bd h3 hm
    refine RK hnt (nn 6 (o32 [] true r2 :: pF :: .no :: sk 3 (pF :: .no :: sk 2 (pF :: .no :: sk 3 (pF :: .no :: sk 3 (pF :: .no :: sk 3 (pF :: .no :: sk 3 (pF :: .no :: sk 3 (pF :: .no :: sk 3 (pF :: .no :: sk 3 (pF :: .no :: []))))))))))) [(2,pB false)] [] (an3 h1 (an (Aa p0.pidsMax 0 1099511627776 r2 hr2) (an h1 (an4 h3 (an ff (an6 ff (an6 ff (an6 ff (an6 ff (an6 ff tv)))))))))) ?_
    exact jD false hm .refl
abbrev o31 (ks : List Nat) (b : Bool) (RES : Bool) (sm : List Nat := []) : Orc := .call 149 ks b (pB RES) [] [] sm

theorem Ql (p0 : Ab) (p1 : List Ac) (RES : Bool) (hm : Oc p0 p1 = some RES) : Spec Tryz.prog 102 [.p (.agg (Ak p0)),.p (Ax p1)] [] (pB RES) [] [] := by
 unfold Oc at hm
 refine SO Tryz.func102 rfl rfl [(0,.p (.agg (Ak p0))),(1,.p (Ax p1))] [] ?_
 intro cx hnt
 refine Sq (RD hnt (nn 2 []) [0] [(2,rr 1016)] [] [(1016,bx (pm (Ak p0)))] tv ?_)
 obtain ⟨r1,hr1,hm⟩ := bo hm
 refine Sq (Sq ?_)
 refine Jn (ι := Bool) (fun (y1 : Bool) => Ae [(1,.p (Ax p1)),(2,rr 1016),(17,pB y1)] [(1016,bx (pm (Ak p0)))]) (fun y1 => (Jx p0 p1) y1 = some RES) ?_ ?_
 ·intro y1 hm
  unfold Jx at hm
  refine Aq hm ?_ ?_
  ·intro h3 hm
   refine Sq (RK hnt (.no :: []) [(4,pB false)] [] tv ?_)
   obtain rfl := sj hm
   exact DW.ret (Am [] [] (pB false))
  ·intro h3 hm
   refine Sk ?_
   refine Sq (Sq (RK hnt (nn 4 []) [(1,.p (Ax p1)),(19,.p (Dd p0.nodes)),(20,pI ((p0.nodes.length : Nat) : Int)),(21,pI 0)] [] tv ?_))
   refine Bk ?_
   obtain ⟨hc1,hm⟩ := go1 hm
   refine DW.rangeO (fun (k1 : Nat) (s1 : Unit) => Ae [(1,.p (Ax p1)),(19,.p (Dd p0.nodes)),(20,pI ((p0.nodes.length : Nat) : Int)),(21,pI ((k1 : Nat) : Int))] []) Dk hm .refl ?_
   intro k1 s1 n1 hk1 hs1 he1
   refine Sq (RD hnt (.no :: []) [] [(22,pB (decide (((k1 : Nat) : Int) < ((p0.nodes.length : Nat) : Int))))] [] [] tv ?_)
   refine Sq (Ej (decide (((k1 : Nat) : Int) < ((p0.nodes.length : Nat) : Int))) ?_ ?_)
   ·intro h18
    have hlt1 : k1 < p0.nodes.length := by have := of_decide_eq_true h18; omega
    have hm := hs1 hlt1
    unfold Tn at hm
    refine Sk ?_
    refine Sq (Bk ?_)
    refine Sq (RD hnt (nn 6 []) [22] [(5,pI ((k1 : Nat) : Int)),(6,rr 1048)] [] [(1048,bx (pm (Ca (p0.nodes.getD k1 (default : Ah)))))] (an (nn0 k1) (an (ltc hlt1) tv)) ?_)
    obtain ⟨g19,hm⟩ := go1 hm
    refine Sq ?_
    refine Jn (ι := Bool) (fun (y4 : Bool) => Ae [(1,.p (Ax p1)),(19,.p (Dd p0.nodes)),(20,pI ((p0.nodes.length : Nat) : Int)),(21,pI ((k1 : Nat) : Int)),(42,pB y4)] []) (fun y4 => (Lv n1) y4 = some RES) ?_ ?_
    ·intro y4 hm
     unfold Lv at hm
     refine Aq hm ?_ ?_
     ·intro h23 hm
      refine Sq (RK hnt (.no :: []) [(4,pB false)] [] tv ?_)
      obtain rfl := sj hm
      exact DW.ret (Am [] [] (pB false))
     ·intro h23 hm
      refine Sk ?_
      refine DW.done ?_
      show DW _ _ _ _ _
      refine RD hnt (nn 2 []) [42] [(21,pI (w64 (((k1 : Nat) : Int) + 1)))] [] [] tv ?_
      exact jD () ⟨hlt1,hm⟩ (Conv.tp [(21,pI (w64 (((k1 : Nat) : Int) + 1)))] [] (by kernel_rfl) (.cons rfl (.of_eq (congrArg pI (Da hlt1 hc1))) .nil) .nil)
    ·rcases bt ((p1.getD k1 Be).group != (p0.nodes.getD k1 (default : Ah)).id) with h20 | h20
     ·replace hm := Bc h20 hm
      refine RD hnt (nn 9 (sk 7 (pT :: []))) [5,6] [(42,pB true)] [1048] [] (an (nn0 k1) (an (ltc g19) (an2 h20 (an6 h20 tv)))) ?_
      exact jD true hm Conv.eqK
     ·replace hm := Bd h20 hm
      obtain ⟨g21,hm⟩ := go1 hm
      obtain ⟨r22,hr22,hm⟩ := bo hm
      refine RD hnt (nn 14 (o31 [] true r22 :: .no :: pF :: [])) [5,6] [(42,pB (!r22))] [1048] [] (an (nn0 k1) (an (ltc g19) (an3 h20 (an (nn0 k1) (an (ltc g21) (an3 h20 (an (Abg (p1.getD k1 Be).settings r22 hr22) (an2 h20 tv)))))))) ?_
      exact jD (!r22) hm Conv.eqK
   ·intro h18
    have hge1 : ¬ k1 < p0.nodes.length := by have := of_decide_eq_false h18; omega
    have hm := he1 hge1
    unfold Xx at hm
    refine DW.exit ?_
    refine Ap ?_
    refine Au ?_
    refine Aj ?_
    show DW _ _ _ _ _
    refine Sq (RK hnt (.no :: []) [(4,pB true)] [] tv ?_)
    obtain rfl := sj hm
    exact DW.ret (Am [] [] (pB true))
 ·rcases bt (!r1) with h2 | h2
  ·replace hm := Bc h2 hm
   refine RD hnt (.no :: o26 [] true r1 :: nn 2 (sk 6 (pT :: []))) [] [(17,pB true)] [] [] (an (Zo p0 r1 hr1) (an h2 (an6 h2 tv))) ?_
   exact jD true hm Conv.eqK
  ·replace hm := Bd h2 hm
   refine RD hnt (.no :: o26 [] true r1 :: nn 8 (pF :: [])) [] [(17,pB (((p1.length : Nat) : Int) != ((p0.nodes.length : Nat) : Int)))] [] [] (an (Zo p0 r1 hr1) (an h2 (an6 h2 tv))) ?_
   exact jD (((p1.length : Nat) : Int) != ((p0.nodes.length : Nat) : Int)) hm Conv.eqK
abbrev o25 (ks : List Nat) (b : Bool) (RES : Bool) (sm : List Nat := []) : Orc := .call 102 ks b (pB RES) [] [] sm

theorem Vk (p0 : Ab) (p1 : List Ac) (p2 : List Int) (p3 : Int) (RES : Bool) (hm : Ke p0 p1 p2 p3 = some RES) : Spec Tryz.prog 50 [.p (.agg (Ak p0)),.p (Ax p1),.p (slI p2),pI p3] [] (pB RES) [] [] := by
 unfold Ke at hm
 refine SO Tryz.func50 rfl rfl [(0,.p (.agg (Ak p0))),(1,.p (Ax p1)),(2,.p (slI p2)),(3,pI p3)] [] ?_
 intro cx hnt
 refine Sq (RD hnt (nn 2 []) [0] [(4,rr 1032)] [] [(1032,bx (pm (Ak p0)))] tv ?_)
 obtain ⟨r1,hr1,hm⟩ := bo hm
 refine Sq ?_
 refine Jn (ι := Bool) (fun (y1 : Bool) => Ae [(8,pB y1)] []) (fun y1 => Ka y1 = some RES) ?_ ?_
 ·intro y1 hm
  unfold Ka at hm
  obtain rfl := sj hm
  exact DW.ret (Am [] [] (pB y1))
 ·rcases bt r1 with h2 | h2
  ·replace hm := Bc h2 hm
   rcases bt (decide (((p2.length : Nat) : Int) > 0)) with h3 | h3
   ·replace hm := Bc h3 hm
    obtain ⟨r4,hr4,hm⟩ := bo hm
    refine RK hnt (nn 2 (o25 [] true r1 :: nn 4 (pT :: nn 3 (o34 [] true r4 :: pT :: .no :: [])))) [(8,pB r4)] [] (an (Ql p0 p1 r1 hr1) (an4 h2 (an3 h3 (an (Cf p2 p3 r4 hr4) (an h3 tv))))) ?_
    exact jD r4 hm .refl
   ·replace hm := Bd h3 hm
    refine RK hnt (nn 2 (o25 [] true r1 :: nn 4 (pT :: .no :: sk 3 (pF :: .no :: [])))) [(8,pB false)] [] (an (Ql p0 p1 r1 hr1) (an4 h2 (an4 h3 tv))) ?_
    exact jD false hm .refl
  ·replace hm := Bd h2 hm
   refine RK hnt (nn 2 (o25 [] true r1 :: .no :: sk 3 (pF :: .no :: sk 3 (pF :: .no :: [])))) [(8,pB false)] [] (an (Ql p0 p1 r1 hr1) (an4 h2 (an4 ff tv))) ?_
   exact jD false hm .refl
abbrev o24 (ks : List Nat) (b : Bool) (RES : Bool) (sm : List Nat := []) : Orc := .call 50 ks b (pB RES) [] [] sm

theorem Zf (p0 : List Int) (RES : List Int) (hm : Dx p0 = some RES) : Spec Tryz.prog 53 [.p (.sl .nn 1 p0.length (elems Az 0 p0))] [] (ow 0 RES.length) [] [roI RES] := by
 unfold Dx at hm
 refine SO Tryz.func53 rfl rfl [(0,.p (.sl .nn 1 p0.length (elems Az 0 p0)))] [] ?_
 intro cx hnt
 refine Sq (RD hnt (.no :: []) [] [] [] [] tv ?_)
 refine Sq (Sq (RD hnt (nn 2 []) [] [(4,pB false)] [] [] tv ?_))
 refine condF ff ?_
 refine Sk ?_
 obtain ⟨g1,hm⟩ := go1 hm
 refine Sq (RN hnt (nn 4 []) [(2,ow 1040 p0.length)] [(1040,ob0 (roI p0))] [(2,ow 1040 (0 + p0.length))] [(1040,.row 1 (0 + p0.length) (Em 0 (cut 1 []) (elI p0)))] (an (by omega : (0 + p0.length) * 8 ≤ 140737488355328) tv) (by kernel_rfl) (.cons rfl (MLe.ownLen (enc := Az) (d := 0) (f := (Em 0 (cut 1 []) (elI p0))) (RowIs.cat RowIs.nil RowIs.elems)) .nil) (.cons rfl (BLe.typed (RowIs.cat RowIs.nil RowIs.elems)) .nil) ?_)
 obtain rfl := sj hm
 exact DW.ret (Am [roI p0] [1040] (ow 0 p0.length))

theorem Xq (p0 : List Int) (RES : List Int) (hm : Oq p0 = some RES) : Spec Tryz.prog 53 [.p (.sl .nil 1 0 (elems Az 0 p0))] [] (ow 0 RES.length) [] [roI RES] := by
 unfold Oq at hm
 refine SO Tryz.func53 rfl rfl [(0,.p (.sl .nil 1 0 (elems Az 0 p0)))] [] ?_
 intro cx hnt
 refine Sq (RD hnt (.no :: []) [] [] [] [] tv ?_)
 refine Sq (Sq (RD hnt (nn 2 []) [] [(4,pB true)] [] [] tv ?_))
 refine condT tt ?_
 refine Sq (RK hnt (.no :: []) [(2,.p (.sl .nil 0 0 (fun _ => [])))] [] tv ?_)
 refine DW.cv [] [(2,ow 100000 0)] [] [(100000,ob0 (roI []))] (Conv.ads [(.s 2,100000,1,elems Az 0 [])]) ?_
 obtain rfl := sj hm
 exact DW.ret (Am [roI []] [100000] (ow 0 0))

theorem Hi (p0 : List Int) (RES : List Int) (hm : Dx p0 = some RES) : Spec Tryz.prog 53 [.p (slI p0)] [] (ow 0 RES.length) [] [roI RES] :=
  Spec.unk (fun h => Xq p0 RES (by have e : p0 = [] := List.eq_nil_of_length_eq_zero h; subst e; simpa [Dx,Oq] using hm)) (Zf p0 RES hm)
abbrev o39 (ks : List Nat) (b : Bool) (RES : List Int) (sm : List Nat := []) : Orc := .call 53 ks b (ow 0 RES.length) [] [roI RES] sm

abbrev Su (p0 : Ab) (k1 : Nat) := (p0.nodes.getD k1 (default : Ah))
abbrev c41e2 (p0 : Ab) : Nat × MV := (10,pI ((p0.nodes.length : Nat) : Int))
theorem AaP (p0 : Ab) (p1 : Int) (RES : List Int) (hm : Lp p0 p1 = some RES) : Spec Tryz.prog 150 [.p (.agg (Ak p0)),pI p1] [] (ow 0 RES.length) [] [roI RES] := by
 unfold Lp at hm
 refine SO Tryz.func150 rfl rfl [(0,.p (.agg (Ak p0))),(1,pI p1)] [] ?_
 intro cx hnt
 refine Sq (RK hnt (nn 2 []) [(1,pI p1),(2,rr 1016)] [(1016,bx (pm (Ak p0)))] tv ?_)
 refine Sq (RD hnt (.no :: []) [] [(5,.p (.sl .nil 0 0 (fun _ => [])))] [] [] tv ?_)
 refine Sq (Sq (RD hnt (nn 4 []) [2] [(9,.p (Dd p0.nodes)),(c41e2 p0),(11,pI 0)] [1016] [] tv ?_))
 refine Bk ?_
 obtain ⟨hc1,hm⟩ := go1 hm
 refine DW.rangeO (fun (k1 : Nat) (s1 : List Int) => Ae [(1,pI p1),(5,ow 1184 s1.length),(9,.p (Dd p0.nodes)),(c41e2 p0),(11,pI ((k1 : Nat) : Int))] [(1184,ob0 (roI s1))]) Dk hm (Conv.ads [(.s 5,1184,1,elems Az 0 [])]) ?_
 intro k1 s1 n1 hk1 hs1 he1
 refine Sq (RD hnt (.no :: []) [] [(12,pB (decide (((k1 : Nat) : Int) < ((p0.nodes.length : Nat) : Int))))] [] [] tv ?_)
 refine Sq (Ej (decide (((k1 : Nat) : Int) < ((p0.nodes.length : Nat) : Int))) ?_ ?_)
 ·intro h8
  have hlt1 : k1 < p0.nodes.length := by have := of_decide_eq_true h8; omega
  have hm := hs1 hlt1
  unfold Qm at hm
  refine Sk ?_
  refine Sq ?_
  refine Jn (ι := List Int) (fun (y3 : List Int) => Ae [(1,pI p1),(5,ow 1184 y3.length),(9,.p (Dd p0.nodes)),(c41e2 p0),(11,pI ((k1 : Nat) : Int))] [(1184,ob0 (roI y3))]) (fun y3 => (Ki n1) y3 = some RES) ?_ ?_
  ·intro y3 hm
   unfold Ki at hm
   refine RD hnt (nn 2 []) [] [(11,pI (w64 (((k1 : Nat) : Int) + 1)))] [] [] tv ?_
   exact jD y3 ⟨hlt1,hm⟩ (Conv.tp [(11,pI (w64 (((k1 : Nat) : Int) + 1)))] [] (by kernel_rfl) (.cons rfl (.of_eq (congrArg pI (Da hlt1 hc1))) .nil) .nil)
  ·refine Bk ?_
   refine Sq (RD hnt (nn 4 []) [12] [(7,rr 1056)] [] [(1056,bx (pm (Ca (Su p0 k1))))] (an (nn0 k1) (an (ltc hlt1) tv)) ?_)
   refine Sq (RD hnt (nn 4 []) [] [(18,pB ((Su p0 k1).parent == p1))] [] [] tv ?_)
   refine Aq hm ?_ ?_
   ·intro h9 hm
    obtain ⟨g10,hm⟩ := go1 hm
    refine RN hnt (nn 6 []) [(1,pI p1),(5,ow 1184 (s1 ++ [(Su p0 k1).id]).length),(9,.p (Dd p0.nodes)),(c41e2 p0),(11,pI ((k1 : Nat) : Int))] [(1184,ob0 (roI (s1 ++ [(Su p0 k1).id])))] [(5,ow 1184 (s1.length + 1))] [(1184,.row 1 (s1.length + 1) (Em s1.length (elI s1) (cut 1 [vi (Su p0 k1).id])))] (an (by omega : (s1.length + 1) * 8 ≤ 140737488355328) tv) (by kernel_rfl) (.cons rfl (MLe.ownLen (enc := Az) (d := 0) (f := (Em s1.length (elI s1) (cut 1 [vi (Su p0 k1).id]))) (RowIs.cat RowIs.elems (RowIs.lit (enc := Az) (d := 0) (n := 1) (f := (cut 1 [vi (Su p0 k1).id])) [(Su p0 k1).id] rfl (fun | 0,_ => rfl | n + 1,h => absurd h (by omega))))) .nil) (.cons rfl (BLe.typed (RowIs.cat RowIs.elems (RowIs.lit (enc := Az) (d := 0) (n := 1) (f := (cut 1 [vi (Su p0 k1).id])) [(Su p0 k1).id] rfl (fun | 0,_ => rfl | n + 1,h => absurd h (by omega))))) .nil) ?_
    exact bD (s1 ++ [(Su p0 k1).id]) hm .refl
   ·intro h9 hm
    refine Sk ?_
    exact bD s1 hm Conv.t0
 ·intro h8
  have hge1 : ¬ k1 < p0.nodes.length := by have := of_decide_eq_false h8; omega
  have hm := he1 hge1
  unfold Vl at hm
  refine DW.exit ?_
  refine Ap ?_
  refine Au ?_
  refine Aj ?_
  show DW _ _ _ _ _
  refine Sq (RK hnt (nn 2 []) [(4,ow 1184 s1.length)] [(1184,ob0 (roI s1))] tv ?_)
  obtain rfl := sj hm
  exact DW.ret (Am [roI s1] [1184] (ow 0 s1.length))
abbrev o41 (ks : List Nat) (b : Bool) (RES : List Int) (sm : List Nat := []) : Orc := .call 150 ks b (ow 0 RES.length) [] [roI RES] sm

theorem AbZ (p0 : Ac) (p1 : Int) (RES : Bool) (hm : Rj p0 p1 = some RES) : Spec Tryz.prog 183 [.p (.agg (Gl p0)),rr 0] [.box [pI p1]] (pB RES) [.box [pI p1]] [] := by
 unfold Rj at hm
 refine SO Tryz.func183 rfl rfl [(0,.p (.agg (Gl p0))),(1,rr 0)] [(0,bx [pI p1])] ?_
 intro cx hnt
 refine Sq (RD hnt (nn 2 []) [0] [(2,rr 1016)] [] [(1016,bx (pm (Gl p0)))] tv ?_)
 refine Sq (RK hnt (nn 5 []) [(3,pB (p0.group == p1))] [(0,bx [pI p1])] tv ?_)
 obtain rfl := sj hm
 exact DW.ret (Am [.box [pI p1]] [] (pB (p0.group == p1)))

theorem Nh (p0 : List Ac) (p1c0 : Int) (RES : Int) (hm : Ez p0 p1c0 = some RES) : Spec Tryz.prog 182 [.p (Ax p0),.fn 183 [rr 0]] [.box [pI p1c0]] (pI RES) [.box [pI p1c0]] [] := by
 unfold Ez at hm
 refine SO Tryz.func182 rfl rfl [(0,.p (Ax p0)),(1,.fn 183 [rr 0])] [(0,bx [pI p1c0])] ?_
 intro cx hnt
 refine Sq (RD hnt (.no :: []) [] [] [] [] tv ?_)
 refine Sq (Sq (RD hnt (nn 3 []) [] [(7,pI ((p0.length : Nat) : Int)),(8,pI 0)] [] [] tv ?_))
 refine Bk ?_
 obtain ⟨hc1,hm⟩ := go1 hm
 refine DW.rangeO (fun (k1 : Nat) (s1 : Unit) => Ae [(0,.p (Ax p0)),(1,.fn 183 [rr 0]),(7,pI ((p0.length : Nat) : Int)),(8,pI ((k1 : Nat) : Int))] [(0,bx [pI p1c0])]) Be hm Conv.eqK ?_
 intro k1 s1 n1 hk1 hs1 he1
 refine Sq (RD hnt (.no :: []) [] [(9,pB (decide (((k1 : Nat) : Int) < ((p0.length : Nat) : Int))))] [] [] tv ?_)
 refine Sq (Ej (decide (((k1 : Nat) : Int) < ((p0.length : Nat) : Int))) ?_ ?_)
 ·intro h9
  have hlt1 : k1 < p0.length := by have := of_decide_eq_true h9; omega
  have hm := hs1 hlt1
  unfold Gi at hm
  refine Sk ?_
  refine Sq (Bk ?_)
  refine Sq (RD hnt (nn 2 []) [9] [(5,pI ((k1 : Nat) : Int))] [] [] tv ?_)
  obtain ⟨r10,hr10,hm⟩ := bo hm
  refine Sq (RD hnt (nn 5 (.call 183 [0] true (pB r10) [.box [pI p1c0]] [] [] :: [])) [] [(16,pB r10)] [] [] (an (nn0 k1) (an (ltc hlt1) (an (AbZ (p0.getD k1 (default : Ac)) p1c0 r10 hr10) (an tv tv)))) ?_)
  refine Aq hm ?_ ?_
  ·intro h11 hm
   refine Sq (RK hnt (nn 2 []) [(4,pI ((k1 : Nat) : Int))] [(0,bx [pI p1c0])] tv ?_)
   obtain rfl := sj hm
   exact DW.ret (Am [.box [pI p1c0]] [] (pI ((k1 : Nat) : Int)))
  ·intro h11 hm
   refine Sk ?_
   refine DW.done ?_
   show DW _ _ _ _ _
   refine RD hnt (nn 2 []) [5,16] [(8,pI (w64 (((k1 : Nat) : Int) + 1)))] [] [] tv ?_
   exact jD () ⟨hlt1,hm⟩ (Conv.tp [(8,pI (w64 (((k1 : Nat) : Int) + 1)))] [] (by kernel_rfl) (.cons rfl (.of_eq (congrArg pI (Da hlt1 hc1))) .nil) .nil)
 ·intro h9
  have hge1 : ¬ k1 < p0.length := by have := of_decide_eq_false h9; omega
  have hm := he1 hge1
  unfold Ja at hm
  refine DW.exit ?_
  refine Ap ?_
  refine Au ?_
  refine Aj ?_
  show DW _ _ _ _ _
  refine Sq (RK hnt (.no :: []) [(4,pI (-1))] [(0,bx [pI p1c0])] tv ?_)
  obtain rfl := sj hm
  exact DW.ret (Am [.box [pI p1c0]] [] (pI (-1)))

theorem Adi (p0 : List Ac) (p1 : Int) (RES : Int) (hm : Ui p0 p1 = some RES) : Spec Tryz.prog 144 [.p (Ax p0),pI p1] [] (pI RES) [] [] := by
 unfold Ui at hm
 refine SO Tryz.func144 rfl rfl [(0,.p (Ax p0)),(1,pI p1)] [] ?_
 intro cx hnt
 refine Sq (RD hnt (nn 2 []) [1] [(3,rr 1024)] [] [(1024,bx [pI p1])] tv ?_)
 obtain ⟨r1,hr1,hm⟩ := bo hm
 refine Sq (RK hnt (nn 2 (.call 182 [1024] true (pI r1) [.box [pI p1]] [] [] :: .no :: [])) [(4,pI r1)] [] (an (Nh p0 p1 r1 hr1) (an tv tv)) ?_)
 obtain rfl := sj hm
 exact DW.ret (Am [] [] (pI r1))
abbrev o43 (ks : List Nat) (b : Bool) (RES : Int) (sm : List Nat := []) : Orc := .call 144 ks b (pI RES) [] [] sm

theorem Aas (RES : Ao) (hm : Rt = some RES) : Spec Tryz.prog 145 [] [] (.agg [pI RES.pidsMax,pI RES.weight,pI RES.quota,pI RES.period,pI RES.burst,pI RES.clampMin,pI RES.clampMax,ow 0 RES.cpus.length,ow 1 RES.mems.length,pI RES.partition,pI RES.memory.min,pI RES.memory.low,pI RES.memory.high,pI RES.memory.max,pI RES.memory.swapMax,pB RES.memory.together,ow 2 RES.devices.length]) [] [roI RES.cpus,roI RES.mems,Af RES.devices] := by
 unfold Rt at hm
 refine SO Tryz.func145 rfl rfl [] [] ?_
 intro cx hnt
 refine Sq (RK hnt (.no :: []) [(0,rr 1000)] [(1000,bx [pI 0,pI 0,pI 0,pI 0,pI 0,pI 0,pI 0,.p (.sl .nil 0 0 (fun _ => [])),.p (.sl .nil 0 0 (fun _ => [])),pI 0,pI 0,pI 0,pI 0,pI 0,pI 0,pB false,.p (.sl .nil 0 0 (fun _ => []))])] tv ?_)
 obtain ⟨r1,hr1,hm⟩ := bo hm
 obtain ⟨r2,hr2,hm⟩ := bo hm
 refine Sq (RK hnt (o20 [] true r1 :: o21 [] true r2 :: nn 2 []) [(0,rr 1000)] [(1000,bx [pI 4611686018427387904,pI 100,pI 4611686018427387904,pI 100000,pI 0,pI 0,pI 10000,.p (.sl .nil 0 0 (fun _ => [])),.p (.sl .nil 0 0 (fun _ => [])),pI 0,pI r1.min,pI r1.low,pI r1.high,pI r1.max,pI r1.swapMax,pB r1.together,ow 1016 r2.length]),(1016,ob0 (Af r2))] (an (Ry r1 hr1) (an (Qx r2 hr2) tv)) ?_)
 refine DW.cv [] [] [] [(1000,bx [pI 4611686018427387904,pI 100,pI 4611686018427387904,pI 100000,pI 0,pI 0,pI 10000,ow 100000 0,ow 100001 0,pI 0,pI r1.min,pI r1.low,pI r1.high,pI r1.max,pI r1.swapMax,pB r1.together,ow 1016 r2.length]),(100000,ob0 (roI [])),(100001,ob0 (roI []))] (Conv.ads [(.o 1000 7,100000,1,elems Az 0 []),(.o 1000 8,100001,1,elems Az 0 [])]) ?_
 obtain rfl := sj hm
 exact DW.ret (Am [roI [],roI [],Af r2] [100000,100001,1016] (.agg [pI 4611686018427387904,pI 100,pI 4611686018427387904,pI 100000,pI 0,pI 0,pI 10000,ow 0 0,ow 1 0,pI 0,pI r1.min,pI r1.low,pI r1.high,pI r1.max,pI r1.swapMax,pB r1.together,ow 2 r2.length]))
abbrev o46 (ks : List Nat) (b : Bool) (RES : Ao) (sm : List Nat := []) : Orc := .call 145 ks b (.agg [pI RES.pidsMax,pI RES.weight,pI RES.quota,pI RES.period,pI RES.burst,pI RES.clampMin,pI RES.clampMax,ow 0 RES.cpus.length,ow 1 RES.mems.length,pI RES.partition,pI RES.memory.min,pI RES.memory.low,pI RES.memory.high,pI RES.memory.max,pI RES.memory.swapMax,pB RES.memory.together,ow 2 RES.devices.length]) [] [roI RES.cpus,roI RES.mems,Af RES.devices] sm

theorem Qz (p0 : List As) (RES : List As) (hm : Er p0 = some RES) : Spec Tryz.prog 184 [.p (.sl .nn 7 p0.length (elems Db (default : As) p0))] [] (ow 0 RES.length) [] [Af RES] := by
 unfold Er at hm
 refine SO Tryz.func184 rfl rfl [(0,.p (.sl .nn 7 p0.length (elems Db (default : As) p0)))] [] ?_
 intro cx hnt
 refine Sq (RD hnt (.no :: []) [] [] [] [] tv ?_)
 refine Sq (Sq (RD hnt (nn 2 []) [] [(4,pB false)] [] [] tv ?_))
 refine condF ff ?_
 refine Sk ?_
 obtain ⟨g1,hm⟩ := go1 hm
 refine Sq (RN hnt (nn 4 []) [(2,ow 1040 p0.length)] [(1040,ob0 (Af p0))] [(2,ow 1040 (0 + p0.length))] [(1040,.row 7 (0 + p0.length) (Em 0 (cut 7 []) (Rp p0)))] (an (by omega : (0 + p0.length) * 56 ≤ 140737488355328) tv) (by kernel_rfl) (.cons rfl (MLe.ownLen (enc := Db) (d := Lo) (f := (Em 0 (cut 7 []) (Rp p0))) (RowIs.cat RowIs.nil RowIs.elems)) .nil) (.cons rfl (BLe.typed (RowIs.cat RowIs.nil RowIs.elems)) .nil) ?_)
 obtain rfl := sj hm
 exact DW.ret (Am [Af p0] [1040] (ow 0 p0.length))

theorem Qq (p0 : List As) (RES : List As) (hm : It p0 = some RES) : Spec Tryz.prog 184 [.p (.sl .nil 7 0 (elems Db (default : As) p0))] [] (ow 0 RES.length) [] [Af RES] := by
 unfold It at hm
 refine SO Tryz.func184 rfl rfl [(0,.p (.sl .nil 7 0 (elems Db (default : As) p0)))] [] ?_
 intro cx hnt
 refine Sq (RD hnt (.no :: []) [] [] [] [] tv ?_)
 refine Sq (Sq (RD hnt (nn 2 []) [] [(4,pB true)] [] [] tv ?_))
 refine condT tt ?_
 refine Sq (RK hnt (.no :: []) [(2,.p (.sl .nil 0 0 (fun _ => [])))] [] tv ?_)
 refine DW.cv [] [(2,ow 100000 0)] [] [(100000,ob0 (Af []))] (Conv.ads [(.s 2,100000,7,elems Db Lo [])]) ?_
 obtain rfl := sj hm
 exact DW.ret (Am [Af []] [100000] (ow 0 0))

theorem Sg (p0 : List As) (RES : List As) (hm : Er p0 = some RES) : Spec Tryz.prog 184 [.p (Co p0)] [] (ow 0 RES.length) [] [Af RES] :=
  Spec.unk (fun h => Qq p0 RES (by have e : p0 = [] := List.eq_nil_of_length_eq_zero h; subst e; simpa [Er,It] using hm)) (Qz p0 RES hm)
abbrev o48 (ks : List Nat) (b : Bool) (RES : List As) (sm : List Nat := []) : Orc := .call 184 ks b (ow 0 RES.length) [] [Af RES] sm

theorem Ace (p0 : Ao) (RES : Ao) (hm : Ob p0 = some RES) : Spec Tryz.prog 146 [.p (.agg (Dv p0))] [] (.agg [pI RES.pidsMax,pI RES.weight,pI RES.quota,pI RES.period,pI RES.burst,pI RES.clampMin,pI RES.clampMax,ow 0 RES.cpus.length,ow 1 RES.mems.length,pI RES.partition,pI RES.memory.min,pI RES.memory.low,pI RES.memory.high,pI RES.memory.max,pI RES.memory.swapMax,pB RES.memory.together,ow 2 RES.devices.length]) [] [roI RES.cpus,roI RES.mems,Af RES.devices] := by
 unfold Ob at hm
 refine SO Tryz.func146 rfl rfl [(0,.p (.agg (Dv p0)))] [] ?_
 intro cx hnt
 refine Sq (RK hnt (nn 2 []) [(1,rr 1008),(2,rr 1016)] [(1008,bx (pm (Dv p0))),(1016,bx [pI 0,pI 0,pI 0,pI 0,pI 0,pI 0,pI 0,.p (.sl .nil 0 0 (fun _ => [])),.p (.sl .nil 0 0 (fun _ => [])),pI 0,pI 0,pI 0,pI 0,pI 0,pI 0,pB false,.p (.sl .nil 0 0 (fun _ => []))])] tv ?_)
 obtain ⟨r1,hr1,hm⟩ := bo hm
 obtain ⟨r2,hr2,hm⟩ := bo hm
 obtain ⟨r3,hr3,hm⟩ := bo hm
 refine Sq (RD hnt (nn 2 (o39 [] true r1 :: nn 2 (o39 [] true r2 :: nn 2 (o48 [] true r3 :: nn 6 [])))) [] [] [] [(1008,bx [pI p0.pidsMax,pI p0.weight,pI p0.quota,pI p0.period,pI p0.burst,pI p0.clampMin,pI p0.clampMax,ow 1040 r1.length,ow 1064 r2.length,pI p0.partition,pI p0.memory.min,pI p0.memory.low,pI p0.memory.high,pI p0.memory.max,pI p0.memory.swapMax,pB p0.memory.together,ow 1088 r3.length]),(1040,ob0 (roI r1)),(1064,ob0 (roI r2)),(1088,ob0 (Af r3))] (an (Hi p0.cpus r1 hr1) (an (Hi p0.mems r2 hr2) (an (Sg p0.devices r3 hr3) tv))) ?_)
 refine Sq (RD hnt (nn 2 []) [1] [] [1008] [(1016,bx [pI p0.pidsMax,pI p0.weight,pI p0.quota,pI p0.period,pI p0.burst,pI p0.clampMin,pI p0.clampMax,ow 1040 r1.length,ow 1064 r2.length,pI p0.partition,pI p0.memory.min,pI p0.memory.low,pI p0.memory.high,pI p0.memory.max,pI p0.memory.swapMax,pB p0.memory.together,ow 1088 r3.length])] tv ?_)
 obtain rfl := sj hm
 exact DW.ret (Am [roI r1,roI r2,Af r3] [1040,1064,1088] (.agg [pI p0.pidsMax,pI p0.weight,pI p0.quota,pI p0.period,pI p0.burst,pI p0.clampMin,pI p0.clampMax,ow 0 r1.length,ow 1 r2.length,pI p0.partition,pI p0.memory.min,pI p0.memory.low,pI p0.memory.high,pI p0.memory.max,pI p0.memory.swapMax,pB p0.memory.together,ow 2 r3.length]))
abbrev o47 (ks : List Nat) (b : Bool) (RES : Ao) (sm : List Nat := []) : Orc := .call 146 ks b (.agg [pI RES.pidsMax,pI RES.weight,pI RES.quota,pI RES.period,pI RES.burst,pI RES.clampMin,pI RES.clampMax,ow 0 RES.cpus.length,ow 1 RES.mems.length,pI RES.partition,pI RES.memory.min,pI RES.memory.low,pI RES.memory.high,pI RES.memory.max,pI RES.memory.swapMax,pB RES.memory.together,ow 2 RES.devices.length]) [] [roI RES.cpus,roI RES.mems,Af RES.devices] sm

theorem Xg (p0 : List Ac) (p1 : Int) (RES : Ao) (hm : Mw p0 p1 = some RES) : Spec Tryz.prog 92 [.p (Ax p0),pI p1] [] (.agg [pI RES.pidsMax,pI RES.weight,pI RES.quota,pI RES.period,pI RES.burst,pI RES.clampMin,pI RES.clampMax,ow 0 RES.cpus.length,ow 1 RES.mems.length,pI RES.partition,pI RES.memory.min,pI RES.memory.low,pI RES.memory.high,pI RES.memory.max,pI RES.memory.swapMax,pB RES.memory.together,ow 2 RES.devices.length]) [] [roI RES.cpus,roI RES.mems,Af RES.devices] := by
 unfold Mw at hm
 refine SO Tryz.func92 rfl rfl [(0,.p (Ax p0)),(1,pI p1)] [] ?_
 intro cx hnt
 refine Sq (RD hnt (.no :: []) [] [(4,rr 1032)] [] [(1032,bx [pI 0,pI 0,pI 0,pI 0,pI 0,pI 0,pI 0,.p (.sl .nil 0 0 (fun _ => [])),.p (.sl .nil 0 0 (fun _ => [])),pI 0,pI 0,pI 0,pI 0,pI 0,pI 0,pB false,.p (.sl .nil 0 0 (fun _ => []))])] tv ?_)
 obtain ⟨r1,hr1,hm⟩ := bo hm
 refine Sq (RD hnt (nn 2 (o43 [] true r1 :: .no :: [])) [1] [(5,pI r1)] [] [] (an (Adi p0 p1 r1 hr1) tv) ?_)
 refine Sq (Sq (RD hnt (nn 2 []) [] [(10,pB (decide (r1 < 0)))] [] [] tv ?_))
 refine Aq hm ?_ ?_
 ·intro h2 hm
  obtain ⟨r3,hr3,hm⟩ := bo hm
  refine Sq (RK hnt (o46 [] true r3 :: .no :: []) [(4,rr 1032)] [(1032,bx [pI r3.pidsMax,pI r3.weight,pI r3.quota,pI r3.period,pI r3.burst,pI r3.clampMin,pI r3.clampMax,ow 1088 r3.cpus.length,ow 1089 r3.mems.length,pI r3.partition,pI r3.memory.min,pI r3.memory.low,pI r3.memory.high,pI r3.memory.max,pI r3.memory.swapMax,pB r3.memory.together,ow 1090 r3.devices.length]),(1088,ob0 (roI r3.cpus)),(1089,ob0 (roI r3.mems)),(1090,ob0 (Af r3.devices))] (an (Aas r3 hr3) tv) ?_)
  obtain rfl := sj hm
  exact DW.ret (Am [roI r3.cpus,roI r3.mems,Af r3.devices] [1088,1089,1090] (.agg [pI r3.pidsMax,pI r3.weight,pI r3.quota,pI r3.period,pI r3.burst,pI r3.clampMin,pI r3.clampMax,ow 0 r3.cpus.length,ow 1 r3.mems.length,pI r3.partition,pI r3.memory.min,pI r3.memory.low,pI r3.memory.high,pI r3.memory.max,pI r3.memory.swapMax,pB r3.memory.together,ow 2 r3.devices.length]))
 ·intro h2 hm
  refine Sk ?_
  obtain ⟨g4,hm⟩ := go1 hm
  obtain ⟨r5,hr5,hm⟩ := bo hm
  refine Sq (RK hnt (nn 5 (o47 [] true r5 :: .no :: [])) [(4,rr 1032)] [(1032,bx [pI r5.pidsMax,pI r5.weight,pI r5.quota,pI r5.period,pI r5.burst,pI r5.clampMin,pI r5.clampMax,ow 1136 r5.cpus.length,ow 1137 r5.mems.length,pI r5.partition,pI r5.memory.min,pI r5.memory.low,pI r5.memory.high,pI r5.memory.max,pI r5.memory.swapMax,pB r5.memory.together,ow 1138 r5.devices.length]),(1136,ob0 (roI r5.cpus)),(1137,ob0 (roI r5.mems)),(1138,ob0 (Af r5.devices))] (an g4.1 (an g4.2 (an (Ace (p0.getD (Int.toNat r1) Be).settings r5 hr5) tv))) ?_)
  obtain rfl := sj hm
  exact DW.ret (Am [roI r5.cpus,roI r5.mems,Af r5.devices] [1136,1137,1138] (.agg [pI r5.pidsMax,pI r5.weight,pI r5.quota,pI r5.period,pI r5.burst,pI r5.clampMin,pI r5.clampMax,ow 0 r5.cpus.length,ow 1 r5.mems.length,pI r5.partition,pI r5.memory.min,pI r5.memory.low,pI r5.memory.high,pI r5.memory.max,pI r5.memory.swapMax,pB r5.memory.together,ow 2 r5.devices.length]))
abbrev o42 (ks : List Nat) (b : Bool) (RES : Ao) (sm : List Nat := []) : Orc := .call 92 ks b (.agg [pI RES.pidsMax,pI RES.weight,pI RES.quota,pI RES.period,pI RES.burst,pI RES.clampMin,pI RES.clampMax,ow 0 RES.cpus.length,ow 1 RES.mems.length,pI RES.partition,pI RES.memory.min,pI RES.memory.low,pI RES.memory.high,pI RES.memory.max,pI RES.memory.swapMax,pB RES.memory.together,ow 2 RES.devices.length]) [] [roI RES.cpus,roI RES.mems,Af RES.devices] sm

theorem Aao (p0 : List Int) (p1 : Int) (RES : Int) (hm : Ns p0 p1 = some RES) : Spec Tryz.prog 148 [.p (slI p0),pI p1] [] (pI RES) [] [] := by
 unfold Ns at hm
 refine SO Tryz.func148 rfl rfl [(0,.p (slI p0)),(1,pI p1)] [] ?_
 intro cx hnt
 refine Sq (RD hnt (.no :: []) [] [] [] [] tv ?_)
 refine Sq (Sq (RD hnt (nn 3 []) [] [(7,pI ((p0.length : Nat) : Int)),(8,pI 0)] [] [] tv ?_))
 refine Bk ?_
 obtain ⟨hc1,hm⟩ := go1 hm
 refine DW.rangeO (fun (k1 : Nat) (s1 : Unit) => Ae [(0,.p (slI p0)),(1,pI p1),(7,pI ((p0.length : Nat) : Int)),(8,pI ((k1 : Nat) : Int))] []) 0 hm Conv.eqK ?_
 intro k1 s1 n1 hk1 hs1 he1
 refine Sq (RD hnt (.no :: []) [] [(9,pB (decide (((k1 : Nat) : Int) < ((p0.length : Nat) : Int))))] [] [] tv ?_)
 refine Sq (Ej (decide (((k1 : Nat) : Int) < ((p0.length : Nat) : Int))) ?_ ?_)
 ·intro h7
  have hlt1 : k1 < p0.length := by have := of_decide_eq_true h7; omega
  have hm := hs1 hlt1
  unfold Uo at hm
  refine Sk ?_
  refine Sq (Bk ?_)
  refine Sq (RD hnt (nn 2 []) [9] [(5,pI ((k1 : Nat) : Int))] [] [] tv ?_)
  refine Sq (RD hnt (nn 6 []) [] [(16,pB (p1 == (p0.getD k1 0)))] [] [] (an (nn0 k1) (an (ltc hlt1) tv)) ?_)
  refine Aq hm ?_ ?_
  ·intro h8 hm
   refine Sq (RK hnt (nn 2 []) [(4,pI ((k1 : Nat) : Int))] [] tv ?_)
   obtain rfl := sj hm
   exact DW.ret (Am [] [] (pI ((k1 : Nat) : Int)))
  ·intro h8 hm
   refine Sk ?_
   refine DW.done ?_
   show DW _ _ _ _ _
   refine RD hnt (nn 2 []) [5,16] [(8,pI (w64 (((k1 : Nat) : Int) + 1)))] [] [] tv ?_
   exact jD () ⟨hlt1,hm⟩ (Conv.tp [(8,pI (w64 (((k1 : Nat) : Int) + 1)))] [] (by kernel_rfl) (.cons rfl (.of_eq (congrArg pI (Da hlt1 hc1))) .nil) .nil)
 ·intro h7
  have hge1 : ¬ k1 < p0.length := by have := of_decide_eq_false h7; omega
  have hm := he1 hge1
  unfold Up at hm
  refine DW.exit ?_
  refine Ap ?_
  refine Au ?_
  refine Aj ?_
  show DW _ _ _ _ _
  refine Sq (RK hnt (.no :: []) [(4,pI (-1))] [] tv ?_)
  obtain rfl := sj hm
  exact DW.ret (Am [] [] (pI (-1)))
abbrev o55 (ks : List Nat) (b : Bool) (RES : Int) (sm : List Nat := []) : Orc := .call 148 ks b (pI RES) [] [] sm

theorem Qj (p0 : List Int) (p1 : Int) (RES : Bool) (hm : Ht p0 p1 = some RES) : Spec Tryz.prog 96 [.p (slI p0),pI p1] [] (pB RES) [] [] := by
 unfold Ht at hm
 refine SO Tryz.func96 rfl rfl [(0,.p (slI p0)),(1,pI p1)] [] ?_
 intro cx hnt
 refine Sq (RD hnt (.no :: []) [] [] [] [] tv ?_)
 obtain ⟨r1,hr1,hm⟩ := bo hm
 refine Sq (RK hnt (nn 2 (o55 [] true r1 :: nn 2 [])) [(4,pB (decide (r1 ≥ 0)))] [] (an (Aao p0 p1 r1 hr1) tv) ?_)
 obtain rfl := sj hm
 exact DW.ret (Am [] [] (pB (decide (r1 ≥ 0))))
abbrev o54 (ks : List Nat) (b : Bool) (RES : Bool) (sm : List Nat := []) : Orc := .call 96 ks b (pB RES) [] [] sm

theorem Xf (p0 : List Int) (p1 : Int) (RES : Bool) (hm : Ro p0 p1 = some RES) : Spec Tryz.prog 181 [.p (slI p0),pI p1] [] (pB RES) [] [] := by
 unfold Ro at hm
 refine SO Tryz.func181 rfl rfl [(0,.p (slI p0)),(1,pI p1)] [] ?_
 intro cx hnt
 refine Sq (RD hnt (.no :: []) [] [] [] [] tv ?_)
 obtain ⟨r1,hr1,hm⟩ := bo hm
 refine Sq (RK hnt (nn 2 (o54 [] true r1 :: .no :: [])) [(4,pB r1)] [] (an (Qj p0 p1 r1 hr1) tv) ?_)
 obtain rfl := sj hm
 exact DW.ret (Am [] [] (pB r1))
abbrev o53 (ks : List Nat) (b : Bool) (RES : Bool) (sm : List Nat := []) : Orc := .call 181 ks b (pB RES) [] [] sm

theorem Acf (p0 : Int) (p1 : List Int) (RES : Bool) (hm : Rh p0 p1 = some RES) : Spec Tryz.prog 188 [pI p0,rr 0] [.box [.p (slI p1)]] (pB RES) [.box [.p (slI p1)]] [] := by
 unfold Rh at hm
 refine SO Tryz.func188 rfl rfl [(0,pI p0),(1,rr 0)] [(0,bx [.p (slI p1)])] ?_
 intro cx hnt
 refine Sq (RD hnt (.no :: []) [] [] [] [] tv ?_)
 obtain ⟨r1,hr1,hm⟩ := bo hm
 refine Sq (RD hnt (nn 2 (o53 [] true r1 :: nn 2 [])) [0,1] [(3,pB (!r1))] [] [] (an (Xf p1 p0 r1 hr1) tv) ?_)
 obtain rfl := sj hm
 exact DW.ret (Am [.box [.p (slI p1)]] [] (pB (!r1)))

theorem Ov (p0 : List Int) (p1c0 : List Int) (RES : Int) (hm : Fr p0 p1c0 = some RES) : Spec Tryz.prog 196 [.p (slI p0),.fn 188 [rr 0]] [.box [.p (slI p1c0)]] (pI RES) [.box [.p (slI p1c0)]] [] := by
 unfold Fr at hm
 refine SO Tryz.func196 rfl rfl [(0,.p (slI p0)),(1,.fn 188 [rr 0])] [(0,bx [.p (slI p1c0)])] ?_
 intro cx hnt
 refine Sq (RD hnt (.no :: []) [] [] [] [] tv ?_)
 refine Sq (Sq (RD hnt (nn 3 []) [] [(7,pI ((p0.length : Nat) : Int)),(8,pI 0)] [] [] tv ?_))
 refine Bk ?_
 obtain ⟨hc1,hm⟩ := go1 hm
 refine DW.rangeO (fun (k1 : Nat) (s1 : Unit) => Ae [(0,.p (slI p0)),(1,.fn 188 [rr 0]),(7,pI ((p0.length : Nat) : Int)),(8,pI ((k1 : Nat) : Int))] [(0,bx [.p (slI p1c0)])]) 0 hm Conv.eqK ?_
 intro k1 s1 n1 hk1 hs1 he1
 refine Sq (RD hnt (.no :: []) [] [(9,pB (decide (((k1 : Nat) : Int) < ((p0.length : Nat) : Int))))] [] [] tv ?_)
 refine Sq (Ej (decide (((k1 : Nat) : Int) < ((p0.length : Nat) : Int))) ?_ ?_)
 ·intro h9
  have hlt1 : k1 < p0.length := by have := of_decide_eq_true h9; omega
  have hm := hs1 hlt1
  unfold Gy at hm
  refine Sk ?_
  refine Sq (Bk ?_)
  refine Sq (RD hnt (nn 2 []) [9] [(5,pI ((k1 : Nat) : Int))] [] [] tv ?_)
  obtain ⟨r10,hr10,hm⟩ := bo hm
  refine Sq (RD hnt (nn 5 (.call 188 [0] true (pB r10) [.box [.p (slI p1c0)]] [] [] :: [])) [] [(16,pB r10)] [] [] (an (nn0 k1) (an (ltc hlt1) (an (Acf (p0.getD k1 0) p1c0 r10 hr10) (an tv tv)))) ?_)
  refine Aq hm ?_ ?_
  ·intro h11 hm
   refine Sq (RK hnt (nn 2 []) [(4,pI ((k1 : Nat) : Int))] [(0,bx [.p (slI p1c0)])] tv ?_)
   obtain rfl := sj hm
   exact DW.ret (Am [.box [.p (slI p1c0)]] [] (pI ((k1 : Nat) : Int)))
  ·intro h11 hm
   refine Sk ?_
   refine DW.done ?_
   show DW _ _ _ _ _
   refine RD hnt (nn 2 []) [5,16] [(8,pI (w64 (((k1 : Nat) : Int) + 1)))] [] [] tv ?_
   exact jD () ⟨hlt1,hm⟩ (Conv.tp [(8,pI (w64 (((k1 : Nat) : Int) + 1)))] [] (by kernel_rfl) (.cons rfl (.of_eq (congrArg pI (Da hlt1 hc1))) .nil) .nil)
 ·intro h9
  have hge1 : ¬ k1 < p0.length := by have := of_decide_eq_false h9; omega
  have hm := he1 hge1
  unfold Js at hm
  refine DW.exit ?_
  refine Ap ?_
  refine Au ?_
  refine Aj ?_
  show DW _ _ _ _ _
  refine Sq (RK hnt (.no :: []) [(4,pI (-1))] [(0,bx [.p (slI p1c0)])] tv ?_)
  obtain rfl := sj hm
  exact DW.ret (Am [.box [.p (slI p1c0)]] [] (pI (-1)))

theorem Ni (p0 : List Int) (p1c0 : List Int) (RES : Bool) (hm : Ey p0 p1c0 = some RES) : Spec Tryz.prog 187 [.p (slI p0),.fn 188 [rr 0]] [.box [.p (slI p1c0)]] (pB RES) [.box [.p (slI p1c0)]] [] := by
 unfold Ey at hm
 refine SO Tryz.func187 rfl rfl [(0,.p (slI p0)),(1,.fn 188 [rr 0])] [(0,bx [.p (slI p1c0)])] ?_
 intro cx hnt
 refine Sq (RD hnt (.no :: []) [] [] [] [] tv ?_)
 obtain ⟨r1,hr1,hm⟩ := bo hm
 refine Sq (RD hnt (nn 2 (.call 196 [0] true (pI r1) [.box [.p (slI p1c0)]] [] [] :: nn 2 [])) [0,1] [(4,pB (decide (r1 ≥ 0)))] [] [] (an (Ov p0 p1c0 r1 hr1) (an tv tv)) ?_)
 obtain rfl := sj hm
 exact DW.ret (Am [.box [.p (slI p1c0)]] [] (pB (decide (r1 ≥ 0))))

theorem Yi (p0 : List Int) (p1 : List Int) (RES : Bool) (hm : Oh p0 p1 = some RES) : Spec Tryz.prog 151 [.p (slI p0),.p (slI p1)] [] (pB RES) [] [] := by
 unfold Oh at hm
 refine SO Tryz.func151 rfl rfl [(0,.p (slI p0)),(1,.p (slI p1))] [] ?_
 intro cx hnt
 refine Sq (RD hnt (nn 2 []) [1] [(3,rr 1024)] [] [(1024,bx [.p (slI p1)])] tv ?_)
 obtain ⟨r1,hr1,hm⟩ := bo hm
 refine Sq (RK hnt (nn 2 (.call 187 [1024] true (pB r1) [.box [.p (slI p1)]] [] [] :: nn 2 [])) [(4,pB (!r1))] [] (an (Ni p0 p1 r1 hr1) (an tv tv)) ?_)
 obtain rfl := sj hm
 exact DW.ret (Am [] [] (pB (!r1)))
abbrev o49 (ks : List Nat) (b : Bool) (RES : Bool) (sm : List Nat := []) : Orc := .call 151 ks b (pB RES) [] [] sm

abbrev c61e1 (y3 : Int × Int) := (w64 (y3.2 + (w64 (((Bi (bs [0,1,2,2,3,3,3,3,4,4,4,4,4,4,4,4,5,5,5,5,5,5,5,5,5,5,5,5,5,5,5,5,6,6,6,6,6,6,6,6,6,6,6,6,6,6,6,6,6,6,6,6,6,6,6,6,6,6,6,6,6,6,6,6,7,7,7,7,7,7,7,7,7,7,7,7,7,7,7,7,7,7,7,7,7,7,7,7,7,7,7,7,7,7,7,7,7,7,7,7,7,7,7,7,7,7,7,7,7,7,7,7,7,7,7,7,7,7,7,7,7,7,7,7,7,7,7,7,8,8,8,8,8,8,8,8,8,8,8,8,8,8,8,8,8,8,8,8,8,8,8,8,8,8,8,8,8,8,8,8,8,8,8,8,8,8,8,8,8,8,8,8,8,8,8,8,8,8,8,8,8,8,8,8,8,8,8,8,8,8,8,8,8,8,8,8,8,8,8,8,8,8,8,8,8,8,8,8,8,8,8,8,8,8,8,8,8,8,8,8,8,8,8,8,8,8,8,8,8,8,8,8,8,8,8,8,8,8,8,8,8,8,8,8,8,8,8,8,8,8,8,8,8,8,8,8]) (Int.toNat (IntKind.u8.wrap y3.1))) : Nat) : Int))))
theorem AdN (p0 : Int) (RES : Int) (hm : Aae p0 = some RES) : Spec Tryz.prog 163 [.p (vk .u64 p0)] [] (pI RES) [] [] := by
 unfold Aae at hm
 refine SO Tryz.func163 rfl rfl [(0,.p (vk .u64 p0))] [] ?_
 intro cx hnt
 refine Sq (RD hnt (.no :: []) [] [(2,pI 0)] [] [] tv ?_)
 refine Sq (Sq (RD hnt (nn 2 []) [] [(4,pB (decide (p0 ≥ 4294967296)))] [] [] tv ?_))
 refine Jn (ι := Int × Int) (fun (y1 : Int × Int) => Ae [(0,.p (vk .u64 y1.1)),(2,pI y1.2)] []) (fun y1 => Te y1 = some RES) ?_ ?_
 ·intro y1 hm
  unfold Te at hm
  refine Sq (Sq (RD hnt (nn 2 []) [] [(8,pB (decide (y1.1 ≥ 65536)))] [] [] tv ?_))
  refine Jn (ι := Int × Int) (fun (y2 : Int × Int) => Ae [(0,.p (vk .u64 y2.1)),(2,pI y2.2)] []) (fun y2 => Tk y2 = some RES) ?_ ?_
  ·intro y2 hm
   unfold Tk at hm
   refine Sq (Sq (RD hnt (nn 2 []) [] [(14,pB (decide (y2.1 ≥ 256)))] [] [] tv ?_))
   refine Jn (ι := Int × Int) (fun (y3 : Int × Int) => Ae [(0,.p (vk .u64 y3.1)),(2,pI y3.2)] []) (fun y3 => Si y3 = some RES) ?_ ?_
   ·intro y3 hm
    unfold Si at hm
    obtain ⟨g4,hm⟩ := go1 hm
    refine Sq (RK hnt (nn 7 []) [(2,pI (c61e1 y3))] [] (an g4.1 (an g4.2 tv)) ?_)
    obtain rfl := sj hm
    exact DW.ret (Am [] [] (pI (c61e1 y3)))
   ·refine Aq hm ?_ ?_
    ·intro h3 hm
     refine Sq (RK hnt (nn 3 []) [(0,.p (vk .u64 (kshr .u64 y2.1 8))),(2,pI y2.2)] [] (an (by decide : (0 : Int) ≤ 8) tv) ?_)
     refine RD hnt (nn 3 []) [] [(2,pI (w64 (y2.2 + 8)))] [] [] tv ?_
     exact jD ((kshr .u64 y2.1 8),(w64 (y2.2 + 8))) hm Conv.eqK
    ·intro h3 hm
     refine Sk ?_
     exact jD (y2.1,y2.2) hm Conv.t0
  ·refine Aq hm ?_ ?_
   ·intro h2 hm
    refine Sq (RK hnt (nn 3 []) [(0,.p (vk .u64 (kshr .u64 y1.1 16))),(2,pI y1.2)] [] (an (by decide : (0 : Int) ≤ 16) tv) ?_)
    refine RD hnt (nn 3 []) [] [(2,pI (w64 (y1.2 + 16)))] [] [] tv ?_
    exact jD ((kshr .u64 y1.1 16),(w64 (y1.2 + 16))) hm Conv.eqK
   ·intro h2 hm
    refine Sk ?_
    exact jD (y1.1,y1.2) hm Conv.t0
 ·refine Aq hm ?_ ?_
  ·intro h1 hm
   refine Sq (RK hnt (nn 3 []) [(0,.p (vk .u64 (kshr .u64 p0 32)))] [] (an (by decide : (0 : Int) ≤ 32) tv) ?_)
   refine RD hnt (.no :: []) [] [(2,pI 32)] [] [] tv ?_
   exact jD ((kshr .u64 p0 32),32) hm Conv.eqK
  ·intro h1 hm
   refine Sk ?_
   exact jD (p0,0) hm Conv.t0
abbrev o61 (ks : List Nat) (b : Bool) (RES : Int) (sm : List Nat := []) : Orc := .call 163 ks b (pI RES) [] [] sm

theorem Abw (p0 : Int) (RES : Int) (hm : Rs p0 = some RES) : Spec Tryz.prog 106 [.p (vk .u64 p0)] [] (pI RES) [] [] := by
 unfold Rs at hm
 refine SO Tryz.func106 rfl rfl [(0,.p (vk .u64 p0))] [] ?_
 intro cx hnt
 refine Sq (RD hnt (.no :: []) [] [] [] [] tv ?_)
 refine Sq (condF ff ?_)
 refine Sk ?_
 obtain ⟨r1,hr1,hm⟩ := bo hm
 refine Sq (RK hnt (.no :: o61 [] true r1 :: .no :: []) [(2,pI r1)] [] (an (AdN p0 r1 hr1) tv) ?_)
 obtain rfl := sj hm
 exact DW.ret (Am [] [] (pI r1))
abbrev o60 (ks : List Nat) (b : Bool) (RES : Int) (sm : List Nat := []) : Orc := .call 106 ks b (pI RES) [] [] sm

theorem Kj (p0 : Int) (RES : Bool) (hm : Ny p0 = some RES) : Spec Tryz.prog 195 [pI p0] [] (pB RES) [] [] := by
 unfold Ny at hm
 refine SO Tryz.func195 rfl rfl [(0,pI p0)] [] ?_
 intro cx hnt
 refine Sq (RK hnt (.no :: []) [(0,pI p0)] [] tv ?_)
 refine Sq (RK hnt (nn 4 []) [(2,pB (p0 != p0))] [] tv ?_)
 obtain rfl := sj hm
 exact DW.ret (Am [] [] (pB (p0 != p0)))
abbrev o65 (ks : List Nat) (b : Bool) (RES : Bool) (sm : List Nat := []) : Orc := .call 195 ks b (pB RES) [] [] sm

theorem Cw (p0 : Int) (p1 : Int) (RES : Bool) (hm : Dh p0 p1 = some RES) : Spec Tryz.prog 159 [pI p0,pI p1] [] (pB RES) [] [] := by
 unfold Dh at hm
 refine SO Tryz.func159 rfl rfl [(0,pI p0),(1,pI p1)] [] ?_
 intro cx hnt
 refine Sq (RD hnt (.no :: []) [] [] [] [] tv ?_)
 obtain ⟨r1,hr1,hm⟩ := bo hm
 refine Sq ?_
 refine Jn (ι := Bool) (fun (y1 : Bool) => Ae [(4,pB y1)] []) (fun y1 => Ky y1 = some RES) ?_ ?_
 ·intro y1 hm
  unfold Ky at hm
  obtain rfl := sj hm
  exact DW.ret (Am [] [] (pB y1))
 ·rcases bt r1 with h2 | h2
  ·replace hm := Bc h2 hm
   obtain ⟨r3,hr3,hm⟩ := bo hm
   rcases bt (!r3) with h4 | h4
   ·replace hm := Bc h4 hm
    refine RK hnt (.no :: o65 [] true r1 :: nn 2 (o65 [] true r3 :: .no :: pT :: .no :: sk 3 (pT :: .no :: []))) [(4,pB true)] [] (an (Kj p0 r1 hr1) (an2 h2 (an (Kj p1 r3 hr3) (an2 h2 (an4 h4 tv))))) ?_
    exact jD true hm .refl
   ·replace hm := Bd h4 hm
    refine RK hnt (.no :: o65 [] true r1 :: nn 2 (o65 [] true r3 :: .no :: pT :: nn 4 (pF :: .no :: []))) [(4,pB (decide (p0 < p1)))] [] (an (Kj p0 r1 hr1) (an2 h2 (an (Kj p1 r3 hr3) (an2 h2 (an4 h4 tv))))) ?_
    exact jD (decide (p0 < p1)) hm .refl
  ·replace hm := Bd h2 hm
   refine RK hnt (.no :: o65 [] true r1 :: .no :: sk 3 (pF :: nn 4 (pF :: .no :: []))) [(4,pB (decide (p0 < p1)))] [] (an (Kj p0 r1 hr1) (an4 h2 (an4 ff tv))) ?_
   exact jD (decide (p0 < p1)) hm .refl
abbrev o64 (ks : List Nat) (b : Bool) (RES : Bool) (sm : List Nat := []) : Orc := .call 159 ks b (pB RES) [] [] sm

abbrev AbL (s4 : (List Int) × Int) := (s4.1.getD (Int.toNat (w64 (s4.2 - 1))) 0)
abbrev c63e2 (s4 : (List Int) × Int) := (Bo (Bo (elI s4.1) (Int.toNat s4.2) [vi (AbL s4)]) (Int.toNat (w64 (s4.2 - 1))) (setRange ((Bo (elI s4.1) (Int.toNat s4.2) [vi (AbL s4)]) (Int.toNat (w64 (s4.2 - 1)))) 0 [vi (s4.1.getD (Int.toNat s4.2) 0)]))
abbrev c63e3 (s4 : (List Int) × Int) := ((s4.1.set (Int.toNat s4.2) (AbL s4)).set (Int.toNat (w64 (s4.2 - 1))) (s4.1.getD (Int.toNat s4.2) 0))
theorem Px (p0 : List Int) (p1 : Int) (p2 : Int) (RES : List Int) (hm : Ev p0 p1 p2 = some RES) : Spec Tryz.prog 153 [ow 0 p0.length,pI p1,pI p2] [roI p0] (.p (.tup [])) [roI RES] [] := by
 unfold Ev at hm
 refine SO Tryz.func153 rfl rfl [(0,ow 0 p0.length),(1,pI p1),(2,pI p2)] [(0,ob0 (roI p0))] ?_
 intro cx hnt
 refine Sq (RD hnt (nn 3 []) [] [(6,pI (w64 (p1 + 1)))] [] [] tv ?_)
 refine Bk ?_
 obtain ⟨hc1,hm⟩ := go1 hm
 refine DW.forO (fun (k1 : Int) (s1 : List Int) => Ae [(0,ow 0 s1.length),(1,pI p1),(2,pI p2),(6,pI k1)] [(0,ob0 (roI s1))]) (lo := (w64 (p1 + 1))) (hi := p2) hm Conv.eqK ?_
 intro k1 s1 n1 hk1 hs1 he1
 refine Sq (Sq (RD hnt (nn 3 []) [] [(12,pB (decide (k1 < p2)))] [] [] tv ?_))
 refine Ej (decide (k1 < p2)) ?_ ?_
 ·intro h75
  have hlt1 : k1 < p2 := by have := of_decide_eq_true h75; omega
  have hm := hs1 hlt1
  unfold Hv at hm
  refine Sk ?_
  refine Sq (Bk ?_)
  refine Sq (RD hnt (nn 2 []) [12] [(7,pI k1)] [] [] tv ?_)
  refine Bk ?_
  refine DW.whileO (fun (s4 : (List Int) × Int) => Ae [(0,ow 0 s4.1.length),(1,pI p1),(2,pI p2),(6,pI k1),(7,pI s4.2)] [(0,ob0 (roI s4.1))]) hm Conv.eqK ?_
  intro s4 n4 hm
  unfold Hx at hm
  refine Sq (Sq ?_)
  refine Jn (ι := Bool) (fun (y6 : Bool) => Ae [(0,ow 0 s4.1.length),(1,pI p1),(2,pI p2),(6,pI k1),(7,pI s4.2),(30,pB y6)] [(0,ob0 (roI s4.1))]) (fun y6 => (Ed n1 s4 n4) y6 = some RES) ?_ ?_
  ·intro y6 hm
   unfold Ed at hm
   refine Aq hm ?_ ?_
   ·intro h97 hm
    refine Sk ?_
    refine Sq (Bk ?_)
    obtain ⟨g98,g99,g100,g101,hm⟩ := go4 hm
    obtain ⟨g102,g103,g104,g105,hm⟩ := go4 hm
    refine RN hnt (nn 18 []) [(0,ow 0 (c63e3 s4).length),(1,pI p1),(2,pI p2),(6,pI k1),(7,pI s4.2)] [(0,ob0 (roI (c63e3 s4)))] [(0,ow 0 s4.1.length)] [(0,.row 1 s4.1.length (c63e2 s4))] (an g98.1 (an g98.2 (an g99 (an g100.1 (an g100.2 (an g101 (an g102.1 (an g102.2 (an g103 (an g104.1 (an g104.2 (an g105 tv)))))))))))) (by kernel_rfl) (.cons rfl (MLe.ownLen (enc := Az) (d := 0) (f := (c63e2 s4)) (RowIs.updR (RowIs.upd RowIs.elems (AbL s4) rfl) (by omega) (s4.1.getD (Int.toNat s4.2) 0) rfl)) .nil) (.cons rfl (BLe.typed (RowIs.updR (RowIs.upd RowIs.elems (AbL s4) rfl) (by omega) (s4.1.getD (Int.toNat s4.2) 0) rfl)) .nil) ?_
    refine DW.done ?_
    show DW _ _ _ _ _
    refine RD hnt (nn 3 []) [] [(7,pI (w64 (s4.2 - 1)))] [] [] tv ?_
    exact jD ((c63e3 s4),(w64 (s4.2 - 1))) hm Conv.eqK
   ·intro h97 hm
    refine DW.exit ?_
    refine Ap ?_
    refine Au ?_
    refine Aj ?_
    show DW _ _ _ _ _
    refine DW.done ?_
    show DW _ _ _ _ _
    refine RD hnt (nn 3 []) [7,30] [(6,pI (w64 (k1 + 1)))] [] [] tv ?_
    exact jD s4.1 ⟨hlt1,hm⟩ (Conv.tp [(6,pI (w64 (k1 + 1)))] [] (by kernel_rfl) (.cons rfl (.of_eq (congrArg pI (Qd (lo := (w64 (p1 + 1))) (hi := p2) (by omega) hk1 hlt1 (by omega)))) .nil) .nil)
  ·rcases bt (decide (s4.2 > p1)) with h91 | h91
   ·replace hm := Bc h91 hm
    obtain ⟨g92,g93,g94,g95,hm⟩ := go4 hm
    obtain ⟨r96,hr96,hm⟩ := bo hm
    refine RD hnt (nn 13 (o64 [] true r96 :: pT :: [])) [] [(30,pB r96)] [] [] (an3 h91 (an g92.1 (an g92.2 (an h91 (an g93 (an4 h91 (an g94.1 (an g94.2 (an h91 (an g95 (an h91 (an (Cw (s4.1.getD (Int.toNat s4.2) 0) (AbL s4) r96 hr96) (an h91 tv))))))))))))) ?_
    exact jD r96 hm Conv.eqK
   ·replace hm := Bd h91 hm
    refine RD hnt (nn 4 (sk 10 (pF :: []))) [] [(30,pB false)] [] [] (an5 h91 (an6 h91 tv)) ?_
    exact jD false hm Conv.eqK
 ·intro h75
  have hge1 : ¬ k1 < p2 := by have := of_decide_eq_false h75; omega
  have hm := he1 hge1
  unfold Ks at hm
  refine DW.exit ?_
  refine Ap ?_
  refine Au ?_
  refine Aj ?_
  show DW _ _ _ _ _
  refine DW.done ?_
  obtain rfl := sj hm
  exact endK [roI s1] [] (.p (.tup []))
abbrev o63 (ks : List Nat) (b : Bool) (RES : List Int) (sm : List Nat := []) : Orc := .call 153 ks b (.p (.tup [])) [roI RES] [] sm

abbrev c67e1 (s1 : (List Int) × Int) (p3 : Int) (y4 : Int) := (Bo (Bo (elI s1.1) (Int.toNat (w64 (p3 + s1.2))) [vi (s1.1.getD (Int.toNat (w64 (p3 + y4))) 0)]) (Int.toNat (w64 (p3 + y4))) (setRange ((Bo (elI s1.1) (Int.toNat (w64 (p3 + s1.2))) [vi (s1.1.getD (Int.toNat (w64 (p3 + y4))) 0)]) (Int.toNat (w64 (p3 + y4)))) 0 [vi (s1.1.getD (Int.toNat (w64 (p3 + s1.2))) 0)]))
abbrev c67e2 (s1 : (List Int) × Int) (p3 : Int) (y4 : Int) := ((s1.1.set (Int.toNat (w64 (p3 + s1.2))) (s1.1.getD (Int.toNat (w64 (p3 + y4))) 0)).set (Int.toNat (w64 (p3 + y4))) (s1.1.getD (Int.toNat (w64 (p3 + s1.2))) 0))
abbrev Vz (s1 : (List Int) × Int) := (w64 ((w64 (2 * s1.2)) + 1))
theorem Lw (p0 : List Int) (p1 : Int) (p2 : Int) (p3 : Int) (RES : List Int) (hm : Fb p0 p1 p2 p3 = some RES) : Spec Tryz.prog 190 [ow 0 p0.length,pI p1,pI p2,pI p3] [roI p0] (.p (.tup [])) [roI RES] [] := by
 unfold Fb at hm
 refine SO Tryz.func190 rfl rfl [(0,ow 0 p0.length),(1,pI p1),(2,pI p2),(3,pI p3)] [(0,ob0 (roI p0))] ?_
 intro cx hnt
 refine Sq (RD hnt (nn 2 []) [1] [(8,pI p1)] [] [] tv ?_)
 refine Bk ?_
 refine DW.whileO (fun (s1 : (List Int) × Int) => Ae [(0,ow 0 s1.1.length),(2,pI p2),(3,pI p3),(8,pI s1.2)] [(0,ob0 (roI s1.1))]) hm Conv.eqK ?_
 intro s1 n1 hm
 unfold Jd at hm
 refine Bk ?_
 refine Sq (RD hnt (nn 4 []) [] [(9,pI (Vz s1))] [] [] tv ?_)
 refine Sq (Sq (RD hnt (nn 3 []) [] [(16,pB (decide ((Vz s1) ≥ p2)))] [] [] tv ?_))
 refine Aq hm ?_ ?_
 ·intro h23 hm
  refine DW.exit ?_
  refine Pn (by decide) ?_
  refine Au ?_
  refine Ap ?_
  refine Au ?_
  refine Aj ?_
  show DW _ _ _ _ _
  refine DW.done ?_
  obtain rfl := sj hm
  exact endK [roI s1.1] [] (.p (.tup []))
 ·intro h23 hm
  refine Sk ?_
  refine Sq (Sq ?_)
  refine Jn (ι := Bool) (fun (y3 : Bool) => Ae [(0,ow 0 s1.1.length),(2,pI p2),(3,pI p3),(8,pI s1.2),(9,pI (Vz s1)),(36,pB y3)] [(0,ob0 (roI s1.1))]) (fun y3 => (Ft p3 s1 n1) y3 = some RES) ?_ ?_
  ·intro y3 hm
   unfold Ft at hm
   refine Jn (ι := Int) (fun (y4 : Int) => Ae [(0,ow 0 s1.1.length),(2,pI p2),(3,pI p3),(8,pI s1.2),(9,pI y4)] [(0,ob0 (roI s1.1))]) (fun y4 => (Ee p3 s1 n1) y4 = some RES) ?_ ?_
   ·intro y4 hm
    unfold Ee at hm
    obtain ⟨g31,g32,g33,g34,hm⟩ := go4 hm
    obtain ⟨r35,hr35,hm⟩ := bo hm
    refine Sq (Sq (RD hnt (nn 12 (o64 [] true r35 :: .no :: [])) [] [(52,pB (!r35))] [] [] (an g31.1 (an g31.2 (an g32 (an g33.1 (an g33.2 (an g34 (an (Cw (s1.1.getD (Int.toNat (w64 (p3 + s1.2))) 0) (s1.1.getD (Int.toNat (w64 (p3 + y4))) 0) r35 hr35) tv))))))) ?_))
    refine Aq hm ?_ ?_
    ·intro h36 hm
     obtain rfl := sj hm
     exact DW.ret (Am [roI s1.1] [] (.p (.tup [])))
    ·intro h36 hm
     refine Sk ?_
     obtain ⟨g37,g38,g39,g40,hm⟩ := go4 hm
     obtain ⟨g41,g42,g43,g44,hm⟩ := go4 hm
     refine Sq (RN hnt (nn 24 []) [(0,ow 0 (c67e2 s1 p3 y4).length),(2,pI p2),(3,pI p3),(9,pI y4)] [(0,ob0 (roI (c67e2 s1 p3 y4)))] [(0,ow 0 s1.1.length)] [(0,.row 1 s1.1.length (c67e1 s1 p3 y4))] (an g37.1 (an g37.2 (an g38 (an g39.1 (an g39.2 (an g40 (an g41.1 (an g41.2 (an g42 (an g43.1 (an g43.2 (an g44 tv)))))))))))) (by kernel_rfl) (.cons rfl (MLe.ownLen (enc := Az) (d := 0) (f := (c67e1 s1 p3 y4)) (RowIs.updR (RowIs.upd RowIs.elems (s1.1.getD (Int.toNat (w64 (p3 + y4))) 0) rfl) (by omega) (s1.1.getD (Int.toNat (w64 (p3 + s1.2))) 0) rfl)) .nil) (.cons rfl (BLe.typed (RowIs.updR (RowIs.upd RowIs.elems (s1.1.getD (Int.toNat (w64 (p3 + y4))) 0) rfl) (by omega) (s1.1.getD (Int.toNat (w64 (p3 + s1.2))) 0) rfl)) .nil) ?_)
     refine RD hnt (nn 2 []) [9] [(8,pI y4)] [] [] tv ?_
     refine DW.done ?_
     show DW _ _ _ _ _
     exact jD ((c67e2 s1 p3 y4),y4) hm Conv.eqK
   ·refine Aq hm ?_ ?_
    ·intro h30 hm
     refine RD hnt (nn 3 []) [36] [(9,pI (w64 ((Vz s1) + 1)))] [] [] tv ?_
     exact jD (w64 ((Vz s1) + 1)) hm Conv.eqK
    ·intro h30 hm
     refine Sk ?_
     exact jD (Vz s1) hm Conv.t0
  ·rcases bt (decide ((w64 ((Vz s1) + 1)) < p2)) with h24 | h24
   ·replace hm := Bc h24 hm
    obtain ⟨g25,g26,g27,g28,hm⟩ := go4 hm
    obtain ⟨r29,hr29,hm⟩ := bo hm
    refine RD hnt (nn 18 (o64 [] true r29 :: pT :: [])) [16] [(36,pB r29)] [] [] (an5 h24 (an g25.1 (an g25.2 (an h24 (an g26 (an6 h24 (an g27.1 (an g27.2 (an h24 (an g28 (an h24 (an (Cw (s1.1.getD (Int.toNat (w64 (p3 + (Vz s1)))) 0) (s1.1.getD (Int.toNat (w64 ((w64 (p3 + (Vz s1))) + 1))) 0) r29 hr29) (an h24 tv))))))))))))) ?_
    exact jD r29 hm Conv.eqK
   ·replace hm := Bd h24 hm
    refine RD hnt (nn 5 (sk 14 (pF :: []))) [16] [(36,pB false)] [] [] (an3 h24 (an6 h24 (an6 h24 tv))) ?_
    exact jD false hm Conv.eqK
abbrev o67 (ks : List Nat) (b : Bool) (RES : List Int) (sm : List Nat := []) : Orc := .call 190 ks b (.p (.tup [])) [roI RES] [] sm

abbrev c66e1 (s3 : (List Int) × Int) (p1 : Int) := ((s3.1.set (Int.toNat p1) (s3.1.getD (Int.toNat (w64 (p1 + s3.2))) 0)).set (Int.toNat (w64 (p1 + s3.2))) (s3.1.getD (Int.toNat p1) 0))
abbrev c66e2 (s3 : (List Int) × Int) (p1 : Int) := (Bo (Bo (elI s3.1) (Int.toNat p1) [vi (s3.1.getD (Int.toNat (w64 (p1 + s3.2))) 0)]) (Int.toNat (w64 (p1 + s3.2))) (setRange ((Bo (elI s3.1) (Int.toNat p1) [vi (s3.1.getD (Int.toNat (w64 (p1 + s3.2))) 0)]) (Int.toNat (w64 (p1 + s3.2)))) 0 [vi (s3.1.getD (Int.toNat p1) 0)]))
theorem Sh (p0 : List Int) (p1 : Int) (p2 : Int) (RES : List Int) (hm : Gh p0 p1 p2 = some RES) : Spec Tryz.prog 154 [ow 0 p0.length,pI p1,pI p2] [roI p0] (.p (.tup [])) [roI RES] [] := by
 unfold Gh at hm
 refine SO Tryz.func154 rfl rfl [(0,ow 0 p0.length),(1,pI p1),(2,pI p2)] [(0,ob0 (roI p0))] ?_
 intro cx hnt
 refine Sq (RD hnt (nn 2 []) [] [(6,pI p1)] [] [] tv ?_)
 refine Sq (RD hnt (.no :: []) [] [(7,pI 0)] [] [] tv ?_)
 refine Sq (RD hnt (nn 4 []) [1,2] [(8,pI (w64 (p2 - p1)))] [] [] tv ?_)
 refine Sq (Sq (RD hnt (nn 4 []) [] [(9,pI (w64 (Int.tdiv (w64 ((w64 (p2 - p1)) - 1)) 2)))] [] [] (an (by decide : (2 : Int) ≠ 0) tv) ?_))
 refine Bk ?_
 refine DW.whileO (fun (s1 : (List Int) × Int) => Ae [(0,ow 0 s1.1.length),(6,pI p1),(7,pI 0),(8,pI (w64 (p2 - p1))),(9,pI s1.2)] [(0,ob0 (roI s1.1))]) hm Conv.eqK ?_
 intro s1 n1 hm
 unfold Ji at hm
 refine Sq (Sq (RD hnt (nn 2 []) [] [(19,pB (decide (s1.2 ≥ 0)))] [] [] tv ?_))
 refine Aq hm ?_ ?_
 ·intro h26 hm
  refine Sk ?_
  refine Sq (Bk ?_)
  obtain ⟨r27,hr27,hm⟩ := bo hm
  obtain ⟨g28,hm⟩ := go1 hm
  refine RN hnt (nn 4 (o67 [0] true r27 :: [])) [(0,ow 0 r27.length),(6,pI p1),(7,pI 0),(8,pI (w64 (p2 - p1))),(9,pI s1.2)] [(0,ob0 (roI r27))] [(0,ow 0 s1.1.length)] [] (an (Lw s1.1 s1.2 (w64 (p2 - p1)) p1 r27 hr27) (an (⟨rfl,g28⟩ : Body.same (roI s1.1) (roI r27)) tv)) (by kernel_rfl) (.cons rfl (MLe.of_eq (congrArg (MV.own 0 0 0) g28)) .nil) .nil ?_
  refine DW.done ?_
  show DW _ _ _ _ _
  refine RD hnt (nn 3 []) [] [(9,pI (w64 (s1.2 - 1)))] [] [] tv ?_
  exact jD (r27,(w64 (s1.2 - 1))) hm Conv.eqK
 ·intro h26 hm
  refine DW.exit ?_
  refine Ap ?_
  refine Au ?_
  refine Aj ?_
  show DW _ _ _ _ _
  refine Sq (RD hnt (nn 3 []) [8,9,19] [(10,pI (w64 ((w64 (p2 - p1)) - 1)))] [] [] tv ?_)
  refine Bk ?_
  refine DW.whileO (fun (s3 : (List Int) × Int) => Ae [(0,ow 0 s3.1.length),(6,pI p1),(7,pI 0),(10,pI s3.2)] [(0,ob0 (roI s3.1))]) hm Conv.eqK ?_
  intro s3 n3 hm
  unfold Jh at hm
  refine Sq (Sq (RD hnt (nn 2 []) [] [(30,pB (decide (s3.2 ≥ 0)))] [] [] tv ?_))
  refine Aq hm ?_ ?_
  ·intro h40 hm
   refine Sk ?_
   refine Sq (Bk ?_)
   obtain ⟨g41,g42,g43,g44,hm⟩ := go4 hm
   obtain ⟨g45,g46,g47,g48,hm⟩ := go4 hm
   refine Sq (RN hnt (nn 20 []) [(0,ow 0 (c66e1 s3 p1).length),(6,pI p1),(7,pI 0),(10,pI s3.2)] [(0,ob0 (roI (c66e1 s3 p1)))] [(0,ow 0 s3.1.length)] [(0,.row 1 s3.1.length (c66e2 s3 p1))] (an g41.1 (an g41.2 (an g42 (an g43.1 (an g43.2 (an g44 (an g45.1 (an g45.2 (an g46 (an g47.1 (an g47.2 (an g48 tv)))))))))))) (by kernel_rfl) (.cons rfl (MLe.ownLen (enc := Az) (d := 0) (f := (c66e2 s3 p1)) (RowIs.updR (RowIs.upd RowIs.elems (s3.1.getD (Int.toNat (w64 (p1 + s3.2))) 0) rfl) (by omega) (s3.1.getD (Int.toNat p1) 0) rfl)) .nil) (.cons rfl (BLe.typed (RowIs.updR (RowIs.upd RowIs.elems (s3.1.getD (Int.toNat (w64 (p1 + s3.2))) 0) rfl) (by omega) (s3.1.getD (Int.toNat p1) 0) rfl)) .nil) ?_)
   obtain ⟨r49,hr49,hm⟩ := bo hm
   obtain ⟨g50,hm⟩ := go1 hm
   refine RN hnt (nn 4 (o67 [0] true r49 :: [])) [(0,ow 0 r49.length),(6,pI p1),(7,pI 0),(10,pI s3.2)] [(0,ob0 (roI r49))] [(0,ow 0 (c66e1 s3 p1).length)] [] (an (Lw (c66e1 s3 p1) 0 s3.2 p1 r49 hr49) (an (⟨rfl,g50⟩ : Body.same (roI (c66e1 s3 p1)) (roI r49)) tv)) (by kernel_rfl) (.cons rfl (MLe.of_eq (congrArg (MV.own 0 0 0) g50)) .nil) .nil ?_
   refine DW.done ?_
   show DW _ _ _ _ _
   refine RD hnt (nn 3 []) [] [(10,pI (w64 (s3.2 - 1)))] [] [] tv ?_
   exact jD (r49,(w64 (s3.2 - 1))) hm Conv.eqK
  ·intro h40 hm
   refine DW.exit ?_
   refine Ap ?_
   refine Au ?_
   refine Aj ?_
   show DW _ _ _ _ _
   refine DW.done ?_
   obtain rfl := sj hm
   exact endK [roI s3.1] [] (.p (.tup []))
abbrev o66 (ks : List Nat) (b : Bool) (RES : List Int) (sm : List Nat := []) : Orc := .call 154 ks b (.p (.tup [])) [roI RES] [] sm

theorem Je (p0 : List Int) (p1 : Int) (p2 : Int) (p3 : Int) (RES : Int × Int × Int) (hm : Eo p0 p1 p2 p3 = some RES) : Spec Tryz.prog 205 [.p (slI p0),pI p1,pI p2,rr 0] [.box [pI p3]] (.p (.tup [vi RES.1,vi RES.2.1])) [.box [pI RES.2.2]] [] := by
 unfold Eo at hm
 refine SO Tryz.func205 rfl rfl [(0,.p (slI p0)),(1,pI p1),(2,pI p2),(3,rr 0)] [(0,bx [pI p3])] ?_
 intro cx hnt
 refine Sq (RD hnt (nn 2 []) [] [] [] [] tv ?_)
 obtain ⟨g1,g2,hm⟩ := go2 hm
 obtain ⟨r3,hr3,hm⟩ := bo hm
 refine Sq (Sq (RD hnt (nn 8 (o64 [] true r3 :: [])) [0] [(18,pB r3)] [] [] (an g1.1 (an g1.2 (an g2.1 (an g2.2 (an (Cw (p0.getD (Int.toNat p2) 0) (p0.getD (Int.toNat p1) 0) r3 hr3) tv))))) ?_))
 refine Aq hm ?_ ?_
 ·intro h4 hm
  refine Sq (RD hnt (nn 6 []) [3,18] [] [] [(0,bx [pI (w64 (p3 + 1))])] tv ?_)
  refine Sq (RD hnt (nn 4 []) [1,2] [(8,pI p2),(9,pI p1)] [] [] tv ?_)
  obtain rfl := sj hm
  exact DW.ret (Am [.box [pI (w64 (p3 + 1))]] [] (.p (.tup [vi p2,vi p1])))
 ·intro h4 hm
  refine Sk ?_
  refine Sq (RK hnt (nn 4 []) [(8,pI p1),(9,pI p2)] [(0,bx [pI p3])] tv ?_)
  obtain rfl := sj hm
  exact DW.ret (Am [.box [pI p3]] [] (.p (.tup [vi p1,vi p2])))
abbrev o71 (ks : List Nat) (b : Bool) (RES : Int × Int × Int) (sm : List Nat := []) : Orc := .call 205 ks b (.p (.tup [vi RES.1,vi RES.2.1])) [.box [pI RES.2.2]] [] sm

theorem Mv (p0 : List Int) (p1 : Int) (p2 : Int) (p3 : Int) (p4 : Int) (RES : Int × Int) (hm : Fu p0 p1 p2 p3 p4 = some RES) : Spec Tryz.prog 194 [.p (slI p0),pI p1,pI p2,pI p3,rr 0] [.box [pI p4]] (pI RES.1) [.box [pI RES.2]] [] := by
 unfold Fu at hm
 refine SO Tryz.func194 rfl rfl [(0,.p (slI p0)),(1,pI p1),(2,pI p2),(3,pI p3),(4,rr 0)] [(0,bx [pI p4])] ?_
 intro cx hnt
 refine Sq (RD hnt (.no :: []) [] [] [] [] tv ?_)
 obtain ⟨r1,hr1,hm⟩ := bo hm
 refine Sq (RD hnt (nn 4 (o71 [0] true r1 :: nn 5 [])) [] [(1,pI r1.1),(2,pI r1.2.1)] [] [(0,bx [pI r1.2.2])] (an (Je p0 p1 p2 p4 r1 hr1) (an tv tv)) ?_)
 obtain ⟨r2,hr2,hm⟩ := bo hm
 refine Sq (RD hnt (nn 4 (o71 [0] true r2 :: nn 5 [])) [3] [(2,pI r2.1)] [] [(0,bx [pI r2.2.2])] (an (Je p0 r1.2.1 p3 r1.2.2 r2 hr2) (an tv tv)) ?_)
 obtain ⟨r3,hr3,hm⟩ := bo hm
 refine Sq (RK hnt (nn 4 (o71 [0] true r3 :: nn 5 [])) [(2,pI r3.2.1)] [(0,bx [pI r3.2.2])] (an (Je p0 r1.1 r2.1 r2.2.2 r3 hr3) (an tv tv)) ?_)
 refine Sq (RD hnt (nn 2 []) [2] [(10,pI r3.2.1)] [] [] tv ?_)
 obtain rfl := sj hm
 exact DW.ret (Am [.box [pI r3.2.2]] [] (pI r3.2.1))
abbrev o70 (ks : List Nat) (b : Bool) (RES : Int × Int) (sm : List Nat := []) : Orc := .call 194 ks b (pI RES.1) [.box [pI RES.2]] [] sm

theorem Hb (p0 : List Int) (p1 : Int) (p2 : Int) (RES : Int × Int) (hm : Cn p0 p1 p2 = some RES) : Spec Tryz.prog 193 [.p (slI p0),pI p1,rr 0] [.box [pI p2]] (pI RES.1) [.box [pI RES.2]] [] := by
 unfold Cn at hm
 refine SO Tryz.func193 rfl rfl [(0,.p (slI p0)),(1,pI p1),(2,rr 0)] [(0,bx [pI p2])] ?_
 intro cx hnt
 refine Sq (RD hnt (.no :: []) [] [] [] [] tv ?_)
 obtain ⟨r1,hr1,hm⟩ := bo hm
 refine Sq (RK hnt (nn 7 (o70 [0] true r1 :: .no :: [])) [(6,pI r1.1)] [(0,bx [pI r1.2])] (an (Mv p0 (w64 (p1 - 1)) p1 (w64 (p1 + 1)) p2 r1 hr1) (an tv tv)) ?_)
 obtain rfl := sj hm
 exact DW.ret (Am [.box [pI r1.2]] [] (pI r1.1))
abbrev o69 (ks : List Nat) (b : Bool) (RES : Int × Int) (sm : List Nat := []) : Orc := .call 193 ks b (pI RES.1) [.box [pI RES.2]] [] sm

abbrev Yp (p2 : Int) (p1 : Int) := (w64 (Int.tdiv (w64 (p2 - p1)) 4))
abbrev c68e2 (p1 : Int) (p2 : Int) := (w64 (p1 + (w64 ((Yp p2 p1) * 2))))
theorem Qr (p0 : List Int) (p1 : Int) (p2 : Int) (RES : Int × Int) (hm : Fo p0 p1 p2 = some RES) : Spec Tryz.prog 156 [.p (slI p0),pI p1,pI p2] [] (.p (.tup [vi RES.1,vi RES.2])) [] [] := by
 unfold Fo at hm
 refine SO Tryz.func156 rfl rfl [(0,.p (slI p0)),(1,pI p1),(2,pI p2)] [] ?_
 intro cx hnt
 refine Sq (RD hnt (nn 2 []) [] [] [] [] tv ?_)
 refine Sq (RD hnt (nn 4 []) [2] [(8,pI (w64 (p2 - p1)))] [] [] tv ?_)
 refine Sq (RD hnt (.no :: []) [] [(9,rr 1072)] [] [(1072,bx [pI 0])] tv ?_)
 refine Sq (RD hnt (nn 6 []) [] [(10,pI (w64 (p1 + (w64 ((Yp p2 p1) * 1)))))] [] [] (an (by decide : (4 : Int) ≠ 0) tv) ?_)
 refine Sq (RD hnt (nn 6 []) [] [(11,pI (c68e2 p1 p2))] [] [] (an (by decide : (4 : Int) ≠ 0) tv) ?_)
 refine Sq (RD hnt (nn 6 []) [1] [(12,pI (w64 (p1 + (w64 ((Yp p2 p1) * 3)))))] [] [] (an (by decide : (4 : Int) ≠ 0) tv) ?_)
 refine Sq (Sq (RD hnt (nn 2 []) [] [(32,pB (decide ((w64 (p2 - p1)) ≥ 8)))] [] [] tv ?_))
 refine Jn (ι := Int × Int) (fun (y1 : Int × Int) => Ae [(9,rr 1072),(11,pI y1.2)] [(1072,bx [pI y1.1])]) (fun y1 => Dn y1 = some RES) ?_ ?_
 ·intro y1 hm
  unfold Dn at hm
  refine Sq (RK hnt (.no :: []) [(11,pI y1.2),(49,pI y1.1)] [] tv ?_)
  refine Bk ?_
  refine Sq (RD hnt (nn 2 []) [] [(51,pB (y1.1 == 0))] [] [] tv ?_)
  refine Aq hm ?_ ?_
  ·intro h7 hm
   refine Sq (RK hnt (nn 3 []) [(6,pI y1.2),(7,pI 1)] [] tv ?_)
   obtain rfl := sj hm
   exact DW.ret (Am [] [] (.p (.tup [vi y1.2,vi 1])))
  ·intro h7 hm
   refine Sq (RK hnt (nn 2 []) [(11,pI y1.2),(54,pB (y1.1 == 12))] [] tv ?_)
   refine Aq hm ?_ ?_
   ·intro h8 hm
    refine Sq (RK hnt (nn 3 []) [(6,pI y1.2),(7,pI 2)] [] tv ?_)
    obtain rfl := sj hm
    exact DW.ret (Am [] [] (.p (.tup [vi y1.2,vi 2])))
   ·intro h8 hm
    refine Sq (RK hnt (nn 3 []) [(6,pI y1.2),(7,pI 0)] [] tv ?_)
    obtain rfl := sj hm
    exact DW.ret (Am [] [] (.p (.tup [vi y1.2,vi 0])))
 ·refine Aq hm ?_ ?_
  ·intro h1 hm
   refine Sq (Sq (RD hnt (nn 2 []) [8,32] [(34,pB (decide ((w64 (p2 - p1)) ≥ 50)))] [] [] tv ?_))
   refine Jn (ι := Int × Int × Int × Int) (fun (y2 : Int × Int × Int × Int) => Ae [(0,.p (slI p0)),(9,rr 1072),(10,pI y2.2.1),(11,pI y2.2.2.1),(12,pI y2.2.2.2)] [(1072,bx [pI y2.1])]) (fun y2 => (Dl p0) y2 = some RES) ?_ ?_
   ·intro y2 hm
    unfold Dl at hm
    obtain ⟨r6,hr6,hm⟩ := bo hm
    refine RK hnt (nn 4 (o70 [1072] true r6 :: .no :: [])) [(9,rr 1072),(11,pI r6.1)] [(1072,bx [pI r6.2])] (an (Mv p0 y2.2.1 y2.2.2.1 y2.2.2.2 y2.1 r6 hr6) (an tv tv)) ?_
    exact jD (r6.2,r6.1) hm .refl
   ·refine Aq hm ?_ ?_
    ·intro h2 hm
     obtain ⟨r3,hr3,hm⟩ := bo hm
     refine Sq (RK hnt (nn 2 (o69 [1072] true r3 :: .no :: [])) [(0,.p (slI p0)),(9,rr 1072),(10,pI r3.1),(11,pI (c68e2 p1 p2)),(12,pI (w64 (p1 + (w64 ((Yp p2 p1) * 3)))))] [(1072,bx [pI r3.2])] (an (Hb p0 (w64 (p1 + (w64 ((Yp p2 p1) * 1)))) 0 r3 hr3) (an tv tv)) ?_)
     obtain ⟨r4,hr4,hm⟩ := bo hm
     refine Sq (RD hnt (nn 2 (o69 [1072] true r4 :: .no :: [])) [] [(11,pI r4.1)] [] [(1072,bx [pI r4.2])] (an (Hb p0 (c68e2 p1 p2) r3.2 r4 hr4) (an tv tv)) ?_)
     obtain ⟨r5,hr5,hm⟩ := bo hm
     refine RD hnt (nn 2 (o69 [1072] true r5 :: .no :: [])) [] [(12,pI r5.1)] [] [(1072,bx [pI r5.2])] (an (Hb p0 (w64 (p1 + (w64 ((Yp p2 p1) * 3)))) r4.2 r5 hr5) (an tv tv)) ?_
     exact jD (r5.2,r3.1,r4.1,r5.1) hm Conv.eqK
    ·intro h2 hm
     refine Sk ?_
     exact jD (0,(w64 (p1 + (w64 ((Yp p2 p1) * 1)))),(c68e2 p1 p2),(w64 (p1 + (w64 ((Yp p2 p1) * 3))))) hm Conv.t0
  ·intro h1 hm
   refine Sk ?_
   exact jD (0,(c68e2 p1 p2)) hm Conv.t0
abbrev o68 (ks : List Nat) (b : Bool) (RES : Int × Int) (sm : List Nat := []) : Orc := .call 156 ks b (.p (.tup [vi RES.1,vi RES.2])) [] [] sm

abbrev c72e1 (s1 : (List Int) × Int × Int) := (Bo (Bo (elI s1.1) (Int.toNat s1.2.1) [vi (s1.1.getD (Int.toNat s1.2.2) 0)]) (Int.toNat s1.2.2) (setRange ((Bo (elI s1.1) (Int.toNat s1.2.1) [vi (s1.1.getD (Int.toNat s1.2.2) 0)]) (Int.toNat s1.2.2)) 0 [vi (s1.1.getD (Int.toNat s1.2.1) 0)]))
abbrev c72e2 (s1 : (List Int) × Int × Int) := ((s1.1.set (Int.toNat s1.2.1) (s1.1.getD (Int.toNat s1.2.2) 0)).set (Int.toNat s1.2.2) (s1.1.getD (Int.toNat s1.2.1) 0))
theorem Qk (p0 : List Int) (p1 : Int) (p2 : Int) (RES : List Int) (hm : Fm p0 p1 p2 = some RES) : Spec Tryz.prog 157 [ow 0 p0.length,pI p1,pI p2] [roI p0] (.p (.tup [])) [roI RES] [] := by
 unfold Fm at hm
 refine SO Tryz.func157 rfl rfl [(0,ow 0 p0.length),(1,pI p1),(2,pI p2)] [(0,ob0 (roI p0))] ?_
 intro cx hnt
 refine Sq (RD hnt (nn 2 []) [1] [(6,pI p1)] [] [] tv ?_)
 refine Sq (RD hnt (nn 3 []) [2] [(7,pI (w64 (p2 - 1)))] [] [] tv ?_)
 refine Bk ?_
 refine DW.whileO (fun (s1 : (List Int) × Int × Int) => Ae [(0,ow 0 s1.1.length),(6,pI s1.2.1),(7,pI s1.2.2)] [(0,ob0 (roI s1.1))]) hm Conv.eqK ?_
 intro s1 n1 hm
 unfold Ib at hm
 refine Sq (Sq (RD hnt (nn 3 []) [] [(13,pB (decide (s1.2.1 < s1.2.2)))] [] [] tv ?_))
 refine Aq hm ?_ ?_
 ·intro h10 hm
  refine Sk ?_
  refine Bk ?_
  obtain ⟨g11,g12,g13,g14,hm⟩ := go4 hm
  obtain ⟨g15,g16,g17,g18,hm⟩ := go4 hm
  refine Sq (RN hnt (nn 16 []) [(0,ow 0 (c72e2 s1).length),(6,pI s1.2.1),(7,pI s1.2.2)] [(0,ob0 (roI (c72e2 s1)))] [(0,ow 0 s1.1.length)] [(0,.row 1 s1.1.length (c72e1 s1))] (an g11.1 (an g11.2 (an g12 (an g13.1 (an g13.2 (an g14 (an g15.1 (an g15.2 (an g16 (an g17.1 (an g17.2 (an g18 tv)))))))))))) (by kernel_rfl) (.cons rfl (MLe.ownLen (enc := Az) (d := 0) (f := (c72e1 s1)) (RowIs.updR (RowIs.upd RowIs.elems (s1.1.getD (Int.toNat s1.2.2) 0) rfl) (by omega) (s1.1.getD (Int.toNat s1.2.1) 0) rfl)) .nil) (.cons rfl (BLe.typed (RowIs.updR (RowIs.upd RowIs.elems (s1.1.getD (Int.toNat s1.2.2) 0) rfl) (by omega) (s1.1.getD (Int.toNat s1.2.1) 0) rfl)) .nil) ?_)
  refine Sq (RD hnt (nn 3 []) [] [(6,pI (w64 (s1.2.1 + 1)))] [] [] tv ?_)
  refine RD hnt (nn 3 []) [] [(7,pI (w64 (s1.2.2 - 1)))] [] [] tv ?_
  refine DW.done ?_
  show DW _ _ _ _ _
  exact jD ((c72e2 s1),(w64 (s1.2.1 + 1)),(w64 (s1.2.2 - 1))) hm Conv.eqK
 ·intro h10 hm
  refine DW.exit ?_
  refine Ap ?_
  refine Au ?_
  refine Aj ?_
  show DW _ _ _ _ _
  refine DW.done ?_
  obtain rfl := sj hm
  exact endK [roI s1.1] [] (.p (.tup []))
abbrev o72 (ks : List Nat) (b : Bool) (RES : List Int) (sm : List Nat := []) : Orc := .call 157 ks b (.p (.tup [])) [roI RES] [] sm

abbrev AbJ (s15 : (List Int) × Int) := (s15.1.getD (Int.toNat (w64 (s15.2 - 1))) 0)
abbrev c73e2 (s1 : (List Int) × Int) (s12 : Int) := (Bo (Bo (elI s1.1) (Int.toNat s12) [vi (s1.1.getD (Int.toNat (w64 (s12 - 1))) 0)]) (Int.toNat (w64 (s12 - 1))) (setRange ((Bo (elI s1.1) (Int.toNat s12) [vi (s1.1.getD (Int.toNat (w64 (s12 - 1))) 0)]) (Int.toNat (w64 (s12 - 1)))) 0 [vi (s1.1.getD (Int.toNat s12) 0)]))
abbrev c73e3 (s16 : List Int) (k16 : Int) := (Bo (Bo (elI s16) (Int.toNat k16) [vi (s16.getD (Int.toNat (w64 (k16 - 1))) 0)]) (Int.toNat (w64 (k16 - 1))) (setRange ((Bo (elI s16) (Int.toNat k16) [vi (s16.getD (Int.toNat (w64 (k16 - 1))) 0)]) (Int.toNat (w64 (k16 - 1)))) 0 [vi (s16.getD (Int.toNat k16) 0)]))
abbrev c73e4 (s1 : (List Int) × Int) (s12 : Int) := ((s1.1.set (Int.toNat s12) (s1.1.getD (Int.toNat (w64 (s12 - 1))) 0)).set (Int.toNat (w64 (s12 - 1))) (s1.1.getD (Int.toNat s12) 0))
abbrev c73e5 (s16 : List Int) (k16 : Int) := ((s16.set (Int.toNat k16) (s16.getD (Int.toNat (w64 (k16 - 1))) 0)).set (Int.toNat (w64 (k16 - 1))) (s16.getD (Int.toNat k16) 0))
abbrev c73e6 (s15 : (List Int) × Int) := (Bo (Bo (elI s15.1) (Int.toNat s15.2) [vi (AbJ s15)]) (Int.toNat (w64 (s15.2 - 1))) (setRange ((Bo (elI s15.1) (Int.toNat s15.2) [vi (AbJ s15)]) (Int.toNat (w64 (s15.2 - 1)))) 0 [vi (s15.1.getD (Int.toNat s15.2) 0)]))
abbrev c73e7 (s15 : (List Int) × Int) := ((s15.1.set (Int.toNat s15.2) (AbJ s15)).set (Int.toNat (w64 (s15.2 - 1))) (s15.1.getD (Int.toNat s15.2) 0))
theorem Mn (p0 : List Int) (p1 : Int) (p2 : Int) (RES : Bool × (List Int)) (hm : Dg p0 p1 p2 = some RES) : Spec Tryz.prog 158 [ow 0 p0.length,pI p1,pI p2] [roI p0] (pB RES.1) [roI RES.2] [] := by
 unfold Dg at hm
 refine SO Tryz.func158 rfl rfl [(0,ow 0 p0.length),(1,pI p1),(2,pI p2)] [(0,ob0 (roI p0))] ?_
 intro cx hnt
 refine Sq (RD hnt (.no :: []) [] [] [] [] tv ?_)
 refine Sq (RD hnt (nn 3 []) [] [(7,pI (w64 (p1 + 1)))] [] [] tv ?_)
 refine Sq (Sq (RD hnt (.no :: []) [] [(8,pI 0)] [] [] tv ?_))
 refine Bk ?_
 refine DW.forO (fun (k1 : Int) (s1 : (List Int) × Int) => Ae [(0,ow 0 s1.1.length),(1,pI p1),(2,pI p2),(7,pI s1.2),(8,pI k1)] [(0,ob0 (roI s1.1))]) (lo := 0) (hi := 5) hm Conv.eqK ?_
 intro k1 s1 n1 hk1 hs1 he1
 refine Sq (Sq (RD hnt (nn 2 []) [] [(14,pB (decide (k1 < 5)))] [] [] tv ?_))
 refine Ej (decide (k1 < 5)) ?_ ?_
 ·intro h391
  have hlt1 : k1 < 5 := by have := of_decide_eq_true h391; omega
  have hm := hs1 hlt1
  unfold Gf at hm
  refine Sk ?_
  refine Sq ?_
  refine Jn (ι := (List Int) × Int) (fun (y11 : (List Int) × Int) => Ae [(0,ow 0 y11.1.length),(1,pI p1),(2,pI p2),(7,pI y11.2),(8,pI k1)] [(0,ob0 (roI y11.1))]) (fun y11 => (Bq n1) y11 = some RES) ?_ ?_
  ·intro y11 hm
   unfold Bq at hm
   refine RD hnt (nn 3 []) [] [(8,pI (w64 (k1 + 1)))] [] [] tv ?_
   exact jD (y11.1,y11.2) ⟨hlt1,hm⟩ (Conv.tp [(8,pI (w64 (k1 + 1)))] [] (by kernel_rfl) (.cons rfl (.of_eq (congrArg pI (Qd (lo := 0) (hi := 5) (by omega) hk1 hlt1 (by omega)))) .nil) .nil)
  ·refine Bk ?_
   refine Sq (Bk ?_)
   refine DW.whileO (fun (s12 : Int) => Ae [(0,ow 0 s1.1.length),(1,pI p1),(2,pI p2),(7,pI s12),(8,pI k1)] [(0,ob0 (roI s1.1))]) hm Conv.t0 ?_
   intro s12 n12 hm
   unfold Gb at hm
   refine Sq (Sq ?_)
   refine Jn (ι := Bool) (fun (y14 : Bool) => Ae [(0,ow 0 s1.1.length),(1,pI p1),(2,pI p2),(7,pI s12),(8,pI k1),(32,pB y14)] [(0,ob0 (roI s1.1))]) (fun y14 => (Bp p1 p2 s1 n1 s12 n12) y14 = some RES) ?_ ?_
   ·intro y14 hm
    unfold Bp at hm
    refine Aq hm ?_ ?_
    ·intro h492 hm
     refine Sk ?_
     refine Bk ?_
     refine RD hnt (nn 3 []) [32] [(7,pI (w64 (s12 + 1)))] [] [] tv ?_
     refine DW.done ?_
     show DW _ _ _ _ _
     exact jD (w64 (s12 + 1)) hm Conv.eqK
    ·intro h492 hm
     refine DW.exit ?_
     refine Ap ?_
     refine Au ?_
     refine Aj ?_
     show DW _ _ _ _ _
     refine Sq (Sq (RD hnt (nn 3 []) [32] [(37,pB (s12 == p2))] [] [] tv ?_))
     refine Aq hm ?_ ?_
     ·intro h493 hm
      refine Sq (RK hnt (.no :: []) [(6,pB true)] [(0,ob0 (roI s1.1))] tv ?_)
      obtain rfl := sj hm
      exact DW.ret (Am [roI s1.1] [] (pB true))
     ·intro h493 hm
      refine Sk ?_
      refine Sq (Sq (RD hnt (nn 4 []) [37] [(41,pB (decide ((w64 (p2 - p1)) < 50)))] [] [] tv ?_))
      refine Aq hm ?_ ?_
      ·intro h494 hm
       refine Sq (RK hnt (.no :: []) [(6,pB false)] [(0,ob0 (roI s1.1))] tv ?_)
       obtain rfl := sj hm
       exact DW.ret (Am [roI s1.1] [] (pB false))
      ·intro h494 hm
       refine Sk ?_
       obtain ⟨g495,g496,g497,g498,hm⟩ := go4 hm
       obtain ⟨g499,g500,g501,g502,hm⟩ := go4 hm
       refine Sq (RN hnt (nn 18 []) [(0,ow 0 (c73e4 s1 s12).length),(1,pI p1),(2,pI p2),(7,pI s12),(8,pI k1)] [(0,ob0 (roI (c73e4 s1 s12)))] [(0,ow 0 s1.1.length)] [(0,.row 1 s1.1.length (c73e2 s1 s12))] (an g495.1 (an g495.2 (an g496 (an g497.1 (an g497.2 (an g498 (an g499.1 (an g499.2 (an g500 (an g501.1 (an g501.2 (an g502 tv)))))))))))) (by kernel_rfl) (.cons rfl (MLe.ownLen (enc := Az) (d := 0) (f := (c73e2 s1 s12)) (RowIs.updR (RowIs.upd RowIs.elems (s1.1.getD (Int.toNat (w64 (s12 - 1))) 0) rfl) (by omega) (s1.1.getD (Int.toNat s12) 0) rfl)) .nil) (.cons rfl (BLe.typed (RowIs.updR (RowIs.upd RowIs.elems (s1.1.getD (Int.toNat (w64 (s12 - 1))) 0) rfl) (by omega) (s1.1.getD (Int.toNat s12) 0) rfl)) .nil) ?_)
       refine Sq (Sq (RD hnt (nn 4 []) [] [(61,pB (decide ((w64 (s12 - p1)) ≥ 2)))] [] [] tv ?_))
       refine Jn (ι := List Int) (fun (y15 : List Int) => Ae [(0,ow 0 y15.length),(1,pI p1),(2,pI p2),(7,pI s12),(8,pI k1)] [(0,ob0 (roI y15))]) (fun y15 => (Bj p2 n1 s12) y15 = some RES) ?_ ?_
       ·intro y15 hm
        unfold Bj at hm
        refine Sq (RD hnt (nn 4 []) [] [(98,pB (decide ((w64 (p2 - s12)) ≥ 2)))] [] [] tv ?_)
        refine Aq hm ?_ ?_
        ·intro h534 hm
         refine Sq (RD hnt (nn 3 []) [98] [(10,pI (w64 (s12 + 1)))] [] [] tv ?_)
         refine Bk ?_
         obtain ⟨hc16,hm⟩ := go1 hm
         refine DW.forO (fun (k16 : Int) (s16 : List Int) => Ae [(0,ow 0 s16.length),(1,pI p1),(2,pI p2),(7,pI s12),(8,pI k1),(10,pI k16)] [(0,ob0 (roI s16))]) (lo := (w64 (s12 + 1))) (hi := p2) hm Conv.eqK ?_
         intro k16 s16 n16 hk16 hs16 he16
         refine Sq (Sq (RD hnt (nn 3 []) [] [(103,pB (decide (k16 < p2)))] [] [] tv ?_))
         refine Ej (decide (k16 < p2)) ?_ ?_
         ·intro h565
          have hlt16 : k16 < p2 := by have := of_decide_eq_true h565; omega
          have hm := hs16 hlt16
          unfold Ga at hm
          refine Sk ?_
          refine Sq (Bk ?_)
          obtain ⟨g566,g567,g568,g569,hm⟩ := go4 hm
          obtain ⟨r570,hr570,hm⟩ := bo hm
          refine Sq (Sq (RD hnt (nn 9 (o64 [] true r570 :: .no :: [])) [103] [(116,pB (!r570))] [] [] (an g566.1 (an g566.2 (an g567 (an g568.1 (an g568.2 (an g569 (an (Cw (s16.getD (Int.toNat k16) 0) (s16.getD (Int.toNat (w64 (k16 - 1))) 0) r570 hr570) tv))))))) ?_))
          refine Aq hm ?_ ?_
          ·intro h571 hm
           refine DW.exit ?_
           refine Pn (by decide) ?_
           refine Au ?_
           refine Ap ?_
           refine Au ?_
           refine Aj ?_
           show DW _ _ _ _ _
           exact bD (s16,s12) hm Conv.t0
          ·intro h571 hm
           refine Sk ?_
           obtain ⟨g572,g573,g574,g575,hm⟩ := go4 hm
           obtain ⟨g576,g577,g578,g579,hm⟩ := go4 hm
           refine RN hnt (nn 18 []) [(0,ow 0 (c73e5 s16 k16).length),(1,pI p1),(2,pI p2),(7,pI s12),(8,pI k1),(10,pI k16)] [(0,ob0 (roI (c73e5 s16 k16)))] [(0,ow 0 s16.length)] [(0,.row 1 s16.length (c73e3 s16 k16))] (an g572.1 (an g572.2 (an g573 (an g574.1 (an g574.2 (an g575 (an g576.1 (an g576.2 (an g577 (an g578.1 (an g578.2 (an g579 tv)))))))))))) (by kernel_rfl) (.cons rfl (MLe.ownLen (enc := Az) (d := 0) (f := (c73e3 s16 k16)) (RowIs.updR (RowIs.upd RowIs.elems (s16.getD (Int.toNat (w64 (k16 - 1))) 0) rfl) (by omega) (s16.getD (Int.toNat k16) 0) rfl)) .nil) (.cons rfl (BLe.typed (RowIs.updR (RowIs.upd RowIs.elems (s16.getD (Int.toNat (w64 (k16 - 1))) 0) rfl) (by omega) (s16.getD (Int.toNat k16) 0) rfl)) .nil) ?_
           refine DW.done ?_
           show DW _ _ _ _ _
           refine RD hnt (nn 3 []) [] [(10,pI (w64 (k16 + 1)))] [] [] tv ?_
           exact jD (c73e5 s16 k16) ⟨hlt16,hm⟩ (Conv.tp [(10,pI (w64 (k16 + 1)))] [] (by kernel_rfl) (.cons rfl (.of_eq (congrArg pI (Qd (lo := (w64 (s12 + 1))) (hi := p2) (by omega) hk16 hlt16 (by omega)))) .nil) .nil)
         ·intro h565
          have hge16 : ¬ k16 < p2 := by have := of_decide_eq_false h565; omega
          have hm := he16 hge16
          unfold Ip at hm
          refine DW.exit ?_
          refine Ap ?_
          refine Au ?_
          refine Aj ?_
          show DW _ _ _ _ _
          exact bD (s16,s12) hm Conv.t0
        ·intro h534 hm
         refine Sk ?_
         exact bD (y15,s12) hm Conv.t0
       ·refine Aq hm ?_ ?_
        ·intro h503 hm
         refine Sq (RD hnt (nn 3 []) [61] [(9,pI (w64 (s12 - 1)))] [] [] tv ?_)
         refine Bk ?_
         refine DW.whileO (fun (s15 : (List Int) × Int) => Ae [(0,ow 0 s15.1.length),(1,pI p1),(2,pI p2),(7,pI s12),(8,pI k1),(9,pI s15.2)] [(0,ob0 (roI s15.1))]) hm Conv.eqK ?_
         intro s15 n15 hm
         unfold Fz at hm
         refine Sq (Sq (RD hnt (nn 2 []) [] [(65,pB (decide (s15.2 ≥ 1)))] [] [] tv ?_))
         refine Aq hm ?_ ?_
         ·intro h519 hm
          refine Sk ?_
          refine Sq (Bk ?_)
          obtain ⟨g520,g521,g522,g523,hm⟩ := go4 hm
          obtain ⟨r524,hr524,hm⟩ := bo hm
          refine Sq (Sq (RD hnt (nn 9 (o64 [] true r524 :: .no :: [])) [65] [(78,pB (!r524))] [] [] (an g520.1 (an g520.2 (an g521 (an g522.1 (an g522.2 (an g523 (an (Cw (s15.1.getD (Int.toNat s15.2) 0) (AbJ s15) r524 hr524) tv))))))) ?_))
          refine Aq hm ?_ ?_
          ·intro h525 hm
           refine DW.exit ?_
           refine Pn (by decide) ?_
           refine Au ?_
           refine Ap ?_
           refine Au ?_
           refine Aj ?_
           show DW _ _ _ _ _
           exact jD s15.1 hm Conv.t0
          ·intro h525 hm
           refine Sk ?_
           obtain ⟨g526,g527,g528,g529,hm⟩ := go4 hm
           obtain ⟨g530,g531,g532,g533,hm⟩ := go4 hm
           refine RN hnt (nn 18 []) [(0,ow 0 (c73e7 s15).length),(1,pI p1),(2,pI p2),(7,pI s12),(8,pI k1),(9,pI s15.2)] [(0,ob0 (roI (c73e7 s15)))] [(0,ow 0 s15.1.length)] [(0,.row 1 s15.1.length (c73e6 s15))] (an g526.1 (an g526.2 (an g527 (an g528.1 (an g528.2 (an g529 (an g530.1 (an g530.2 (an g531 (an g532.1 (an g532.2 (an g533 tv)))))))))))) (by kernel_rfl) (.cons rfl (MLe.ownLen (enc := Az) (d := 0) (f := (c73e6 s15)) (RowIs.updR (RowIs.upd RowIs.elems (AbJ s15) rfl) (by omega) (s15.1.getD (Int.toNat s15.2) 0) rfl)) .nil) (.cons rfl (BLe.typed (RowIs.updR (RowIs.upd RowIs.elems (AbJ s15) rfl) (by omega) (s15.1.getD (Int.toNat s15.2) 0) rfl)) .nil) ?_
           refine DW.done ?_
           show DW _ _ _ _ _
           refine RD hnt (nn 3 []) [] [(9,pI (w64 (s15.2 - 1)))] [] [] tv ?_
           exact jD ((c73e7 s15),(w64 (s15.2 - 1))) hm Conv.eqK
         ·intro h519 hm
          refine DW.exit ?_
          refine Ap ?_
          refine Au ?_
          refine Aj ?_
          show DW _ _ _ _ _
          exact jD s15.1 hm Conv.t0
        ·intro h503 hm
         refine Sk ?_
         exact jD (c73e4 s1 s12) hm Conv.t0
   ·rcases bt (decide (s12 < p2)) with h486 | h486
    ·replace hm := Bc h486 hm
     obtain ⟨g487,g488,g489,g490,hm⟩ := go4 hm
     obtain ⟨r491,hr491,hm⟩ := bo hm
     refine RD hnt (nn 13 (o64 [] true r491 :: .no :: pT :: [])) [] [(32,pB (!r491))] [] [] (an3 h486 (an g487.1 (an g487.2 (an h486 (an g488 (an4 h486 (an g489.1 (an g489.2 (an h486 (an g490 (an h486 (an (Cw (s1.1.getD (Int.toNat s12) 0) (s1.1.getD (Int.toNat (w64 (s12 - 1))) 0) r491 hr491) (an2 h486 tv))))))))))))) ?_
     exact jD (!r491) hm Conv.eqK
    ·replace hm := Bd h486 hm
     refine RD hnt (nn 4 (sk 11 (pF :: []))) [] [(32,pB false)] [] [] (an6 h486 (an6 h486 tv)) ?_
     exact jD false hm Conv.eqK
 ·intro h391
  have hge1 : ¬ k1 < 5 := by have := of_decide_eq_false h391; omega
  have hm := he1 hge1
  unfold Ix at hm
  refine DW.exit ?_
  refine Ap ?_
  refine Au ?_
  refine Aj ?_
  show DW _ _ _ _ _
  refine Sq (RK hnt (.no :: []) [(6,pB false)] [(0,ob0 (roI s1.1))] tv ?_)
  obtain rfl := sj hm
  exact DW.ret (Am [roI s1.1] [] (pB false))
abbrev o73 (ks : List Nat) (b : Bool) (RES : Bool × (List Int)) (sm : List Nat := []) : Orc := .call 158 ks b (pB RES.1) [roI RES.2] [] sm
end Go.Dm


/- Go functions compute their models, printed by a program. -/
namespace Go.Dm
open Go.Proofs
set_option linter.unusedVariables false
abbrev c74e1 (p0 : List Int) (p1 : Int) (p3 : Int) := (Bo (Bo (elI p0) (Int.toNat p1) [vi (p0.getD (Int.toNat p3) 0)]) (Int.toNat p3) (setRange ((Bo (elI p0) (Int.toNat p1) [vi (p0.getD (Int.toNat p3) 0)]) (Int.toNat p3)) 0 [vi (p0.getD (Int.toNat p1) 0)]))
abbrev c74e2 (s1 : (List Int) × Int × Int) (s5 : Int) (s7 : Int) := (Bo (Bo (elI s1.1) (Int.toNat s5) [vi (s1.1.getD (Int.toNat s7) 0)]) (Int.toNat s7) (setRange ((Bo (elI s1.1) (Int.toNat s5) [vi (s1.1.getD (Int.toNat s7) 0)]) (Int.toNat s7)) 0 [vi (s1.1.getD (Int.toNat s5) 0)]))
abbrev c74e3 (s1 : (List Int) × Int × Int) (s5 : Int) (s7 : Int) := ((s1.1.set (Int.toNat s5) (s1.1.getD (Int.toNat s7) 0)).set (Int.toNat s7) (s1.1.getD (Int.toNat s5) 0))
theorem Pu (p0 : List Int) (p1 : Int) (p2 : Int) (p3 : Int) (RES : Int × (List Int)) (hm : Ek p0 p1 p2 p3 = some RES) : Spec Tryz.prog 160 [ow 0 p0.length,pI p1,pI p2,pI p3] [roI p0] (pI RES.1) [roI RES.2] [] := by
 unfold Ek at hm
 refine SO Tryz.func160 rfl rfl [(0,ow 0 p0.length),(1,pI p1),(2,pI p2),(3,pI p3)] [(0,ob0 (roI p0))] ?_
 intro cx hnt
 refine Sq (RD hnt (.no :: []) [] [] [] [] tv ?_)
 obtain ⟨g1,g2,g3,g4,hm⟩ := go4 hm
 obtain ⟨g5,g6,g7,g8,hm⟩ := go4 hm
 refine Sq (RN hnt (nn 16 []) [(0,ow 0 ((p0.set (Int.toNat p1) (p0.getD (Int.toNat p3) 0)).set (Int.toNat p3) (p0.getD (Int.toNat p1) 0)).length),(1,pI p1),(2,pI p2)] [(0,ob0 (roI ((p0.set (Int.toNat p1) (p0.getD (Int.toNat p3) 0)).set (Int.toNat p3) (p0.getD (Int.toNat p1) 0))))] [(0,ow 0 p0.length)] [(0,.row 1 p0.length (c74e1 p0 p1 p3))] (an g1.1 (an g1.2 (an g2 (an g3.1 (an g3.2 (an g4 (an g5.1 (an g5.2 (an g6 (an g7.1 (an g7.2 (an g8 tv)))))))))))) (by kernel_rfl) (.cons rfl (MLe.ownLen (enc := Az) (d := 0) (f := (c74e1 p0 p1 p3)) (RowIs.updR (RowIs.upd RowIs.elems (p0.getD (Int.toNat p3) 0) rfl) (by omega) (p0.getD (Int.toNat p1) 0) rfl)) .nil) (.cons rfl (BLe.typed (RowIs.updR (RowIs.upd RowIs.elems (p0.getD (Int.toNat p3) 0) rfl) (by omega) (p0.getD (Int.toNat p1) 0) rfl)) .nil) ?_)
 refine Sq (RD hnt (nn 6 []) [2] [(9,pI (w64 (p1 + 1))),(10,pI (w64 (p2 - 1)))] [] [] tv ?_)
 refine Sq (Bk ?_)
 refine DW.whileO (fun (s1 : (List Int) × Int × Int) => Ae [(0,ow 0 s1.1.length),(1,pI p1),(9,pI s1.2.2),(10,pI s1.2.1)] [(0,ob0 (roI s1.1))]) hm Conv.eqK ?_
 intro s1 n1 hm
 unfold Hn at hm
 refine Bk ?_
 refine Sq (Bk ?_)
 refine DW.whileO (fun (s5 : Int) => Ae [(0,ow 0 s1.1.length),(1,pI p1),(9,pI s5),(10,pI s1.2.1)] [(0,ob0 (roI s1.1))]) hm .refl ?_
 intro s5 n5 hm
 unfold Ho at hm
 refine Sq (Sq ?_)
 refine Jn (ι := Bool) (fun (y10 : Bool) => Ae [(0,ow 0 s1.1.length),(1,pI p1),(9,pI s5),(10,pI s1.2.1),(43,pB y10)] [(0,ob0 (roI s1.1))]) (fun y10 => (Ds p1 s1 n1 s5 n5) y10 = some RES) ?_ ?_
 ·intro y10 hm
  unfold Ds at hm
  refine Aq hm ?_ ?_
  ·intro h156 hm
   refine Sk ?_
   refine Bk ?_
   refine RD hnt (nn 3 []) [43] [(9,pI (w64 (s5 + 1)))] [] [] tv ?_
   refine DW.done ?_
   show DW _ _ _ _ _
   exact jD (w64 (s5 + 1)) hm Conv.eqK
  ·intro h156 hm
   refine DW.exit ?_
   refine Ap ?_
   refine Au ?_
   refine Aj ?_
   show DW _ _ _ _ _
   refine Sq (Bk ?_)
   refine DW.whileO (fun (s7 : Int) => Ae [(0,ow 0 s1.1.length),(1,pI p1),(9,pI s5),(10,pI s7)] [(0,ob0 (roI s1.1))]) hm Conv.t0 ?_
   intro s7 n7 hm
   unfold Fq at hm
   refine Sq (Sq ?_)
   refine Jn (ι := Bool) (fun (y12 : Bool) => Ae [(0,ow 0 s1.1.length),(1,pI p1),(9,pI s5),(10,pI s7),(59,pB y12)] [(0,ob0 (roI s1.1))]) (fun y12 => (Dt s1 n1 s5 s7 n7) y12 = some RES) ?_ ?_
   ·intro y12 hm
    unfold Dt at hm
    refine Aq hm ?_ ?_
    ·intro h179 hm
     refine Sk ?_
     refine Bk ?_
     refine RD hnt (nn 3 []) [59] [(10,pI (w64 (s7 - 1)))] [] [] tv ?_
     refine DW.done ?_
     show DW _ _ _ _ _
     exact jD (w64 (s7 - 1)) hm Conv.eqK
    ·intro h179 hm
     refine DW.exit ?_
     refine Ap ?_
     refine Au ?_
     refine Aj ?_
     show DW _ _ _ _ _
     refine Sq (Sq (RD hnt (nn 3 []) [59] [(64,pB (decide (s5 > s7)))] [] [] tv ?_))
     refine Aq hm ?_ ?_
     ·intro h180 hm
      refine DW.exit ?_
      refine Pn (by decide) ?_
      refine Au ?_
      refine Ap ?_
      refine Au ?_
      refine Aj ?_
      show DW _ _ _ _ _
      refine Sq (RK hnt (nn 2 []) [(8,pI s5)] [(0,ob0 (roI s1.1))] tv ?_)
      obtain rfl := sj hm
      exact DW.ret (Am [roI s1.1] [] (pI s5))
     ·intro h180 hm
      refine Sk ?_
      obtain ⟨g181,g182,g183,g184,hm⟩ := go4 hm
      obtain ⟨g185,g186,g187,g188,hm⟩ := go4 hm
      refine Sq (RN hnt (nn 16 []) [(0,ow 0 (c74e3 s1 s5 s7).length),(1,pI p1),(9,pI s5),(10,pI s7)] [(0,ob0 (roI (c74e3 s1 s5 s7)))] [(0,ow 0 s1.1.length)] [(0,.row 1 s1.1.length (c74e2 s1 s5 s7))] (an g181.1 (an g181.2 (an g182 (an g183.1 (an g183.2 (an g184 (an g185.1 (an g185.2 (an g186 (an g187.1 (an g187.2 (an g188 tv)))))))))))) (by kernel_rfl) (.cons rfl (MLe.ownLen (enc := Az) (d := 0) (f := (c74e2 s1 s5 s7)) (RowIs.updR (RowIs.upd RowIs.elems (s1.1.getD (Int.toNat s7) 0) rfl) (by omega) (s1.1.getD (Int.toNat s5) 0) rfl)) .nil) (.cons rfl (BLe.typed (RowIs.updR (RowIs.upd RowIs.elems (s1.1.getD (Int.toNat s7) 0) rfl) (by omega) (s1.1.getD (Int.toNat s5) 0) rfl)) .nil) ?_)
      refine Sq (RD hnt (nn 3 []) [] [(9,pI (w64 (s5 + 1)))] [] [] tv ?_)
      refine RD hnt (nn 3 []) [] [(10,pI (w64 (s7 - 1)))] [] [] tv ?_
      refine DW.done ?_
      show DW _ _ _ _ _
      exact jD ((c74e3 s1 s5 s7),(w64 (s7 - 1)),(w64 (s5 + 1))) hm Conv.eqK
   ·rcases bt (decide (s5 ≤ s7)) with h173 | h173
    ·replace hm := Bc h173 hm
     obtain ⟨g174,g175,g176,g177,hm⟩ := go4 hm
     obtain ⟨r178,hr178,hm⟩ := bo hm
     refine RD hnt (nn 12 (o64 [] true r178 :: pT :: [])) [] [(59,pB r178)] [] [] (an3 h173 (an g174.1 (an g174.2 (an h173 (an g175 (an3 h173 (an g176.1 (an g176.2 (an h173 (an g177 (an h173 (an (Cw (s1.1.getD (Int.toNat p1) 0) (s1.1.getD (Int.toNat s7) 0) r178 hr178) (an h173 tv))))))))))))) ?_
     exact jD r178 hm Conv.eqK
    ·replace hm := Bd h173 hm
     refine RD hnt (nn 4 (sk 9 (pF :: []))) [] [(59,pB false)] [] [] (an4 h173 (an6 h173 tv)) ?_
     exact jD false hm Conv.eqK
 ·rcases bt (decide (s5 ≤ s1.2.1)) with h150 | h150
  ·replace hm := Bc h150 hm
   obtain ⟨g151,g152,g153,g154,hm⟩ := go4 hm
   obtain ⟨r155,hr155,hm⟩ := bo hm
   refine RD hnt (nn 12 (o64 [] true r155 :: .no :: pT :: [])) [] [(43,pB (!r155))] [] [] (an3 h150 (an g151.1 (an g151.2 (an h150 (an g152 (an3 h150 (an g153.1 (an g153.2 (an h150 (an g154 (an h150 (an (Cw (s1.1.getD (Int.toNat p1) 0) (s1.1.getD (Int.toNat s5) 0) r155 hr155) (an2 h150 tv))))))))))))) ?_
   exact jD (!r155) hm Conv.eqK
  ·replace hm := Bd h150 hm
   refine RD hnt (nn 4 (sk 10 (pF :: []))) [] [(43,pB false)] [] [] (an5 h150 (an6 h150 tv)) ?_
   exact jD false hm Conv.eqK
abbrev o74 (ks : List Nat) (b : Bool) (RES : Int × (List Int)) (sm : List Nat := []) : Orc := .call 160 ks b (pI RES.1) [roI RES.2] [] sm

abbrev Df (p0 : List Int) (p1 : Int) (p3 : Int) := ((p0.set (Int.toNat p1) (p0.getD (Int.toNat p3) 0)).set (Int.toNat p3) (p0.getD (Int.toNat p1) 0))
abbrev c75e2 (p0 : List Int) (p1 : Int) (p3 : Int) (s1 : Int) (s17 : Int) := (Bo (Bo (elI (Df p0 p1 p3)) (Int.toNat s1) [vi ((Df p0 p1 p3).getD (Int.toNat s17) 0)]) (Int.toNat s17) (setRange ((Bo (elI (Df p0 p1 p3)) (Int.toNat s1) [vi ((Df p0 p1 p3).getD (Int.toNat s17) 0)]) (Int.toNat s17)) 0 [vi ((Df p0 p1 p3).getD (Int.toNat s1) 0)]))
abbrev c75e3 (p0 : List Int) (p1 : Int) (p3 : Int) := (Bo (Bo (elI p0) (Int.toNat p1) [vi (p0.getD (Int.toNat p3) 0)]) (Int.toNat p3) (setRange ((Bo (elI p0) (Int.toNat p1) [vi (p0.getD (Int.toNat p3) 0)]) (Int.toNat p3)) 0 [vi (p0.getD (Int.toNat p1) 0)]))
abbrev c75e4 (s25 : (List Int) × Int × Int) (s29 : Int) (s31 : Int) := (Bo (Bo (elI s25.1) (Int.toNat s29) [vi (s25.1.getD (Int.toNat s31) 0)]) (Int.toNat s31) (setRange ((Bo (elI s25.1) (Int.toNat s29) [vi (s25.1.getD (Int.toNat s31) 0)]) (Int.toNat s31)) 0 [vi (s25.1.getD (Int.toNat s29) 0)]))
abbrev c75e5 (s25 : (List Int) × Int × Int) (s29 : Int) (s31 : Int) := ((s25.1.set (Int.toNat s29) (s25.1.getD (Int.toNat s31) 0)).set (Int.toNat s31) (s25.1.getD (Int.toNat s29) 0))
theorem Se (p0 : List Int) (p1 : Int) (p2 : Int) (p3 : Int) (RES : Int × Bool × (List Int)) (hm : Gd p0 p1 p2 p3 = some RES) : Spec Tryz.prog 161 [ow 0 p0.length,pI p1,pI p2,pI p3] [roI p0] (.p (.tup [vi RES.1,vb RES.2.1])) [roI RES.2.2] [] := by
 unfold Gd at hm
 refine SO Tryz.func161 rfl rfl [(0,ow 0 p0.length),(1,pI p1),(2,pI p2),(3,pI p3)] [(0,ob0 (roI p0))] ?_
 intro cx hnt
 refine Sq (RD hnt (nn 2 []) [] [] [] [] tv ?_)
 obtain ⟨g1,g2,g3,g4,hm⟩ := go4 hm
 obtain ⟨g5,g6,g7,g8,hm⟩ := go4 hm
 refine Sq (RN hnt (nn 16 []) [(0,ow 0 (Df p0 p1 p3).length),(1,pI p1),(2,pI p2)] [(0,ob0 (roI (Df p0 p1 p3)))] [(0,ow 0 p0.length)] [(0,.row 1 p0.length (c75e3 p0 p1 p3))] (an g1.1 (an g1.2 (an g2 (an g3.1 (an g3.2 (an g4 (an g5.1 (an g5.2 (an g6 (an g7.1 (an g7.2 (an g8 tv)))))))))))) (by kernel_rfl) (.cons rfl (MLe.ownLen (enc := Az) (d := 0) (f := (c75e3 p0 p1 p3)) (RowIs.updR (RowIs.upd RowIs.elems (p0.getD (Int.toNat p3) 0) rfl) (by omega) (p0.getD (Int.toNat p1) 0) rfl)) .nil) (.cons rfl (BLe.typed (RowIs.updR (RowIs.upd RowIs.elems (p0.getD (Int.toNat p3) 0) rfl) (by omega) (p0.getD (Int.toNat p1) 0) rfl)) .nil) ?_)
 refine Sq (RD hnt (nn 6 []) [2] [(10,pI (w64 (p1 + 1))),(11,pI (w64 (p2 - 1)))] [] [] tv ?_)
 refine Sq (Bk ?_)
 refine DW.whileO (fun (s1 : Int) => Ae [(0,ow 0 (Df p0 p1 p3).length),(1,pI p1),(10,pI s1),(11,pI (w64 (p2 - 1)))] [(0,ob0 (roI (Df p0 p1 p3)))]) hm Conv.eqK ?_
 intro s1 n1 hm
 unfold Jb at hm
 refine Sq (Sq ?_)
 refine Jn (ι := Bool) (fun (y28 : Bool) => Ae [(0,ow 0 (Df p0 p1 p3).length),(1,pI p1),(10,pI s1),(11,pI (w64 (p2 - 1))),(43,pB y28)] [(0,ob0 (roI (Df p0 p1 p3)))]) (fun y28 => (Fg p0 p1 p2 p3 s1 n1) y28 = some RES) ?_ ?_
 ·intro y28 hm
  unfold Fg at hm
  refine Aq hm ?_ ?_
  ·intro h588 hm
   refine Sk ?_
   refine Bk ?_
   refine RD hnt (nn 3 []) [43] [(10,pI (w64 (s1 + 1)))] [] [] tv ?_
   refine DW.done ?_
   show DW _ _ _ _ _
   exact jD (w64 (s1 + 1)) hm Conv.eqK
  ·intro h588 hm
   refine DW.exit ?_
   refine Ap ?_
   refine Au ?_
   refine Aj ?_
   show DW _ _ _ _ _
   refine Sq (Bk ?_)
   refine DW.whileO (fun (s17 : Int) => Ae [(0,ow 0 (Df p0 p1 p3).length),(1,pI p1),(10,pI s1),(11,pI s17)] [(0,ob0 (roI (Df p0 p1 p3)))]) hm Conv.t0 ?_
   intro s17 n17 hm
   unfold Gp at hm
   refine Sq (Sq ?_)
   refine Jn (ι := Bool) (fun (y42 : Bool) => Ae [(0,ow 0 (Df p0 p1 p3).length),(1,pI p1),(10,pI s1),(11,pI s17),(60,pB y42)] [(0,ob0 (roI (Df p0 p1 p3)))]) (fun y42 => (Fi p0 p1 p3 s1 s17 n17) y42 = some RES) ?_ ?_
   ·intro y42 hm
    unfold Fi at hm
    refine Aq hm ?_ ?_
    ·intro h875 hm
     refine Sk ?_
     refine Bk ?_
     refine RD hnt (nn 3 []) [60] [(11,pI (w64 (s17 - 1)))] [] [] tv ?_
     refine DW.done ?_
     show DW _ _ _ _ _
     exact jD (w64 (s17 - 1)) hm Conv.eqK
    ·intro h875 hm
     refine DW.exit ?_
     refine Ap ?_
     refine Au ?_
     refine Aj ?_
     show DW _ _ _ _ _
     refine Sq (Sq (RD hnt (nn 3 []) [60] [(65,pB (decide (s1 > s17)))] [] [] tv ?_))
     refine Aq hm ?_ ?_
     ·intro h876 hm
      obtain ⟨g877,g878,g879,g880,hm⟩ := go4 hm
      obtain ⟨g881,g882,g883,g884,hm⟩ := go4 hm
      refine Sq (RN hnt (nn 16 []) [(11,pI s17)] [(0,ob0 (roI (((Df p0 p1 p3).set (Int.toNat s17) ((Df p0 p1 p3).getD (Int.toNat p1) 0)).set (Int.toNat p1) ((Df p0 p1 p3).getD (Int.toNat s17) 0))))] [] [(0,.row 1 (Df p0 p1 p3).length (Bo (Bo (elI (Df p0 p1 p3)) (Int.toNat s17) [vi ((Df p0 p1 p3).getD (Int.toNat p1) 0)]) (Int.toNat p1) (setRange ((Bo (elI (Df p0 p1 p3)) (Int.toNat s17) [vi ((Df p0 p1 p3).getD (Int.toNat p1) 0)]) (Int.toNat p1)) 0 [vi ((Df p0 p1 p3).getD (Int.toNat s17) 0)])))] (an g877.1 (an g877.2 (an g878 (an g879.1 (an g879.2 (an g880 (an g881.1 (an g881.2 (an g882 (an g883.1 (an g883.2 (an g884 tv)))))))))))) (by kernel_rfl) .nil (.cons rfl (BLe.typed (RowIs.updR (RowIs.upd RowIs.elems ((Df p0 p1 p3).getD (Int.toNat p1) 0) rfl) (by omega) ((Df p0 p1 p3).getD (Int.toNat s17) 0) rfl)) .nil) ?_)
      refine Sq (RD hnt (nn 3 []) [11] [(8,pI s17),(9,pB true)] [] [] tv ?_)
      obtain rfl := sj hm
      exact DW.ret (Am [roI (((Df p0 p1 p3).set (Int.toNat s17) ((Df p0 p1 p3).getD (Int.toNat p1) 0)).set (Int.toNat p1) ((Df p0 p1 p3).getD (Int.toNat s17) 0))] [] (.p (.tup [vi s17,vb true])))
     ·intro h876 hm
      refine Sk ?_
      obtain ⟨g885,g886,g887,g888,hm⟩ := go4 hm
      obtain ⟨g889,g890,g891,g892,hm⟩ := go4 hm
      refine Sq (RN hnt (nn 16 []) [(0,ow 0 (((Df p0 p1 p3).set (Int.toNat s1) ((Df p0 p1 p3).getD (Int.toNat s17) 0)).set (Int.toNat s17) ((Df p0 p1 p3).getD (Int.toNat s1) 0)).length),(1,pI p1),(10,pI s1),(11,pI s17)] [(0,ob0 (roI (((Df p0 p1 p3).set (Int.toNat s1) ((Df p0 p1 p3).getD (Int.toNat s17) 0)).set (Int.toNat s17) ((Df p0 p1 p3).getD (Int.toNat s1) 0))))] [(0,ow 0 (Df p0 p1 p3).length)] [(0,.row 1 (Df p0 p1 p3).length (c75e2 p0 p1 p3 s1 s17))] (an g885.1 (an g885.2 (an g886 (an g887.1 (an g887.2 (an g888 (an g889.1 (an g889.2 (an g890 (an g891.1 (an g891.2 (an g892 tv)))))))))))) (by kernel_rfl) (.cons rfl (MLe.ownLen (enc := Az) (d := 0) (f := (c75e2 p0 p1 p3 s1 s17)) (RowIs.updR (RowIs.upd RowIs.elems ((Df p0 p1 p3).getD (Int.toNat s17) 0) rfl) (by omega) ((Df p0 p1 p3).getD (Int.toNat s1) 0) rfl)) .nil) (.cons rfl (BLe.typed (RowIs.updR (RowIs.upd RowIs.elems ((Df p0 p1 p3).getD (Int.toNat s17) 0) rfl) (by omega) ((Df p0 p1 p3).getD (Int.toNat s1) 0) rfl)) .nil) ?_)
      refine Sq (RD hnt (nn 3 []) [] [(10,pI (w64 (s1 + 1)))] [] [] tv ?_)
      refine Sq (RD hnt (nn 3 []) [] [(11,pI (w64 (s17 - 1)))] [] [] tv ?_)
      refine Sq (Bk ?_)
      refine DW.whileO (fun (s25 : (List Int) × Int × Int) => Ae [(0,ow 0 s25.1.length),(1,pI p1),(10,pI s25.2.1),(11,pI s25.2.2)] [(0,ob0 (roI s25.1))]) hm Conv.eqK ?_
      intro s25 n25 hm
      unfold Gn at hm
      refine Bk ?_
      refine Sq (Bk ?_)
      refine DW.whileO (fun (s29 : Int) => Ae [(0,ow 0 s25.1.length),(1,pI p1),(10,pI s29),(11,pI s25.2.2)] [(0,ob0 (roI s25.1))]) hm .refl ?_
      intro s29 n29 hm
      unfold Iy at hm
      refine Sq (Sq ?_)
      refine Jn (ι := Bool) (fun (y52 : Bool) => Ae [(0,ow 0 s25.1.length),(1,pI p1),(10,pI s29),(11,pI s25.2.2),(112,pB y52)] [(0,ob0 (roI s25.1))]) (fun y52 => (Fk p1 s25 n25 s29 n29) y52 = some RES) ?_ ?_
      ·intro y52 hm
       unfold Fk at hm
       refine Aq hm ?_ ?_
       ·intro h1088 hm
        refine Sk ?_
        refine Bk ?_
        refine RD hnt (nn 3 []) [112] [(10,pI (w64 (s29 + 1)))] [] [] tv ?_
        refine DW.done ?_
        show DW _ _ _ _ _
        exact jD (w64 (s29 + 1)) hm Conv.eqK
       ·intro h1088 hm
        refine DW.exit ?_
        refine Ap ?_
        refine Au ?_
        refine Aj ?_
        show DW _ _ _ _ _
        refine Sq (Bk ?_)
        refine DW.whileO (fun (s31 : Int) => Ae [(0,ow 0 s25.1.length),(1,pI p1),(10,pI s29),(11,pI s31)] [(0,ob0 (roI s25.1))]) hm Conv.t0 ?_
        intro s31 n31 hm
        unfold Gm at hm
        refine Sq (Sq ?_)
        refine Jn (ι := Bool) (fun (y54 : Bool) => Ae [(0,ow 0 s25.1.length),(1,pI p1),(10,pI s29),(11,pI s31),(129,pB y54)] [(0,ob0 (roI s25.1))]) (fun y54 => (Fh p1 s25 n25 s29 s31 n31) y54 = some RES) ?_ ?_
        ·intro y54 hm
         unfold Fh at hm
         refine Aq hm ?_ ?_
         ·intro h1119 hm
          refine Sk ?_
          refine Bk ?_
          refine RD hnt (nn 3 []) [129] [(11,pI (w64 (s31 - 1)))] [] [] tv ?_
          refine DW.done ?_
          show DW _ _ _ _ _
          exact jD (w64 (s31 - 1)) hm Conv.eqK
         ·intro h1119 hm
          refine DW.exit ?_
          refine Ap ?_
          refine Au ?_
          refine Aj ?_
          show DW _ _ _ _ _
          refine Sq (Sq (RD hnt (nn 3 []) [129] [(134,pB (decide (s29 > s31)))] [] [] tv ?_))
          refine Aq hm ?_ ?_
          ·intro h1120 hm
           refine DW.exit ?_
           refine Pn (by decide) ?_
           refine Au ?_
           refine Ap ?_
           refine Au ?_
           refine Aj ?_
           show DW _ _ _ _ _
           obtain ⟨g1121,g1122,g1123,g1124,hm⟩ := go4 hm
           obtain ⟨g1125,g1126,g1127,g1128,hm⟩ := go4 hm
           refine Sq (RN hnt (nn 16 []) [(11,pI s31)] [(0,ob0 (roI ((s25.1.set (Int.toNat s31) (s25.1.getD (Int.toNat p1) 0)).set (Int.toNat p1) (s25.1.getD (Int.toNat s31) 0))))] [] [(0,.row 1 s25.1.length (Bo (Bo (elI s25.1) (Int.toNat s31) [vi (s25.1.getD (Int.toNat p1) 0)]) (Int.toNat p1) (setRange ((Bo (elI s25.1) (Int.toNat s31) [vi (s25.1.getD (Int.toNat p1) 0)]) (Int.toNat p1)) 0 [vi (s25.1.getD (Int.toNat s31) 0)])))] (an g1121.1 (an g1121.2 (an g1122 (an g1123.1 (an g1123.2 (an g1124 (an g1125.1 (an g1125.2 (an g1126 (an g1127.1 (an g1127.2 (an g1128 tv)))))))))))) (by kernel_rfl) .nil (.cons rfl (BLe.typed (RowIs.updR (RowIs.upd RowIs.elems (s25.1.getD (Int.toNat p1) 0) rfl) (by omega) (s25.1.getD (Int.toNat s31) 0) rfl)) .nil) ?_)
           refine Sq (RD hnt (nn 3 []) [11] [(8,pI s31),(9,pB false)] [] [] tv ?_)
           obtain rfl := sj hm
           exact DW.ret (Am [roI ((s25.1.set (Int.toNat s31) (s25.1.getD (Int.toNat p1) 0)).set (Int.toNat p1) (s25.1.getD (Int.toNat s31) 0))] [] (.p (.tup [vi s31,vb false])))
          ·intro h1120 hm
           refine Sk ?_
           obtain ⟨g1129,g1130,g1131,g1132,hm⟩ := go4 hm
           obtain ⟨g1133,g1134,g1135,g1136,hm⟩ := go4 hm
           refine Sq (RN hnt (nn 16 []) [(0,ow 0 (c75e5 s25 s29 s31).length),(1,pI p1),(10,pI s29),(11,pI s31)] [(0,ob0 (roI (c75e5 s25 s29 s31)))] [(0,ow 0 s25.1.length)] [(0,.row 1 s25.1.length (c75e4 s25 s29 s31))] (an g1129.1 (an g1129.2 (an g1130 (an g1131.1 (an g1131.2 (an g1132 (an g1133.1 (an g1133.2 (an g1134 (an g1135.1 (an g1135.2 (an g1136 tv)))))))))))) (by kernel_rfl) (.cons rfl (MLe.ownLen (enc := Az) (d := 0) (f := (c75e4 s25 s29 s31)) (RowIs.updR (RowIs.upd RowIs.elems (s25.1.getD (Int.toNat s31) 0) rfl) (by omega) (s25.1.getD (Int.toNat s29) 0) rfl)) .nil) (.cons rfl (BLe.typed (RowIs.updR (RowIs.upd RowIs.elems (s25.1.getD (Int.toNat s31) 0) rfl) (by omega) (s25.1.getD (Int.toNat s29) 0) rfl)) .nil) ?_)
           refine Sq (RD hnt (nn 3 []) [] [(10,pI (w64 (s29 + 1)))] [] [] tv ?_)
           refine RD hnt (nn 3 []) [] [(11,pI (w64 (s31 - 1)))] [] [] tv ?_
           refine DW.done ?_
           show DW _ _ _ _ _
           exact jD ((c75e5 s25 s29 s31),(w64 (s29 + 1)),(w64 (s31 - 1))) hm Conv.eqK
        ·rcases bt (decide (s29 ≤ s31)) with h1113 | h1113
         ·replace hm := Bc h1113 hm
          obtain ⟨g1114,g1115,g1116,g1117,hm⟩ := go4 hm
          obtain ⟨r1118,hr1118,hm⟩ := bo hm
          refine RD hnt (nn 12 (o64 [] true r1118 :: .no :: pT :: [])) [] [(129,pB (!r1118))] [] [] (an3 h1113 (an g1114.1 (an g1114.2 (an h1113 (an g1115 (an3 h1113 (an g1116.1 (an g1116.2 (an h1113 (an g1117 (an h1113 (an (Cw (s25.1.getD (Int.toNat s31) 0) (s25.1.getD (Int.toNat p1) 0) r1118 hr1118) (an2 h1113 tv))))))))))))) ?_
          exact jD (!r1118) hm Conv.eqK
         ·replace hm := Bd h1113 hm
          refine RD hnt (nn 4 (sk 10 (pF :: []))) [] [(129,pB false)] [] [] (an5 h1113 (an6 h1113 tv)) ?_
          exact jD false hm Conv.eqK
      ·rcases bt (decide (s29 ≤ s25.2.2)) with h1082 | h1082
       ·replace hm := Bc h1082 hm
        obtain ⟨g1083,g1084,g1085,g1086,hm⟩ := go4 hm
        obtain ⟨r1087,hr1087,hm⟩ := bo hm
        refine RD hnt (nn 12 (o64 [] true r1087 :: pT :: [])) [] [(112,pB r1087)] [] [] (an3 h1082 (an g1083.1 (an g1083.2 (an h1082 (an g1084 (an3 h1082 (an g1085.1 (an g1085.2 (an h1082 (an g1086 (an h1082 (an (Cw (s25.1.getD (Int.toNat s29) 0) (s25.1.getD (Int.toNat p1) 0) r1087 hr1087) (an h1082 tv))))))))))))) ?_
        exact jD r1087 hm Conv.eqK
       ·replace hm := Bd h1082 hm
        refine RD hnt (nn 4 (sk 9 (pF :: []))) [] [(112,pB false)] [] [] (an4 h1082 (an6 h1082 tv)) ?_
        exact jD false hm Conv.eqK
   ·rcases bt (decide (s1 ≤ s17)) with h869 | h869
    ·replace hm := Bc h869 hm
     obtain ⟨g870,g871,g872,g873,hm⟩ := go4 hm
     obtain ⟨r874,hr874,hm⟩ := bo hm
     refine RD hnt (nn 12 (o64 [] true r874 :: .no :: pT :: [])) [] [(60,pB (!r874))] [] [] (an3 h869 (an g870.1 (an g870.2 (an h869 (an g871 (an3 h869 (an g872.1 (an g872.2 (an h869 (an g873 (an h869 (an (Cw ((Df p0 p1 p3).getD (Int.toNat s17) 0) ((Df p0 p1 p3).getD (Int.toNat p1) 0) r874 hr874) (an2 h869 tv))))))))))))) ?_
     exact jD (!r874) hm Conv.eqK
    ·replace hm := Bd h869 hm
     refine RD hnt (nn 4 (sk 10 (pF :: []))) [] [(60,pB false)] [] [] (an5 h869 (an6 h869 tv)) ?_
     exact jD false hm Conv.eqK
 ·rcases bt (decide (s1 ≤ (w64 (p2 - 1)))) with h582 | h582
  ·replace hm := Bc h582 hm
   obtain ⟨g583,g584,g585,g586,hm⟩ := go4 hm
   obtain ⟨r587,hr587,hm⟩ := bo hm
   refine RD hnt (nn 12 (o64 [] true r587 :: pT :: [])) [] [(43,pB r587)] [] [] (an3 h582 (an g583.1 (an g583.2 (an h582 (an g584 (an3 h582 (an g585.1 (an g585.2 (an h582 (an g586 (an h582 (an (Cw ((Df p0 p1 p3).getD (Int.toNat s1) 0) ((Df p0 p1 p3).getD (Int.toNat p1) 0) r587 hr587) (an h582 tv))))))))))))) ?_
   exact jD r587 hm Conv.eqK
  ·replace hm := Bd h582 hm
   refine RD hnt (nn 4 (sk 9 (pF :: []))) [] [(43,pB false)] [] [] (an4 h582 (an6 h582 tv)) ?_
   exact jD false hm Conv.eqK
abbrev o75 (ks : List Nat) (b : Bool) (RES : Int × Bool × (List Int)) (sm : List Nat := []) : Orc := .call 161 ks b (.p (.tup [vi RES.1,vb RES.2.1])) [roI RES.2.2] [] sm

theorem Vy (p0 : Int) (RES : Int) (hm : Gs p0 = some RES) : Spec Tryz.prog 191 [pI p0] [] (.p (vk .u64 RES)) [] [] := by
 unfold Gs at hm
 refine SO Tryz.func191 rfl rfl [(0,pI p0)] [] ?_
 intro cx hnt
 refine Sq (RK hnt (.no :: []) [(0,pI p0)] [] tv ?_)
 obtain ⟨r1,hr1,hm⟩ := bo hm
 obtain ⟨g2,hm⟩ := go1 hm
 refine Sq (RK hnt (nn 2 (o60 [] true r1 :: nn 2 [])) [(2,.p (vk .u64 (kshl .u64 1 r1)))] [] (an (Abw (IntKind.u64.wrap p0) r1 hr1) (an g2 tv)) ?_)
 obtain rfl := sj hm
 exact DW.ret (Am [] [] (.p (vk .u64 (kshl .u64 1 r1))))
abbrev o77 (ks : List Nat) (b : Bool) (RES : Int) (sm : List Nat := []) : Orc := .call 191 ks b (.p (vk .u64 RES)) [] [] sm

theorem Wo (p0 : Int) (RES : Int × Int) (hm : Kp p0 = some RES) : Spec Tryz.prog 192 [rr 0] [.box [.p (vk .u64 p0)]] (.p (vk .u64 RES.1)) [.box [.p (vk .u64 RES.2)]] [] := by
 unfold Kp at hm
 refine SO Tryz.func192 rfl rfl [(0,rr 0)] [(0,bx [.p (vk .u64 p0)])] ?_
 intro cx hnt
 refine Sq (RD hnt (.no :: []) [] [] [] [] tv ?_)
 refine Sq (RK hnt (nn 10 []) [(0,rr 0)] [(0,bx [.p (vk .u64 (kxor .u64 p0 (kshl .u64 p0 13)))])] (an (by decide : (0 : Int) ≤ 13) tv) ?_)
 refine Sq (RK hnt (nn 10 []) [(0,rr 0)] [(0,bx [.p (vk .u64 (kxor .u64 (kxor .u64 p0 (kshl .u64 p0 13)) (kshr .u64 (kxor .u64 p0 (kshl .u64 p0 13)) 7)))])] (an (by decide : (0 : Int) ≤ 7) tv) ?_)
 refine Sq (RK hnt (nn 10 []) [(0,rr 0)] [(0,bx [.p (vk .u64 (kxor .u64 (kxor .u64 (kxor .u64 p0 (kshl .u64 p0 13)) (kshr .u64 (kxor .u64 p0 (kshl .u64 p0 13)) 7)) (kshl .u64 (kxor .u64 (kxor .u64 p0 (kshl .u64 p0 13)) (kshr .u64 (kxor .u64 p0 (kshl .u64 p0 13)) 7)) 17)))])] (an (by decide : (0 : Int) ≤ 17) tv) ?_)
 refine Sq (RD hnt (nn 4 []) [0] [(2,.p (vk .u64 (kxor .u64 (kxor .u64 (kxor .u64 p0 (kshl .u64 p0 13)) (kshr .u64 (kxor .u64 p0 (kshl .u64 p0 13)) 7)) (kshl .u64 (kxor .u64 (kxor .u64 p0 (kshl .u64 p0 13)) (kshr .u64 (kxor .u64 p0 (kshl .u64 p0 13)) 7)) 17))))] [] [] tv ?_)
 obtain rfl := sj hm
 exact DW.ret (Am [.box [.p (vk .u64 (kxor .u64 (kxor .u64 (kxor .u64 p0 (kshl .u64 p0 13)) (kshr .u64 (kxor .u64 p0 (kshl .u64 p0 13)) 7)) (kshl .u64 (kxor .u64 (kxor .u64 p0 (kshl .u64 p0 13)) (kshr .u64 (kxor .u64 p0 (kshl .u64 p0 13)) 7)) 17)))]] [] (.p (vk .u64 (kxor .u64 (kxor .u64 (kxor .u64 p0 (kshl .u64 p0 13)) (kshr .u64 (kxor .u64 p0 (kshl .u64 p0 13)) 7)) (kshl .u64 (kxor .u64 (kxor .u64 p0 (kshl .u64 p0 13)) (kshr .u64 (kxor .u64 p0 (kshl .u64 p0 13)) 7)) 17)))))
abbrev o78 (ks : List Nat) (b : Bool) (RES : Int × Int) (sm : List Nat := []) : Orc := .call 192 ks b (.p (vk .u64 RES.1)) [.box [.p (vk .u64 RES.2)]] [] sm

abbrev c76e1 (s1 : (List Int) × Int × Int) (p1 : Int) (y2 : Int) := (Bo (Bo (elI s1.1) (Int.toNat s1.2.2) [vi (s1.1.getD (Int.toNat (w64 (p1 + y2))) 0)]) (Int.toNat (w64 (p1 + y2))) (setRange ((Bo (elI s1.1) (Int.toNat s1.2.2) [vi (s1.1.getD (Int.toNat (w64 (p1 + y2))) 0)]) (Int.toNat (w64 (p1 + y2)))) 0 [vi (s1.1.getD (Int.toNat s1.2.2) 0)]))
abbrev c76e2 (s1 : (List Int) × Int × Int) (p1 : Int) (y2 : Int) := ((s1.1.set (Int.toNat s1.2.2) (s1.1.getD (Int.toNat (w64 (p1 + y2))) 0)).set (Int.toNat (w64 (p1 + y2))) (s1.1.getD (Int.toNat s1.2.2) 0))
abbrev c76e3 (r15 : Int × Int) (r2 : Int) := (w64 (kand .u64 r15.1 (IntKind.u64.wrap (r2 - 1))))
theorem Qc (p0 : List Int) (p1 : Int) (p2 : Int) (RES : List Int) (hm : Ex p0 p1 p2 = some RES) : Spec Tryz.prog 155 [ow 0 p0.length,pI p1,pI p2] [roI p0] (.p (.tup [])) [roI RES] [] := by
 unfold Ex at hm
 refine SO Tryz.func155 rfl rfl [(0,ow 0 p0.length),(1,pI p1),(2,pI p2)] [(0,ob0 (roI p0))] ?_
 intro cx hnt
 refine Sq (RD hnt (nn 4 []) [2] [(6,pI (w64 (p2 - p1)))] [] [] tv ?_)
 refine Sq (RD hnt (nn 2 []) [] [(15,pB (decide ((w64 (p2 - p1)) ≥ 8)))] [] [] tv ?_)
 refine Aq hm ?_ ?_
 ·intro h1 hm
  refine Sq (RD hnt (nn 4 []) [15] [(7,rr 1056)] [] [(1056,bx [.p (vk .u64 (IntKind.u64.wrap (w64 (p2 - p1))))])] tv ?_)
  obtain ⟨r2,hr2,hm⟩ := bo hm
  refine Sq (RD hnt (.no :: o77 [] true r2 :: .no :: []) [] [(8,.p (vk .u64 r2))] [] [] (an (Vy (w64 (p2 - p1)) r2 hr2) tv) ?_)
  refine Sq (RD hnt (nn 7 []) [] [(9,pI (w64 ((w64 (p1 + (w64 ((w64 (Int.tdiv (w64 (p2 - p1)) 4)) * 2)))) - 1)))] [] [] (an (by decide : (4 : Int) ≠ 0) tv) ?_)
  refine Bk ?_
  refine DW.whileO (fun (s1 : (List Int) × Int × Int) => Ae [(0,ow 0 s1.1.length),(1,pI p1),(6,pI (w64 (p2 - p1))),(7,rr 1056),(8,.p (vk .u64 r2)),(9,pI s1.2.2)] [(0,ob0 (roI s1.1)),(1056,bx [.p (vk .u64 s1.2.1)])]) hm Conv.eqK ?_
  intro s1 n1 hm
  unfold Hw at hm
  refine Sq (Sq (RD hnt (nn 8 []) [] [(33,pB (decide (s1.2.2 ≤ (w64 ((w64 (p1 + (w64 ((w64 (Int.tdiv (w64 (p2 - p1)) 4)) * 2)))) + 1)))))] [] [] (an (by decide : (4 : Int) ≠ 0) tv) ?_))
  refine Aq hm ?_ ?_
  ·intro h14 hm
   refine Sk ?_
   refine Sq (Bk ?_)
   obtain ⟨r15,hr15,hm⟩ := bo hm
   refine Sq (RD hnt (o78 [1056] true r15 :: nn 5 []) [33] [(10,pI (c76e3 r15 r2))] [] [(1056,bx [.p (vk .u64 r15.2)])] (an (Wo s1.2.1 r15 hr15) (an tv tv)) ?_)
   refine Sq (Sq (RD hnt (nn 3 []) [] [(43,pB (decide ((c76e3 r15 r2) ≥ (w64 (p2 - p1)))))] [] [] tv ?_))
   refine Jn (ι := Int) (fun (y2 : Int) => Ae [(0,ow 0 s1.1.length),(1,pI p1),(6,pI (w64 (p2 - p1))),(7,rr 1056),(8,.p (vk .u64 r2)),(9,pI s1.2.2),(10,pI y2)] [(0,ob0 (roI s1.1)),(1056,bx [.p (vk .u64 r15.2)])]) (fun y2 => (De p1 s1 n1 r15) y2 = some RES) ?_ ?_
   ·intro y2 hm
    unfold De at hm
    obtain ⟨g17,g18,g19,g20,hm⟩ := go4 hm
    obtain ⟨g21,g22,g23,g24,hm⟩ := go4 hm
    refine RN hnt (nn 20 []) [(0,ow 0 (c76e2 s1 p1 y2).length),(1,pI p1),(6,pI (w64 (p2 - p1))),(7,rr 1056),(8,.p (vk .u64 r2)),(9,pI s1.2.2)] [(0,ob0 (roI (c76e2 s1 p1 y2))),(1056,bx [.p (vk .u64 r15.2)])] [(0,ow 0 s1.1.length)] [(0,.row 1 s1.1.length (c76e1 s1 p1 y2))] (an g17.1 (an g17.2 (an g18 (an g19.1 (an g19.2 (an g20 (an g21.1 (an g21.2 (an g22 (an g23.1 (an g23.2 (an g24 tv)))))))))))) (by kernel_rfl) (.cons rfl (MLe.ownLen (enc := Az) (d := 0) (f := (c76e1 s1 p1 y2)) (RowIs.updR (RowIs.upd RowIs.elems (s1.1.getD (Int.toNat (w64 (p1 + y2))) 0) rfl) (by omega) (s1.1.getD (Int.toNat s1.2.2) 0) rfl)) .nil) (.cons rfl (BLe.typed (RowIs.updR (RowIs.upd RowIs.elems (s1.1.getD (Int.toNat (w64 (p1 + y2))) 0) rfl) (by omega) (s1.1.getD (Int.toNat s1.2.2) 0) rfl)) .nil) ?_
    refine DW.done ?_
    show DW _ _ _ _ _
    refine RD hnt (nn 3 []) [] [(9,pI (w64 (s1.2.2 + 1)))] [] [] tv ?_
    exact jD ((c76e2 s1 p1 y2),r15.2,(w64 (s1.2.2 + 1))) hm Conv.eqK
   ·refine Aq hm ?_ ?_
    ·intro h16 hm
     refine RD hnt (nn 4 []) [43] [(10,pI (w64 ((c76e3 r15 r2) - (w64 (p2 - p1)))))] [] [] tv ?_
     exact jD (w64 ((c76e3 r15 r2) - (w64 (p2 - p1)))) hm Conv.eqK
    ·intro h16 hm
     refine Sk ?_
     exact jD (c76e3 r15 r2) hm Conv.t0
  ·intro h14 hm
   refine DW.exit ?_
   refine Ap ?_
   refine Au ?_
   refine Aj ?_
   show DW _ _ _ _ _
   refine DW.done ?_
   obtain rfl := sj hm
   exact endK [roI s1.1] [] (.p (.tup []))
 ·intro h1 hm
  refine Sk ?_
  refine DW.done ?_
  obtain rfl := sj hm
  exact endK [roI p0] [] (.p (.tup []))
abbrev o76 (ks : List Nat) (b : Bool) (RES : List Int) (sm : List Nat := []) : Orc := .call 155 ks b (.p (.tup [])) [roI RES] [] sm

abbrev Uj (s1 : (List Int) × Int × Int × Int × Bool × Bool) : Nat × MV := (10,pI (w64 (s1.2.2.1 - s1.2.1)))
abbrev Aak (s1 : (List Int) × Int × Int × Int × Bool × Bool) := (w64 (Int.tdiv (w64 (s1.2.2.1 - s1.2.1)) 8))
theorem Tb (rec : (List Int) → Int → Int → Int → Option (List Int)) (ih : ∀ (p0 : List Int) (p1 : Int) (p2 : Int) (p3 : Int) (RES : List Int),rec p0 p1 p2 p3 = some RES → Spec Tryz.prog 105 [ow 0 p0.length,pI p1,pI p2,pI p3] [roI p0] (.p (.tup [])) [roI RES] []) (p0 : List Int) (p1 : Int) (p2 : Int) (p3 : Int) (RES : List Int) (hm : Hz rec p0 p1 p2 p3 = some RES) : Spec Tryz.prog 105 [ow 0 p0.length,pI p1,pI p2,pI p3] [roI p0] (.p (.tup [])) [roI RES] [] := by
 unfold Hz at hm
 refine SO Tryz.func105 rfl rfl [(0,ow 0 p0.length),(1,pI p1),(2,pI p2),(3,pI p3)] [(0,ob0 (roI p0))] ?_
 intro cx hnt
 refine Sq (RD hnt (.no :: []) [] [(8,pB true)] [] [] tv ?_)
 refine Sq (RD hnt (.no :: []) [] [(9,pB true)] [] [] tv ?_)
 refine Bk ?_
 refine DW.whileO (fun (s1 : (List Int) × Int × Int × Int × Bool × Bool) => Ae [(0,ow 0 s1.1.length),(1,pI s1.2.1),(2,pI s1.2.2.1),(3,pI s1.2.2.2.1),(8,pB s1.2.2.2.2.1),(9,pB s1.2.2.2.2.2)] [(0,ob0 (roI s1.1))]) hm Conv.eqK ?_
 intro s1 n1 hm
 unfold Jr at hm
 refine Bk ?_
 refine Sq (RD hnt (nn 4 []) [] [(Uj s1)] [] [] tv ?_)
 refine Sq (Sq (RD hnt (nn 2 []) [] [(23,pB (decide ((w64 (s1.2.2.1 - s1.2.1)) ≤ 12)))] [] [] tv ?_))
 refine Aq hm ?_ ?_
 ·intro h66 hm
  obtain ⟨r67,hr67,hm⟩ := bo hm
  obtain ⟨g68,hm⟩ := go1 hm
  refine Sq (RK hnt (nn 3 (o63 [0] true r67 :: [])) [] [(0,ob0 (roI r67))] (an (Px s1.1 s1.2.1 s1.2.2.1 r67 hr67) (an (⟨rfl,g68⟩ : Body.same (roI s1.1) (roI r67)) tv)) ?_)
  obtain rfl := sj hm
  exact DW.ret (Am [roI r67] [] (.p (.tup [])))
 ·intro h66 hm
  refine Sk ?_
  refine Sq (Sq (RD hnt (nn 2 []) [23] [(29,pB (s1.2.2.2.1 == 0))] [] [] tv ?_))
  refine Aq hm ?_ ?_
  ·intro h69 hm
   obtain ⟨r70,hr70,hm⟩ := bo hm
   obtain ⟨g71,hm⟩ := go1 hm
   refine Sq (RK hnt (nn 3 (o66 [0] true r70 :: [])) [] [(0,ob0 (roI r70))] (an (Sh s1.1 s1.2.1 s1.2.2.1 r70 hr70) (an (⟨rfl,g71⟩ : Body.same (roI s1.1) (roI r70)) tv)) ?_)
   obtain rfl := sj hm
   exact DW.ret (Am [roI r70] [] (.p (.tup [])))
  ·intro h69 hm
   refine Sk ?_
   refine Sq (Sq (RD hnt (nn 2 []) [29] [(35,pB (!s1.2.2.2.2.1))] [] [] tv ?_))
   refine Jn (ι := (List Int) × Int) (fun (y8 : (List Int) × Int) => Ae [(0,ow 0 y8.1.length),(1,pI s1.2.1),(2,pI s1.2.2.1),(3,pI y8.2),(8,pB s1.2.2.2.2.1),(9,pB s1.2.2.2.2.2),(Uj s1)] [(0,ob0 (roI y8.1))]) (fun y8 => (Et rec s1 n1) y8 = some RES) ?_ ?_
   ·intro y8 hm
    unfold Et at hm
    obtain ⟨r75,hr75,hm⟩ := bo hm
    refine Sq (RD hnt (nn 3 (o68 [] true r75 :: nn 5 [])) [] [(11,pI r75.1),(12,pI r75.2)] [] [] (an (Qr y8.1 s1.2.1 s1.2.2.1 r75 hr75) tv) ?_)
    refine Sq (Sq (RD hnt (nn 2 []) [] [(50,pB (r75.2 == 2))] [] [] tv ?_))
    refine Jn (ι := (List Int) × Int × Int) (fun (y9 : (List Int) × Int × Int) => Ae [(0,ow 0 y9.1.length),(1,pI s1.2.1),(2,pI s1.2.2.1),(3,pI y8.2),(8,pB s1.2.2.2.2.1),(9,pB s1.2.2.2.2.2),(Uj s1),(11,pI y9.2.1),(12,pI y9.2.2)] [(0,ob0 (roI y9.1))]) (fun y9 => (Eu rec s1 n1 y8) y9 = some RES) ?_ ?_
    ·intro y9 hm
     unfold Eu at hm
     refine Sq (Sq (DW.regJ (sl2 := [(0,ow 0 y9.1.length),(1,pI s1.2.1),(2,pI s1.2.2.1),(3,pI y8.2),(8,pB s1.2.2.2.2.1),(9,pB s1.2.2.2.2.2),(Uj s1),(11,pI y9.2.1),(68,pB ((s1.2.2.2.2.1 && s1.2.2.2.2.2) && (y9.2.2 == 1)))]) (ob2 := [(0,ob0 (roI y9.1))]) ?_ ?_))
     ·rcases bt s1.2.2.2.2.1 with h79 | h79
      ·rcases bt s1.2.2.2.2.2 with h80 | h80
       ·exact RT hnt (nn 3 (pT :: nn 3 (pT :: []))) [(68,pB (y9.2.2 == 1))] (an2 h79 (an3 h80 tv)) (by kernel_rfl) (.cons rfl (.of_eq (by rw [h79,h80]; try rfl)) .nil)
       ·exact RT hnt (nn 3 (pT :: .no :: sk 2 (pF :: []))) [(68,pB false)] (an2 h79 (an3 h80 tv)) (by kernel_rfl) (.cons rfl (.of_eq (by rw [h79,h80]; try rfl)) .nil)
      ·exact RT hnt (nn 2 (.skip :: pF :: .no :: sk 2 (pF :: []))) [(68,pB false)] (an2 h79 (an3 ff tv)) (by kernel_rfl) (.cons rfl (.of_eq (by rw [h79]; try rfl)) .nil)
     ·refine Jn (ι := List Int) (fun (y10 : List Int) => Ae [(0,ow 0 y10.length),(1,pI s1.2.1),(2,pI s1.2.2.1),(3,pI y8.2),(8,pB s1.2.2.2.2.1),(9,pB s1.2.2.2.2.2),(Uj s1),(11,pI y9.2.1)] [(0,ob0 (roI y10))]) (fun y10 => (Eh rec s1 n1 y8 y9) y10 = some RES) ?_ ?_
      ·intro y10 hm
       unfold Eh at hm
       refine Sq (Sq ?_)
       refine Jn (ι := Bool) (fun (y11 : Bool) => Ae [(0,ow 0 y10.length),(1,pI s1.2.1),(2,pI s1.2.2.1),(3,pI y8.2),(8,pB s1.2.2.2.2.1),(9,pB s1.2.2.2.2.2),(Uj s1),(11,pI y9.2.1),(87,pB y11)] [(0,ob0 (roI y10))]) (fun y11 => (Ef rec s1 n1 y8 y9 y10) y11 = some RES) ?_ ?_
       ·intro y11 hm
        unfold Ef at hm
        refine Aq hm ?_ ?_
        ·intro h91 hm
         obtain ⟨r92,hr92,hm⟩ := bo hm
         obtain ⟨g93,hm⟩ := go1 hm
         refine Sq (RN hnt (nn 4 (o74 [0] true r92 :: .no :: [])) [(0,ow 0 r92.2.length),(2,pI s1.2.2.1),(3,pI y8.2),(8,pB s1.2.2.2.2.1),(9,pB s1.2.2.2.2.2),(13,pI r92.1)] [(0,ob0 (roI r92.2))] [(0,ow 0 y10.length)] [] (an (Pu y10 s1.2.1 s1.2.2.1 y9.2.1 r92 hr92) (an (⟨rfl,g93⟩ : Body.same (roI y10) (roI r92.2)) tv)) (by kernel_rfl) (.cons rfl (MLe.of_eq (congrArg (MV.own 0 0 0) g93)) .nil) .nil ?_)
         refine Sq (RD hnt (nn 2 []) [13] [(1,pI r92.1)] [] [] tv ?_)
         refine DW.exit ?_
         refine Aj ?_
         show DW _ _ _ _ _
         exact jD (r92.2,r92.1,s1.2.2.1,y8.2,s1.2.2.2.2.1,s1.2.2.2.2.2) hm Conv.eqK
        ·intro h91 hm
         refine Sk ?_
         obtain ⟨r94,hr94,hm⟩ := bo hm
         obtain ⟨g95,hm⟩ := go1 hm
         refine Sq (RN hnt (nn 4 (o75 [0] true r94 :: nn 5 [])) [(0,ow 0 r94.2.2.length),(1,pI s1.2.1),(2,pI s1.2.2.1),(3,pI y8.2),(Uj s1),(14,pI r94.1),(15,pB r94.2.1)] [(0,ob0 (roI r94.2.2))] [(0,ow 0 y10.length)] [] (an (Se y10 s1.2.1 s1.2.2.1 y9.2.1 r94 hr94) (an (⟨rfl,g95⟩ : Body.same (roI y10) (roI r94.2.2)) tv)) (by kernel_rfl) (.cons rfl (MLe.of_eq (congrArg (MV.own 0 0 0) g95)) .nil) .nil ?_)
         refine Sq (RD hnt (nn 2 []) [15] [(9,pB r94.2.1)] [] [] tv ?_)
         refine Sq (RD hnt (nn 8 []) [] [(16,pI (w64 (r94.1 - s1.2.1))),(17,pI (w64 (s1.2.2.1 - r94.1)))] [] [] tv ?_)
         refine Sq (RD hnt (nn 3 []) [10] [(18,pI (Aak s1))] [] [] (an (by decide : (8 : Int) ≠ 0) tv) ?_)
         refine Sq (RD hnt (nn 3 []) [] [(113,pB (decide ((w64 (r94.1 - s1.2.1)) < (w64 (s1.2.2.1 - r94.1)))))] [] [] tv ?_)
         refine Aq hm ?_ ?_
         ·intro h96 hm
          refine Sq (RD hnt (nn 4 []) [16,17,18,113] [(8,pB (decide ((w64 (r94.1 - s1.2.1)) ≥ (Aak s1))))] [] [] tv ?_)
          obtain ⟨r97,hr97,hm⟩ := bo hm
          obtain ⟨g98,hm⟩ := go1 hm
          refine Sq (RN hnt (nn 4 (.call 105 [0] true (.p (.tup [])) [roI r97] [] [] :: [])) [(0,ow 0 r97.length),(2,pI s1.2.2.1),(3,pI y8.2),(8,pB (decide ((w64 (r94.1 - s1.2.1)) ≥ (Aak s1)))),(9,pB r94.2.1),(14,pI r94.1)] [(0,ob0 (roI r97))] [(0,ow 0 r94.2.2.length)] [] (an (ih r94.2.2 s1.2.1 r94.1 y8.2 r97 hr97) (an (⟨rfl,g98⟩ : Body.same (roI r94.2.2) (roI r97)) tv)) (by kernel_rfl) (.cons rfl (MLe.of_eq (congrArg (MV.own 0 0 0) g98)) .nil) .nil ?_)
          refine RD hnt (nn 3 []) [14] [(1,pI (w64 (r94.1 + 1)))] [] [] tv ?_
          refine DW.done ?_
          show DW _ _ _ _ _
          exact jD (r97,(w64 (r94.1 + 1)),s1.2.2.1,y8.2,(decide ((w64 (r94.1 - s1.2.1)) ≥ (Aak s1))),r94.2.1) hm Conv.eqK
         ·intro h96 hm
          refine Sq (RD hnt (nn 4 []) [16,17,18,113] [(8,pB (decide ((w64 (s1.2.2.1 - r94.1)) ≥ (Aak s1))))] [] [] tv ?_)
          obtain ⟨r99,hr99,hm⟩ := bo hm
          obtain ⟨g100,hm⟩ := go1 hm
          refine Sq (RN hnt (nn 5 (.call 105 [0] true (.p (.tup [])) [roI r99] [] [] :: [])) [(0,ow 0 r99.length),(1,pI s1.2.1),(3,pI y8.2),(8,pB (decide ((w64 (s1.2.2.1 - r94.1)) ≥ (Aak s1)))),(9,pB r94.2.1),(14,pI r94.1)] [(0,ob0 (roI r99))] [(0,ow 0 r94.2.2.length)] [] (an (ih r94.2.2 (w64 (r94.1 + 1)) s1.2.2.1 y8.2 r99 hr99) (an (⟨rfl,g100⟩ : Body.same (roI r94.2.2) (roI r99)) tv)) (by kernel_rfl) (.cons rfl (MLe.of_eq (congrArg (MV.own 0 0 0) g100)) .nil) .nil ?_)
          refine RD hnt (nn 2 []) [14] [(2,pI r94.1)] [] [] tv ?_
          refine DW.done ?_
          show DW _ _ _ _ _
          exact jD (r99,s1.2.1,r94.1,y8.2,(decide ((w64 (s1.2.2.1 - r94.1)) ≥ (Aak s1))),r94.2.1) hm Conv.eqK
       ·rcases bt (decide (s1.2.1 > 0)) with h85 | h85
        ·replace hm := Bc h85 hm
         obtain ⟨g86,g87,g88,g89,hm⟩ := go4 hm
         obtain ⟨r90,hr90,hm⟩ := bo hm
         refine RD hnt (nn 12 (o64 [] true r90 :: .no :: pT :: [])) [] [(87,pB (!r90))] [] [] (an4 h85 (an g86.1 (an g86.2 (an h85 (an g87 (an3 h85 (an g88.1 (an g88.2 (an h85 (an g89 (an h85 (an (Cw (y10.getD (Int.toNat (w64 (s1.2.1 - 1))) 0) (y10.getD (Int.toNat y9.2.1) 0) r90 hr90) (an2 h85 tv))))))))))))) ?_
         exact jD (!r90) hm Conv.eqK
        ·replace hm := Bd h85 hm
         refine RD hnt (nn 3 (sk 11 (pF :: []))) [] [(87,pB false)] [] [] (an6 h85 (an6 h85 tv)) ?_
         exact jD false hm Conv.eqK
      ·refine Aq hm ?_ ?_
       ·intro h81 hm
        obtain ⟨r82,hr82,hm⟩ := bo hm
        obtain ⟨g83,hm⟩ := go1 hm
        refine Sq (RN hnt (nn 3 (o73 [0] true r82 :: [])) [(0,ow 0 r82.2.length),(1,pI s1.2.1),(2,pI s1.2.2.1),(3,pI y8.2),(8,pB s1.2.2.2.2.1),(9,pB s1.2.2.2.2.2),(Uj s1),(11,pI y9.2.1),(72,pB r82.1)] [(0,ob0 (roI r82.2))] [(0,ow 0 y9.1.length)] [] (an (Mn y9.1 s1.2.1 s1.2.2.1 r82 hr82) (an (⟨rfl,g83⟩ : Body.same (roI y9.1) (roI r82.2)) tv)) (by kernel_rfl) (.cons rfl (MLe.of_eq (congrArg (MV.own 0 0 0) g83)) .nil) .nil ?_)
        refine Aq hm ?_ ?_
        ·intro h84 hm
         obtain rfl := sj hm
         exact DW.ret (Am [roI r82.2] [] (.p (.tup [])))
        ·intro h84 hm
         refine Sk ?_
         exact jD r82.2 hm Conv.t0
       ·intro h81 hm
        refine Sk ?_
        exact jD y9.1 hm Conv.t0
    ·refine Aq hm ?_ ?_
     ·intro h76 hm
      obtain ⟨r77,hr77,hm⟩ := bo hm
      obtain ⟨g78,hm⟩ := go1 hm
      refine Sq (RN hnt (nn 3 (o72 [0] true r77 :: [])) [(0,ow 0 r77.length),(1,pI s1.2.1),(2,pI s1.2.2.1),(3,pI y8.2),(8,pB s1.2.2.2.2.1),(9,pB s1.2.2.2.2.2),(Uj s1),(11,pI r75.1)] [(0,ob0 (roI r77))] [(0,ow 0 y8.1.length)] [] (an (Qk y8.1 s1.2.1 s1.2.2.1 r77 hr77) (an (⟨rfl,g78⟩ : Body.same (roI y8.1) (roI r77)) tv)) (by kernel_rfl) (.cons rfl (MLe.of_eq (congrArg (MV.own 0 0 0) g78)) .nil) .nil ?_)
      refine Sq (RD hnt (nn 7 []) [] [(11,pI (w64 ((w64 (s1.2.2.1 - 1)) - (w64 (r75.1 - s1.2.1)))))] [] [] tv ?_)
      refine RD hnt (.no :: []) [] [(12,pI 1)] [] [] tv ?_
      exact jD (r77,(w64 ((w64 (s1.2.2.1 - 1)) - (w64 (r75.1 - s1.2.1)))),1) hm Conv.eqK
     ·intro h76 hm
      refine Sk ?_
      exact jD (y8.1,r75.1,r75.2) hm Conv.t0
   ·refine Aq hm ?_ ?_
    ·intro h72 hm
     obtain ⟨r73,hr73,hm⟩ := bo hm
     obtain ⟨g74,hm⟩ := go1 hm
     refine Sq (RN hnt (nn 3 (o76 [0] true r73 :: [])) [(0,ow 0 r73.length),(1,pI s1.2.1),(2,pI s1.2.2.1),(3,pI s1.2.2.2.1),(8,pB s1.2.2.2.2.1),(9,pB s1.2.2.2.2.2),(Uj s1)] [(0,ob0 (roI r73))] [(0,ow 0 s1.1.length)] [] (an (Qc s1.1 s1.2.1 s1.2.2.1 r73 hr73) (an (⟨rfl,g74⟩ : Body.same (roI s1.1) (roI r73)) tv)) (by kernel_rfl) (.cons rfl (MLe.of_eq (congrArg (MV.own 0 0 0) g74)) .nil) .nil ?_)
     refine RD hnt (nn 3 []) [] [(3,pI (w64 (s1.2.2.2.1 - 1)))] [] [] tv ?_
     exact jD (r73,(w64 (s1.2.2.2.1 - 1))) hm Conv.eqK
    ·intro h72 hm
     refine Sk ?_
     exact jD (s1.1,s1.2.2.2.1) hm Conv.t0
theorem Lx : ∀ (n : Nat) (p0 : List Int) (p1 : Int) (p2 : Int) (p3 : Int) (RES : List Int),Bw n p0 p1 p2 p3 = some RES → Spec Tryz.prog 105 [ow 0 p0.length,pI p1,pI p2,pI p3] [roI p0] (.p (.tup [])) [roI RES] []
  | 0,p0,p1,p2,p3,RES,hm => by simp [Bw] at hm
  | n + 1,p0,p1,p2,p3,RES,hm => Tb (Bw n) (Lx n) p0 p1 p2 p3 RES hm
theorem Tp (p0 : List Int) (p1 : Int) (p2 : Int) (p3 : Int) (RES : List Int) (hm : Ko p0 p1 p2 p3 = some RES) : Spec Tryz.prog 105 [ow 0 p0.length,pI p1,pI p2,pI p3] [roI p0] (.p (.tup [])) [roI RES] [] := Lx Fw p0 p1 p2 p3 RES hm
abbrev o62 (ks : List Nat) (b : Bool) (RES : List Int) (sm : List Nat := []) : Orc := .call 105 ks b (.p (.tup [])) [roI RES] [] sm

theorem Tq (p0 : List Int) (RES : List Int) (hm : Hq p0 = some RES) : Spec Tryz.prog 52 [ow 0 p0.length] [roI p0] (.p (.tup [])) [roI RES] [] := by
 unfold Hq at hm
 refine SO Tryz.func52 rfl rfl [(0,ow 0 p0.length)] [(0,ob0 (roI p0))] ?_
 intro cx hnt
 refine Sq (RD hnt (nn 3 []) [] [(2,pI ((p0.length : Nat) : Int))] [] [] tv ?_)
 obtain ⟨r1,hr1,hm⟩ := bo hm
 obtain ⟨r2,hr2,hm⟩ := bo hm
 obtain ⟨g3,hm⟩ := go1 hm
 refine RK hnt (nn 4 (o60 [] true r1 :: o62 [0] true r2 :: [])) [] [(0,ob0 (roI r2))] (an (Abw (IntKind.u64.wrap ((p0.length : Nat) : Int)) r1 hr1) (an (Tp p0 0 ((p0.length : Nat) : Int) r1 r2 hr2) (an (⟨rfl,g3⟩ : Body.same (roI p0) (roI r2)) tv))) ?_
 refine DW.done ?_
 obtain rfl := sj hm
 exact endK [roI r2] [] (.p (.tup []))
abbrev o59 (ks : List Nat) (b : Bool) (RES : List Int) (sm : List Nat := []) : Orc := .call 52 ks b (.p (.tup [])) [roI RES] [] sm

abbrev Yg (s4 : (List Int) × Int) (k1 : Int) (k4 : Int) := (s4.1.getD (Tj (Int.toNat k1) (Int.toNat k4)) 0)
abbrev c79e2 (k1 : Int) (p0 : List Int) : Nat × MV := (4,.own 0 0 (Int.toNat k1) (Cc p0.length (Int.toNat k1)))
abbrev c79e3 (s4 : (List Int) × Int) := (Io s4.1 (Int.toNat s4.2) (Cc s4.1.length (Int.toNat s4.2)) 0)
theorem Zg (p0 : List Int) (RES : Nat × (List Int)) (hm : Ij p0 = some RES) : Spec Tryz.prog 132 [ow 0 p0.length] [roI p0] (ow 0 RES.1) [roI RES.2] [] := by
 unfold Ij at hm
 refine SO Tryz.func132 rfl rfl [(0,ow 0 p0.length)] [(0,ob0 (roI p0))] ?_
 intro cx hnt
 refine Sq (RD hnt (.no :: []) [] [] [] [] tv ?_)
 refine Sq (Sq (RD hnt (nn 3 []) [] [(8,pB (decide (((p0.length : Nat) : Int) < 2)))] [] [] tv ?_))
 refine Aq hm ?_ ?_
 ·intro h1 hm
  refine Sq (RK hnt (nn 2 []) [(2,ow 0 p0.length)] [(0,ob0 (roI p0))] tv ?_)
  obtain rfl := sj hm
  exact DW.ret (Am [roI p0] [] (ow 0 p0.length))
 ·intro h1 hm
  refine Sk ?_
  refine Sq (Sq (RD hnt (.no :: []) [8] [(3,pI 1)] [] [] tv ?_))
  refine Bk ?_
  obtain ⟨hc1,hm⟩ := go1 hm
  refine DW.forO (fun (k1 : Int) (s1 : Unit) => Ae [(0,ow 0 p0.length),(3,pI k1)] [(0,ob0 (roI p0))]) (lo := 1) (hi := ((p0.length : Nat) : Int)) hm Conv.eqK ?_
  intro k1 s1 n1 hk1 hs1 he1
  refine Sq (Sq (RD hnt (nn 4 []) [] [(13,pB (decide (k1 < ((p0.length : Nat) : Int))))] [] [] tv ?_))
  refine Ej (decide (k1 < ((p0.length : Nat) : Int))) ?_ ?_
  ·intro h94
   have hlt1 : k1 < ((p0.length : Nat) : Int) := by have := of_decide_eq_true h94; omega
   have hm := hs1 hlt1
   unfold Nl at hm
   refine Sk ?_
   refine Sq (Bk ?_)
   obtain ⟨g95,g96,g97,g98,hm⟩ := go4 hm
   refine Sq (RD hnt (nn 10 []) [13] [(25,pB ((p0.getD (Int.toNat k1) 0) == (p0.getD (Int.toNat (w64 (k1 - 1))) 0)))] [] [] (an g95.1 (an g95.2 (an g96 (an g97.1 (an g97.2 (an g98 tv)))))) ?_)
   refine Aq hm ?_ ?_
   ·intro h99 hm
    obtain ⟨g100,hm⟩ := go1 hm
    refine Sq (RD hnt (nn 4 []) [25] [(c79e2 k1 p0)] [] [] (an (by omega : (0 : Int) ≤ k1) (an (by omega : k1 ≤ ((p0.length : Nat) : Int)) (an (by omega : ((p0.length : Nat) : Int) ≤ ((p0.length : Nat) : Int)) tv))) ?_)
    refine Sq (Sq (RD hnt (.no :: []) [] [(5,pI 1)] [] [] tv ?_))
    refine Bk ?_
    obtain ⟨hc4,hm⟩ := go1 hm
    refine DW.forO (fun (k4 : Int) (s4 : (List Int) × Int) => Ae [(0,ow 0 s4.1.length),(3,pI s4.2),(c79e2 k1 p0),(5,pI k4)] [(0,ob0 (roI s4.1))]) (lo := 1) (hi := (((Cc p0.length (Int.toNat k1)) : Nat) : Int)) hm Conv.eqK ?_
    intro k4 s4 n4 hk4 hs4 he4
    refine Sq (Sq (RD hnt (nn 4 []) [] [(32,pB (decide (k4 < (((Cc p0.length (Int.toNat k1)) : Nat) : Int))))] [] [] tv ?_))
    refine Ej (decide (k4 < (((Cc p0.length (Int.toNat k1)) : Nat) : Int))) ?_ ?_
    ·intro h127
     have hlt4 : k4 < (((Cc p0.length (Int.toNat k1)) : Nat) : Int) := by have := of_decide_eq_true h127; omega
     have hm := hs4 hlt4
     unfold Nv at hm
     refine Sk ?_
     refine Sq ?_
     refine Jn (ι := (List Int) × Int) (fun (y9 : (List Int) × Int) => Ae [(0,ow 0 y9.1.length),(3,pI y9.2),(c79e2 k1 p0),(5,pI k4)] [(0,ob0 (roI y9.1))]) (fun y9 => (Km n4) y9 = some RES) ?_ ?_
     ·intro y9 hm
      unfold Km at hm
      refine RD hnt (nn 3 []) [] [(5,pI (w64 (k4 + 1)))] [] [] tv ?_
      exact jD (y9.1,y9.2) ⟨hlt4,hm⟩ (Conv.tp [(5,pI (w64 (k4 + 1)))] [] (by kernel_rfl) (.cons rfl (.of_eq (congrArg pI (Qd (lo := 1) (hi := (((Cc p0.length (Int.toNat k1)) : Nat) : Int)) (by omega) hk4 hlt4 (by omega)))) .nil) .nil)
     ·refine Bk ?_
      obtain ⟨g128,g129,g130,g131,hm⟩ := go4 hm
      refine Sq (RD hnt (nn 10 []) [32] [(44,pB ((Yg s4 k1 k4) != (s4.1.getD (Tj (Int.toNat k1) (Int.toNat (w64 (k4 - 1)))) 0)))] [] [] (an g128.1 (an g128.2 (an g129 (an g130.1 (an g130.2 (an g131 tv)))))) ?_)
      refine Aq hm ?_ ?_
      ·intro h132 hm
       obtain ⟨g133,g134,g135,g136,hm⟩ := go4 hm
       refine Sq (RN hnt (nn 8 []) [(0,ow 0 (s4.1.set (Int.toNat s4.2) (Yg s4 k1 k4)).length),(3,pI s4.2),(c79e2 k1 p0),(5,pI k4)] [(0,ob0 (roI (s4.1.set (Int.toNat s4.2) (Yg s4 k1 k4))))] [(0,ow 0 s4.1.length)] [(0,.row 1 s4.1.length (Bo (elI s4.1) (Int.toNat s4.2) [vi (Yg s4 k1 k4)]))] (an g133.1 (an g133.2 (an g134 (an g135.1 (an g135.2 (an g136 tv)))))) (by kernel_rfl) (.cons rfl (MLe.ownLen (enc := Az) (d := 0) (f := (Bo (elI s4.1) (Int.toNat s4.2) [vi (Yg s4 k1 k4)])) (RowIs.upd RowIs.elems (Yg s4 k1 k4) rfl)) .nil) (.cons rfl (BLe.typed (RowIs.upd RowIs.elems (Yg s4 k1 k4) rfl)) .nil) ?_)
       refine RD hnt (nn 3 []) [] [(3,pI (w64 (s4.2 + 1)))] [] [] tv ?_
       exact bD ((s4.1.set (Int.toNat s4.2) (Yg s4 k1 k4)),(w64 (s4.2 + 1))) hm Conv.eqK
      ·intro h132 hm
       refine Sk ?_
       exact bD (s4.1,s4.2) hm Conv.t0
    ·intro h127
     have hge4 : ¬ k4 < (((Cc p0.length (Int.toNat k1)) : Nat) : Int) := by have := of_decide_eq_false h127; omega
     have hm := he4 hge4
     unfold Nm at hm
     refine DW.exit ?_
     refine Ap ?_
     refine Au ?_
     refine Aj ?_
     show DW _ _ _ _ _
     obtain ⟨g137,g138,hm⟩ := go2 hm
     refine Sq (RN hnt (nn 4 []) [(0,ow 0 (c79e3 s4).length),(3,pI s4.2)] [(0,ob0 (roI (c79e3 s4)))] [(0,ow 0 s4.1.length)] [(0,.row 1 s4.1.length (Jq (elI s4.1) (Int.toNat s4.2) (Cc s4.1.length (Int.toNat s4.2)) (fun _ => [vi 0])))] (an (by omega : (0 : Int) ≤ s4.2) (an (by omega : s4.2 ≤ ((s4.1.length : Nat) : Int)) (an (by omega : ((s4.1.length : Nat) : Int) ≤ ((s4.1.length : Nat) : Int)) (an g138 tv)))) (by kernel_rfl) (.cons rfl (MLe.ownLen (enc := Az) (d := 0) (f := (Jq (elI s4.1) (Int.toNat s4.2) (Cc s4.1.length (Int.toNat s4.2)) (fun _ => [vi 0]))) (RowIs.fill RowIs.elems 0 rfl (by first | exact g138 | omega))) .nil) (.cons rfl (BLe.typed (RowIs.fill RowIs.elems 0 rfl (by first | exact g138 | omega))) .nil) ?_)
     obtain ⟨g139,hm⟩ := go1 hm
     refine Sq (RD hnt (nn 4 []) [0,3] [(2,ow 0 (Int.toNat s4.2))] [] [] (an (by omega : (0 : Int) ≤ 0) (an (by omega : (0 : Int) ≤ s4.2) (an (by omega : s4.2 ≤ (((Io s4.1 (Int.toNat s4.2) (Cc s4.1.length (Int.toNat s4.2)) 0).length : Nat) : Int)) tv))) ?_)
     obtain rfl := sj hm
     exact DW.ret (Am [roI (c79e3 s4)] [] (ow 0 (Int.toNat s4.2)))
   ·intro h99 hm
    refine Sk ?_
    refine DW.done ?_
    show DW _ _ _ _ _
    refine RD hnt (nn 3 []) [25] [(3,pI (w64 (k1 + 1)))] [] [] tv ?_
    exact jD () ⟨hlt1,hm⟩ (Conv.tp [(3,pI (w64 (k1 + 1)))] [] (by kernel_rfl) (.cons rfl (.of_eq (congrArg pI (Qd (lo := 1) (hi := ((p0.length : Nat) : Int)) (by omega) hk1 hlt1 (by omega)))) .nil) .nil)
  ·intro h94
   have hge1 : ¬ k1 < ((p0.length : Nat) : Int) := by have := of_decide_eq_false h94; omega
   have hm := he1 hge1
   unfold Sw at hm
   refine DW.exit ?_
   refine Ap ?_
   refine Au ?_
   refine Aj ?_
   show DW _ _ _ _ _
   refine Sq (RK hnt (nn 2 []) [(2,ow 0 p0.length)] [(0,ob0 (roI p0))] tv ?_)
   obtain rfl := sj hm
   exact DW.ret (Am [roI p0] [] (ow 0 p0.length))
abbrev o79 (ks : List Nat) (b : Bool) (RES : Nat × (List Int)) (sm : List Nat := []) : Orc := .call 132 ks b (ow 0 RES.1) [roI RES.2] [] sm

theorem Ym (p0 : List Int) (RES : List Int) (hm : Me p0 = some RES) : Spec Tryz.prog 203 [.p (slI p0)] [] (ow 0 RES.length) [] [roI RES] := by
 unfold Me at hm
 refine SO Tryz.func203 rfl rfl [(0,.p (slI p0))] [] ?_
 intro cx hnt
 refine Sq (RK hnt (.no :: []) [(0,.p (slI p0))] [] tv ?_)
 obtain ⟨r1,hr1,hm⟩ := bo hm
 refine Sq (RK hnt (.no :: o39 [] true r1 :: .no :: []) [(3,ow 1040 r1.length)] [(1040,ob0 (roI r1))] (an (Hi p0 r1 hr1) tv) ?_)
 obtain ⟨r2,hr2,hm⟩ := bo hm
 obtain ⟨g3,hm⟩ := go1 hm
 refine Sq (RN hnt (.no :: o59 [1040] true r2 :: []) [(3,ow 1040 r2.length)] [(1040,ob0 (roI r2))] [(3,ow 1040 r1.length)] [] (an (Tq r1 r2 hr2) (an (⟨rfl,g3⟩ : Body.same (roI r1) (roI r2)) tv)) (by kernel_rfl) (.cons rfl (MLe.of_eq (congrArg (MV.own 1040 0 0) g3)) .nil) .nil ?_)
 obtain ⟨r4,hr4,hm⟩ := bo hm
 obtain ⟨g5,g6,hm⟩ := go2 hm
 refine Sq (RK hnt (.no :: o79 [1040] true r4 :: .no :: []) [(2,ow 1040 r4.1)] [(1040,ob0 (roI r4.2))] (an (Zg r2 r4 hr4) (an (⟨rfl,g5⟩ : Body.same (roI r2) (roI r4.2)) tv)) ?_)
 refine DW.conv (τ := Ae [(2,ow 1040 (r4.2.take r4.1).length)] [(1040,ob0 (roI (r4.2.take r4.1)))]) (Conv.trans (τ := Ae [(2,ow 1040 r4.1)] [(1040,ob0 (.row 1 r4.1 (elI r4.2)))]) (Conv.cut 1040 r4.1 (And.intro (show r4.1 ≤ r4.2.length by omega) (an (Nat.le_of_eq (Nat.zero_add r4.1)) tv))) (Conv.tp [(2,ow 1040 r4.1)] [(1040,.row 1 r4.1 (elI r4.2))] (by kernel_rfl) (.cons rfl (MLe.ownLen (enc := Az) (d := 0) (f := (elI r4.2)) (RowIs.elems.take (by omega))) .nil) (.cons rfl (BLe.typed (RowIs.elems.take (by omega))) .nil))) ?_
 obtain rfl := sj hm
 exact DW.ret (Am [roI (r4.2.take r4.1)] [1040] (ow 0 (r4.2.take r4.1).length))
abbrev o58 (ks : List Nat) (b : Bool) (RES : List Int) (sm : List Nat := []) : Orc := .call 203 ks b (ow 0 RES.length) [] [roI RES] sm

theorem AcJ (p0 : Int) (p1 : List Int) (RES : Bool) (hm : Ss p0 p1 = some RES) : Spec Tryz.prog 189 [pI p0,rr 0] [.box [.p (slI p1)]] (pB RES) [.box [.p (slI p1)]] [] := by
 unfold Ss at hm
 refine SO Tryz.func189 rfl rfl [(0,pI p0),(1,rr 0)] [(0,bx [.p (slI p1)])] ?_
 intro cx hnt
 refine Sq (RD hnt (.no :: []) [] [] [] [] tv ?_)
 obtain ⟨r1,hr1,hm⟩ := bo hm
 refine Sq (RD hnt (nn 2 (o53 [] true r1 :: nn 2 [])) [0,1] [(3,pB (!r1))] [] [] (an (Xf p1 p0 r1 hr1) tv) ?_)
 obtain rfl := sj hm
 exact DW.ret (Am [.box [.p (slI p1)]] [] (pB (!r1)))

theorem Mh (p0 : Int) (p1c0 : List Int) (RES : Bool) (hm : Fn p0 p1c0 = some RES) : Spec Tryz.prog 204 [pI p0,rr 0] [.box [.fn 189 [rr 1]],.box [.p (slI p1c0)]] (pB RES) [.box [.fn 189 [rr 1]],.box [.p (slI p1c0)]] [] := by
 unfold Fn at hm
 refine SO Tryz.func204 rfl rfl [(0,pI p0),(1,rr 0)] [(0,bx [.fn 189 [rr 1]]),(1,bx [.p (slI p1c0)])] ?_
 intro cx hnt
 refine Sq (RD hnt (.no :: []) [] [] [] [] tv ?_)
 obtain ⟨r1,hr1,hm⟩ := bo hm
 refine Sq (RD hnt (nn 2 (.call 189 [1] true (pB r1) [.box [.p (slI p1c0)]] [] [] :: nn 2 [])) [0,1] [(3,pB (!r1))] [] [] (an (AcJ p0 p1c0 r1 hr1) (an tv tv)) ?_)
 obtain rfl := sj hm
 exact DW.ret (Am [.box [.fn 189 [rr 1]],.box [.p (slI p1c0)]] [] (pB (!r1)))

theorem Kf (p0 : List Int) (p1c0c0 : List Int) (RES : Int) (hm : Dc p0 p1c0c0 = some RES) : Spec Tryz.prog 196 [ow 0 p0.length,.fn 204 [rr 1]] [roI p0,.box [.fn 189 [rr 2]],.box [.p (slI p1c0c0)]] (pI RES) [roI p0,.box [.fn 189 [rr 2]],.box [.p (slI p1c0c0)]] [] := by
 unfold Dc at hm
 refine SO Tryz.func196 rfl rfl [(0,ow 0 p0.length),(1,.fn 204 [rr 1])] [(0,ob0 (roI p0)),(1,bx [.fn 189 [rr 2]]),(2,bx [.p (slI p1c0c0)])] ?_
 intro cx hnt
 refine Sq (RD hnt (.no :: []) [] [] [] [] tv ?_)
 refine Sq (Sq (RD hnt (nn 3 []) [] [(7,pI ((p0.length : Nat) : Int)),(8,pI 0)] [] [] tv ?_))
 refine Bk ?_
 obtain ⟨hc1,hm⟩ := go1 hm
 refine DW.rangeO (fun (k1 : Nat) (s1 : Unit) => Ae [(0,ow 0 p0.length),(1,.fn 204 [rr 1]),(7,pI ((p0.length : Nat) : Int)),(8,pI ((k1 : Nat) : Int))] [(0,ob0 (roI p0)),(1,bx [.fn 189 [rr 2]]),(2,bx [.p (slI p1c0c0)])]) 0 hm Conv.eqK ?_
 intro k1 s1 n1 hk1 hs1 he1
 refine Sq (RD hnt (.no :: []) [] [(9,pB (decide (((k1 : Nat) : Int) < ((p0.length : Nat) : Int))))] [] [] tv ?_)
 refine Sq (Ej (decide (((k1 : Nat) : Int) < ((p0.length : Nat) : Int))) ?_ ?_)
 ·intro h11
  have hlt1 : k1 < p0.length := by have := of_decide_eq_true h11; omega
  have hm := hs1 hlt1
  unfold Eg at hm
  refine Sk ?_
  refine Sq (Bk ?_)
  refine Sq (RD hnt (nn 2 []) [9] [(5,pI ((k1 : Nat) : Int))] [] [] tv ?_)
  obtain ⟨r12,hr12,hm⟩ := bo hm
  refine Sq (RD hnt (nn 5 (.call 204 [1,2] true (pB r12) [.box [.fn 189 [rr 1]],.box [.p (slI p1c0c0)]] [] [] :: [])) [] [(16,pB r12)] [] [] (an (nn0 k1) (an (ltc hlt1) (an (by omega : k1 < p0.length) (an (Mh (p0.getD k1 0) p1c0c0 r12 hr12) (an2 tv tv))))) ?_)
  refine Aq hm ?_ ?_
  ·intro h13 hm
   refine Sq (RD hnt (nn 2 []) [0,1,5,7,8,16] [(4,pI ((k1 : Nat) : Int))] [] [] tv ?_)
   obtain rfl := sj hm
   exact DW.ret (Am [roI p0,.box [.fn 189 [rr 2]],.box [.p (slI p1c0c0)]] [] (pI ((k1 : Nat) : Int)))
  ·intro h13 hm
   refine Sk ?_
   refine DW.done ?_
   show DW _ _ _ _ _
   refine RD hnt (nn 2 []) [5,16] [(8,pI (w64 (((k1 : Nat) : Int) + 1)))] [] [] tv ?_
   exact jD () ⟨hlt1,hm⟩ (Conv.tp [(8,pI (w64 (((k1 : Nat) : Int) + 1)))] [] (by kernel_rfl) (.cons rfl (.of_eq (congrArg pI (Da hlt1 hc1))) .nil) .nil)
 ·intro h11
  have hge1 : ¬ k1 < p0.length := by have := of_decide_eq_false h11; omega
  have hm := he1 hge1
  unfold Gu at hm
  refine DW.exit ?_
  refine Ap ?_
  refine Au ?_
  refine Aj ?_
  show DW _ _ _ _ _
  refine Sq (RD hnt (.no :: []) [0,1,7,8,9] [(4,pI (-1))] [] [] tv ?_)
  obtain rfl := sj hm
  exact DW.ret (Am [roI p0,.box [.fn 189 [rr 2]],.box [.p (slI p1c0c0)]] [] (pI (-1)))

abbrev Vn (s1 : (List Int) × Int × Int) := (s1.1.getD (Int.toNat s1.2.2) 0)
abbrev c80e2 (s1 : (List Int) × Int × Int) := (Io s1.1 (Int.toNat s1.2.1) (Cc s1.1.length (Int.toNat s1.2.1)) 0)
theorem Kc (p0 : List Int) (p1c0c0 : List Int) (RES : Nat × (List Int) × (List Int)) (hm : Ce p0 p1c0c0 = some RES) : Spec Tryz.prog 165 [ow 0 p0.length,.fn 204 [rr 1]] [roI p0,.box [.fn 189 [rr 2]],.box [.p (slI p1c0c0)]] (ow 0 RES.1) [roI RES.2.1,.box [.fn 189 [rr 2]],.box [.p (slI RES.2.2)]] [] := by
 unfold Ce at hm
 refine SO Tryz.func165 rfl rfl [(0,ow 0 p0.length),(1,.fn 204 [rr 1])] [(0,ob0 (roI p0)),(1,bx [.fn 189 [rr 2]]),(2,bx [.p (slI p1c0c0)])] ?_
 intro cx hnt
 refine Sq (RD hnt (.no :: []) [] [] [] [] tv ?_)
 obtain ⟨r1,hr1,hm⟩ := bo hm
 refine Sq (RD hnt (nn 2 (.call 196 [0,1,2] true (pI r1) [roI p0,.box [.fn 189 [rr 2]],.box [.p (slI p1c0c0)]] [] [] :: .no :: [])) [] [(5,pI r1)] [] [] (an (Kf p0 p1c0c0 r1 hr1) (an (⟨rfl,rfl⟩ : Body.same (roI p0) (roI p0)) (an2 tv tv))) ?_)
 refine Sq (Sq (RD hnt (nn 2 []) [] [(12,pB (r1 == (-1)))] [] [] tv ?_))
 refine Aq hm ?_ ?_
 ·intro h2 hm
  refine Sq (RD hnt (nn 2 []) [0,1,5,12] [(4,ow 0 p0.length)] [] [] tv ?_)
  obtain rfl := sj hm
  exact DW.ret (Am [roI p0,.box [.fn 189 [rr 2]],.box [.p (slI p1c0c0)]] [] (ow 0 p0.length))
 ·intro h2 hm
  refine Sk ?_
  refine Sq (Sq (RD hnt (nn 3 []) [12] [(6,pI (w64 (r1 + 1)))] [] [] tv ?_))
  refine Bk ?_
  refine DW.whileO (fun (s1 : (List Int) × Int × Int) => Ae [(0,ow 0 s1.1.length),(1,.fn 204 [rr 1]),(5,pI s1.2.1),(6,pI s1.2.2)] [(0,ob0 (roI s1.1)),(1,bx [.fn 189 [rr 2]]),(2,bx [.p (slI p1c0c0)])]) hm Conv.eqK ?_
  intro s1 n1 hm
  unfold Ct at hm
  refine Sq (Sq (RD hnt (nn 4 []) [] [(19,pB (decide (s1.2.2 < ((s1.1.length : Nat) : Int))))] [] [] tv ?_))
  refine Aq hm ?_ ?_
  ·intro h13 hm
   refine Sk ?_
   refine Sq ?_
   refine Jn (ι := (List Int) × Int) (fun (y2 : (List Int) × Int) => Ae [(0,ow 0 y2.1.length),(1,.fn 204 [rr 1]),(5,pI y2.2),(6,pI s1.2.2)] [(0,ob0 (roI y2.1)),(1,bx [.fn 189 [rr 2]]),(2,bx [.p (slI p1c0c0)])]) (fun y2 => (Cb s1 n1) y2 = some RES) ?_ ?_
   ·intro y2 hm
    unfold Cb at hm
    refine RD hnt (nn 3 []) [] [(6,pI (w64 (s1.2.2 + 1)))] [] [] tv ?_
    exact jD (y2.1,y2.2,(w64 (s1.2.2 + 1))) hm Conv.eqK
   ·refine Bk ?_
    obtain ⟨g14,g15,hm⟩ := go2 hm
    refine Sq (RD hnt (nn 5 []) [19] [(7,pI (Vn s1))] [] [] (an g14.1 (an g14.2 (an g15 tv))) ?_)
    obtain ⟨r16,hr16,hm⟩ := bo hm
    refine Sq (RD hnt (nn 2 (.call 204 [1,2] true (pB r16) [.box [.fn 189 [rr 1]],.box [.p (slI p1c0c0)]] [] [] :: .no :: [])) [] [(29,pB (!r16))] [] [] (an (Mh (Vn s1) p1c0c0 r16 hr16) (an2 tv tv)) ?_)
    refine Aq hm ?_ ?_
    ·intro h17 hm
     obtain ⟨g18,g19,hm⟩ := go2 hm
     refine Sq (RN hnt (nn 5 []) [(0,ow 0 (s1.1.set (Int.toNat s1.2.1) (Vn s1)).length),(1,.fn 204 [rr 1]),(5,pI s1.2.1),(6,pI s1.2.2)] [(0,ob0 (roI (s1.1.set (Int.toNat s1.2.1) (Vn s1)))),(1,bx [.fn 189 [rr 2]]),(2,bx [.p (slI p1c0c0)])] [(0,ow 0 s1.1.length)] [(0,.row 1 s1.1.length (Bo (elI s1.1) (Int.toNat s1.2.1) [vi (Vn s1)]))] (an g18.1 (an g18.2 (an g19 tv))) (by kernel_rfl) (.cons rfl (MLe.ownLen (enc := Az) (d := 0) (f := (Bo (elI s1.1) (Int.toNat s1.2.1) [vi (Vn s1)])) (RowIs.upd RowIs.elems (Vn s1) rfl)) .nil) (.cons rfl (BLe.typed (RowIs.upd RowIs.elems (Vn s1) rfl)) .nil) ?_)
     refine RD hnt (nn 3 []) [] [(5,pI (w64 (s1.2.1 + 1)))] [] [] tv ?_
     exact bD ((s1.1.set (Int.toNat s1.2.1) (Vn s1)),(w64 (s1.2.1 + 1))) hm Conv.eqK
    ·intro h17 hm
     refine Sk ?_
     exact bD (s1.1,s1.2.1) hm Conv.t0
  ·intro h13 hm
   refine DW.exit ?_
   refine Ap ?_
   refine Au ?_
   refine Aj ?_
   show DW _ _ _ _ _
   obtain ⟨g20,g21,hm⟩ := go2 hm
   refine Sq (RN hnt (nn 4 []) [(0,ow 0 (c80e2 s1).length),(5,pI s1.2.1)] [(0,ob0 (roI (c80e2 s1))),(1,bx [.fn 189 [rr 2]]),(2,bx [.p (slI p1c0c0)])] [(0,ow 0 s1.1.length)] [(0,.row 1 s1.1.length (Jq (elI s1.1) (Int.toNat s1.2.1) (Cc s1.1.length (Int.toNat s1.2.1)) (fun _ => [vi 0])))] (an (by omega : (0 : Int) ≤ s1.2.1) (an (by omega : s1.2.1 ≤ ((s1.1.length : Nat) : Int)) (an (by omega : ((s1.1.length : Nat) : Int) ≤ ((s1.1.length : Nat) : Int)) (an g21 tv)))) (by kernel_rfl) (.cons rfl (MLe.ownLen (enc := Az) (d := 0) (f := (Jq (elI s1.1) (Int.toNat s1.2.1) (Cc s1.1.length (Int.toNat s1.2.1)) (fun _ => [vi 0]))) (RowIs.fill RowIs.elems 0 rfl (by first | exact g21 | omega))) .nil) (.cons rfl (BLe.typed (RowIs.fill RowIs.elems 0 rfl (by first | exact g21 | omega))) .nil) ?_)
   obtain ⟨g22,hm⟩ := go1 hm
   refine Sq (RD hnt (nn 4 []) [0,5] [(4,ow 0 (Int.toNat s1.2.1))] [] [] (an (by omega : (0 : Int) ≤ 0) (an (by omega : (0 : Int) ≤ s1.2.1) (an (by omega : s1.2.1 ≤ (((Io s1.1 (Int.toNat s1.2.1) (Cc s1.1.length (Int.toNat s1.2.1)) 0).length : Nat) : Int)) tv))) ?_)
   obtain rfl := sj hm
   exact DW.ret (Am [roI (c80e2 s1),.box [.fn 189 [rr 2]],.box [.p (slI p1c0c0)]] [] (ow 0 (Int.toNat s1.2.1)))
abbrev o80 (ks : List Nat) (b : Bool) (RES : Nat × (List Int) × (List Int)) (sm : List Nat := []) : Orc := .call 165 ks b (ow 0 RES.1) [roI RES.2.1,.box [.fn 189 [rr 2]],.box [.p (slI RES.2.2)]] [] sm

theorem Ux (p0 : List Int) (p1c0 : List Int) (RES : (List Int) × (List Int)) (hm : Jc p0 p1c0 = some RES) : Spec Tryz.prog 179 [.p (slI p0),.fn 189 [rr 0]] [.box [.p (slI p1c0)]] (ow 1 RES.1.length) [.box [.p (slI RES.2)]] [roI RES.1] := by
 unfold Jc at hm
 refine SO Tryz.func179 rfl rfl [(0,.p (slI p0)),(1,.fn 189 [rr 0])] [(0,bx [.p (slI p1c0)])] ?_
 intro cx hnt
 refine Sq (RD hnt (nn 2 []) [1] [(3,rr 1024)] [] [(1024,bx [.fn 189 [rr 0]])] tv ?_)
 obtain ⟨r1,hr1,hm⟩ := bo hm
 obtain ⟨r2,hr2,hm⟩ := bo hm
 obtain ⟨g3,g4,hm⟩ := go2 hm
 refine Sq (RK hnt (.no :: o58 [] true r1 :: .no :: o80 [1048,1024,0] true r2 :: .no :: []) [(4,ow 1048 r2.1)] [(0,bx [.p (slI r2.2.2)]),(1048,ob0 (roI r2.2.1))] (an (Ym p0 r1 hr1) (an (Kc r1 p1c0 r2 hr2) (an (⟨rfl,g3⟩ : Body.same (roI r1) (roI r2.2.1)) (an2 tv tv)))) ?_)
 refine DW.conv (τ := Ae [(4,ow 1048 (r2.2.1.take r2.1).length)] [(0,bx [.p (slI r2.2.2)]),(1048,ob0 (roI (r2.2.1.take r2.1)))]) (Conv.trans (τ := Ae [(4,ow 1048 r2.1)] [(0,bx [.p (slI r2.2.2)]),(1048,ob0 (.row 1 r2.1 (elI r2.2.1)))]) (Conv.cut 1048 r2.1 (And.intro (show r2.1 ≤ r2.2.1.length by omega) (an (Nat.le_of_eq (Nat.zero_add r2.1)) tv))) (Conv.tp [(4,ow 1048 r2.1)] [(1048,.row 1 r2.1 (elI r2.2.1))] (by kernel_rfl) (.cons rfl (MLe.ownLen (enc := Az) (d := 0) (f := (elI r2.2.1)) (RowIs.elems.take (by omega))) .nil) (.cons rfl (BLe.typed (RowIs.elems.take (by omega))) .nil))) ?_
 obtain rfl := sj hm
 exact DW.ret (Am [.box [.p (slI r2.2.2)],roI (r2.2.1.take r2.1)] [1048] (ow 1 (r2.2.1.take r2.1).length))
abbrev o57 (ks : List Nat) (b : Bool) (RES : (List Int) × (List Int)) (sm : List Nat := []) : Orc := .call 179 ks b (ow 1 RES.1.length) [.box [.p (slI RES.2)]] [roI RES.1] sm

theorem AdM (p0 : List Int) (p1 : List Int) (RES : List Int) (hm : Qb p0 p1 = some RES) : Spec Tryz.prog 152 [.p (slI p0),.p (slI p1)] [] (ow 0 RES.length) [] [roI RES] := by
 unfold Qb at hm
 refine SO Tryz.func152 rfl rfl [(0,.p (slI p0)),(1,.p (slI p1))] [] ?_
 intro cx hnt
 refine Sq (RD hnt (nn 2 []) [1] [(3,rr 1024)] [] [(1024,bx [.p (slI p1)])] tv ?_)
 obtain ⟨r1,hr1,hm⟩ := bo hm
 refine Sq (RK hnt (nn 2 (o57 [1024] true r1 :: .no :: [])) [(4,ow 1056 r1.1.length)] [(1056,ob0 (roI r1.1))] (an (Ux p0 p1 r1 hr1) (an tv tv)) ?_)
 obtain rfl := sj hm
 exact DW.ret (Am [roI r1.1] [1056] (ow 0 r1.1.length))
abbrev o56 (ks : List Nat) (b : Bool) (RES : List Int) (sm : List Nat := []) : Orc := .call 152 ks b (ow 0 RES.length) [] [roI RES] sm

theorem Aax (p0 : Int) (p1 : List Int) (RES : Bool) (hm : No p0 p1 = some RES) : Spec Tryz.prog 180 [pI p0,rr 0] [.box [.p (slI p1)]] (pB RES) [.box [.p (slI p1)]] [] := by
 unfold No at hm
 refine SO Tryz.func180 rfl rfl [(0,pI p0),(1,rr 0)] [(0,bx [.p (slI p1)])] ?_
 intro cx hnt
 refine Sq (RD hnt (.no :: []) [] [] [] [] tv ?_)
 obtain ⟨r1,hr1,hm⟩ := bo hm
 refine Sq (RD hnt (nn 2 (o53 [] true r1 :: .no :: [])) [0,1] [(3,pB r1)] [] [] (an (Xf p1 p0 r1 hr1) tv) ?_)
 obtain rfl := sj hm
 exact DW.ret (Am [.box [.p (slI p1)]] [] (pB r1))

theorem Kt (p0 : Int) (p1c0 : List Int) (RES : Bool) (hm : Dy p0 p1c0 = some RES) : Spec Tryz.prog 204 [pI p0,rr 0] [.box [.fn 180 [rr 1]],.box [.p (slI p1c0)]] (pB RES) [.box [.fn 180 [rr 1]],.box [.p (slI p1c0)]] [] := by
 unfold Dy at hm
 refine SO Tryz.func204 rfl rfl [(0,pI p0),(1,rr 0)] [(0,bx [.fn 180 [rr 1]]),(1,bx [.p (slI p1c0)])] ?_
 intro cx hnt
 refine Sq (RD hnt (.no :: []) [] [] [] [] tv ?_)
 obtain ⟨r1,hr1,hm⟩ := bo hm
 refine Sq (RD hnt (nn 2 (.call 180 [1] true (pB r1) [.box [.p (slI p1c0)]] [] [] :: nn 2 [])) [0,1] [(3,pB (!r1))] [] [] (an (Aax p0 p1c0 r1 hr1) (an tv tv)) ?_)
 obtain rfl := sj hm
 exact DW.ret (Am [.box [.fn 180 [rr 1]],.box [.p (slI p1c0)]] [] (pB (!r1)))

theorem Jp (p0 : List Int) (p1c0c0 : List Int) (RES : Int) (hm : Cp p0 p1c0c0 = some RES) : Spec Tryz.prog 196 [ow 0 p0.length,.fn 204 [rr 1]] [roI p0,.box [.fn 180 [rr 2]],.box [.p (slI p1c0c0)]] (pI RES) [roI p0,.box [.fn 180 [rr 2]],.box [.p (slI p1c0c0)]] [] := by
 unfold Cp at hm
 refine SO Tryz.func196 rfl rfl [(0,ow 0 p0.length),(1,.fn 204 [rr 1])] [(0,ob0 (roI p0)),(1,bx [.fn 180 [rr 2]]),(2,bx [.p (slI p1c0c0)])] ?_
 intro cx hnt
 refine Sq (RD hnt (.no :: []) [] [] [] [] tv ?_)
 refine Sq (Sq (RD hnt (nn 3 []) [] [(7,pI ((p0.length : Nat) : Int)),(8,pI 0)] [] [] tv ?_))
 refine Bk ?_
 obtain ⟨hc1,hm⟩ := go1 hm
 refine DW.rangeO (fun (k1 : Nat) (s1 : Unit) => Ae [(0,ow 0 p0.length),(1,.fn 204 [rr 1]),(7,pI ((p0.length : Nat) : Int)),(8,pI ((k1 : Nat) : Int))] [(0,ob0 (roI p0)),(1,bx [.fn 180 [rr 2]]),(2,bx [.p (slI p1c0c0)])]) 0 hm Conv.eqK ?_
 intro k1 s1 n1 hk1 hs1 he1
 refine Sq (RD hnt (.no :: []) [] [(9,pB (decide (((k1 : Nat) : Int) < ((p0.length : Nat) : Int))))] [] [] tv ?_)
 refine Sq (Ej (decide (((k1 : Nat) : Int) < ((p0.length : Nat) : Int))) ?_ ?_)
 ·intro h11
  have hlt1 : k1 < p0.length := by have := of_decide_eq_true h11; omega
  have hm := hs1 hlt1
  unfold Dr at hm
  refine Sk ?_
  refine Sq (Bk ?_)
  refine Sq (RD hnt (nn 2 []) [9] [(5,pI ((k1 : Nat) : Int))] [] [] tv ?_)
  obtain ⟨r12,hr12,hm⟩ := bo hm
  refine Sq (RD hnt (nn 5 (.call 204 [1,2] true (pB r12) [.box [.fn 180 [rr 1]],.box [.p (slI p1c0c0)]] [] [] :: [])) [] [(16,pB r12)] [] [] (an (nn0 k1) (an (ltc hlt1) (an (by omega : k1 < p0.length) (an (Kt (p0.getD k1 0) p1c0c0 r12 hr12) (an2 tv tv))))) ?_)
  refine Aq hm ?_ ?_
  ·intro h13 hm
   refine Sq (RD hnt (nn 2 []) [0,1,5,7,8,16] [(4,pI ((k1 : Nat) : Int))] [] [] tv ?_)
   obtain rfl := sj hm
   exact DW.ret (Am [roI p0,.box [.fn 180 [rr 2]],.box [.p (slI p1c0c0)]] [] (pI ((k1 : Nat) : Int)))
  ·intro h13 hm
   refine Sk ?_
   refine DW.done ?_
   show DW _ _ _ _ _
   refine RD hnt (nn 2 []) [5,16] [(8,pI (w64 (((k1 : Nat) : Int) + 1)))] [] [] tv ?_
   exact jD () ⟨hlt1,hm⟩ (Conv.tp [(8,pI (w64 (((k1 : Nat) : Int) + 1)))] [] (by kernel_rfl) (.cons rfl (.of_eq (congrArg pI (Da hlt1 hc1))) .nil) .nil)
 ·intro h11
  have hge1 : ¬ k1 < p0.length := by have := of_decide_eq_false h11; omega
  have hm := he1 hge1
  unfold Gg at hm
  refine DW.exit ?_
  refine Ap ?_
  refine Au ?_
  refine Aj ?_
  show DW _ _ _ _ _
  refine Sq (RD hnt (.no :: []) [0,1,7,8,9] [(4,pI (-1))] [] [] tv ?_)
  obtain rfl := sj hm
  exact DW.ret (Am [roI p0,.box [.fn 180 [rr 2]],.box [.p (slI p1c0c0)]] [] (pI (-1)))

abbrev Wb (s1 : (List Int) × Int × Int) := (s1.1.getD (Int.toNat s1.2.2) 0)
abbrev c87e2 (s1 : (List Int) × Int × Int) := (Io s1.1 (Int.toNat s1.2.1) (Cc s1.1.length (Int.toNat s1.2.1)) 0)
theorem Jj (p0 : List Int) (p1c0c0 : List Int) (RES : Nat × (List Int) × (List Int)) (hm : Bx p0 p1c0c0 = some RES) : Spec Tryz.prog 165 [ow 0 p0.length,.fn 204 [rr 1]] [roI p0,.box [.fn 180 [rr 2]],.box [.p (slI p1c0c0)]] (ow 0 RES.1) [roI RES.2.1,.box [.fn 180 [rr 2]],.box [.p (slI RES.2.2)]] [] := by
 unfold Bx at hm
 refine SO Tryz.func165 rfl rfl [(0,ow 0 p0.length),(1,.fn 204 [rr 1])] [(0,ob0 (roI p0)),(1,bx [.fn 180 [rr 2]]),(2,bx [.p (slI p1c0c0)])] ?_
 intro cx hnt
 refine Sq (RD hnt (.no :: []) [] [] [] [] tv ?_)
 obtain ⟨r1,hr1,hm⟩ := bo hm
 refine Sq (RD hnt (nn 2 (.call 196 [0,1,2] true (pI r1) [roI p0,.box [.fn 180 [rr 2]],.box [.p (slI p1c0c0)]] [] [] :: .no :: [])) [] [(5,pI r1)] [] [] (an (Jp p0 p1c0c0 r1 hr1) (an (⟨rfl,rfl⟩ : Body.same (roI p0) (roI p0)) (an2 tv tv))) ?_)
 refine Sq (Sq (RD hnt (nn 2 []) [] [(12,pB (r1 == (-1)))] [] [] tv ?_))
 refine Aq hm ?_ ?_
 ·intro h2 hm
  refine Sq (RD hnt (nn 2 []) [0,1,5,12] [(4,ow 0 p0.length)] [] [] tv ?_)
  obtain rfl := sj hm
  exact DW.ret (Am [roI p0,.box [.fn 180 [rr 2]],.box [.p (slI p1c0c0)]] [] (ow 0 p0.length))
 ·intro h2 hm
  refine Sk ?_
  refine Sq (Sq (RD hnt (nn 3 []) [12] [(6,pI (w64 (r1 + 1)))] [] [] tv ?_))
  refine Bk ?_
  refine DW.whileO (fun (s1 : (List Int) × Int × Int) => Ae [(0,ow 0 s1.1.length),(1,.fn 204 [rr 1]),(5,pI s1.2.1),(6,pI s1.2.2)] [(0,ob0 (roI s1.1)),(1,bx [.fn 180 [rr 2]]),(2,bx [.p (slI p1c0c0)])]) hm Conv.eqK ?_
  intro s1 n1 hm
  unfold Ck at hm
  refine Sq (Sq (RD hnt (nn 4 []) [] [(19,pB (decide (s1.2.2 < ((s1.1.length : Nat) : Int))))] [] [] tv ?_))
  refine Aq hm ?_ ?_
  ·intro h13 hm
   refine Sk ?_
   refine Sq ?_
   refine Jn (ι := (List Int) × Int) (fun (y2 : (List Int) × Int) => Ae [(0,ow 0 y2.1.length),(1,.fn 204 [rr 1]),(5,pI y2.2),(6,pI s1.2.2)] [(0,ob0 (roI y2.1)),(1,bx [.fn 180 [rr 2]]),(2,bx [.p (slI p1c0c0)])]) (fun y2 => (Bt s1 n1) y2 = some RES) ?_ ?_
   ·intro y2 hm
    unfold Bt at hm
    refine RD hnt (nn 3 []) [] [(6,pI (w64 (s1.2.2 + 1)))] [] [] tv ?_
    exact jD (y2.1,y2.2,(w64 (s1.2.2 + 1))) hm Conv.eqK
   ·refine Bk ?_
    obtain ⟨g14,g15,hm⟩ := go2 hm
    refine Sq (RD hnt (nn 5 []) [19] [(7,pI (Wb s1))] [] [] (an g14.1 (an g14.2 (an g15 tv))) ?_)
    obtain ⟨r16,hr16,hm⟩ := bo hm
    refine Sq (RD hnt (nn 2 (.call 204 [1,2] true (pB r16) [.box [.fn 180 [rr 1]],.box [.p (slI p1c0c0)]] [] [] :: .no :: [])) [] [(29,pB (!r16))] [] [] (an (Kt (Wb s1) p1c0c0 r16 hr16) (an2 tv tv)) ?_)
    refine Aq hm ?_ ?_
    ·intro h17 hm
     obtain ⟨g18,g19,hm⟩ := go2 hm
     refine Sq (RN hnt (nn 5 []) [(0,ow 0 (s1.1.set (Int.toNat s1.2.1) (Wb s1)).length),(1,.fn 204 [rr 1]),(5,pI s1.2.1),(6,pI s1.2.2)] [(0,ob0 (roI (s1.1.set (Int.toNat s1.2.1) (Wb s1)))),(1,bx [.fn 180 [rr 2]]),(2,bx [.p (slI p1c0c0)])] [(0,ow 0 s1.1.length)] [(0,.row 1 s1.1.length (Bo (elI s1.1) (Int.toNat s1.2.1) [vi (Wb s1)]))] (an g18.1 (an g18.2 (an g19 tv))) (by kernel_rfl) (.cons rfl (MLe.ownLen (enc := Az) (d := 0) (f := (Bo (elI s1.1) (Int.toNat s1.2.1) [vi (Wb s1)])) (RowIs.upd RowIs.elems (Wb s1) rfl)) .nil) (.cons rfl (BLe.typed (RowIs.upd RowIs.elems (Wb s1) rfl)) .nil) ?_)
     refine RD hnt (nn 3 []) [] [(5,pI (w64 (s1.2.1 + 1)))] [] [] tv ?_
     exact bD ((s1.1.set (Int.toNat s1.2.1) (Wb s1)),(w64 (s1.2.1 + 1))) hm Conv.eqK
    ·intro h17 hm
     refine Sk ?_
     exact bD (s1.1,s1.2.1) hm Conv.t0
  ·intro h13 hm
   refine DW.exit ?_
   refine Ap ?_
   refine Au ?_
   refine Aj ?_
   show DW _ _ _ _ _
   obtain ⟨g20,g21,hm⟩ := go2 hm
   refine Sq (RN hnt (nn 4 []) [(0,ow 0 (c87e2 s1).length),(5,pI s1.2.1)] [(0,ob0 (roI (c87e2 s1))),(1,bx [.fn 180 [rr 2]]),(2,bx [.p (slI p1c0c0)])] [(0,ow 0 s1.1.length)] [(0,.row 1 s1.1.length (Jq (elI s1.1) (Int.toNat s1.2.1) (Cc s1.1.length (Int.toNat s1.2.1)) (fun _ => [vi 0])))] (an (by omega : (0 : Int) ≤ s1.2.1) (an (by omega : s1.2.1 ≤ ((s1.1.length : Nat) : Int)) (an (by omega : ((s1.1.length : Nat) : Int) ≤ ((s1.1.length : Nat) : Int)) (an g21 tv)))) (by kernel_rfl) (.cons rfl (MLe.ownLen (enc := Az) (d := 0) (f := (Jq (elI s1.1) (Int.toNat s1.2.1) (Cc s1.1.length (Int.toNat s1.2.1)) (fun _ => [vi 0]))) (RowIs.fill RowIs.elems 0 rfl (by first | exact g21 | omega))) .nil) (.cons rfl (BLe.typed (RowIs.fill RowIs.elems 0 rfl (by first | exact g21 | omega))) .nil) ?_)
   obtain ⟨g22,hm⟩ := go1 hm
   refine Sq (RD hnt (nn 4 []) [0,5] [(4,ow 0 (Int.toNat s1.2.1))] [] [] (an (by omega : (0 : Int) ≤ 0) (an (by omega : (0 : Int) ≤ s1.2.1) (an (by omega : s1.2.1 ≤ (((Io s1.1 (Int.toNat s1.2.1) (Cc s1.1.length (Int.toNat s1.2.1)) 0).length : Nat) : Int)) tv))) ?_)
   obtain rfl := sj hm
   exact DW.ret (Am [roI (c87e2 s1),.box [.fn 180 [rr 2]],.box [.p (slI p1c0c0)]] [] (ow 0 (Int.toNat s1.2.1)))
abbrev o87 (ks : List Nat) (b : Bool) (RES : Nat × (List Int) × (List Int)) (sm : List Nat := []) : Orc := .call 165 ks b (ow 0 RES.1) [roI RES.2.1,.box [.fn 180 [rr 2]],.box [.p (slI RES.2.2)]] [] sm

theorem Sf (p0 : List Int) (p1c0 : List Int) (RES : (List Int) × (List Int)) (hm : Hp p0 p1c0 = some RES) : Spec Tryz.prog 179 [.p (slI p0),.fn 180 [rr 0]] [.box [.p (slI p1c0)]] (ow 1 RES.1.length) [.box [.p (slI RES.2)]] [roI RES.1] := by
 unfold Hp at hm
 refine SO Tryz.func179 rfl rfl [(0,.p (slI p0)),(1,.fn 180 [rr 0])] [(0,bx [.p (slI p1c0)])] ?_
 intro cx hnt
 refine Sq (RD hnt (nn 2 []) [1] [(3,rr 1024)] [] [(1024,bx [.fn 180 [rr 0]])] tv ?_)
 obtain ⟨r1,hr1,hm⟩ := bo hm
 obtain ⟨r2,hr2,hm⟩ := bo hm
 obtain ⟨g3,g4,hm⟩ := go2 hm
 refine Sq (RK hnt (.no :: o58 [] true r1 :: .no :: o87 [1048,1024,0] true r2 :: .no :: []) [(4,ow 1048 r2.1)] [(0,bx [.p (slI r2.2.2)]),(1048,ob0 (roI r2.2.1))] (an (Ym p0 r1 hr1) (an (Jj r1 p1c0 r2 hr2) (an (⟨rfl,g3⟩ : Body.same (roI r1) (roI r2.2.1)) (an2 tv tv)))) ?_)
 refine DW.conv (τ := Ae [(4,ow 1048 (r2.2.1.take r2.1).length)] [(0,bx [.p (slI r2.2.2)]),(1048,ob0 (roI (r2.2.1.take r2.1)))]) (Conv.trans (τ := Ae [(4,ow 1048 r2.1)] [(0,bx [.p (slI r2.2.2)]),(1048,ob0 (.row 1 r2.1 (elI r2.2.1)))]) (Conv.cut 1048 r2.1 (And.intro (show r2.1 ≤ r2.2.1.length by omega) (an (Nat.le_of_eq (Nat.zero_add r2.1)) tv))) (Conv.tp [(4,ow 1048 r2.1)] [(1048,.row 1 r2.1 (elI r2.2.1))] (by kernel_rfl) (.cons rfl (MLe.ownLen (enc := Az) (d := 0) (f := (elI r2.2.1)) (RowIs.elems.take (by omega))) .nil) (.cons rfl (BLe.typed (RowIs.elems.take (by omega))) .nil))) ?_
 obtain rfl := sj hm
 exact DW.ret (Am [.box [.p (slI r2.2.2)],roI (r2.2.1.take r2.1)] [1048] (ow 1 (r2.2.1.take r2.1).length))
abbrev o86 (ks : List Nat) (b : Bool) (RES : (List Int) × (List Int)) (sm : List Nat := []) : Orc := .call 179 ks b (ow 1 RES.1.length) [.box [.p (slI RES.2)]] [roI RES.1] sm

theorem AaW (p0 : List Int) (p1 : List Int) (RES : List Int) (hm : Mm p0 p1 = some RES) : Spec Tryz.prog 143 [.p (slI p0),.p (slI p1)] [] (ow 0 RES.length) [] [roI RES] := by
 unfold Mm at hm
 refine SO Tryz.func143 rfl rfl [(0,.p (slI p0)),(1,.p (slI p1))] [] ?_
 intro cx hnt
 refine Sq (RD hnt (nn 2 []) [1] [(3,rr 1024)] [] [(1024,bx [.p (slI p1)])] tv ?_)
 obtain ⟨r1,hr1,hm⟩ := bo hm
 refine Sq (RK hnt (nn 2 (o86 [1024] true r1 :: .no :: [])) [(4,ow 1056 r1.1.length)] [(1056,ob0 (roI r1.1))] (an (Sf p0 p1 r1 hr1) (an tv tv)) ?_)
 obtain rfl := sj hm
 exact DW.ret (Am [roI r1.1] [1056] (ow 0 r1.1.length))
abbrev o85 (ks : List Nat) (b : Bool) (RES : List Int) (sm : List Nat := []) : Orc := .call 143 ks b (ow 0 RES.length) [] [roI RES] sm

theorem AbX (p0 : List Int) (p1 : List Int) (RES : List Int) (hm : Pe p0 p1 = some RES) : Spec Tryz.prog 91 [.p (slI p0),.p (slI p1)] [] (.p (slI RES)) [] [] := by
 unfold Pe at hm
 refine SO Tryz.func91 rfl rfl [(0,.p (slI p0)),(1,.p (slI p1))] [] ?_
 intro cx hnt
 refine Sq (RD hnt (.no :: []) [] [] [] [] tv ?_)
 obtain ⟨r1,hr1,hm⟩ := bo hm
 refine Sq (Sq (RD hnt (nn 2 (o85 [] true r1 :: .no :: [])) [0] [(5,ow 1064 r1.length)] [] [(1064,ob0 (roI r1))] (an (AaW p0 p1 r1 hr1) tv) ?_))
 refine Sq (RD hnt (nn 3 []) [] [(11,pB (decide (((r1.length : Nat) : Int) > 0)))] [] [] tv ?_)
 refine Aq hm ?_ ?_
 ·intro h2 hm
  refine Sq (RK hnt (nn 2 []) [(4,ow 1064 r1.length)] [(1064,ob0 (roI r1))] tv ?_)
  obtain rfl := sj hm
  exact DW.ret (Am [] [] (.p (slI r1)))
 ·intro h2 hm
  refine Sk ?_
  obtain ⟨r3,hr3,hm⟩ := bo hm
  refine Sq (RK hnt (.no :: o39 [] true r3 :: .no :: []) [(4,ow 1112 r3.length)] [(1112,ob0 (roI r3))] (an (Hi p1 r3 hr3) tv) ?_)
  obtain rfl := sj hm
  exact DW.ret (Am [] [] (.p (slI r3)))
abbrev o91 (ks : List Nat) (b : Bool) (RES : List Int) (sm : List Nat := []) : Orc := .call 91 ks b (.p (slI RES)) [] [] sm

abbrev AaD (p0 : plan) : Nat × Obj := (0,bx [.p (Dd p0.tree.nodes),pI p0.tree.next,.p (Ax p0.configs),.mref 1 0,.mref 2 0])
abbrev c40e2 (r77 : Ao) : Nat × Obj := (1080,bx [pI r77.pidsMax,pI r77.weight,pI r77.quota,pI r77.period,pI r77.burst,pI r77.clampMin,pI r77.clampMax,ow 1256 r77.cpus.length,ow 1257 r77.mems.length,pI r77.partition,pI r77.memory.min,pI r77.memory.low,pI r77.memory.high,pI r77.memory.max,pI r77.memory.swapMax,pB r77.memory.together,ow 1258 r77.devices.length])
abbrev c40e3 (r77 : Ao) : Nat × Obj := (1080,bx [pI r77.pidsMax,pI r77.weight,pI r77.quota,pI r77.period,pI r77.burst,pI r77.clampMin,pI r77.clampMax,.p (slI r77.cpus),ow 1257 r77.mems.length,pI r77.partition,pI r77.memory.min,pI r77.memory.low,pI r77.memory.high,pI r77.memory.max,pI r77.memory.swapMax,pB r77.memory.together,ow 1258 r77.devices.length])
abbrev AbV (p0 : plan) : Nat × Obj := (1,ob0 (Bv slI (slI []) p0.sets))
abbrev AbM (r1 : List Int) : Nat × MV := (22,pI ((r1.length : Nat) : Int))
theorem Wv (rec : plan → Int → (List Int) → Option plan) (ih : ∀ (p0 : plan) (p1 : Int) (p2 : List Int) (RES : plan),rec p0 p1 p2 = some RES → Spec Tryz.prog 104 [rr 0,pI p1,.p (slI p2)] [.box [.p (Dd p0.tree.nodes),pI p0.tree.next,.p (Ax p0.configs),.mref 1 0,.mref 2 0],Bv slI (slI []) p0.sets,Bv vb (vb false) p0.partitions] (.p (.tup [])) [.box [.p (Dd RES.tree.nodes),pI RES.tree.next,.p (Ax RES.configs),.mref 1 0,.mref 2 0],Bv slI (slI []) RES.sets,Bv vb (vb false) RES.partitions] []) (p0 : plan) (p1 : Int) (p2 : List Int) (RES : plan) (hm : Iw rec p0 p1 p2 = some RES) : Spec Tryz.prog 104 [rr 0,pI p1,.p (slI p2)] [.box [.p (Dd p0.tree.nodes),pI p0.tree.next,.p (Ax p0.configs),.mref 1 0,.mref 2 0],Bv slI (slI []) p0.sets,Bv vb (vb false) p0.partitions] (.p (.tup [])) [.box [.p (Dd RES.tree.nodes),pI RES.tree.next,.p (Ax RES.configs),.mref 1 0,.mref 2 0],Bv slI (slI []) RES.sets,Bv vb (vb false) RES.partitions] [] := by
 unfold Iw at hm
 refine SO Tryz.func104 rfl rfl [(0,rr 0),(1,pI p1),(2,.p (slI p2))] [(AaD p0),(AbV p0),(2,ob0 (Bv vb (vb false) p0.partitions))] ?_
 intro cx hnt
 refine Sq (RD hnt (.no :: []) [] [(6,.p (.sl .nil 0 0 (fun _ => [])))] [] [] tv ?_)
 refine Sq (RD hnt (.asM (slI []) (IMap.empty ([] : List Int)).has (fun j => slI ((IMap.empty ([] : List Int)).get j)) :: .no :: []) [] [(7,.mref 1120 0)] [] [(1120,ob0 (Bv slI (slI []) (IMap.empty ([] : List Int))))] (an (mnew_le slI (.sl .nil 0 0 fun _ => []) ([] : List Int) PLe.nilL) tv) ?_)
 obtain ⟨r1,hr1,hm⟩ := bo hm
 refine Sq (Sq (RD hnt (nn 5 (o41 [] true r1 :: nn 2 [])) [] [(21,ow 1168 r1.length),(AbM r1),(23,pI 0)] [] [(1168,ob0 (roI r1))] (an (AaP p0.tree p1 r1 hr1) tv) ?_))
 refine Bk ?_
 obtain ⟨hc1,hm⟩ := go1 hm
 refine DW.rangeO (fun (k1 : Nat) (s1 : (IMap (List Int)) × (List Int) × (IMap Bool) × (List Int)) => Ae [(0,rr 0),(1,pI p1),(2,.p (slI s1.2.2.2)),(6,ow 1656 s1.2.1.length),(7,.mref 1120 0),(21,ow 1168 r1.length),(AbM r1),(23,pI ((k1 : Nat) : Int))] [(AaD p0),(AbV p0),(2,ob0 (Bv vb (vb false) s1.2.2.1)),(1120,ob0 (Bv slI (slI []) s1.1)),(1168,ob0 (roI r1)),(1656,ob0 (roI s1.2.1))]) 0 hm (Conv.ads [(.s 6,1656,1,elems Az 0 [])]) ?_
 intro k1 s1 n1 hk1 hs1 he1
 refine Sq (RD hnt (.no :: []) [] [(24,pB (decide (((k1 : Nat) : Int) < ((r1.length : Nat) : Int))))] [] [] tv ?_)
 refine Sq (Ej (decide (((k1 : Nat) : Int) < ((r1.length : Nat) : Int))) ?_ ?_)
 ·intro h76
  have hlt1 : k1 < r1.length := by have := of_decide_eq_true h76; omega
  have hm := hs1 hlt1
  unfold Mp at hm
  refine Sk ?_
  refine Sq ?_
  refine Jn (ι := (IMap (List Int)) × (List Int) × (IMap Bool) × (List Int)) (fun (y5 : (IMap (List Int)) × (List Int) × (IMap Bool) × (List Int)) => Ae [(0,rr 0),(1,pI p1),(2,.p (slI y5.2.2.2)),(6,ow 1656 y5.2.1.length),(7,.mref 1120 0),(21,ow 1168 r1.length),(AbM r1),(23,pI ((k1 : Nat) : Int))] [(AaD p0),(AbV p0),(2,ob0 (Bv vb (vb false) y5.2.2.1)),(1120,ob0 (Bv slI (slI []) y5.1)),(1168,ob0 (roI r1)),(1656,ob0 (roI y5.2.1))]) (fun y5 => (Ik n1) y5 = some RES) ?_ ?_
  ·intro y5 hm
   unfold Ik at hm
   refine RD hnt (nn 2 []) [] [(23,pI (w64 (((k1 : Nat) : Int) + 1)))] [] [] tv ?_
   exact jD (y5.1,y5.2.1,y5.2.2.1,y5.2.2.2) ⟨hlt1,hm⟩ (Conv.tp [(23,pI (w64 (((k1 : Nat) : Int) + 1)))] [] (by kernel_rfl) (.cons rfl (.of_eq (congrArg pI (Da hlt1 hc1))) .nil) .nil)
  ·refine Bk ?_
   refine Sq (RD hnt (nn 3 []) [24] [(9,pI (r1.getD k1 0))] [] [] (an (nn0 k1) (an (ltc hlt1) (an (by omega : k1 < r1.length) tv))) ?_)
   obtain ⟨r77,hr77,hm⟩ := bo hm
   refine Sq (RD hnt (nn 5 (o42 [] true r77 :: nn 2 [])) [] [(10,rr 1080)] [] [(c40e2 r77),(1256,ob0 (roI r77.cpus)),(1257,ob0 (roI r77.mems)),(1258,ob0 (Af r77.devices))] (an (Xg p0.configs (r1.getD k1 0) r77 hr77) tv) ?_)
   refine Sq ?_
   refine Jn (ι := Bool) (fun (y6 : Bool) => Ae [(0,rr 0),(1,pI p1),(2,.p (slI s1.2.2.2)),(6,ow 1656 s1.2.1.length),(7,.mref 1120 0),(9,pI (r1.getD k1 0)),(10,rr 1080),(21,ow 1168 r1.length),(AbM r1),(23,pI ((k1 : Nat) : Int)),(63,pB y6)] [(AaD p0),(AbV p0),(2,ob0 (Bv vb (vb false) s1.2.2.1)),(c40e2 r77),(1120,ob0 (Bv slI (slI []) s1.1)),(1168,ob0 (roI r1)),(1256,ob0 (roI r77.cpus)),(1257,ob0 (roI r77.mems)),(1258,ob0 (Af r77.devices)),(1656,ob0 (roI s1.2.1))]) (fun y6 => (Es (r1.getD k1 0) s1 n1 r77) y6 = some RES) ?_ ?_
   ·intro y6 hm
    unfold Es at hm
    refine Aq hm ?_ ?_
    ·intro h83 hm
     refine Sq ?_
     refine DW.openMap 2 ?_
     intro B84 C84
     refine DW.cv [] [] [1256] [(c40e3 r77)] (Conv.frz [1256]) ?_
     refine RN hnt (nn 11 (.ky (r1.getD k1 0) :: .asM (slI []) (s1.1.set (r1.getD k1 0) r77.cpus).has (fun j => slI ((s1.1.set (r1.getD k1 0) r77.cpus).get j)) :: [])) [(0,rr 0),(1,pI p1),(2,.p (slI s1.2.2.2)),(6,ow 1656 s1.2.1.length),(7,.mref 1120 0),(10,rr 1080),(21,ow 1168 r1.length),(AbM r1),(23,pI ((k1 : Nat) : Int))] [(AaD p0),(AbV p0),(2,ob0 (Bv vb (vb false) (s1.2.2.1.set (r1.getD k1 0) true))),(c40e3 r77),(1120,ob0 (Bv slI (slI []) (s1.1.set (r1.getD k1 0) r77.cpus))),(1168,ob0 (roI r1)),(1257,ob0 (roI r77.mems)),(1258,ob0 (Af r77.devices)),(1656,ob0 (roI s1.2.1))] [] [(2,.mq (.clk (vb false) (Aw s1.2.2.1.has (r1.getD k1 0) true) (Aw (fun j => vb (s1.2.2.1.get j)) (r1.getD k1 0) (vb true)) (Aw B84 (r1.getD k1 0) (bif s1.2.2.1.has (r1.getD k1 0) then B84 (r1.getD k1 0) else C84)) (bif s1.2.2.1.has (r1.getD k1 0) then C84 else C84 + 1)))] (an (PLe.rfl : PLe (vb false) (vb false)) (an (updI_at s1.2.2.1.has (r1.getD k1 0) true) (an (updI_nat B84 (r1.getD k1 0) (bif s1.2.2.1.has (r1.getD k1 0) then B84 (r1.getD k1 0) else C84)) (an (Wf slI (slI []) s1.1 (r1.getD k1 0) r77.cpus PLe.rfl) tv)))) (by kernel_rfl) .nil (.cons rfl (.clk (Wf vb (vb false) s1.2.2.1 (r1.getD k1 0) true PLe.rfl)) .nil) ?_
     obtain ⟨r85,hr85,hm⟩ := bo hm
     refine RD hnt (nn 3 (o56 [] true r85 :: .no :: [])) [10] [(2,ow 1624 r85.length)] [1080,1257,1258] [(1624,ob0 (roI r85))] (an (AdM s1.2.2.2 r77.cpus r85 hr85) tv) ?_
     exact bD ((s1.1.set (r1.getD k1 0) r77.cpus),s1.2.1,(s1.2.2.1.set (r1.getD k1 0) true),r85) hm (Conv.frz [1624])
    ·intro h83 hm
     obtain ⟨g86,hm⟩ := go1 hm
     refine RN hnt (nn 5 []) [(0,rr 0),(1,pI p1),(2,.p (slI s1.2.2.2)),(6,ow 1656 (s1.2.1 ++ [(r1.getD k1 0)]).length),(7,.mref 1120 0),(21,ow 1168 r1.length),(AbM r1),(23,pI ((k1 : Nat) : Int))] [(AaD p0),(AbV p0),(2,ob0 (Bv vb (vb false) s1.2.2.1)),(1120,ob0 (Bv slI (slI []) s1.1)),(1168,ob0 (roI r1)),(1656,ob0 (roI (s1.2.1 ++ [(r1.getD k1 0)])))] [(6,ow 1656 (s1.2.1.length + 1))] [(1656,.row 1 (s1.2.1.length + 1) (Em s1.2.1.length (elI s1.2.1) (cut 1 [vi (r1.getD k1 0)])))] (an (by omega : (s1.2.1.length + 1) * 8 ≤ 140737488355328) tv) (by kernel_rfl) (.cons rfl (MLe.ownLen (enc := Az) (d := 0) (f := (Em s1.2.1.length (elI s1.2.1) (cut 1 [vi (r1.getD k1 0)]))) (RowIs.cat RowIs.elems (RowIs.lit (enc := Az) (d := 0) (n := 1) (f := (cut 1 [vi (r1.getD k1 0)])) [(r1.getD k1 0)] rfl (fun | 0,_ => rfl | n + 1,h => absurd h (by omega))))) .nil) (.cons rfl (BLe.typed (RowIs.cat RowIs.elems (RowIs.lit (enc := Az) (d := 0) (n := 1) (f := (cut 1 [vi (r1.getD k1 0)])) [(r1.getD k1 0)] rfl (fun | 0,_ => rfl | n + 1,h => absurd h (by omega))))) .nil) ?_
     exact bD (s1.1,(s1.2.1 ++ [(r1.getD k1 0)]),s1.2.2.1,s1.2.2.2) hm .refl
   ·rcases bt (r77.partition == 1) with h78 | h78
    ·replace hm := Bc h78 hm
     rcases bt (s1.2.2.1.get p1) with h79 | h79
     ·replace hm := Bc h79 hm
      rcases bt (decide (((r77.cpus.length : Nat) : Int) > 0)) with h80 | h80
      ·replace hm := Bc h80 hm
       obtain ⟨r81,hr81,hm⟩ := bo hm
       rcases bt r81 with h82 | h82
       ·replace hm := Bc h82 hm
        refine RD hnt (nn 10 (pT :: nn 5 (pT :: nn 4 (o49 [] true r81 :: pT :: nn 7 (pT :: []))))) [] [(63,pB (decide (((s1.2.2.2.length : Nat) : Int) > ((r77.cpus.length : Nat) : Int))))] [] [] (an6 h78 (an (PLe.rfl : PLe (vb false) (vb false)) (an h78 (an5 h79 (an4 h80 (an (Yi r77.cpus s1.2.2.2 r81 hr81) (an h80 (an h82 (an6 h82 tv))))))))) ?_
        exact jD (decide (((s1.2.2.2.length : Nat) : Int) > ((r77.cpus.length : Nat) : Int))) hm Conv.eqK
       ·replace hm := Bd h82 hm
        refine RD hnt (nn 10 (pT :: nn 5 (pT :: nn 4 (o49 [] true r81 :: pT :: .no :: sk 6 (pF :: []))))) [] [(63,pB false)] [] [] (an6 h78 (an (PLe.rfl : PLe (vb false) (vb false)) (an h78 (an5 h79 (an4 h80 (an (Yi r77.cpus s1.2.2.2 r81 hr81) (an h80 (an h82 (an6 h82 tv))))))))) ?_
        exact jD false hm Conv.eqK
      ·replace hm := Bd h80 hm
       refine RD hnt (nn 10 (pT :: nn 5 (pT :: .no :: sk 4 (pF :: .no :: sk 6 (pF :: []))))) [] [(63,pB false)] [] [] (an6 h78 (an (PLe.rfl : PLe (vb false) (vb false)) (an h78 (an5 h79 (an5 h80 (an ff (an6 ff tv))))))) ?_
       exact jD false hm Conv.eqK
     ·replace hm := Bd h79 hm
      refine RD hnt (nn 10 (pT :: .no :: sk 4 (pF :: .no :: sk 4 (pF :: .no :: sk 6 (pF :: []))))) [] [(63,pB false)] [] [] (an6 h78 (an (PLe.rfl : PLe (vb false) (vb false)) (an h78 (an5 h79 (an6 ff (an6 ff tv)))))) ?_
      exact jD false hm Conv.eqK
    ·replace hm := Bd h78 hm
     refine RD hnt (nn 4 (sk 6 (pF :: .no :: sk 4 (pF :: .no :: sk 4 (pF :: .no :: sk 6 (pF :: [])))))) [] [(63,pB false)] [] [] (an h78 (an6 h78 (an5 ff (an6 ff (an6 ff tv))))) ?_
     exact jD false hm Conv.eqK
 ·intro h76
  have hge1 : ¬ k1 < r1.length := by have := of_decide_eq_false h76; omega
  have hm := he1 hge1
  unfold Im at hm
  refine DW.exit ?_
  refine Ap ?_
  refine Au ?_
  refine Aj ?_
  show DW _ _ _ _ _
  refine Sq (RD hnt (nn 6 (.asM (slI []) (p0.sets.set p1 s1.2.2.2).has (fun j => slI ((p0.sets.set p1 s1.2.2.2).get j)) :: [])) [1,21,22,23,24] [] [1168] [(1,ob0 (Bv slI (slI []) (p0.sets.set p1 s1.2.2.2)))] (an (Wf slI (slI []) p0.sets p1 s1.2.2.2 PLe.rfl) tv) ?_)
  refine Sq (Sq (RD hnt (nn 3 []) [6] [(90,ow 1656 s1.2.1.length),(91,pI ((s1.2.1.length : Nat) : Int)),(92,pI 0)] [] [] tv ?_))
  refine Bk ?_
  obtain ⟨hc10,hm⟩ := go1 hm
  refine DW.rangeO (fun (k10 : Nat) (s10 : IMap (List Int)) => Ae [(0,rr 0),(2,.p (slI s1.2.2.2)),(7,.mref 1120 0),(90,ow 1656 s1.2.1.length),(91,pI ((s1.2.1.length : Nat) : Int)),(92,pI ((k10 : Nat) : Int))] [(AaD p0),(1,ob0 (Bv slI (slI []) (p0.sets.set p1 s1.2.2.2))),(2,ob0 (Bv vb (vb false) s1.2.2.1)),(1120,ob0 (Bv slI (slI []) s10)),(1656,ob0 (roI s1.2.1))]) 0 hm Conv.eqK ?_
  intro k10 s10 n10 hk10 hs10 he10
  refine Sq (RD hnt (.no :: []) [] [(93,pB (decide (((k10 : Nat) : Int) < ((s1.2.1.length : Nat) : Int))))] [] [] tv ?_)
  refine Sq (Ej (decide (((k10 : Nat) : Int) < ((s1.2.1.length : Nat) : Int))) ?_ ?_)
  ·intro h105
   have hlt10 : k10 < s1.2.1.length := by have := of_decide_eq_true h105; omega
   have hm := hs10 hlt10
   unfold Ma at hm
   refine Sk ?_
   refine Sq (Bk ?_)
   refine Sq (RD hnt (nn 3 []) [93] [(12,pI (s1.2.1.getD k10 0))] [] [] (an (nn0 k10) (an (ltc hlt10) (an (by omega : k10 < s1.2.1.length) tv))) ?_)
   obtain ⟨r108,hr108,hm⟩ := bo hm
   obtain ⟨r109,hr109,hm⟩ := bo hm
   refine RD hnt (nn 7 (o42 [] true r108 :: nn 2 (o91 [] false r109 :: .asM (slI []) (s10.set (s1.2.1.getD k10 0) r109).has (fun j => slI ((s10.set (s1.2.1.getD k10 0) r109).get j)) :: []))) [12] [] [] [(1120,ob0 (Bv slI (slI []) (s10.set (s1.2.1.getD k10 0) r109)))] (an (Xg p0.configs (s1.2.1.getD k10 0) r108 hr108) (an (AbX r108.cpus s1.2.2.2 r109 hr109) (an (Wf slI (slI []) s10 (s1.2.1.getD k10 0) r109 PLe.rfl) tv))) ?_
   refine DW.done ?_
   show DW _ _ _ _ _
   refine RD hnt (nn 2 []) [] [(92,pI (w64 (((k10 : Nat) : Int) + 1)))] [] [] tv ?_
   exact jD (s10.set (s1.2.1.getD k10 0) r109) ⟨hlt10,hm⟩ (Conv.tp [(92,pI (w64 (((k10 : Nat) : Int) + 1)))] [] (by kernel_rfl) (.cons rfl (.of_eq (congrArg pI (Da hlt10 hc10))) .nil) .nil)
  ·intro h105
   have hge10 : ¬ k10 < s1.2.1.length := by have := of_decide_eq_false h105; omega
   have hm := he10 hge10
   unfold Jl at hm
   refine DW.exit ?_
   refine Ap ?_
   refine Au ?_
   refine Aj ?_
   show DW _ _ _ _ _
   refine Sq (RD hnt (nn 2 []) [2,7,90,91,92,93] [(109,rr 1872)] [1120,1656] [(1872,ob0 (.mq (.it (fun j => slI (s10.get j)) s10.has none)))] tv ?_)
   refine Bk ?_
   refine DW.rangeM (fun (q13 : Int → Bool) (s13 : (List Ah) × Int × (List Ac) × (IMap (List Int)) × (IMap Bool)) => Ae [(0,rr 0),(109,rr 1872)] [(0,bx [.p (Dd s13.1),pI s13.2.1,.p (Ax s13.2.2.1),.mref 1 0,.mref 2 0]),(1,ob0 (Bv slI (slI []) s13.2.2.2.1)),(2,ob0 (Bv vb (vb false) s13.2.2.2.2)),(1872,ob0 (.mq (.it (fun j => slI (s10.get j)) q13 none)))]) hm Conv.eqK ?_
   intro q13 s13 n13 hs13 he13
   refine Sq (DW.next (t := 109) (d := 110) (d2 := 111) (k := 1872) (f := fun j => slI (s10.get j)) (rem := q13) (cur := none) hnt ?_ ?_)
   ·intro k13 hlt13
    have hm := hs13 k13 hlt13
    unfold Mc at hm
    refine Sq (condT tt ?_)
    refine Sk ?_
    refine Bk ?_
    refine Sq (RK hnt (nn 5 []) [(0,rr 0),(13,pI k13),(14,.p (slI (s10.get k13))),(109,rr 1872)] [(0,bx [.p (Dd s13.1),pI s13.2.1,.p (Ax s13.2.2.1),.mref 1 0,.mref 2 0]),(1,ob0 (Bv slI (slI []) s13.2.2.2.1)),(2,ob0 (Bv vb (vb false) s13.2.2.2.2)),(1872,ob0 (.mq (.it (fun j => slI (s10.get j)) (Aw q13 k13 false) (some k13))))] tv ?_)
    obtain ⟨r111,hr111,hm⟩ := bo hm
    refine RD hnt (nn 3 (.call 104 [0,1,2] true (.p (.tup [])) [.box [.p (Dd r111.tree.nodes),pI r111.tree.next,.p (Ax r111.configs),.mref 1 0,.mref 2 0],Bv slI (slI []) r111.sets,Bv vb (vb false) r111.partitions] [] [] :: [])) [13,14] [] [] [(0,bx [.p (Dd r111.tree.nodes),pI r111.tree.next,.p (Ax r111.configs),.mref 1 0,.mref 2 0]),(1,ob0 (Bv slI (slI []) r111.sets)),(2,ob0 (Bv vb (vb false) r111.partitions))] (an (ih ({ tree := ({ nodes := s13.1,next := s13.2.1 } : Ab),configs := s13.2.2.1,sets := s13.2.2.2.1,partitions := s13.2.2.2.2 } : plan) k13 (s10.get k13) r111 hr111) (an3 tv tv)) ?_
    refine DW.done ?_
    show DW _ _ _ _ _
    exact jD (k13,(r111.tree.nodes,r111.tree.next,r111.configs,r111.sets,r111.partitions)) ⟨hlt13,hm⟩ (Conv.tp [] [(1872,.mq (.it (fun j => slI (s10.get j)) (Aw q13 k13 false) (some k13)))] (by kernel_rfl) .nil (.cons rfl .it .nil))
   ·intro hlt13
    have hm := he13 hlt13
    unfold Ly at hm
    refine Sq (condF ff ?_)
    refine DW.exit ?_
    refine Ap ?_
    refine Au ?_
    refine Aj ?_
    show DW _ _ _ _ _
    refine DW.done ?_
    obtain rfl := sj hm
    exact endK [.box [.p (Dd s13.1),pI s13.2.1,.p (Ax s13.2.2.1),.mref 1 0,.mref 2 0],Bv slI (slI []) s13.2.2.2.1,Bv vb (vb false) s13.2.2.2.2] [] (.p (.tup []))
theorem Ps : ∀ (n : Nat) (p0 : plan) (p1 : Int) (p2 : List Int) (RES : plan),Ge n p0 p1 p2 = some RES → Spec Tryz.prog 104 [rr 0,pI p1,.p (slI p2)] [.box [.p (Dd p0.tree.nodes),pI p0.tree.next,.p (Ax p0.configs),.mref 1 0,.mref 2 0],Bv slI (slI []) p0.sets,Bv vb (vb false) p0.partitions] (.p (.tup [])) [.box [.p (Dd RES.tree.nodes),pI RES.tree.next,.p (Ax RES.configs),.mref 1 0,.mref 2 0],Bv slI (slI []) RES.sets,Bv vb (vb false) RES.partitions] []
  | 0,p0,p1,p2,RES,hm => by simp [Ge] at hm
  | n + 1,p0,p1,p2,RES,hm => Wv (Ge n) (Ps n) p0 p1 p2 RES hm
theorem Xp (p0 : plan) (p1 : Int) (p2 : List Int) (RES : plan) (hm : Oo p0 p1 p2 = some RES) : Spec Tryz.prog 104 [rr 0,pI p1,.p (slI p2)] [.box [.p (Dd p0.tree.nodes),pI p0.tree.next,.p (Ax p0.configs),.mref 1 0,.mref 2 0],Bv slI (slI []) p0.sets,Bv vb (vb false) p0.partitions] (.p (.tup [])) [.box [.p (Dd RES.tree.nodes),pI RES.tree.next,.p (Ax RES.configs),.mref 1 0,.mref 2 0],Bv slI (slI []) RES.sets,Bv vb (vb false) RES.partitions] [] := Ps Fw p0 p1 p2 RES hm
abbrev o40 (ks : List Nat) (b : Bool) (RES : plan) (sm : List Nat := []) : Orc := .call 104 ks b (.p (.tup [])) [.box [.p (Dd RES.tree.nodes),pI RES.tree.next,.p (Ax RES.configs),.mref 1 0,.mref 2 0],Bv slI (slI []) RES.sets,Bv vb (vb false) RES.partitions] [] sm

theorem AaF (p0 : Ab) (p1 : List Ac) (p2 : List Int) (RES : plan) (hm : Rv p0 p1 p2 = some RES) : Spec Tryz.prog 51 [.p (.agg (Ak p0)),.p (Ax p1),.p (slI p2)] [] (rr 0) [] [.box [.p (Dd RES.tree.nodes),pI RES.tree.next,.p (Ax RES.configs),.mref 1 0,.mref 2 0],Bv slI (slI []) RES.sets,Bv vb (vb false) RES.partitions] := by
 unfold Rv at hm
 refine SO Tryz.func51 rfl rfl [(0,.p (.agg (Ak p0))),(1,.p (Ax p1)),(2,.p (slI p2))] [] ?_
 intro cx hnt
 refine Sq (RD hnt (nn 2 []) [0] [(3,rr 1024)] [] [(1024,bx (pm (Ak p0)))] tv ?_)
 refine Sq (RK hnt (nn 2 (.asM (slI []) (IMap.empty ([] : List Int)).has (fun j => slI ((IMap.empty ([] : List Int)).get j)) :: .no :: .asM (vb false) ((IMap.empty false).set 1 true).has (fun j => vb (((IMap.empty false).set 1 true).get j)) :: nn 4 [])) [(2,.p (slI p2)),(7,rr 1112)] [(1080,ob0 (Bv slI (slI []) (IMap.empty ([] : List Int)))),(1088,ob0 (Bv vb (vb false) ((IMap.empty false).set 1 true))),(1112,bx [.p (Dd p0.nodes),pI p0.next,.p (Ax p1),.mref 1080 0,.mref 1088 0])] (an (mnew_le slI (.sl .nil 0 0 fun _ => []) ([] : List Int) PLe.nilL) (an (Wf vb (vb false) (IMap.empty false) 1 true PLe.rfl) tv)) ?_)
 obtain ⟨r1,hr1,hm⟩ := bo hm
 obtain ⟨r2,hr2,hm⟩ := bo hm
 refine Sq (RK hnt (nn 2 (o39 [] true r1 :: o40 [1112,1080,1088] false r2 :: [])) [(7,rr 1112)] [(1080,ob0 (Bv slI (slI []) r2.sets)),(1088,ob0 (Bv vb (vb false) r2.partitions)),(1112,bx [.p (Dd r2.tree.nodes),pI r2.tree.next,.p (Ax r2.configs),.mref 1080 0,.mref 1088 0])] (an (Hi p2 r1 hr1) (an (Xp ({ tree := p0,configs := p1,sets := (IMap.empty ([] : List Int)),partitions := ((IMap.empty false).set 1 true) } : plan) 1 r1 r2 hr2) (an3 tv tv))) ?_)
 refine Sq (RD hnt (nn 4 (.asM (vb false) (r2.partitions.del 1 false).has (fun j => vb ((r2.partitions.del 1 false).get j)) :: [])) [] [] [] [(1088,ob0 (Bv vb (vb false) (r2.partitions.del 1 false)))] (an (mdel_le vb (vb false) r2.partitions 1 false rfl) tv) ?_)
 refine Sq (RD hnt (nn 2 []) [7] [(6,rr 1112)] [] [] tv ?_)
 obtain rfl := sj hm
 exact DW.ret (Am [.box [.p (Dd r2.tree.nodes),pI r2.tree.next,.p (Ax r2.configs),.mref 1 0,.mref 2 0],Bv slI (slI []) r2.sets,Bv vb (vb false) (r2.partitions.del 1 false)] [1112,1080,1088] (rr 0))
abbrev o38 (ks : List Nat) (b : Bool) (RES : plan) (sm : List Nat := []) : Orc := .call 51 ks b (rr 0) [] [.box [.p (Dd RES.tree.nodes),pI RES.tree.next,.p (Ax RES.configs),.mref 1 0,.mref 2 0],Bv slI (slI []) RES.sets,Bv vb (vb false) RES.partitions] sm

theorem Du (p0 : Ab) (p1 : List Ac) (p2 : List Int) (p3 : Int) (RES : List Int) (hm : Ec p0 p1 p2 p3 = some RES) : Spec Tryz.prog 15 [.p (.agg (Ak p0)),.p (Ax p1),.p (slI p2),pI p3] [] (ow 0 RES.length) [] [roI RES] := by
 unfold Ec at hm
 refine SO Tryz.func15 rfl rfl [(0,.p (.agg (Ak p0))),(1,.p (Ax p1)),(2,.p (slI p2)),(3,pI p3)] [] ?_
 intro cx hnt
 refine Sq (RD hnt (nn 2 []) [0] [(4,rr 1032)] [] [(1032,bx (pm (Ak p0)))] tv ?_)
 obtain ⟨r1,hr1,hm⟩ := bo hm
 refine Sq (Sq (RD hnt (nn 3 (o24 [] true r1 :: .no :: [])) [] [(13,pB (!r1))] [] [] (an (Vk p0 p1 p2 16 r1 hr1) tv) ?_))
 refine Aq hm ?_ ?_
 ·intro h2 hm
  refine Sq (RK hnt (.no :: []) [(8,.p (.sl .nil 0 0 (fun _ => [])))] [] tv ?_)
  refine DW.cv [] [(8,ow 100000 0)] [] [(100000,ob0 (roI []))] (Conv.ads [(.s 8,100000,1,elems Az 0 [])]) ?_
  obtain rfl := sj hm
  exact DW.ret (Am [roI []] [100000] (ow 0 0))
 ·intro h2 hm
  refine Sk ?_
  obtain ⟨r3,hr3,hm⟩ := bo hm
  obtain ⟨r4,hr4,hm⟩ := bo hm
  refine Sq (RK hnt (nn 3 (o38 [] true r3 :: nn 5 (o39 [] true r4 :: .no :: []))) [(8,ow 1184 r4.length)] [(1184,ob0 (roI r4))] (an (AaF p0 p1 p2 r3 hr3) (an (PLe.nilL : PLe (.sl .nil 0 0 fun _ => []) (slI [])) (an (Hi (r3.sets.get p3) r4 hr4) tv))) ?_)
  obtain rfl := sj hm
  exact DW.ret (Am [roI r4] [1184] (ow 0 r4.length))
abbrev o23 (ks : List Nat) (b : Bool) (RES : List Int) (sm : List Nat := []) : Orc := .call 15 ks b (ow 0 RES.length) [] [roI RES] sm

theorem Fs (p0 : List Int) (p1 : List Int) (RES : Bool) (hm : Ig p0 p1 = some RES) : Spec Tryz.prog 20 [.p (slI p0),.p (slI p1)] [] (pB RES) [] [] := by
 unfold Ig at hm
 refine SO Tryz.func20 rfl rfl [(0,.p (slI p0)),(1,.p (slI p1))] [] ?_
 intro cx hnt
 refine Sq (RD hnt (.no :: []) [] [] [] [] tv ?_)
 refine Sq (Sq (RD hnt (nn 5 []) [] [(10,pB (((p0.length : Nat) : Int) != ((p1.length : Nat) : Int)))] [] [] tv ?_))
 refine Aq hm ?_ ?_
 ·intro h1 hm
  refine Sq (RK hnt (.no :: []) [(4,pB false)] [] tv ?_)
  obtain rfl := sj hm
  exact DW.ret (Am [] [] (pB false))
 ·intro h1 hm
  refine Sk ?_
  refine Sq (Sq (RD hnt (.no :: []) [10] [(5,pI 0)] [] [] tv ?_))
  refine Bk ?_
  obtain ⟨hc1,hm⟩ := go1 hm
  refine DW.rangeO (fun (k1 : Nat) (s1 : Unit) => Ae [(0,.p (slI p0)),(1,.p (slI p1)),(5,pI ((k1 : Nat) : Int))] []) 0 hm Conv.eqK ?_
  intro k1 s1 n1 hk1 hs1 he1
  refine Sq (Sq (RD hnt (nn 4 []) [] [(14,pB (decide (((k1 : Nat) : Int) < ((p0.length : Nat) : Int))))] [] [] tv ?_))
  refine Ej (decide (((k1 : Nat) : Int) < ((p0.length : Nat) : Int))) ?_ ?_
  ·intro h10
   have hlt1 : k1 < p0.length := by have := of_decide_eq_true h10; omega
   have hm := hs1 hlt1
   unfold Zi at hm
   refine Sk ?_
   refine Sq (Bk ?_)
   obtain ⟨g11,hm⟩ := go1 hm
   refine Sq (RD hnt (nn 9 []) [14] [(25,pB ((p0.getD k1 0) != (p1.getD k1 0)))] [] [] (an (nn0 k1) (an (ltc hlt1) (an (nn0 k1) (an (ltc g11) tv)))) ?_)
   refine Aq hm ?_ ?_
   ·intro h12 hm
    refine Sq (RK hnt (.no :: []) [(4,pB false)] [] tv ?_)
    obtain rfl := sj hm
    exact DW.ret (Am [] [] (pB false))
   ·intro h12 hm
    refine Sk ?_
    refine DW.done ?_
    show DW _ _ _ _ _
    refine RD hnt (nn 3 []) [25] [(5,pI (w64 (((k1 : Nat) : Int) + 1)))] [] [] tv ?_
    exact jD () ⟨hlt1,hm⟩ (Conv.tp [(5,pI (w64 (((k1 : Nat) : Int) + 1)))] [] (by kernel_rfl) (.cons rfl (.of_eq (congrArg pI (Da hlt1 hc1))) .nil) .nil)
  ·intro h10
   have hge1 : ¬ k1 < p0.length := by have := of_decide_eq_false h10; omega
   have hm := he1 hge1
   unfold Acu at hm
   refine DW.exit ?_
   refine Ap ?_
   refine Au ?_
   refine Aj ?_
   show DW _ _ _ _ _
   refine Sq (RK hnt (.no :: []) [(4,pB true)] [] tv ?_)
   obtain rfl := sj hm
   exact DW.ret (Am [] [] (pB true))
abbrev o92 (ks : List Nat) (b : Bool) (RES : Bool) (sm : List Nat := []) : Orc := .call 20 ks b (pB RES) [] [] sm

theorem Rw (p0 : Ab) (p1 : List Ac) (p2 : List Int) (RES : List Int) (hm : Iz p0 p1 p2 = some RES) : Spec Tryz.prog 14 [.p (.agg (Ak p0)),.p (Ax p1),.p (slI p2)] [] (ow 0 RES.length) [] [roI RES] := by
 unfold Iz at hm
 refine SO Tryz.func14 rfl rfl [(0,.p (.agg (Ak p0))),(1,.p (Ax p1)),(2,.p (slI p2))] [] ?_
 intro cx hnt
 refine Sq (RD hnt (nn 2 []) [0] [(3,rr 1024)] [] [(1024,bx (pm (Ak p0)))] tv ?_)
 obtain ⟨r1,hr1,hm⟩ := bo hm
 refine Sq (Sq (RD hnt (nn 3 (o24 [] true r1 :: .no :: [])) [] [(13,pB (!r1))] [] [] (an (Vk p0 p1 p2 16 r1 hr1) tv) ?_))
 refine Aq hm ?_ ?_
 ·intro h2 hm
  refine Sq (RK hnt (.no :: []) [(6,.p (.sl .nil 0 0 (fun _ => [])))] [] tv ?_)
  refine DW.cv [] [(6,ow 100000 0)] [] [(100000,ob0 (roI []))] (Conv.ads [(.s 6,100000,1,elems Az 0 [])]) ?_
  obtain rfl := sj hm
  exact DW.ret (Am [roI []] [100000] (ow 0 0))
 ·intro h2 hm
  refine Sk ?_
  refine Sq (RD hnt (.no :: []) [13] [(7,.p (.sl .nil 0 0 (fun _ => [])))] [] [] tv ?_)
  obtain ⟨r3,hr3,hm⟩ := bo hm
  refine Sq (Sq (RD hnt (nn 3 (o38 [] true r3 :: nn 4 [])) [1,2,3] [(21,rr 1168)] [1024] [(1168,ob0 (.mq (.it (fun j => vb (r3.partitions.get j)) r3.partitions.has none)))] (an (AaF p0 p1 p2 r3 hr3) tv) ?_))
  refine Bk ?_
  refine DW.rangeM (fun (q1 : Int → Bool) (s1 : List Int) => Ae [(7,ow 1232 s1.length),(21,rr 1168)] [(1168,ob0 (.mq (.it (fun j => vb (r3.partitions.get j)) q1 none))),(1232,ob0 (roI s1))]) hm (Conv.ads [(.s 7,1232,1,elems Az 0 [])]) ?_
  intro q1 s1 n1 hs1 he1
  refine Sq (DW.next (t := 21) (d := 22) (d2 := 23) (k := 1168) (f := fun j => vb (r3.partitions.get j)) (rem := q1) (cur := none) hnt ?_ ?_)
  ·intro k1 hlt1
   have hm := hs1 k1 hlt1
   unfold Ow at hm
   refine Sq (condT tt ?_)
   refine Sk ?_
   refine Bk ?_
   refine Sq (RK hnt (nn 3 []) [(7,ow 1232 s1.length),(8,pI k1),(21,rr 1168)] [(1168,ob0 (.mq (.it (fun j => vb (r3.partitions.get j)) (Aw q1 k1 false) (some k1)))),(1232,ob0 (roI s1))] tv ?_)
   obtain ⟨g6,hm⟩ := go1 hm
   refine RN hnt (nn 5 []) [(7,ow 1232 (s1 ++ [k1]).length),(21,rr 1168)] [(1168,ob0 (.mq (.it (fun j => vb (r3.partitions.get j)) (Aw q1 k1 false) (some k1)))),(1232,ob0 (roI (s1 ++ [k1])))] [(7,ow 1232 (s1.length + 1))] [(1232,.row 1 (s1.length + 1) (Em s1.length (elI s1) (cut 1 [vi k1])))] (an (by omega : (s1.length + 1) * 8 ≤ 140737488355328) tv) (by kernel_rfl) (.cons rfl (MLe.ownLen (enc := Az) (d := 0) (f := (Em s1.length (elI s1) (cut 1 [vi k1]))) (RowIs.cat RowIs.elems (RowIs.lit (enc := Az) (d := 0) (n := 1) (f := (cut 1 [vi k1])) [k1] rfl (fun | 0,_ => rfl | n + 1,h => absurd h (by omega))))) .nil) (.cons rfl (BLe.typed (RowIs.cat RowIs.elems (RowIs.lit (enc := Az) (d := 0) (n := 1) (f := (cut 1 [vi k1])) [k1] rfl (fun | 0,_ => rfl | n + 1,h => absurd h (by omega))))) .nil) ?_
   refine DW.done ?_
   show DW _ _ _ _ _
   exact jD (k1,(s1 ++ [k1])) ⟨hlt1,hm⟩ (Conv.tp [] [(1168,.mq (.it (fun j => vb (r3.partitions.get j)) (Aw q1 k1 false) (some k1)))] (by kernel_rfl) .nil (.cons rfl .it .nil))
  ·intro hlt1
   have hm := he1 hlt1
   unfold Ox at hm
   refine Sq (condF ff ?_)
   refine DW.exit ?_
   refine Ap ?_
   refine Au ?_
   refine Aj ?_
   show DW _ _ _ _ _
   obtain ⟨r7,hr7,hm⟩ := bo hm
   obtain ⟨g8,hm⟩ := go1 hm
   refine Sq (RN hnt (.no :: o59 [1232] true r7 :: []) [(7,ow 1232 r7.length)] [(1232,ob0 (roI r7))] [(7,ow 1232 s1.length)] [] (an (Tq s1 r7 hr7) (an (⟨rfl,g8⟩ : Body.same (roI s1) (roI r7)) tv)) (by kernel_rfl) (.cons rfl (MLe.of_eq (congrArg (MV.own 1232 0 0) g8)) .nil) .nil ?_)
   refine Sq (RD hnt (nn 2 []) [7] [(6,ow 1232 r7.length)] [] [] tv ?_)
   obtain rfl := sj hm
   exact DW.ret (Am [roI r7] [1232] (ow 0 r7.length))
abbrev o94 (ks : List Nat) (b : Bool) (RES : List Int) (sm : List Nat := []) : Orc := .call 14 ks b (ow 0 RES.length) [] [roI RES] sm

theorem Aam (p0 : Ab) (p1 : List Ac) (p2 : List Int) (p3 : Int) (RES : Bool) (hm : Ic p0 p1 p2 p3 = some RES) : Spec Tryz.prog 40 [.p (.agg (Ak p0)),.p (Ax p1),.p (slI p2),pI p3] [] (pB RES) [] [] := by
 unfold Ic at hm
 refine SO Tryz.func40 rfl rfl [(0,.p (.agg (Ak p0))),(1,.p (Ax p1)),(2,.p (slI p2)),(3,pI p3)] [] ?_
 intro cx hnt
 refine Sq (RD hnt (nn 2 []) [0] [(4,rr 1032)] [] [(1032,bx (pm (Ak p0)))] tv ?_)
 obtain ⟨r1,hr1,hm⟩ := bo hm
 obtain ⟨r2,hr2,hm⟩ := bo hm
 refine Sq (RK hnt (nn 3 (o94 [] true r1 :: .no :: o54 [] true r2 :: .no :: [])) [(8,pB r2)] [] (an (Rw p0 p1 p2 r1 hr1) (an (Qj r1 p3 r2 hr2) tv)) ?_)
 obtain rfl := sj hm
 exact DW.ret (Am [] [] (pB r2))
abbrev o93 (ks : List Nat) (b : Bool) (RES : Bool) (sm : List Nat := []) : Orc := .call 40 ks b (pB RES) [] [] sm
end Go.Dm

