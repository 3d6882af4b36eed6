/- Texts of the proof of CpusetAll: the data machine, the models of the Go functions, their contracts. -/
import Derived.Test.YtkmmocjhkaagpaaGreatCpusetAllA5
set_option linter.unusedVariables false
set_option linter.unusedSimpArgs false
/- Go functions compute their models, printed by a program. -/
namespace Go.Dm
open Go.Proofs
set_option linter.unusedVariables false
theorem Agf (p0:At) (RES:Bool) (hm:Pa p0=some RES):Spec Tryz.prog 82 [.p (.agg (Dn p0))] [] (pB RES) [] []:=by
 unfold Pa at hm
 refine SO Tryz.func82 rfl rfl [(0,.p (.agg (Dn p0)))] [] ?_
 intro cx hnt
 refine Sq (RK hnt (nn 2 []) [(1,rr 1008)] [(1008,bx (pm (Dn p0)))] tv ?_)
 refine Sq (RD hnt (nn 3 []) [] [(3,pI p0.quota)] [] [] tv ?_)
 refine Sq (Sq (RD hnt (nn 3 []) [] [(8,pB (p0.quota==4611686018427387904))] [] [] tv ?_))
 refine Jn (ι:=Int) (fun (y1:Int)=>Af [(1,rr 1008),(3,pI y1)] [(1008,bx (pm (Dn p0)))]) (fun y1=>(Kh p0) y1=some RES) ?_ ?_
 ·intro y1 hm
  unfold Kh at hm
  refine Sq ?_
  refine Jn (ι:=Bool) (fun (y2:Bool)=>Af [(2,pB y2)] []) (fun y2=>Bc y2=some RES) ?_ ?_
  ·intro y2 hm
   unfold Bc at hm
   obtain rfl:=sj hm
   exact DW.ret (An [] [] (pB y2))
  ·rcases bt (p0.pidsMax==4611686018427387904) with h2|h2
   ·replace hm:=Az h2 hm
    obtain ⟨r44,hr44,hm⟩:=bo hm
    rcases bt r44 with h45|h45
    ·replace hm:=Az h45 hm
     rcases bt (p0.quota==4611686018427387904) with h46|h46
     ·replace hm:=Az h46 hm
      obtain ⟨r66,hr66,hm⟩:=bo hm
      rcases bt r66 with h67|h67
      ·replace hm:=Az h67 hm
       obtain ⟨r68,hr68,hm⟩:=bo hm
       rcases bt r68 with h69|h69
       ·replace hm:=Az h69 hm
        obtain ⟨r70,hr70,hm⟩:=bo hm
        rcases bt r70 with h71|h71
        ·replace hm:=Az h71 hm
         obtain ⟨r72,hr72,hm⟩:=bo hm
         rcases bt r72 with h73|h73
         ·replace hm:=Az h73 hm
          obtain ⟨r74,hr74,hm⟩:=bo hm
          rcases bt r74 with h75|h75
          ·replace hm:=Az h75 hm
           obtain ⟨r76,hr76,hm⟩:=bo hm
           rcases bt r76 with h77|h77
           ·replace hm:=Az h77 hm
            obtain ⟨r78,hr78,hm⟩:=bo hm
            rcases bt r78 with h79|h79
            ·replace hm:=Az h79 hm
             obtain ⟨r80,hr80,hm⟩:=bo hm
             rcases bt r80 with h81|h81
             ·replace hm:=Az h81 hm
              obtain ⟨r82,hr82,hm⟩:=bo hm
              refine RK hnt (nn 4 (sk 3 (pT::nn 3 (Am [] true r44::pT::nn 5 (sk 3 (pT::pT::nn 3 (Am [] true r66::pT::nn 4 (Am [] true r68::pT::nn 3 (Am [] true r70::pT::nn 3 (Am [] true r72::pT::nn 3 (Hb [] true r74::pT::nn 3 (Hb [] true r76::pT::nn 3 (Am [] true r78::pT::nn 3 (o35 [] true r80::pT::nn 3 (o37 [] true r82::pT :: .no :: []))))))))))))))) [(2,pB r82)] [] (an4 h2 (an3 tt (an (Aa p0.weight 1 10000 r44 hr44) (an tt (an4 h45 (an3 h46 (an h45 (an h46 (an h45 (an3 tt (an (Aa p0.period 1 1000000 r66 hr66) (an tt (an4 h67 (an (Aa p0.burst 0 y1 r68 hr68) (an h67 (an3 h69 (an (Aa p0.clampMin 0 10000 r70 hr70) (an h69 (an3 h71 (an (Aa p0.clampMax 0 10000 r72 hr72) (an h71 (an3 h73 (an (Bd p0.cpus 16 r74 hr74) (an h73 (an3 h75 (an (Bd p0.mems 8 r76 hr76) (an h75 (an3 h77 (an (Aa p0.partition 0 1 r78 hr78) (an h77 (an3 h79 (an (Ds p0.memory r80 hr80) (an h79 (an3 h81 (an (Ib p0.devices r82 hr82) (an h81 tv)))))))))))))))))))))))))))))))))))) ?_
              exact jD r82 hm .refl
             ·replace hm:=Ay h81 hm
              refine RK hnt (nn 4 (sk 3 (pT::nn 3 (Am [] true r44::pT::nn 5 (sk 3 (pT::pT::nn 3 (Am [] true r66::pT::nn 4 (Am [] true r68::pT::nn 3 (Am [] true r70::pT::nn 3 (Am [] true r72::pT::nn 3 (Hb [] true r74::pT::nn 3 (Hb [] true r76::pT::nn 3 (Am [] true r78::pT::nn 3 (o35 [] true r80::pT :: .no::sk 3 (pF :: .no :: []))))))))))))))) [(2,pB false)] [] (an4 h2 (an3 tt (an (Aa p0.weight 1 10000 r44 hr44) (an tt (an4 h45 (an3 h46 (an h45 (an h46 (an h45 (an3 tt (an (Aa p0.period 1 1000000 r66 hr66) (an tt (an4 h67 (an (Aa p0.burst 0 y1 r68 hr68) (an h67 (an3 h69 (an (Aa p0.clampMin 0 10000 r70 hr70) (an h69 (an3 h71 (an (Aa p0.clampMax 0 10000 r72 hr72) (an h71 (an3 h73 (an (Bd p0.cpus 16 r74 hr74) (an h73 (an3 h75 (an (Bd p0.mems 8 r76 hr76) (an h75 (an3 h77 (an (Aa p0.partition 0 1 r78 hr78) (an h77 (an3 h79 (an (Ds p0.memory r80 hr80) (an h79 (an4 h81 tv)))))))))))))))))))))))))))))))))) ?_
              exact jD false hm .refl
            ·replace hm:=Ay h79 hm
             refine RK hnt (nn 4 (sk 3 (pT::nn 3 (Am [] true r44::pT::nn 5 (sk 3 (pT::pT::nn 3 (Am [] true r66::pT::nn 4 (Am [] true r68::pT::nn 3 (Am [] true r70::pT::nn 3 (Am [] true r72::pT::nn 3 (Hb [] true r74::pT::nn 3 (Hb [] true r76::pT::nn 3 (Am [] true r78::pT :: .no::sk 3 (pF :: .no::sk 3 (pF :: .no :: []))))))))))))))) [(2,pB false)] [] (an4 h2 (an3 tt (an (Aa p0.weight 1 10000 r44 hr44) (an tt (an4 h45 (an3 h46 (an h45 (an h46 (an h45 (an3 tt (an (Aa p0.period 1 1000000 r66 hr66) (an tt (an4 h67 (an (Aa p0.burst 0 y1 r68 hr68) (an h67 (an3 h69 (an (Aa p0.clampMin 0 10000 r70 hr70) (an h69 (an3 h71 (an (Aa p0.clampMax 0 10000 r72 hr72) (an h71 (an3 h73 (an (Bd p0.cpus 16 r74 hr74) (an h73 (an3 h75 (an (Bd p0.mems 8 r76 hr76) (an h75 (an3 h77 (an (Aa p0.partition 0 1 r78 hr78) (an h77 (an4 h79 (an4 ff tv)))))))))))))))))))))))))))))))) ?_
             exact jD false hm .refl
           ·replace hm:=Ay h77 hm
            refine RK hnt (nn 4 (sk 3 (pT::nn 3 (Am [] true r44::pT::nn 5 (sk 3 (pT::pT::nn 3 (Am [] true r66::pT::nn 4 (Am [] true r68::pT::nn 3 (Am [] true r70::pT::nn 3 (Am [] true r72::pT::nn 3 (Hb [] true r74::pT::nn 3 (Hb [] true r76::pT :: .no::sk 3 (pF :: .no::sk 3 (pF :: .no::sk 3 (pF :: .no :: []))))))))))))))) [(2,pB false)] [] (an4 h2 (an3 tt (an (Aa p0.weight 1 10000 r44 hr44) (an tt (an4 h45 (an3 h46 (an h45 (an h46 (an h45 (an3 tt (an (Aa p0.period 1 1000000 r66 hr66) (an tt (an4 h67 (an (Aa p0.burst 0 y1 r68 hr68) (an h67 (an3 h69 (an (Aa p0.clampMin 0 10000 r70 hr70) (an h69 (an3 h71 (an (Aa p0.clampMax 0 10000 r72 hr72) (an h71 (an3 h73 (an (Bd p0.cpus 16 r74 hr74) (an h73 (an3 h75 (an (Bd p0.mems 8 r76 hr76) (an h75 (an4 h77 (an2 ff (an6 ff tv)))))))))))))))))))))))))))))) ?_
            exact jD false hm .refl
          ·replace hm:=Ay h75 hm
           refine RK hnt (nn 4 (sk 3 (pT::nn 3 (Am [] true r44::pT::nn 5 (sk 3 (pT::pT::nn 3 (Am [] true r66::pT::nn 4 (Am [] true r68::pT::nn 3 (Am [] true r70::pT::nn 3 (Am [] true r72::pT::nn 3 (Hb [] true r74::pT :: .no::sk 3 (pF :: .no::sk 3 (pF :: .no::sk 3 (pF :: .no::sk 3 (pF :: .no :: []))))))))))))))) [(2,pB false)] [] (an4 h2 (an3 tt (an (Aa p0.weight 1 10000 r44 hr44) (an tt (an4 h45 (an3 h46 (an h45 (an h46 (an h45 (an3 tt (an (Aa p0.period 1 1000000 r66 hr66) (an tt (an4 h67 (an (Aa p0.burst 0 y1 r68 hr68) (an h67 (an3 h69 (an (Aa p0.clampMin 0 10000 r70 hr70) (an h69 (an3 h71 (an (Aa p0.clampMax 0 10000 r72 hr72) (an h71 (an3 h73 (an (Bd p0.cpus 16 r74 hr74) (an h73 (an4 h75 (an6 ff (an6 ff tv))))))))))))))))))))))))))) ?_
           exact jD false hm .refl
         ·replace hm:=Ay h73 hm
          refine RK hnt (nn 4 (sk 3 (pT::nn 3 (Am [] true r44::pT::nn 5 (sk 3 (pT::pT::nn 3 (Am [] true r66::pT::nn 4 (Am [] true r68::pT::nn 3 (Am [] true r70::pT::nn 3 (Am [] true r72::pT :: .no::sk 3 (pF :: .no::sk 3 (pF :: .no::sk 3 (pF :: .no::sk 3 (pF :: .no::sk 3 (pF :: .no :: []))))))))))))))) [(2,pB false)] [] (an4 h2 (an3 tt (an (Aa p0.weight 1 10000 r44 hr44) (an tt (an4 h45 (an3 h46 (an h45 (an h46 (an h45 (an3 tt (an (Aa p0.period 1 1000000 r66 hr66) (an tt (an4 h67 (an (Aa p0.burst 0 y1 r68 hr68) (an h67 (an3 h69 (an (Aa p0.clampMin 0 10000 r70 hr70) (an h69 (an3 h71 (an (Aa p0.clampMax 0 10000 r72 hr72) (an h71 (an4 h73 (an4 ff (an6 ff (an6 ff tv))))))))))))))))))))))))) ?_
          exact jD false hm .refl
        ·replace hm:=Ay h71 hm
         refine RK hnt (nn 4 (sk 3 (pT::nn 3 (Am [] true r44::pT::nn 5 (sk 3 (pT::pT::nn 3 (Am [] true r66::pT::nn 4 (Am [] true r68::pT::nn 3 (Am [] true r70::pT :: .no::sk 3 (pF :: .no::sk 3 (pF :: .no::sk 3 (pF :: .no::sk 3 (pF :: .no::sk 3 (pF :: .no::sk 3 (pF :: .no :: []))))))))))))))) [(2,pB false)] [] (an4 h2 (an3 tt (an (Aa p0.weight 1 10000 r44 hr44) (an tt (an4 h45 (an3 h46 (an h45 (an h46 (an h45 (an3 tt (an (Aa p0.period 1 1000000 r66 hr66) (an tt (an4 h67 (an (Aa p0.burst 0 y1 r68 hr68) (an h67 (an3 h69 (an (Aa p0.clampMin 0 10000 r70 hr70) (an h69 (an4 h71 (an2 ff (an6 ff (an6 ff (an6 ff tv))))))))))))))))))))))) ?_
         exact jD false hm .refl
       ·replace hm:=Ay h69 hm
        refine RK hnt (nn 4 (sk 3 (pT::nn 3 (Am [] true r44::pT::nn 5 (sk 3 (pT::pT::nn 3 (Am [] true r66::pT::nn 4 (Am [] true r68::pT :: .no::sk 3 (pF :: .no::sk 3 (pF :: .no::sk 3 (pF :: .no::sk 3 (pF :: .no::sk 3 (pF :: .no::sk 3 (pF :: .no::sk 3 (pF :: .no :: []))))))))))))))) [(2,pB false)] [] (an4 h2 (an3 tt (an (Aa p0.weight 1 10000 r44 hr44) (an tt (an4 h45 (an3 h46 (an h45 (an h46 (an h45 (an3 tt (an (Aa p0.period 1 1000000 r66 hr66) (an tt (an4 h67 (an (Aa p0.burst 0 y1 r68 hr68) (an h67 (an4 h69 (an6 ff (an6 ff (an6 ff (an6 ff tv)))))))))))))))))))) ?_
        exact jD false hm .refl
      ·replace hm:=Ay h67 hm
       refine RK hnt (nn 4 (sk 3 (pT::nn 3 (Am [] true r44::pT::nn 5 (sk 3 (pT::pT::nn 3 (Am [] true r66::pT :: .no::sk 4 (pF :: .no::sk 3 (pF :: .no::sk 3 (pF :: .no::sk 3 (pF :: .no::sk 3 (pF :: .no::sk 3 (pF :: .no::sk 3 (pF :: .no::sk 3 (pF :: .no :: []))))))))))))))) [(2,pB false)] [] (an4 h2 (an3 tt (an (Aa p0.weight 1 10000 r44 hr44) (an tt (an4 h45 (an3 h46 (an h45 (an h46 (an h45 (an3 tt (an (Aa p0.period 1 1000000 r66 hr66) (an tt (an5 h67 (an4 ff (an6 ff (an6 ff (an6 ff (an6 ff tv)))))))))))))))))) ?_
       exact jD false hm .refl
     ·replace hm:=Ay h46 hm
      obtain ⟨r47,hr47,hm⟩:=bo hm
      rcases bt r47 with h48|h48
      ·replace hm:=Az h48 hm
       obtain ⟨r49,hr49,hm⟩:=bo hm
       rcases bt r49 with h50|h50
       ·replace hm:=Az h50 hm
        obtain ⟨r51,hr51,hm⟩:=bo hm
        rcases bt r51 with h52|h52
        ·replace hm:=Az h52 hm
         obtain ⟨r53,hr53,hm⟩:=bo hm
         rcases bt r53 with h54|h54
         ·replace hm:=Az h54 hm
          obtain ⟨r55,hr55,hm⟩:=bo hm
          rcases bt r55 with h56|h56
          ·replace hm:=Az h56 hm
           obtain ⟨r57,hr57,hm⟩:=bo hm
           rcases bt r57 with h58|h58
           ·replace hm:=Az h58 hm
            obtain ⟨r59,hr59,hm⟩:=bo hm
            rcases bt r59 with h60|h60
            ·replace hm:=Az h60 hm
             obtain ⟨r61,hr61,hm⟩:=bo hm
             rcases bt r61 with h62|h62
             ·replace hm:=Az h62 hm
              obtain ⟨r63,hr63,hm⟩:=bo hm
              rcases bt r63 with h64|h64
              ·replace hm:=Az h64 hm
               obtain ⟨r65,hr65,hm⟩:=bo hm
               refine RK hnt (nn 4 (sk 3 (pT::nn 3 (Am [] true r44::pT::nn 7 (Am [] true r47::pF::pT::nn 3 (Am [] true r49::pT::nn 4 (Am [] true r51::pT::nn 3 (Am [] true r53::pT::nn 3 (Am [] true r55::pT::nn 3 (Hb [] true r57::pT::nn 3 (Hb [] true r59::pT::nn 3 (Am [] true r61::pT::nn 3 (o35 [] true r63::pT::nn 3 (o37 [] true r65::pT :: .no :: [])))))))))))))) [(2,pB r65)] [] (an4 h2 (an3 tt (an (Aa p0.weight 1 10000 r44 hr44) (an tt (an4 h45 (an3 h46 (an (Aa p0.quota 1 1000000 r47 hr47) (an h45 (an h46 (an h45 (an3 h48 (an (Aa p0.period 1 1000000 r49 hr49) (an h48 (an4 h50 (an (Aa p0.burst 0 y1 r51 hr51) (an h50 (an3 h52 (an (Aa p0.clampMin 0 10000 r53 hr53) (an h52 (an3 h54 (an (Aa p0.clampMax 0 10000 r55 hr55) (an h54 (an3 h56 (an (Bd p0.cpus 16 r57 hr57) (an h56 (an3 h58 (an (Bd p0.mems 8 r59 hr59) (an h58 (an3 h60 (an (Aa p0.partition 0 1 r61 hr61) (an h60 (an3 h62 (an (Ds p0.memory r63 hr63) (an h62 (an3 h64 (an (Ib p0.devices r65 hr65) (an h64 tv))))))))))))))))))))))))))))))))))))) ?_
               exact jD r65 hm .refl
              ·replace hm:=Ay h64 hm
               refine RK hnt (nn 4 (sk 3 (pT::nn 3 (Am [] true r44::pT::nn 7 (Am [] true r47::pF::pT::nn 3 (Am [] true r49::pT::nn 4 (Am [] true r51::pT::nn 3 (Am [] true r53::pT::nn 3 (Am [] true r55::pT::nn 3 (Hb [] true r57::pT::nn 3 (Hb [] true r59::pT::nn 3 (Am [] true r61::pT::nn 3 (o35 [] true r63::pT :: .no::sk 3 (pF :: .no :: [])))))))))))))) [(2,pB false)] [] (an4 h2 (an3 tt (an (Aa p0.weight 1 10000 r44 hr44) (an tt (an4 h45 (an3 h46 (an (Aa p0.quota 1 1000000 r47 hr47) (an h45 (an h46 (an h45 (an3 h48 (an (Aa p0.period 1 1000000 r49 hr49) (an h48 (an4 h50 (an (Aa p0.burst 0 y1 r51 hr51) (an h50 (an3 h52 (an (Aa p0.clampMin 0 10000 r53 hr53) (an h52 (an3 h54 (an (Aa p0.clampMax 0 10000 r55 hr55) (an h54 (an3 h56 (an (Bd p0.cpus 16 r57 hr57) (an h56 (an3 h58 (an (Bd p0.mems 8 r59 hr59) (an h58 (an3 h60 (an (Aa p0.partition 0 1 r61 hr61) (an h60 (an3 h62 (an (Ds p0.memory r63 hr63) (an h62 (an4 h64 tv))))))))))))))))))))))))))))))))))) ?_
               exact jD false hm .refl
             ·replace hm:=Ay h62 hm
              refine RK hnt (nn 4 (sk 3 (pT::nn 3 (Am [] true r44::pT::nn 7 (Am [] true r47::pF::pT::nn 3 (Am [] true r49::pT::nn 4 (Am [] true r51::pT::nn 3 (Am [] true r53::pT::nn 3 (Am [] true r55::pT::nn 3 (Hb [] true r57::pT::nn 3 (Hb [] true r59::pT::nn 3 (Am [] true r61::pT :: .no::sk 3 (pF :: .no::sk 3 (pF :: .no :: [])))))))))))))) [(2,pB false)] [] (an4 h2 (an3 tt (an (Aa p0.weight 1 10000 r44 hr44) (an tt (an4 h45 (an3 h46 (an (Aa p0.quota 1 1000000 r47 hr47) (an h45 (an h46 (an h45 (an3 h48 (an (Aa p0.period 1 1000000 r49 hr49) (an h48 (an4 h50 (an (Aa p0.burst 0 y1 r51 hr51) (an h50 (an3 h52 (an (Aa p0.clampMin 0 10000 r53 hr53) (an h52 (an3 h54 (an (Aa p0.clampMax 0 10000 r55 hr55) (an h54 (an3 h56 (an (Bd p0.cpus 16 r57 hr57) (an h56 (an3 h58 (an (Bd p0.mems 8 r59 hr59) (an h58 (an3 h60 (an (Aa p0.partition 0 1 r61 hr61) (an h60 (an4 h62 (an4 ff tv))))))))))))))))))))))))))))))))) ?_
              exact jD false hm .refl
            ·replace hm:=Ay h60 hm
             refine RK hnt (nn 4 (sk 3 (pT::nn 3 (Am [] true r44::pT::nn 7 (Am [] true r47::pF::pT::nn 3 (Am [] true r49::pT::nn 4 (Am [] true r51::pT::nn 3 (Am [] true r53::pT::nn 3 (Am [] true r55::pT::nn 3 (Hb [] true r57::pT::nn 3 (Hb [] true r59::pT :: .no::sk 3 (pF :: .no::sk 3 (pF :: .no::sk 3 (pF :: .no :: [])))))))))))))) [(2,pB false)] [] (an4 h2 (an3 tt (an (Aa p0.weight 1 10000 r44 hr44) (an tt (an4 h45 (an3 h46 (an (Aa p0.quota 1 1000000 r47 hr47) (an h45 (an h46 (an h45 (an3 h48 (an (Aa p0.period 1 1000000 r49 hr49) (an h48 (an4 h50 (an (Aa p0.burst 0 y1 r51 hr51) (an h50 (an3 h52 (an (Aa p0.clampMin 0 10000 r53 hr53) (an h52 (an3 h54 (an (Aa p0.clampMax 0 10000 r55 hr55) (an h54 (an3 h56 (an (Bd p0.cpus 16 r57 hr57) (an h56 (an3 h58 (an (Bd p0.mems 8 r59 hr59) (an h58 (an4 h60 (an2 ff (an6 ff tv))))))))))))))))))))))))))))))) ?_
             exact jD false hm .refl
           ·replace hm:=Ay h58 hm
            refine RK hnt (nn 4 (sk 3 (pT::nn 3 (Am [] true r44::pT::nn 7 (Am [] true r47::pF::pT::nn 3 (Am [] true r49::pT::nn 4 (Am [] true r51::pT::nn 3 (Am [] true r53::pT::nn 3 (Am [] true r55::pT::nn 3 (Hb [] true r57::pT :: .no::sk 3 (pF :: .no::sk 3 (pF :: .no::sk 3 (pF :: .no::sk 3 (pF :: .no :: [])))))))))))))) [(2,pB false)] [] (an4 h2 (an3 tt (an (Aa p0.weight 1 10000 r44 hr44) (an tt (an4 h45 (an3 h46 (an (Aa p0.quota 1 1000000 r47 hr47) (an h45 (an h46 (an h45 (an3 h48 (an (Aa p0.period 1 1000000 r49 hr49) (an h48 (an4 h50 (an (Aa p0.burst 0 y1 r51 hr51) (an h50 (an3 h52 (an (Aa p0.clampMin 0 10000 r53 hr53) (an h52 (an3 h54 (an (Aa p0.clampMax 0 10000 r55 hr55) (an h54 (an3 h56 (an (Bd p0.cpus 16 r57 hr57) (an h56 (an4 h58 (an6 ff (an6 ff tv)))))))))))))))))))))))))))) ?_
            exact jD false hm .refl
          ·replace hm:=Ay h56 hm
           refine RK hnt (nn 4 (sk 3 (pT::nn 3 (Am [] true r44::pT::nn 7 (Am [] true r47::pF::pT::nn 3 (Am [] true r49::pT::nn 4 (Am [] true r51::pT::nn 3 (Am [] true r53::pT::nn 3 (Am [] true r55::pT :: .no::sk 3 (pF :: .no::sk 3 (pF :: .no::sk 3 (pF :: .no::sk 3 (pF :: .no::sk 3 (pF :: .no :: [])))))))))))))) [(2,pB false)] [] (an4 h2 (an3 tt (an (Aa p0.weight 1 10000 r44 hr44) (an tt (an4 h45 (an3 h46 (an (Aa p0.quota 1 1000000 r47 hr47) (an h45 (an h46 (an h45 (an3 h48 (an (Aa p0.period 1 1000000 r49 hr49) (an h48 (an4 h50 (an (Aa p0.burst 0 y1 r51 hr51) (an h50 (an3 h52 (an (Aa p0.clampMin 0 10000 r53 hr53) (an h52 (an3 h54 (an (Aa p0.clampMax 0 10000 r55 hr55) (an h54 (an4 h56 (an4 ff (an6 ff (an6 ff tv)))))))))))))))))))))))))) ?_
           exact jD false hm .refl
         ·replace hm:=Ay h54 hm
          refine RK hnt (nn 4 (sk 3 (pT::nn 3 (Am [] true r44::pT::nn 7 (Am [] true r47::pF::pT::nn 3 (Am [] true r49::pT::nn 4 (Am [] true r51::pT::nn 3 (Am [] true r53::pT :: .no::sk 3 (pF :: .no::sk 3 (pF :: .no::sk 3 (pF :: .no::sk 3 (pF :: .no::sk 3 (pF :: .no::sk 3 (pF :: .no :: [])))))))))))))) [(2,pB false)] [] (an4 h2 (an3 tt (an (Aa p0.weight 1 10000 r44 hr44) (an tt (an4 h45 (an3 h46 (an (Aa p0.quota 1 1000000 r47 hr47) (an h45 (an h46 (an h45 (an3 h48 (an (Aa p0.period 1 1000000 r49 hr49) (an h48 (an4 h50 (an (Aa p0.burst 0 y1 r51 hr51) (an h50 (an3 h52 (an (Aa p0.clampMin 0 10000 r53 hr53) (an h52 (an4 h54 (an2 ff (an6 ff (an6 ff (an6 ff tv)))))))))))))))))))))))) ?_
          exact jD false hm .refl
        ·replace hm:=Ay h52 hm
         refine RK hnt (nn 4 (sk 3 (pT::nn 3 (Am [] true r44::pT::nn 7 (Am [] true r47::pF::pT::nn 3 (Am [] true r49::pT::nn 4 (Am [] true r51::pT :: .no::sk 3 (pF :: .no::sk 3 (pF :: .no::sk 3 (pF :: .no::sk 3 (pF :: .no::sk 3 (pF :: .no::sk 3 (pF :: .no::sk 3 (pF :: .no :: [])))))))))))))) [(2,pB false)] [] (an4 h2 (an3 tt (an (Aa p0.weight 1 10000 r44 hr44) (an tt (an4 h45 (an3 h46 (an (Aa p0.quota 1 1000000 r47 hr47) (an h45 (an h46 (an h45 (an3 h48 (an (Aa p0.period 1 1000000 r49 hr49) (an h48 (an4 h50 (an (Aa p0.burst 0 y1 r51 hr51) (an h50 (an4 h52 (an6 ff (an6 ff (an6 ff (an6 ff tv))))))))))))))))))))) ?_
         exact jD false hm .refl
       ·replace hm:=Ay h50 hm
        refine RK hnt (nn 4 (sk 3 (pT::nn 3 (Am [] true r44::pT::nn 7 (Am [] true r47::pF::pT::nn 3 (Am [] true r49::pT :: .no::sk 4 (pF :: .no::sk 3 (pF :: .no::sk 3 (pF :: .no::sk 3 (pF :: .no::sk 3 (pF :: .no::sk 3 (pF :: .no::sk 3 (pF :: .no::sk 3 (pF :: .no :: [])))))))))))))) [(2,pB false)] [] (an4 h2 (an3 tt (an (Aa p0.weight 1 10000 r44 hr44) (an tt (an4 h45 (an3 h46 (an (Aa p0.quota 1 1000000 r47 hr47) (an h45 (an h46 (an h45 (an3 h48 (an (Aa p0.period 1 1000000 r49 hr49) (an h48 (an5 h50 (an4 ff (an6 ff (an6 ff (an6 ff (an6 ff tv))))))))))))))))))) ?_
        exact jD false hm .refl
      ·replace hm:=Ay h48 hm
       refine RK hnt (nn 4 (sk 3 (pT::nn 3 (Am [] true r44::pT::nn 7 (Am [] true r47::pF::pT :: .no::sk 3 (pF :: .no::sk 4 (pF :: .no::sk 3 (pF :: .no::sk 3 (pF :: .no::sk 3 (pF :: .no::sk 3 (pF :: .no::sk 3 (pF :: .no::sk 3 (pF :: .no::sk 3 (pF :: .no :: [])))))))))))))) [(2,pB false)] [] (an4 h2 (an3 tt (an (Aa p0.weight 1 10000 r44 hr44) (an tt (an4 h45 (an3 h46 (an (Aa p0.quota 1 1000000 r47 hr47) (an h45 (an h46 (an h45 (an4 h48 (an3 ff (an6 ff (an6 ff (an6 ff (an6 ff (an6 ff tv))))))))))))))))) ?_
       exact jD false hm .refl
    ·replace hm:=Ay h45 hm
     refine RK hnt (nn 4 (sk 3 (pT::nn 3 (Am [] true r44::pT :: .no::sk 8 (pF :: .no::sk 3 (pF :: .no::sk 4 (pF :: .no::sk 3 (pF :: .no::sk 3 (pF :: .no::sk 3 (pF :: .no::sk 3 (pF :: .no::sk 3 (pF :: .no::sk 3 (pF :: .no::sk 3 (pF :: .no :: [])))))))))))))) [(2,pB false)] [] (an4 h2 (an3 tt (an (Aa p0.weight 1 10000 r44 hr44) (an tt (an6 h45 (an ff (an6 ff (an6 ff (an6 ff (an6 ff (an6 ff (an6 ff tv)))))))))))) ?_
     exact jD false hm .refl
   ·replace hm:=Ay h2 hm
    obtain ⟨r3,hr3,hm⟩:=bo hm
    rcases bt r3 with h4|h4
    ·replace hm:=Az h4 hm
     obtain ⟨r5,hr5,hm⟩:=bo hm
     rcases bt r5 with h6|h6
     ·replace hm:=Az h6 hm
      rcases bt (p0.quota==4611686018427387904) with h7|h7
      ·replace hm:=Az h7 hm
       obtain ⟨r27,hr27,hm⟩:=bo hm
       rcases bt r27 with h28|h28
       ·replace hm:=Az h28 hm
        obtain ⟨r29,hr29,hm⟩:=bo hm
        rcases bt r29 with h30|h30
        ·replace hm:=Az h30 hm
         obtain ⟨r31,hr31,hm⟩:=bo hm
         rcases bt r31 with h32|h32
         ·replace hm:=Az h32 hm
          obtain ⟨r33,hr33,hm⟩:=bo hm
          rcases bt r33 with h34|h34
          ·replace hm:=Az h34 hm
           obtain ⟨r35,hr35,hm⟩:=bo hm
           rcases bt r35 with h36|h36
           ·replace hm:=Az h36 hm
            obtain ⟨r37,hr37,hm⟩:=bo hm
            rcases bt r37 with h38|h38
            ·replace hm:=Az h38 hm
             obtain ⟨r39,hr39,hm⟩:=bo hm
             rcases bt r39 with h40|h40
             ·replace hm:=Az h40 hm
              obtain ⟨r41,hr41,hm⟩:=bo hm
              rcases bt r41 with h42|h42
              ·replace hm:=Az h42 hm
               obtain ⟨r43,hr43,hm⟩:=bo hm
               refine RK hnt (nn 6 (Am [] true r3::pF::nn 3 (Am [] true r5::pT::nn 5 (sk 3 (pT::pT::nn 3 (Am [] true r27::pT::nn 4 (Am [] true r29::pT::nn 3 (Am [] true r31::pT::nn 3 (Am [] true r33::pT::nn 3 (Hb [] true r35::pT::nn 3 (Hb [] true r37::pT::nn 3 (Am [] true r39::pT::nn 3 (o35 [] true r41::pT::nn 3 (o37 [] true r43::pT :: .no :: [])))))))))))))) [(2,pB r43)] [] (an3 h2 (an (Aa p0.pidsMax 0 1099511627776 r3 hr3) (an h2 (an3 h4 (an (Aa p0.weight 1 10000 r5 hr5) (an h4 (an4 h6 (an3 h7 (an h6 (an h7 (an h6 (an3 tt (an (Aa p0.period 1 1000000 r27 hr27) (an tt (an4 h28 (an (Aa p0.burst 0 y1 r29 hr29) (an h28 (an3 h30 (an (Aa p0.clampMin 0 10000 r31 hr31) (an h30 (an3 h32 (an (Aa p0.clampMax 0 10000 r33 hr33) (an h32 (an3 h34 (an (Bd p0.cpus 16 r35 hr35) (an h34 (an3 h36 (an (Bd p0.mems 8 r37 hr37) (an h36 (an3 h38 (an (Aa p0.partition 0 1 r39 hr39) (an h38 (an3 h40 (an (Ds p0.memory r41 hr41) (an h40 (an3 h42 (an (Ib p0.devices r43 hr43) (an h42 tv)))))))))))))))))))))))))))))))))))))) ?_
               exact jD r43 hm .refl
              ·replace hm:=Ay h42 hm
               refine RK hnt (nn 6 (Am [] true r3::pF::nn 3 (Am [] true r5::pT::nn 5 (sk 3 (pT::pT::nn 3 (Am [] true r27::pT::nn 4 (Am [] true r29::pT::nn 3 (Am [] true r31::pT::nn 3 (Am [] true r33::pT::nn 3 (Hb [] true r35::pT::nn 3 (Hb [] true r37::pT::nn 3 (Am [] true r39::pT::nn 3 (o35 [] true r41::pT :: .no::sk 3 (pF :: .no :: [])))))))))))))) [(2,pB false)] [] (an3 h2 (an (Aa p0.pidsMax 0 1099511627776 r3 hr3) (an h2 (an3 h4 (an (Aa p0.weight 1 10000 r5 hr5) (an h4 (an4 h6 (an3 h7 (an h6 (an h7 (an h6 (an3 tt (an (Aa p0.period 1 1000000 r27 hr27) (an tt (an4 h28 (an (Aa p0.burst 0 y1 r29 hr29) (an h28 (an3 h30 (an (Aa p0.clampMin 0 10000 r31 hr31) (an h30 (an3 h32 (an (Aa p0.clampMax 0 10000 r33 hr33) (an h32 (an3 h34 (an (Bd p0.cpus 16 r35 hr35) (an h34 (an3 h36 (an (Bd p0.mems 8 r37 hr37) (an h36 (an3 h38 (an (Aa p0.partition 0 1 r39 hr39) (an h38 (an3 h40 (an (Ds p0.memory r41 hr41) (an h40 (an4 h42 tv)))))))))))))))))))))))))))))))))))) ?_
               exact jD false hm .refl
             ·replace hm:=Ay h40 hm
              refine RK hnt (nn 6 (Am [] true r3::pF::nn 3 (Am [] true r5::pT::nn 5 (sk 3 (pT::pT::nn 3 (Am [] true r27::pT::nn 4 (Am [] true r29::pT::nn 3 (Am [] true r31::pT::nn 3 (Am [] true r33::pT::nn 3 (Hb [] true r35::pT::nn 3 (Hb [] true r37::pT::nn 3 (Am [] true r39::pT :: .no::sk 3 (pF :: .no::sk 3 (pF :: .no :: [])))))))))))))) [(2,pB false)] [] (an3 h2 (an (Aa p0.pidsMax 0 1099511627776 r3 hr3) (an h2 (an3 h4 (an (Aa p0.weight 1 10000 r5 hr5) (an h4 (an4 h6 (an3 h7 (an h6 (an h7 (an h6 (an3 tt (an (Aa p0.period 1 1000000 r27 hr27) (an tt (an4 h28 (an (Aa p0.burst 0 y1 r29 hr29) (an h28 (an3 h30 (an (Aa p0.clampMin 0 10000 r31 hr31) (an h30 (an3 h32 (an (Aa p0.clampMax 0 10000 r33 hr33) (an h32 (an3 h34 (an (Bd p0.cpus 16 r35 hr35) (an h34 (an3 h36 (an (Bd p0.mems 8 r37 hr37) (an h36 (an3 h38 (an (Aa p0.partition 0 1 r39 hr39) (an h38 (an4 h40 (an4 ff tv)))))))))))))))))))))))))))))))))) ?_
              exact jD false hm .refl
            ·replace hm:=Ay h38 hm
             refine RK hnt (nn 6 (Am [] true r3::pF::nn 3 (Am [] true r5::pT::nn 5 (sk 3 (pT::pT::nn 3 (Am [] true r27::pT::nn 4 (Am [] true r29::pT::nn 3 (Am [] true r31::pT::nn 3 (Am [] true r33::pT::nn 3 (Hb [] true r35::pT::nn 3 (Hb [] true r37::pT :: .no::sk 3 (pF :: .no::sk 3 (pF :: .no::sk 3 (pF :: .no :: [])))))))))))))) [(2,pB false)] [] (an3 h2 (an (Aa p0.pidsMax 0 1099511627776 r3 hr3) (an h2 (an3 h4 (an (Aa p0.weight 1 10000 r5 hr5) (an h4 (an4 h6 (an3 h7 (an h6 (an h7 (an h6 (an3 tt (an (Aa p0.period 1 1000000 r27 hr27) (an tt (an4 h28 (an (Aa p0.burst 0 y1 r29 hr29) (an h28 (an3 h30 (an (Aa p0.clampMin 0 10000 r31 hr31) (an h30 (an3 h32 (an (Aa p0.clampMax 0 10000 r33 hr33) (an h32 (an3 h34 (an (Bd p0.cpus 16 r35 hr35) (an h34 (an3 h36 (an (Bd p0.mems 8 r37 hr37) (an h36 (an4 h38 (an2 ff (an6 ff tv)))))))))))))))))))))))))))))))) ?_
             exact jD false hm .refl
           ·replace hm:=Ay h36 hm
            refine RK hnt (nn 6 (Am [] true r3::pF::nn 3 (Am [] true r5::pT::nn 5 (sk 3 (pT::pT::nn 3 (Am [] true r27::pT::nn 4 (Am [] true r29::pT::nn 3 (Am [] true r31::pT::nn 3 (Am [] true r33::pT::nn 3 (Hb [] true r35::pT :: .no::sk 3 (pF :: .no::sk 3 (pF :: .no::sk 3 (pF :: .no::sk 3 (pF :: .no :: [])))))))))))))) [(2,pB false)] [] (an3 h2 (an (Aa p0.pidsMax 0 1099511627776 r3 hr3) (an h2 (an3 h4 (an (Aa p0.weight 1 10000 r5 hr5) (an h4 (an4 h6 (an3 h7 (an h6 (an h7 (an h6 (an3 tt (an (Aa p0.period 1 1000000 r27 hr27) (an tt (an4 h28 (an (Aa p0.burst 0 y1 r29 hr29) (an h28 (an3 h30 (an (Aa p0.clampMin 0 10000 r31 hr31) (an h30 (an3 h32 (an (Aa p0.clampMax 0 10000 r33 hr33) (an h32 (an3 h34 (an (Bd p0.cpus 16 r35 hr35) (an h34 (an4 h36 (an6 ff (an6 ff tv))))))))))))))))))))))))))))) ?_
            exact jD false hm .refl
          ·replace hm:=Ay h34 hm
           refine RK hnt (nn 6 (Am [] true r3::pF::nn 3 (Am [] true r5::pT::nn 5 (sk 3 (pT::pT::nn 3 (Am [] true r27::pT::nn 4 (Am [] true r29::pT::nn 3 (Am [] true r31::pT::nn 3 (Am [] true r33::pT :: .no::sk 3 (pF :: .no::sk 3 (pF :: .no::sk 3 (pF :: .no::sk 3 (pF :: .no::sk 3 (pF :: .no :: [])))))))))))))) [(2,pB false)] [] (an3 h2 (an (Aa p0.pidsMax 0 1099511627776 r3 hr3) (an h2 (an3 h4 (an (Aa p0.weight 1 10000 r5 hr5) (an h4 (an4 h6 (an3 h7 (an h6 (an h7 (an h6 (an3 tt (an (Aa p0.period 1 1000000 r27 hr27) (an tt (an4 h28 (an (Aa p0.burst 0 y1 r29 hr29) (an h28 (an3 h30 (an (Aa p0.clampMin 0 10000 r31 hr31) (an h30 (an3 h32 (an (Aa p0.clampMax 0 10000 r33 hr33) (an h32 (an4 h34 (an4 ff (an6 ff (an6 ff tv))))))))))))))))))))))))))) ?_
           exact jD false hm .refl
         ·replace hm:=Ay h32 hm
          refine RK hnt (nn 6 (Am [] true r3::pF::nn 3 (Am [] true r5::pT::nn 5 (sk 3 (pT::pT::nn 3 (Am [] true r27::pT::nn 4 (Am [] true r29::pT::nn 3 (Am [] true r31::pT :: .no::sk 3 (pF :: .no::sk 3 (pF :: .no::sk 3 (pF :: .no::sk 3 (pF :: .no::sk 3 (pF :: .no::sk 3 (pF :: .no :: [])))))))))))))) [(2,pB false)] [] (an3 h2 (an (Aa p0.pidsMax 0 1099511627776 r3 hr3) (an h2 (an3 h4 (an (Aa p0.weight 1 10000 r5 hr5) (an h4 (an4 h6 (an3 h7 (an h6 (an h7 (an h6 (an3 tt (an (Aa p0.period 1 1000000 r27 hr27) (an tt (an4 h28 (an (Aa p0.burst 0 y1 r29 hr29) (an h28 (an3 h30 (an (Aa p0.clampMin 0 10000 r31 hr31) (an h30 (an4 h32 (an2 ff (an6 ff (an6 ff (an6 ff tv))))))))))))))))))))))))) ?_
          exact jD false hm .refl
        ·replace hm:=Ay h30 hm
         refine RK hnt (nn 6 (Am [] true r3::pF::nn 3 (Am [] true r5::pT::nn 5 (sk 3 (pT::pT::nn 3 (Am [] true r27::pT::nn 4 (Am [] true r29::pT :: .no::sk 3 (pF :: .no::sk 3 (pF :: .no::sk 3 (pF :: .no::sk 3 (pF :: .no::sk 3 (pF :: .no::sk 3 (pF :: .no::sk 3 (pF :: .no :: [])))))))))))))) [(2,pB false)] [] (an3 h2 (an (Aa p0.pidsMax 0 1099511627776 r3 hr3) (an h2 (an3 h4 (an (Aa p0.weight 1 10000 r5 hr5) (an h4 (an4 h6 (an3 h7 (an h6 (an h7 (an h6 (an3 tt (an (Aa p0.period 1 1000000 r27 hr27) (an tt (an4 h28 (an (Aa p0.burst 0 y1 r29 hr29) (an h28 (an4 h30 (an6 ff (an6 ff (an6 ff (an6 ff tv)))))))))))))))))))))) ?_
         exact jD false hm .refl
       ·replace hm:=Ay h28 hm
        refine RK hnt (nn 6 (Am [] true r3::pF::nn 3 (Am [] true r5::pT::nn 5 (sk 3 (pT::pT::nn 3 (Am [] true r27::pT :: .no::sk 4 (pF :: .no::sk 3 (pF :: .no::sk 3 (pF :: .no::sk 3 (pF :: .no::sk 3 (pF :: .no::sk 3 (pF :: .no::sk 3 (pF :: .no::sk 3 (pF :: .no :: [])))))))))))))) [(2,pB false)] [] (an3 h2 (an (Aa p0.pidsMax 0 1099511627776 r3 hr3) (an h2 (an3 h4 (an (Aa p0.weight 1 10000 r5 hr5) (an h4 (an4 h6 (an3 h7 (an h6 (an h7 (an h6 (an3 tt (an (Aa p0.period 1 1000000 r27 hr27) (an tt (an5 h28 (an4 ff (an6 ff (an6 ff (an6 ff (an6 ff tv)))))))))))))))))))) ?_
        exact jD false hm .refl
      ·replace hm:=Ay h7 hm
       obtain ⟨r8,hr8,hm⟩:=bo hm
       rcases bt r8 with h9|h9
       ·replace hm:=Az h9 hm
        obtain ⟨r10,hr10,hm⟩:=bo hm
        rcases bt r10 with h11|h11
        ·replace hm:=Az h11 hm
         obtain ⟨r12,hr12,hm⟩:=bo hm
         rcases bt r12 with h13|h13
         ·replace hm:=Az h13 hm
          obtain ⟨r14,hr14,hm⟩:=bo hm
          rcases bt r14 with h15|h15
          ·replace hm:=Az h15 hm
           obtain ⟨r16,hr16,hm⟩:=bo hm
           rcases bt r16 with h17|h17
           ·replace hm:=Az h17 hm
            obtain ⟨r18,hr18,hm⟩:=bo hm
            rcases bt r18 with h19|h19
            ·replace hm:=Az h19 hm
             obtain ⟨r20,hr20,hm⟩:=bo hm
             rcases bt r20 with h21|h21
             ·replace hm:=Az h21 hm
              obtain ⟨r22,hr22,hm⟩:=bo hm
              rcases bt r22 with h23|h23
              ·replace hm:=Az h23 hm
               obtain ⟨r24,hr24,hm⟩:=bo hm
               rcases bt r24 with h25|h25
               ·replace hm:=Az h25 hm
                obtain ⟨r26,hr26,hm⟩:=bo hm
                refine RK hnt (nn 6 (Am [] true r3::pF::nn 3 (Am [] true r5::pT::nn 7 (Am [] true r8::pF::pT::nn 3 (Am [] true r10::pT::nn 4 (Am [] true r12::pT::nn 3 (Am [] true r14::pT::nn 3 (Am [] true r16::pT::nn 3 (Hb [] true r18::pT::nn 3 (Hb [] true r20::pT::nn 3 (Am [] true r22::pT::nn 3 (o35 [] true r24::pT::nn 3 (o37 [] true r26::pT :: .no :: []))))))))))))) [(2,pB r26)] [] (an3 h2 (an (Aa p0.pidsMax 0 1099511627776 r3 hr3) (an h2 (an3 h4 (an (Aa p0.weight 1 10000 r5 hr5) (an h4 (an4 h6 (an3 h7 (an (Aa p0.quota 1 1000000 r8 hr8) (an h6 (an h7 (an h6 (an3 h9 (an (Aa p0.period 1 1000000 r10 hr10) (an h9 (an4 h11 (an (Aa p0.burst 0 y1 r12 hr12) (an h11 (an3 h13 (an (Aa p0.clampMin 0 10000 r14 hr14) (an h13 (an3 h15 (an (Aa p0.clampMax 0 10000 r16 hr16) (an h15 (an3 h17 (an (Bd p0.cpus 16 r18 hr18) (an h17 (an3 h19 (an (Bd p0.mems 8 r20 hr20) (an h19 (an3 h21 (an (Aa p0.partition 0 1 r22 hr22) (an h21 (an3 h23 (an (Ds p0.memory r24 hr24) (an h23 (an3 h25 (an (Ib p0.devices r26 hr26) (an h25 tv))))))))))))))))))))))))))))))))))))))) ?_
                exact jD r26 hm .refl
               ·replace hm:=Ay h25 hm
                refine RK hnt (nn 6 (Am [] true r3::pF::nn 3 (Am [] true r5::pT::nn 7 (Am [] true r8::pF::pT::nn 3 (Am [] true r10::pT::nn 4 (Am [] true r12::pT::nn 3 (Am [] true r14::pT::nn 3 (Am [] true r16::pT::nn 3 (Hb [] true r18::pT::nn 3 (Hb [] true r20::pT::nn 3 (Am [] true r22::pT::nn 3 (o35 [] true r24::pT :: .no::sk 3 (pF :: .no :: []))))))))))))) [(2,pB false)] [] (an3 h2 (an (Aa p0.pidsMax 0 1099511627776 r3 hr3) (an h2 (an3 h4 (an (Aa p0.weight 1 10000 r5 hr5) (an h4 (an4 h6 (an3 h7 (an (Aa p0.quota 1 1000000 r8 hr8) (an h6 (an h7 (an h6 (an3 h9 (an (Aa p0.period 1 1000000 r10 hr10) (an h9 (an4 h11 (an (Aa p0.burst 0 y1 r12 hr12) (an h11 (an3 h13 (an (Aa p0.clampMin 0 10000 r14 hr14) (an h13 (an3 h15 (an (Aa p0.clampMax 0 10000 r16 hr16) (an h15 (an3 h17 (an (Bd p0.cpus 16 r18 hr18) (an h17 (an3 h19 (an (Bd p0.mems 8 r20 hr20) (an h19 (an3 h21 (an (Aa p0.partition 0 1 r22 hr22) (an h21 (an3 h23 (an (Ds p0.memory r24 hr24) (an h23 (an4 h25 tv))))))))))))))))))))))))))))))))))))) ?_
                exact jD false hm .refl
              ·replace hm:=Ay h23 hm
               refine RK hnt (nn 6 (Am [] true r3::pF::nn 3 (Am [] true r5::pT::nn 7 (Am [] true r8::pF::pT::nn 3 (Am [] true r10::pT::nn 4 (Am [] true r12::pT::nn 3 (Am [] true r14::pT::nn 3 (Am [] true r16::pT::nn 3 (Hb [] true r18::pT::nn 3 (Hb [] true r20::pT::nn 3 (Am [] true r22::pT :: .no::sk 3 (pF :: .no::sk 3 (pF :: .no :: []))))))))))))) [(2,pB false)] [] (an3 h2 (an (Aa p0.pidsMax 0 1099511627776 r3 hr3) (an h2 (an3 h4 (an (Aa p0.weight 1 10000 r5 hr5) (an h4 (an4 h6 (an3 h7 (an (Aa p0.quota 1 1000000 r8 hr8) (an h6 (an h7 (an h6 (an3 h9 (an (Aa p0.period 1 1000000 r10 hr10) (an h9 (an4 h11 (an (Aa p0.burst 0 y1 r12 hr12) (an h11 (an3 h13 (an (Aa p0.clampMin 0 10000 r14 hr14) (an h13 (an3 h15 (an (Aa p0.clampMax 0 10000 r16 hr16) (an h15 (an3 h17 (an (Bd p0.cpus 16 r18 hr18) (an h17 (an3 h19 (an (Bd p0.mems 8 r20 hr20) (an h19 (an3 h21 (an (Aa p0.partition 0 1 r22 hr22) (an h21 (an4 h23 (an4 ff tv))))))))))))))))))))))))))))))))))) ?_
               exact jD false hm .refl
             ·replace hm:=Ay h21 hm
              refine RK hnt (nn 6 (Am [] true r3::pF::nn 3 (Am [] true r5::pT::nn 7 (Am [] true r8::pF::pT::nn 3 (Am [] true r10::pT::nn 4 (Am [] true r12::pT::nn 3 (Am [] true r14::pT::nn 3 (Am [] true r16::pT::nn 3 (Hb [] true r18::pT::nn 3 (Hb [] true r20::pT :: .no::sk 3 (pF :: .no::sk 3 (pF :: .no::sk 3 (pF :: .no :: []))))))))))))) [(2,pB false)] [] (an3 h2 (an (Aa p0.pidsMax 0 1099511627776 r3 hr3) (an h2 (an3 h4 (an (Aa p0.weight 1 10000 r5 hr5) (an h4 (an4 h6 (an3 h7 (an (Aa p0.quota 1 1000000 r8 hr8) (an h6 (an h7 (an h6 (an3 h9 (an (Aa p0.period 1 1000000 r10 hr10) (an h9 (an4 h11 (an (Aa p0.burst 0 y1 r12 hr12) (an h11 (an3 h13 (an (Aa p0.clampMin 0 10000 r14 hr14) (an h13 (an3 h15 (an (Aa p0.clampMax 0 10000 r16 hr16) (an h15 (an3 h17 (an (Bd p0.cpus 16 r18 hr18) (an h17 (an3 h19 (an (Bd p0.mems 8 r20 hr20) (an h19 (an4 h21 (an2 ff (an6 ff tv))))))))))))))))))))))))))))))))) ?_
              exact jD false hm .refl
            ·replace hm:=Ay h19 hm
             refine RK hnt (nn 6 (Am [] true r3::pF::nn 3 (Am [] true r5::pT::nn 7 (Am [] true r8::pF::pT::nn 3 (Am [] true r10::pT::nn 4 (Am [] true r12::pT::nn 3 (Am [] true r14::pT::nn 3 (Am [] true r16::pT::nn 3 (Hb [] true r18::pT :: .no::sk 3 (pF :: .no::sk 3 (pF :: .no::sk 3 (pF :: .no::sk 3 (pF :: .no :: []))))))))))))) [(2,pB false)] [] (an3 h2 (an (Aa p0.pidsMax 0 1099511627776 r3 hr3) (an h2 (an3 h4 (an (Aa p0.weight 1 10000 r5 hr5) (an h4 (an4 h6 (an3 h7 (an (Aa p0.quota 1 1000000 r8 hr8) (an h6 (an h7 (an h6 (an3 h9 (an (Aa p0.period 1 1000000 r10 hr10) (an h9 (an4 h11 (an (Aa p0.burst 0 y1 r12 hr12) (an h11 (an3 h13 (an (Aa p0.clampMin 0 10000 r14 hr14) (an h13 (an3 h15 (an (Aa p0.clampMax 0 10000 r16 hr16) (an h15 (an3 h17 (an (Bd p0.cpus 16 r18 hr18) (an h17 (an4 h19 (an6 ff (an6 ff tv)))))))))))))))))))))))))))))) ?_
             exact jD false hm .refl
           ·replace hm:=Ay h17 hm
            refine RK hnt (nn 6 (Am [] true r3::pF::nn 3 (Am [] true r5::pT::nn 7 (Am [] true r8::pF::pT::nn 3 (Am [] true r10::pT::nn 4 (Am [] true r12::pT::nn 3 (Am [] true r14::pT::nn 3 (Am [] true r16::pT :: .no::sk 3 (pF :: .no::sk 3 (pF :: .no::sk 3 (pF :: .no::sk 3 (pF :: .no::sk 3 (pF :: .no :: []))))))))))))) [(2,pB false)] [] (an3 h2 (an (Aa p0.pidsMax 0 1099511627776 r3 hr3) (an h2 (an3 h4 (an (Aa p0.weight 1 10000 r5 hr5) (an h4 (an4 h6 (an3 h7 (an (Aa p0.quota 1 1000000 r8 hr8) (an h6 (an h7 (an h6 (an3 h9 (an (Aa p0.period 1 1000000 r10 hr10) (an h9 (an4 h11 (an (Aa p0.burst 0 y1 r12 hr12) (an h11 (an3 h13 (an (Aa p0.clampMin 0 10000 r14 hr14) (an h13 (an3 h15 (an (Aa p0.clampMax 0 10000 r16 hr16) (an h15 (an4 h17 (an4 ff (an6 ff (an6 ff tv)))))))))))))))))))))))))))) ?_
            exact jD false hm .refl
          ·replace hm:=Ay h15 hm
           refine RK hnt (nn 6 (Am [] true r3::pF::nn 3 (Am [] true r5::pT::nn 7 (Am [] true r8::pF::pT::nn 3 (Am [] true r10::pT::nn 4 (Am [] true r12::pT::nn 3 (Am [] true r14::pT :: .no::sk 3 (pF :: .no::sk 3 (pF :: .no::sk 3 (pF :: .no::sk 3 (pF :: .no::sk 3 (pF :: .no::sk 3 (pF :: .no :: []))))))))))))) [(2,pB false)] [] (an3 h2 (an (Aa p0.pidsMax 0 1099511627776 r3 hr3) (an h2 (an3 h4 (an (Aa p0.weight 1 10000 r5 hr5) (an h4 (an4 h6 (an3 h7 (an (Aa p0.quota 1 1000000 r8 hr8) (an h6 (an h7 (an h6 (an3 h9 (an (Aa p0.period 1 1000000 r10 hr10) (an h9 (an4 h11 (an (Aa p0.burst 0 y1 r12 hr12) (an h11 (an3 h13 (an (Aa p0.clampMin 0 10000 r14 hr14) (an h13 (an4 h15 (an2 ff (an6 ff (an6 ff (an6 ff tv)))))))))))))))))))))))))) ?_
           exact jD false hm .refl
         ·replace hm:=Ay h13 hm
          refine RK hnt (nn 6 (Am [] true r3::pF::nn 3 (Am [] true r5::pT::nn 7 (Am [] true r8::pF::pT::nn 3 (Am [] true r10::pT::nn 4 (Am [] true r12::pT :: .no::sk 3 (pF :: .no::sk 3 (pF :: .no::sk 3 (pF :: .no::sk 3 (pF :: .no::sk 3 (pF :: .no::sk 3 (pF :: .no::sk 3 (pF :: .no :: []))))))))))))) [(2,pB false)] [] (an3 h2 (an (Aa p0.pidsMax 0 1099511627776 r3 hr3) (an h2 (an3 h4 (an (Aa p0.weight 1 10000 r5 hr5) (an h4 (an4 h6 (an3 h7 (an (Aa p0.quota 1 1000000 r8 hr8) (an h6 (an h7 (an h6 (an3 h9 (an (Aa p0.period 1 1000000 r10 hr10) (an h9 (an4 h11 (an (Aa p0.burst 0 y1 r12 hr12) (an h11 (an4 h13 (an6 ff (an6 ff (an6 ff (an6 ff tv))))))))))))))))))))))) ?_
          exact jD false hm .refl
        ·replace hm:=Ay h11 hm
         refine RK hnt (nn 6 (Am [] true r3::pF::nn 3 (Am [] true r5::pT::nn 7 (Am [] true r8::pF::pT::nn 3 (Am [] true r10::pT :: .no::sk 4 (pF :: .no::sk 3 (pF :: .no::sk 3 (pF :: .no::sk 3 (pF :: .no::sk 3 (pF :: .no::sk 3 (pF :: .no::sk 3 (pF :: .no::sk 3 (pF :: .no :: []))))))))))))) [(2,pB false)] [] (an3 h2 (an (Aa p0.pidsMax 0 1099511627776 r3 hr3) (an h2 (an3 h4 (an (Aa p0.weight 1 10000 r5 hr5) (an h4 (an4 h6 (an3 h7 (an (Aa p0.quota 1 1000000 r8 hr8) (an h6 (an h7 (an h6 (an3 h9 (an (Aa p0.period 1 1000000 r10 hr10) (an h9 (an5 h11 (an4 ff (an6 ff (an6 ff (an6 ff (an6 ff tv))))))))))))))))))))) ?_
         exact jD false hm .refl
       ·replace hm:=Ay h9 hm
        refine RK hnt (nn 6 (Am [] true r3::pF::nn 3 (Am [] true r5::pT::nn 7 (Am [] true r8::pF::pT :: .no::sk 3 (pF :: .no::sk 4 (pF :: .no::sk 3 (pF :: .no::sk 3 (pF :: .no::sk 3 (pF :: .no::sk 3 (pF :: .no::sk 3 (pF :: .no::sk 3 (pF :: .no::sk 3 (pF :: .no :: []))))))))))))) [(2,pB false)] [] (an3 h2 (an (Aa p0.pidsMax 0 1099511627776 r3 hr3) (an h2 (an3 h4 (an (Aa p0.weight 1 10000 r5 hr5) (an h4 (an4 h6 (an3 h7 (an (Aa p0.quota 1 1000000 r8 hr8) (an h6 (an h7 (an h6 (an4 h9 (an3 ff (an6 ff (an6 ff (an6 ff (an6 ff (an6 ff tv))))))))))))))))))) ?_
        exact jD false hm .refl
     ·replace hm:=Ay h6 hm
      refine RK hnt (nn 6 (Am [] true r3::pF::nn 3 (Am [] true r5::pT :: .no::sk 8 (pF :: .no::sk 3 (pF :: .no::sk 4 (pF :: .no::sk 3 (pF :: .no::sk 3 (pF :: .no::sk 3 (pF :: .no::sk 3 (pF :: .no::sk 3 (pF :: .no::sk 3 (pF :: .no::sk 3 (pF :: .no :: []))))))))))))) [(2,pB false)] [] (an3 h2 (an (Aa p0.pidsMax 0 1099511627776 r3 hr3) (an h2 (an3 h4 (an (Aa p0.weight 1 10000 r5 hr5) (an h4 (an6 h6 (an ff (an6 ff (an6 ff (an6 ff (an6 ff (an6 ff (an6 ff tv)))))))))))))) ?_
      exact jD false hm .refl
    ·replace hm:=Ay h4 hm
     refine RK hnt (nn 6 (Am [] true r3::pF :: .no::sk 3 (pF :: .no::sk 8 (pF :: .no::sk 3 (pF :: .no::sk 4 (pF :: .no::sk 3 (pF :: .no::sk 3 (pF :: .no::sk 3 (pF :: .no::sk 3 (pF :: .no::sk 3 (pF :: .no::sk 3 (pF :: .no::sk 3 (pF :: .no :: []))))))))))))) [(2,pB false)] [] (an3 h2 (an (Aa p0.pidsMax 0 1099511627776 r3 hr3) (an h2 (an4 h4 (an ff (an6 ff (an6 ff (an6 ff (an6 ff (an6 ff (an6 ff (an6 ff tv)))))))))))) ?_
     exact jD false hm .refl
 ·refine Ar hm ?_ ?_
  ·intro h1 hm
   refine RD hnt (.no :: []) [8] [(3,pI 0)] [] [] tv ?_
   exact jD 0 hm Conv.eqK
  ·intro h1 hm
   refine Sk ?_
   exact jD p0.quota hm Conv.t0
abbrev o113 (ks:List Nat) (b:Bool) (RES:Bool) (sm:List Nat := []):Orc := .call 82 ks b (pB RES) [] [] sm

theorem Xs (p0:Ae) (p1:List Ab) (RES:Bool) (hm:Mo p0 p1=some RES):Spec Tryz.prog 61 [.p (.agg (Ag p0)),.p (Ah p1)] [] (pB RES) [] []:=by
 unfold Mo at hm
 refine SO Tryz.func61 rfl rfl [(0,.p (.agg (Ag p0))),(1,.p (Ah p1))] [] ?_
 intro cx hnt
 refine Sq (RD hnt (nn 2 []) [0] [(2,rr 1016)] [] [(1016,bx (pm (Ag p0)))] tv ?_)
 obtain ⟨r1,hr1,hm⟩:=bo hm
 refine Sq (Sq ?_)
 refine Jn (ι:=Bool) (fun (y1:Bool)=>Af [(1,.p (Ah p1)),(2,rr 1016),(16,pB y1)] [(1016,bx (pm (Ag p0)))]) (fun y1=>(Pn p0 p1) y1=some RES) ?_ ?_
 ·intro y1 hm
  unfold Pn at hm
  refine Ar hm ?_ ?_
  ·intro h3 hm
   refine Sq (RK hnt (.no :: []) [(4,pB false)] [] tv ?_)
   obtain rfl:=sj hm
   exact DW.ret (An [] [] (pB false))
  ·intro h3 hm
   refine Sk ?_
   refine Sq (Sq (RD hnt (.no :: []) [16] [(5,pI 0)] [] [] tv ?_))
   refine Bk ?_
   obtain ⟨hc1,hm⟩:=go1 hm
   refine DW.rangeO (fun (k1:Nat) (s1:Unit)=>Af [(1,.p (Ah p1)),(2,rr 1016),(5,pI ((k1:Nat):Int))] [(1016,bx (pm (Ag p0)))]) Ap hm Conv.eqK ?_
   intro k1 s1 n1 hk1 hs1 he1
   refine Sq (Sq (RD hnt (nn 4 []) [] [(20,pB (decide (((k1:Nat):Int)<((p1.length:Nat):Int))))] [] [] tv ?_))
   refine Cv (decide (((k1:Nat):Int)<((p1.length:Nat):Int))) ?_ ?_
   ·intro h18
    have hlt1:k1<p1.length:=by have:=of_decide_eq_true h18; omega
    have hm:=hs1 hlt1
    unfold Vz at hm
    refine Sk ?_
    refine Sq (Bk ?_)
    obtain ⟨g19,hm⟩:=go1 hm
    refine Sq ?_
    refine Jn (ι:=Bool) (fun (y4:Bool)=>Af [(1,.p (Ah p1)),(2,rr 1016),(5,pI ((k1:Nat):Int)),(43,pB y4)] [(1016,bx (pm (Ag p0)))]) (fun y4=>(Nr n1) y4=some RES) ?_ ?_
    ·intro y4 hm
     unfold Nr at hm
     refine Ar hm ?_ ?_
     ·intro h22 hm
      refine Sq (RK hnt (.no :: []) [(4,pB false)] [] tv ?_)
      obtain rfl:=sj hm
      exact DW.ret (An [] [] (pB false))
     ·intro h22 hm
      refine Sk ?_
      refine DW.done ?_
      show DW _ _ _ _ _
      refine RD hnt (nn 3 []) [43] [(5,pI (w64 (((k1:Nat):Int)+1)))] [] [] tv ?_
      exact jD () ⟨hlt1,hm⟩ (Conv.tp [(5,pI (w64 (((k1:Nat):Int)+1)))] [] (by kernel_rfl) (.cons rfl (.of_eq (congrArg pI (Bt hlt1 hc1))) .nil) .nil)
    ·rcases bt ((p1.getD k1 Ap).group != (p0.nodes.getD k1 Aq).id) with h20|h20
     ·replace hm:=Az h20 hm
      refine RD hnt (nn 13 (sk 7 (pT :: []))) [20] [(43,pB true)] [] [] (an (nn0 k1) (an (ltc hlt1) (an (nn0 k1) (an (ltc g19) (an2 h20 (an6 h20 tv)))))) ?_
      exact jD true hm Conv.eqK
     ·replace hm:=Ay h20 hm
      obtain ⟨r21,hr21,hm⟩:=bo hm
      refine RD hnt (nn 18 (o113 [] true r21 :: .no::pF :: [])) [20] [(43,pB (!r21))] [] [] (an (nn0 k1) (an (ltc hlt1) (an (nn0 k1) (an (ltc g19) (an3 h20 (an (nn0 k1) (an (ltc hlt1) (an3 h20 (an (Agf (p1.getD k1 Ap).settings r21 hr21) (an2 h20 tv)))))))))) ?_
      exact jD (!r21) hm Conv.eqK
   ·intro h18
    have hge1:¬ k1<p1.length:=by have:=of_decide_eq_false h18; omega
    have hm:=he1 hge1
    unfold AdG at hm
    refine DW.exit ?_
    refine Ao ?_
    refine Ba ?_
    refine Ai ?_
    show DW _ _ _ _ _
    refine Sq (RK hnt (.no :: []) [(4,pB true)] [] tv ?_)
    obtain rfl:=sj hm
    exact DW.ret (An [] [] (pB true))
 ·rcases bt (!r1) with h2|h2
  ·replace hm:=Az h2 hm
   refine RD hnt (.no::o6 [] true r1::nn 2 (sk 6 (pT :: []))) [] [(16,pB true)] [] [] (an (Kr p0 r1 hr1) (an h2 (an6 h2 tv))) ?_
   exact jD true hm Conv.eqK
  ·replace hm:=Ay h2 hm
   refine RD hnt (.no::o6 [] true r1::nn 8 (pF :: [])) [] [(16,pB (((p1.length:Nat):Int) != ((p0.nodes.length:Nat):Int)))] [] [] (an (Kr p0 r1 hr1) (an h2 (an6 h2 tv))) ?_
   exact jD (((p1.length:Nat):Int) != ((p0.nodes.length:Nat):Int)) hm Conv.eqK
abbrev o112 (ks:List Nat) (b:Bool) (RES:Bool) (sm:List Nat := []):Orc := .call 61 ks b (pB RES) [] [] sm

theorem Sa (p0:Ae) (p1:List Ab) (p2:List Int) (p3:Int) (RES:Bool) (hm:Ju p0 p1 p2 p3=some RES):Spec Tryz.prog 35 [.p (.agg (Ag p0)),.p (Ah p1),.p (slI p2),pI p3] [] (pB RES) [] []:=by
 unfold Ju at hm
 refine SO Tryz.func35 rfl rfl [(0,.p (.agg (Ag p0))),(1,.p (Ah p1)),(2,.p (slI p2)),(3,pI p3)] [] ?_
 intro cx hnt
 refine Sq (RD hnt (nn 2 []) [0] [(4,rr 1032)] [] [(1032,bx (pm (Ag p0)))] tv ?_)
 obtain ⟨r1,hr1,hm⟩:=bo hm
 refine Sq ?_
 refine Jn (ι:=Bool) (fun (y1:Bool)=>Af [(8,pB y1)] []) (fun y1=>Nw y1=some RES) ?_ ?_
 ·intro y1 hm
  unfold Nw at hm
  obtain rfl:=sj hm
  exact DW.ret (An [] [] (pB y1))
 ·rcases bt r1 with h2|h2
  ·replace hm:=Az h2 hm
   obtain ⟨r3,hr3,hm⟩:=bo hm
   rcases bt r3 with h4|h4
   ·replace hm:=Az h4 hm
    refine RK hnt (nn 2 (o112 [] true r1::nn 3 (Hb [] true r3::pT::nn 4 (pT :: .no :: [])))) [(8,pB (decide (((p2.length:Nat):Int)>0)))] [] (an (Xs p0 p1 r1 hr1) (an3 h2 (an (Bd p2 p3 r3 hr3) (an h2 (an4 h4 tv))))) ?_
    exact jD (decide (((p2.length:Nat):Int)>0)) hm .refl
   ·replace hm:=Ay h4 hm
    refine RK hnt (nn 2 (o112 [] true r1::nn 3 (Hb [] true r3::pT :: .no::sk 3 (pF :: .no :: [])))) [(8,pB false)] [] (an (Xs p0 p1 r1 hr1) (an3 h2 (an (Bd p2 p3 r3 hr3) (an h2 (an4 h4 tv))))) ?_
    exact jD false hm .refl
  ·replace hm:=Ay h2 hm
   refine RK hnt (nn 2 (o112 [] true r1 :: .no::sk 3 (pF :: .no::sk 3 (pF :: .no :: [])))) [(8,pB false)] [] (an (Xs p0 p1 r1 hr1) (an4 h2 (an4 ff tv))) ?_
   exact jD false hm .refl
abbrev o111 (ks:List Nat) (b:Bool) (RES:Bool) (sm:List Nat := []):Orc := .call 35 ks b (pB RES) [] [] sm

theorem Sx (p0:List Int) (p1:Int) (RES:Bool) (hm:Ns p0 p1=some RES):Spec Tryz.prog 47 [.p (slI p0),pI p1] [] (pB RES) [] []:=by
 unfold Ns at hm
 refine SO Tryz.func47 rfl rfl [(0,.p (slI p0)),(1,pI p1)] [] ?_
 intro cx hnt
 refine Sq (RD hnt (.no :: []) [] [] [] [] tv ?_)
 refine Sq (Sq (RD hnt (.no :: []) [] [(5,pI 0)] [] [] tv ?_))
 refine Bk ?_
 obtain ⟨hc1,hm⟩:=go1 hm
 refine DW.rangeO (fun (k1:Nat) (s1:Unit)=>Af [(0,.p (slI p0)),(1,pI p1),(5,pI ((k1:Nat):Int))] []) 0 hm Conv.eqK ?_
 intro k1 s1 n1 hk1 hs1 he1
 refine Sq (Sq (RD hnt (nn 4 []) [] [(9,pB (decide (((k1:Nat):Int)<((p0.length:Nat):Int))))] [] [] tv ?_))
 refine Cv (decide (((k1:Nat):Int)<((p0.length:Nat):Int))) ?_ ?_
 ·intro h7
  have hlt1:k1<p0.length:=by have:=of_decide_eq_true h7; omega
  have hm:=hs1 hlt1
  unfold AfJ at hm
  refine Sk ?_
  refine Sq (Bk ?_)
  refine Sq (RD hnt (nn 6 []) [9] [(17,pB ((p0.getD k1 0)==p1))] [] [] (an (nn0 k1) (an (ltc hlt1) tv)) ?_)
  refine Ar hm ?_ ?_
  ·intro h8 hm
   refine Sq (RK hnt (.no :: []) [(4,pB true)] [] tv ?_)
   obtain rfl:=sj hm
   exact DW.ret (An [] [] (pB true))
  ·intro h8 hm
   refine Sk ?_
   refine DW.done ?_
   show DW _ _ _ _ _
   refine RD hnt (nn 3 []) [17] [(5,pI (w64 (((k1:Nat):Int)+1)))] [] [] tv ?_
   exact jD () ⟨hlt1,hm⟩ (Conv.tp [(5,pI (w64 (((k1:Nat):Int)+1)))] [] (by kernel_rfl) (.cons rfl (.of_eq (congrArg pI (Bt hlt1 hc1))) .nil) .nil)
 ·intro h7
  have hge1:¬ k1<p0.length:=by have:=of_decide_eq_false h7; omega
  have hm:=he1 hge1
  unfold Agg at hm
  refine DW.exit ?_
  refine Ao ?_
  refine Ba ?_
  refine Ai ?_
  show DW _ _ _ _ _
  refine Sq (RK hnt (.no :: []) [(4,pB false)] [] tv ?_)
  obtain rfl:=sj hm
  exact DW.ret (An [] [] (pB false))
abbrev o121 (ks:List Nat) (b:Bool) (RES:Bool) (sm:List Nat := []):Orc := .call 47 ks b (pB RES) [] [] sm

abbrev Yu (k1:Nat):Nat×MV:=(4,pI ((k1:Nat):Int))
theorem Wx (p0:List Int) (RES:List Int) (hm:Mw p0=some RES):Spec Tryz.prog 38 [.p (slI p0)] [] (ow 0 RES.length) [] [roI RES]:=by
 unfold Mw at hm
 refine SO Tryz.func38 rfl rfl [(0,.p (slI p0))] [] ?_
 intro cx hnt
 refine Sq (RK hnt (.no :: []) [(0,.p (slI p0))] [] tv ?_)
 refine Sq (RD hnt (.no :: []) [] [(3,.p (.sl .nil 0 0 (fun _ => [])))] [] [] tv ?_)
 refine Sq (Sq (RD hnt (.no :: []) [] [(4,pI 0)] [] [] tv ?_))
 refine Bk ?_
 obtain ⟨hc1,hm⟩:=go1 hm
 refine DW.rangeO (fun (k1:Nat) (s1:List Int)=>Af [(0,.p (slI p0)),(3,ow 1368 s1.length),(Yu k1)] [(1368,ob0 (roI s1))]) 0 hm (Conv.ads [(.s 3,1368,1,elems Au 0 [])]) ?_
 intro k1 s1 n1 hk1 hs1 he1
 refine Sq (Sq (RD hnt (nn 4 []) [] [(9,pB (decide (((k1:Nat):Int)<((p0.length:Nat):Int))))] [] [] tv ?_))
 refine Cv (decide (((k1:Nat):Int)<((p0.length:Nat):Int))) ?_ ?_
 ·intro h72
  have hlt1:k1<p0.length:=by have:=of_decide_eq_true h72; omega
  have hm:=hs1 hlt1
  unfold Zj at hm
  refine Sk ?_
  refine Sq ?_
  refine Jn (ι:=List Int) (fun (y11:List Int)=>Af [(0,.p (slI p0)),(3,ow 1368 y11.length),(Yu k1)] [(1368,ob0 (roI y11))]) (fun y11=>(Ps n1) y11=some RES) ?_ ?_
  ·intro y11 hm
   unfold Ps at hm
   refine RD hnt (nn 3 []) [] [(4,pI (w64 (((k1:Nat):Int)+1)))] [] [] tv ?_
   exact jD y11 ⟨hlt1,hm⟩ (Conv.tp [(4,pI (w64 (((k1:Nat):Int)+1)))] [] (by kernel_rfl) (.cons rfl (.of_eq (congrArg pI (Bt hlt1 hc1))) .nil) .nil)
  ·refine Bk ?_
   refine Sq (RD hnt (nn 3 []) [9] [(5,pI ((s1.length:Nat):Int))] [] [] tv ?_)
   refine Sq (Bk ?_)
   refine DW.whileO (fun (s4:Int)=>Af [(0,.p (slI p0)),(3,ow 1368 s1.length),(Yu k1),(5,pI s4)] [(1368,ob0 (roI s1))]) hm Conv.eqK ?_
   intro s4 n4 hm
   unfold Us at hm
   refine Sq (Sq ?_)
   refine Jn (ι:=Bool) (fun (y14:Bool)=>Af [(0,.p (slI p0)),(3,ow 1368 s1.length),(Yu k1),(5,pI s4),(27,pB y14)] [(1368,ob0 (roI s1))]) (fun y14=>(Nb (p0.getD k1 0) s1 n1 s4 n4) y14=some RES) ?_ ?_
   ·intro y14 hm
    unfold Nb at hm
    refine Ar hm ?_ ?_
    ·intro h90 hm
     refine Sk ?_
     refine Bk ?_
     refine RD hnt (nn 3 []) [27] [(5,pI (w64 (s4-1)))] [] [] tv ?_
     refine DW.done ?_
     show DW _ _ _ _ _
     exact jD (w64 (s4-1)) hm Conv.eqK
    ·intro h90 hm
     refine DW.exit ?_
     refine Ao ?_
     refine Ba ?_
     refine Ai ?_
     show DW _ _ _ _ _
     refine Sq (Sq ?_)
     refine Jn (ι:=Bool) (fun (y15:Bool)=>Af [(0,.p (slI p0)),(3,ow 1368 s1.length),(Yu k1),(5,pI s4),(43,pB y15)] [(1368,ob0 (roI s1))]) (fun y15=>(My (p0.getD k1 0) s1 n1 s4) y15=some RES) ?_ ?_
     ·intro y15 hm
      unfold My at hm
      refine Ar hm ?_ ?_
      ·intro h94 hm
       refine DW.exit ?_
       exact Ai (AdN s1 hm Conv.t0)
      ·intro h94 hm
       refine Sk ?_
       obtain ⟨g95,hm⟩:=go1 hm
       refine Sq (RN hnt (nn 4 []) [(0,.p (slI p0)),(3,ow 1368 (s1 ++ [0]).length),(Yu k1),(5,pI s4)] [(1368,ob0 (roI (s1 ++ [0])))] [(3,ow 1368 (s1.length+1))] [(1368,.row 1 (s1.length+1) (De s1.length (elI s1) (cut 1 [vi 0])))] (an (by omega:(s1.length+1)*8≤140737488355328) tv) (by kernel_rfl) (.cons rfl (MLe.ownLen (enc:=Au) (d:=0) (f:=(De s1.length (elI s1) (cut 1 [vi 0]))) (RowIs.cat RowIs.elems (RowIs.lit (enc:=Au) (d:=0) (n:=1) (f:=(cut 1 [vi 0])) [0] rfl (fun|0,_=>rfl|n+1,h=>absurd h (by omega))))) .nil) (.cons rfl (BLe.typed (RowIs.cat RowIs.elems (RowIs.lit (enc:=Au) (d:=0) (n:=1) (f:=(cut 1 [vi 0])) [0] rfl (fun|0,_=>rfl|n+1,h=>absurd h (by omega))))) .nil) ?_)
       obtain ⟨g96,g97,g98,hm⟩:=go3 hm
       refine Sq (RN hnt (nn 8 []) [(0,.p (slI p0)),(3,ow 1368 (Oe (s1 ++ [0]) (Int.toNat (w64 (s4+1))) (Hn (Cr (s1 ++ [0]).length (Int.toNat s4)) (Cr (s1 ++ [0]).length (Int.toNat (w64 (s4+1))))) (((s1 ++ [0]).drop (Int.toNat s4)).take (Cr (s1 ++ [0]).length (Int.toNat s4)))).length),(Yu k1),(5,pI s4)] [(1368,ob0 (roI (Oe (s1 ++ [0]) (Int.toNat (w64 (s4+1))) (Hn (Cr (s1 ++ [0]).length (Int.toNat s4)) (Cr (s1 ++ [0]).length (Int.toNat (w64 (s4+1))))) (((s1 ++ [0]).drop (Int.toNat s4)).take (Cr (s1 ++ [0]).length (Int.toNat s4))))))] [(3,ow 1368 (s1 ++ [0]).length)] [(1368,.row 1 (s1 ++ [0]).length (Kw (elI (s1 ++ [0])) (Int.toNat (w64 (s4+1))) (Hn (Cr (s1 ++ [0]).length (Int.toNat s4)) (Cr (s1 ++ [0]).length (Int.toNat (w64 (s4+1))))) (shF (Int.toNat s4) (elI (s1 ++ [0])))))] (an (by omega:(0:Int)≤(w64 (s4+1))) (an (by omega:(w64 (s4+1))≤(((s1 ++ [0]).length:Nat):Int)) (an (by omega:(((s1 ++ [0]).length:Nat):Int)≤(((s1 ++ [0]).length:Nat):Int)) (an (by omega:(0:Int)≤s4) (an (by omega:s4≤(((s1 ++ [0]).length:Nat):Int)) (an (by omega:(((s1 ++ [0]).length:Nat):Int)≤(((s1 ++ [0]).length:Nat):Int)) (an g98 tv))))))) (by kernel_rfl) (.cons rfl (MLe.ownLen (enc:=Au) (d:=0) (f:=(Kw (elI (s1 ++ [0])) (Int.toNat (w64 (s4+1))) (Hn (Cr (s1 ++ [0]).length (Int.toNat s4)) (Cr (s1 ++ [0]).length (Int.toNat (w64 (s4+1))))) (shF (Int.toNat s4) (elI (s1 ++ [0]))))) (RowIs.over RowIs.elems (RowIs.sub RowIs.elems (by first|omega|(simp only [Ic,Vr] at *; omega))) (AeH _ _).1 (by have:=(AeH (Cr (s1 ++ [0]).length (Int.toNat s4)) (Cr (s1 ++ [0]).length (Int.toNat (w64 (s4+1))))).2; omega))) .nil) (.cons rfl (BLe.typed (RowIs.over RowIs.elems (RowIs.sub RowIs.elems (by first|omega|(simp only [Ic,Vr] at *; omega))) (AeH _ _).1 (by have:=(AeH (Cr (s1 ++ [0]).length (Int.toNat s4)) (Cr (s1 ++ [0]).length (Int.toNat (w64 (s4+1))))).2; omega))) .nil) ?_)
       generalize (Oe (s1 ++ [0]) (Int.toNat (w64 (s4+1))) (Hn (Cr (s1 ++ [0]).length (Int.toNat s4)) (Cr (s1 ++ [0]).length (Int.toNat (w64 (s4+1))))) (((s1 ++ [0]).drop (Int.toNat s4)).take (Cr (s1 ++ [0]).length (Int.toNat s4))))=G1 at hm ⊢
       obtain ⟨g99,g100,hm⟩:=go2 hm
       refine RN hnt (nn 8 []) [(0,.p (slI p0)),(3,ow 1368 (G1.set (Int.toNat s4) (p0.getD k1 0)).length),(Yu k1)] [(1368,ob0 (roI (G1.set (Int.toNat s4) (p0.getD k1 0))))] [(3,ow 1368 G1.length)] [(1368,.row 1 G1.length (Bs (elI G1) (Int.toNat s4) [vi (p0.getD k1 0)]))] (an (nn0 k1) (an (ltc hlt1) (an g99.1 (an g99.2 (an g100 tv))))) (by kernel_rfl) (.cons rfl (MLe.ownLen (enc:=Au) (d:=0) (f:=(Bs (elI G1) (Int.toNat s4) [vi (p0.getD k1 0)])) (RowIs.upd RowIs.elems (p0.getD k1 0) rfl)) .nil) (.cons rfl (BLe.typed (RowIs.upd RowIs.elems (p0.getD k1 0) rfl)) .nil) ?_
       exact bD (G1.set (Int.toNat s4) (p0.getD k1 0)) hm .refl
     ·rcases bt (decide (s4>0)) with h91|h91
      ·replace hm:=Az h91 hm
       obtain ⟨g92,g93,hm⟩:=go2 hm
       refine RD hnt (nn 13 (pT :: [])) [27] [(43,pB ((s1.getD (Int.toNat (w64 (s4-1))) 0)==(p0.getD k1 0)))] [] [] (an4 h91 (an g92.1 (an g92.2 (an h91 (an g93 (an3 h91 (an (nn0 k1) (an (ltc hlt1) (an3 h91 tv))))))))) ?_
       exact jD ((s1.getD (Int.toNat (w64 (s4-1))) 0)==(p0.getD k1 0)) hm Conv.eqK
      ·replace hm:=Ay h91 hm
       refine RD hnt (nn 3 (sk 10 (pF :: []))) [27] [(43,pB false)] [] [] (an5 h91 (an6 h91 tv)) ?_
       exact jD false hm Conv.eqK
   ·rcases bt (decide (s4>0)) with h87|h87
    ·replace hm:=Az h87 hm
     obtain ⟨g88,g89,hm⟩:=go2 hm
     refine RD hnt (nn 13 (pT :: [])) [] [(27,pB (decide ((p0.getD k1 0)<(s1.getD (Int.toNat (w64 (s4-1))) 0))))] [] [] (an3 h87 (an (nn0 k1) (an (ltc hlt1) (an5 h87 (an g88.1 (an g88.2 (an h87 (an g89 (an2 h87 tv))))))))) ?_
     exact jD (decide ((p0.getD k1 0)<(s1.getD (Int.toNat (w64 (s4-1))) 0))) hm Conv.eqK
    ·replace hm:=Ay h87 hm
     refine RD hnt (nn 3 (sk 10 (pF :: []))) [] [(27,pB false)] [] [] (an5 h87 (an6 h87 tv)) ?_
     exact jD false hm Conv.eqK
 ·intro h72
  have hge1:¬ k1<p0.length:=by have:=of_decide_eq_false h72; omega
  have hm:=he1 hge1
  unfold Adb at hm
  refine DW.exit ?_
  refine Ao ?_
  refine Ba ?_
  refine Ai ?_
  show DW _ _ _ _ _
  refine Sq (RK hnt (nn 2 []) [(2,ow 1368 s1.length)] [(1368,ob0 (roI s1))] tv ?_)
  obtain rfl:=sj hm
  exact DW.ret (An [roI s1] [1368] (ow 0 s1.length))
abbrev o122 (ks:List Nat) (b:Bool) (RES:List Int) (sm:List Nat := []):Orc := .call 38 ks b (ow 0 RES.length) [] [roI RES] sm

theorem Xx (p0:List Int) (p1:List Int) (RES:List Int) (hm:Qj p0 p1=some RES):Spec Tryz.prog 95 [.p (slI p0),.p (slI p1)] [] (ow 0 RES.length) [] [roI RES]:=by
 unfold Qj at hm
 refine SO Tryz.func95 rfl rfl [(0,.p (slI p0)),(1,.p (slI p1))] [] ?_
 intro cx hnt
 refine Sq (RD hnt (.no :: []) [] [] [] [] tv ?_)
 refine Sq (RD hnt (.no :: []) [] [(5,.p (.sl .nil 0 0 (fun _ => [])))] [] [] tv ?_)
 refine Sq (Sq (RD hnt (.no :: []) [] [(6,pI 0)] [] [] tv ?_))
 refine Bk ?_
 obtain ⟨hc1,hm⟩:=go1 hm
 refine DW.rangeO (fun (k1:Nat) (s1:List Int)=>Af [(0,.p (slI p0)),(1,.p (slI p1)),(5,ow 1208 s1.length),(6,pI ((k1:Nat):Int))] [(1208,ob0 (roI s1))]) 0 hm (Conv.ads [(.s 5,1208,1,elems Au 0 [])]) ?_
 intro k1 s1 n1 hk1 hs1 he1
 refine Sq (Sq (RD hnt (nn 4 []) [] [(10,pB (decide (((k1:Nat):Int)<((p0.length:Nat):Int))))] [] [] tv ?_))
 refine Cv (decide (((k1:Nat):Int)<((p0.length:Nat):Int))) ?_ ?_
 ·intro h15
  have hlt1:k1<p0.length:=by have:=of_decide_eq_true h15; omega
  have hm:=hs1 hlt1
  unfold AaO at hm
  refine Sk ?_
  refine Sq ?_
  refine Jn (ι:=List Int) (fun (y3:List Int)=>Af [(0,.p (slI p0)),(1,.p (slI p1)),(5,ow 1208 y3.length),(6,pI ((k1:Nat):Int))] [(1208,ob0 (roI y3))]) (fun y3=>(Tb n1) y3=some RES) ?_ ?_
  ·intro y3 hm
   unfold Tb at hm
   refine RD hnt (nn 3 []) [] [(6,pI (w64 (((k1:Nat):Int)+1)))] [] [] tv ?_
   exact jD y3 ⟨hlt1,hm⟩ (Conv.tp [(6,pI (w64 (((k1:Nat):Int)+1)))] [] (by kernel_rfl) (.cons rfl (.of_eq (congrArg pI (Bt hlt1 hc1))) .nil) .nil)
  ·refine Bk ?_
   obtain ⟨r16,hr16,hm⟩:=bo hm
   refine Sq (RD hnt (nn 5 (o121 [] true r16 :: .no :: [])) [10] [(19,pB (!r16))] [] [] (an (nn0 k1) (an (ltc hlt1) (an (Sx p1 (p0.getD k1 0) r16 hr16) tv))) ?_)
   refine Ar hm ?_ ?_
   ·intro h17 hm
    obtain ⟨g18,hm⟩:=go1 hm
    refine RN hnt (nn 8 []) [(0,.p (slI p0)),(1,.p (slI p1)),(5,ow 1208 (s1 ++ [(p0.getD k1 0)]).length),(6,pI ((k1:Nat):Int))] [(1208,ob0 (roI (s1 ++ [(p0.getD k1 0)])))] [(5,ow 1208 (s1.length+1))] [(1208,.row 1 (s1.length+1) (De s1.length (elI s1) (cut 1 [vi (p0.getD k1 0)])))] (an (nn0 k1) (an (ltc hlt1) (an (by omega:(s1.length+1)*8≤140737488355328) tv))) (by kernel_rfl) (.cons rfl (MLe.ownLen (enc:=Au) (d:=0) (f:=(De s1.length (elI s1) (cut 1 [vi (p0.getD k1 0)]))) (RowIs.cat RowIs.elems (RowIs.lit (enc:=Au) (d:=0) (n:=1) (f:=(cut 1 [vi (p0.getD k1 0)])) [(p0.getD k1 0)] rfl (fun|0,_=>rfl|n+1,h=>absurd h (by omega))))) .nil) (.cons rfl (BLe.typed (RowIs.cat RowIs.elems (RowIs.lit (enc:=Au) (d:=0) (n:=1) (f:=(cut 1 [vi (p0.getD k1 0)])) [(p0.getD k1 0)] rfl (fun|0,_=>rfl|n+1,h=>absurd h (by omega))))) .nil) ?_
    exact bD (s1 ++ [(p0.getD k1 0)]) hm .refl
   ·intro h17 hm
    refine Sk ?_
    exact bD s1 hm Conv.t0
 ·intro h15
  have hge1:¬ k1<p0.length:=by have:=of_decide_eq_false h15; omega
  have hm:=he1 hge1
  unfold Wt at hm
  refine DW.exit ?_
  refine Ao ?_
  refine Ba ?_
  refine Ai ?_
  show DW _ _ _ _ _
  refine Sq (DW.cv [] [(5,.p (slI s1))] [1208] [] (Conv.frz [1208]) ?_)
  obtain ⟨r20,hr20,hm⟩:=bo hm
  refine RK hnt (.no::o122 [] true r20 :: .no :: []) [(4,ow 1224 r20.length)] [(1224,ob0 (roI r20))] (an (Wx s1 r20 hr20) tv) ?_
  obtain rfl:=sj hm
  exact DW.ret (An [roI r20] [1224] (ow 0 r20.length))
abbrev o120 (ks:List Nat) (b:Bool) (RES:List Int) (sm:List Nat := []):Orc := .call 95 ks b (ow 0 RES.length) [] [roI RES] sm

theorem Iv (p0:List Int) (p1:List Int) (RES:Bool) (hm:Kx p0 p1=some RES):Spec Tryz.prog 94 [.p (slI p0),.p (slI p1)] [] (pB RES) [] []:=by
 unfold Kx at hm
 refine SO Tryz.func94 rfl rfl [(0,.p (slI p0)),(1,.p (slI p1))] [] ?_
 intro cx hnt
 refine Sq (RD hnt (.no :: []) [] [] [] [] tv ?_)
 obtain ⟨r1,hr1,hm⟩:=bo hm
 refine Sq (RK hnt (nn 2 (o120 [] true r1::nn 3 [])) [(4,pB (((r1.length:Nat):Int)==0))] [] (an (Xx p0 p1 r1 hr1) tv) ?_)
 obtain rfl:=sj hm
 exact DW.ret (An [] [] (pB (((r1.length:Nat):Int)==0)))
abbrev o119 (ks:List Nat) (b:Bool) (RES:Bool) (sm:List Nat := []):Orc := .call 94 ks b (pB RES) [] [] sm

theorem Su (p0:List Int) (p1:List Int) (RES:List Int) (hm:Jm p0 p1=some RES):Spec Tryz.prog 44 [.p (slI p0),.p (slI p1)] [] (ow 0 RES.length) [] [roI RES]:=by
 unfold Jm at hm
 refine SO Tryz.func44 rfl rfl [(0,.p (slI p0)),(1,.p (slI p1))] [] ?_
 intro cx hnt
 refine Sq (RD hnt (.no :: []) [] [] [] [] tv ?_)
 refine Sq (RD hnt (.no :: []) [] [(5,.p (.sl .nil 0 0 (fun _ => [])))] [] [] tv ?_)
 refine Sq (Sq (RD hnt (.no :: []) [] [(6,pI 0)] [] [] tv ?_))
 refine Bk ?_
 obtain ⟨hc1,hm⟩:=go1 hm
 refine DW.rangeO (fun (k1:Nat) (s1:List Int)=>Af [(0,.p (slI p0)),(1,.p (slI p1)),(5,ow 1200 s1.length),(6,pI ((k1:Nat):Int))] [(1200,ob0 (roI s1))]) 0 hm (Conv.ads [(.s 5,1200,1,elems Au 0 [])]) ?_
 intro k1 s1 n1 hk1 hs1 he1
 refine Sq (Sq (RD hnt (nn 4 []) [] [(10,pB (decide (((k1:Nat):Int)<((p0.length:Nat):Int))))] [] [] tv ?_))
 refine Cv (decide (((k1:Nat):Int)<((p0.length:Nat):Int))) ?_ ?_
 ·intro h15
  have hlt1:k1<p0.length:=by have:=of_decide_eq_true h15; omega
  have hm:=hs1 hlt1
  unfold Vh at hm
  refine Sk ?_
  refine Sq ?_
  refine Jn (ι:=List Int) (fun (y3:List Int)=>Af [(0,.p (slI p0)),(1,.p (slI p1)),(5,ow 1200 y3.length),(6,pI ((k1:Nat):Int))] [(1200,ob0 (roI y3))]) (fun y3=>(Nk n1) y3=some RES) ?_ ?_
  ·intro y3 hm
   unfold Nk at hm
   refine RD hnt (nn 3 []) [] [(6,pI (w64 (((k1:Nat):Int)+1)))] [] [] tv ?_
   exact jD y3 ⟨hlt1,hm⟩ (Conv.tp [(6,pI (w64 (((k1:Nat):Int)+1)))] [] (by kernel_rfl) (.cons rfl (.of_eq (congrArg pI (Bt hlt1 hc1))) .nil) .nil)
  ·refine Bk ?_
   obtain ⟨r16,hr16,hm⟩:=bo hm
   refine Sq (RD hnt (nn 5 (o121 [] true r16 :: [])) [10] [(18,pB r16)] [] [] (an (nn0 k1) (an (ltc hlt1) (an (Sx p1 (p0.getD k1 0) r16 hr16) tv))) ?_)
   refine Ar hm ?_ ?_
   ·intro h17 hm
    obtain ⟨g18,hm⟩:=go1 hm
    refine RN hnt (nn 8 []) [(0,.p (slI p0)),(1,.p (slI p1)),(5,ow 1200 (s1 ++ [(p0.getD k1 0)]).length),(6,pI ((k1:Nat):Int))] [(1200,ob0 (roI (s1 ++ [(p0.getD k1 0)])))] [(5,ow 1200 (s1.length+1))] [(1200,.row 1 (s1.length+1) (De s1.length (elI s1) (cut 1 [vi (p0.getD k1 0)])))] (an (nn0 k1) (an (ltc hlt1) (an (by omega:(s1.length+1)*8≤140737488355328) tv))) (by kernel_rfl) (.cons rfl (MLe.ownLen (enc:=Au) (d:=0) (f:=(De s1.length (elI s1) (cut 1 [vi (p0.getD k1 0)]))) (RowIs.cat RowIs.elems (RowIs.lit (enc:=Au) (d:=0) (n:=1) (f:=(cut 1 [vi (p0.getD k1 0)])) [(p0.getD k1 0)] rfl (fun|0,_=>rfl|n+1,h=>absurd h (by omega))))) .nil) (.cons rfl (BLe.typed (RowIs.cat RowIs.elems (RowIs.lit (enc:=Au) (d:=0) (n:=1) (f:=(cut 1 [vi (p0.getD k1 0)])) [(p0.getD k1 0)] rfl (fun|0,_=>rfl|n+1,h=>absurd h (by omega))))) .nil) ?_
    exact bD (s1 ++ [(p0.getD k1 0)]) hm .refl
   ·intro h17 hm
    refine Sk ?_
    exact bD s1 hm Conv.t0
 ·intro h15
  have hge1:¬ k1<p0.length:=by have:=of_decide_eq_false h15; omega
  have hm:=he1 hge1
  unfold Qu at hm
  refine DW.exit ?_
  refine Ao ?_
  refine Ba ?_
  refine Ai ?_
  show DW _ _ _ _ _
  refine Sq (DW.cv [] [(5,.p (slI s1))] [1200] [] (Conv.frz [1200]) ?_)
  obtain ⟨r20,hr20,hm⟩:=bo hm
  refine RK hnt (.no::o122 [] true r20 :: .no :: []) [(4,ow 1216 r20.length)] [(1216,ob0 (roI r20))] (an (Wx s1 r20 hr20) tv) ?_
  obtain rfl:=sj hm
  exact DW.ret (An [roI r20] [1216] (ow 0 r20.length))
abbrev o123 (ks:List Nat) (b:Bool) (RES:List Int) (sm:List Nat := []):Orc := .call 44 ks b (ow 0 RES.length) [] [roI RES] sm

abbrev c118e1 (r87:At):Nat×Obj:=(1136,bx [pI r87.pidsMax,pI r87.weight,pI r87.quota,pI r87.period,pI r87.burst,pI r87.clampMin,pI r87.clampMax,ow 1288 r87.cpus.length,ow 1289 r87.mems.length,pI r87.partition,pI r87.memory.min,pI r87.memory.low,pI r87.memory.high,pI r87.memory.max,pI r87.memory.swapMax,pB r87.memory.together,ow 1290 r87.devices.length])
abbrev Si (p0:Ae):Nat×Obj:=(1048,bx (pm (Ag p0)))
theorem Afx (rec:Ae→(List Ab)→(List place)→Int→(List Int)→Bool→Option (List place)) (ih:∀ (p0:Ae) (p1:List Ab) (p2:List place) (p3:Int) (p4:List Int) (p5:Bool) (RES:List place),rec p0 p1 p2 p3 p4 p5=some RES→Spec Tryz.prog 65 [.p (.agg (Ag p0)),.p (Ah p1),ow 0 p2.length,pI p3,.p (slI p4),pB p5] [roplace p2] (ow 1 RES.length) [.dead] [roplace RES]) (p0:Ae) (p1:List Ab) (p2:List place) (p3:Int) (p4:List Int) (p5:Bool) (RES:List place) (hm:Tf rec p0 p1 p2 p3 p4 p5=some RES):Spec Tryz.prog 65 [.p (.agg (Ag p0)),.p (Ah p1),ow 0 p2.length,pI p3,.p (slI p4),pB p5] [roplace p2] (ow 1 RES.length) [.dead] [roplace RES]:=by
 unfold Tf at hm
 refine SO Tryz.func65 rfl rfl [(0,.p (.agg (Ag p0))),(1,.p (Ah p1)),(2,ow 0 p2.length),(3,pI p3),(4,.p (slI p4)),(5,pB p5)] [(0,ob0 (roplace p2))] ?_
 intro cx hnt
 refine Sq (RD hnt (nn 2 []) [0] [(6,rr 1048)] [] [(Si p0)] tv ?_)
 obtain ⟨r1,hr1,hm⟩:=bo hm
 refine Sq (RD hnt (nn 2 (o101 [] true r1 :: .no :: [])) [] [(13,ow 1184 r1.length)] [] [(1184,ob0 (roI r1))] (an (Ub p0 p3 r1 hr1) tv) ?_)
 refine Sq (RD hnt (nn 2 []) [4] [(14,.p (slI p4))] [] [] tv ?_)
 refine Sq (RD hnt (.no :: []) [] [(15,.p (.sl .nil 0 0 (fun _ => [])))] [] [] tv ?_)
 refine Sq (Sq (RD hnt (.no :: []) [] [(16,pI 0)] [] [] tv ?_))
 refine Bk ?_
 obtain ⟨hc1,hm⟩:=go1 hm
 refine DW.rangeO (fun (k1:Nat) (s1:(List Int)×(List Int))=>Af [(1,.p (Ah p1)),(2,ow 0 p2.length),(3,pI p3),(5,pB p5),(6,rr 1048),(13,ow 1184 r1.length),(14,.p (slI s1.2)),(15,ow 1616 s1.1.length),(16,pI ((k1:Nat):Int))] [(0,ob0 (roplace p2)),(Si p0),(1184,ob0 (roI r1)),(1616,ob0 (roI s1.1))]) 0 hm (Conv.ads [(.s 15,1616,1,elems Au 0 [])]) ?_
 intro k1 s1 n1 hk1 hs1 he1
 refine Sq (Sq (RD hnt (nn 4 []) [] [(28,pB (decide (((k1:Nat):Int)<((r1.length:Nat):Int))))] [] [] tv ?_))
 refine Cv (decide (((k1:Nat):Int)<((r1.length:Nat):Int))) ?_ ?_
 ·intro h86
  have hlt1:k1<r1.length:=by have:=of_decide_eq_true h86; omega
  have hm:=hs1 hlt1
  unfold Zq at hm
  refine Sk ?_
  refine Sq ?_
  refine Jn (ι:=(List Int)×(List Int)) (fun (y11:(List Int)×(List Int))=>Af [(1,.p (Ah p1)),(2,ow 0 p2.length),(3,pI p3),(5,pB p5),(6,rr 1048),(13,ow 1184 r1.length),(14,.p (slI y11.2)),(15,ow 1616 y11.1.length),(16,pI ((k1:Nat):Int))] [(0,ob0 (roplace p2)),(Si p0),(1184,ob0 (roI r1)),(1616,ob0 (roI y11.1))]) (fun y11=>(Mz n1) y11=some RES) ?_ ?_
  ·intro y11 hm
   unfold Mz at hm
   refine RD hnt (nn 3 []) [] [(16,pI (w64 (((k1:Nat):Int)+1)))] [] [] tv ?_
   exact jD (y11.1,y11.2) ⟨hlt1,hm⟩ (Conv.tp [(16,pI (w64 (((k1:Nat):Int)+1)))] [] (by kernel_rfl) (.cons rfl (.of_eq (congrArg pI (Bt hlt1 hc1))) .nil) .nil)
  ·refine Bk ?_
   obtain ⟨r87,hr87,hm⟩:=bo hm
   refine Sq (RD hnt (nn 5 (o17 [] true r87::nn 2 [])) [28] [(17,rr 1136)] [] [(c118e1 r87),(1288,ob0 (roI r87.cpus)),(1289,ob0 (roI r87.mems)),(1290,ob0 (Aj r87.devices))] (an (nn0 k1) (an (ltc hlt1) (an (by omega:k1<r1.length) (an (Rg p1 (r1.getD k1 0) r87 hr87) tv)))) ?_)
   refine Sq ?_
   refine Jn (ι:=Bool) (fun (y12:Bool)=>Af [(1,.p (Ah p1)),(2,ow 0 p2.length),(3,pI p3),(5,pB p5),(6,rr 1048),(13,ow 1184 r1.length),(14,.p (slI s1.2)),(15,ow 1616 s1.1.length),(16,pI ((k1:Nat):Int)),(17,rr 1136),(66,pB y12)] [(0,ob0 (roplace p2)),(Si p0),(c118e1 r87),(1184,ob0 (roI r1)),(1288,ob0 (roI r87.cpus)),(1289,ob0 (roI r87.mems)),(1290,ob0 (Aj r87.devices)),(1616,ob0 (roI s1.1))]) (fun y12=>(Dq (r1.getD k1 0) s1 n1 r87) y12=some RES) ?_ ?_
   ·intro y12 hm
    unfold Dq at hm
    refine Ar hm ?_ ?_
    ·intro h97 hm
     obtain ⟨r98,hr98,hm⟩:=bo hm
     refine Sq (RD hnt (nn 3 (o120 [] true r98 :: .no :: [])) [17,66] [(14,ow 1560 r98.length)] [1136,1288,1289,1290] [(1560,ob0 (roI r98))] (an (Xx s1.2 r87.cpus r98 hr98) (an ((fun _=>rfl):∀ i,((elI r98) i).all PV.flat=true) tv)) ?_)
     obtain ⟨g99,hm⟩:=go1 hm
     refine RN hnt (nn 8 []) [(1,.p (Ah p1)),(2,ow 0 p2.length),(3,pI p3),(5,pB p5),(6,rr 1048),(13,ow 1184 r1.length),(14,ow 1560 r98.length),(15,ow 1616 (s1.1 ++ [(r1.getD k1 0)]).length),(16,pI ((k1:Nat):Int))] [(0,ob0 (roplace p2)),(Si p0),(1184,ob0 (roI r1)),(1560,ob0 (roI r98)),(1616,ob0 (roI (s1.1 ++ [(r1.getD k1 0)])))] [(15,ow 1616 (s1.1.length+1))] [(1616,.row 1 (s1.1.length+1) (De s1.1.length (elI s1.1) (cut 1 [vi (r1.getD k1 0)])))] (an (nn0 k1) (an (ltc hlt1) (an (by omega:k1<r1.length) (an (by omega:(s1.1.length+1)*8≤140737488355328) tv)))) (by kernel_rfl) (.cons rfl (MLe.ownLen (enc:=Au) (d:=0) (f:=(De s1.1.length (elI s1.1) (cut 1 [vi (r1.getD k1 0)]))) (RowIs.cat RowIs.elems (RowIs.lit (enc:=Au) (d:=0) (n:=1) (f:=(cut 1 [vi (r1.getD k1 0)])) [(r1.getD k1 0)] rfl (fun|0,_=>rfl|n+1,h=>absurd h (by omega))))) .nil) (.cons rfl (BLe.typed (RowIs.cat RowIs.elems (RowIs.lit (enc:=Au) (d:=0) (n:=1) (f:=(cut 1 [vi (r1.getD k1 0)])) [(r1.getD k1 0)] rfl (fun|0,_=>rfl|n+1,h=>absurd h (by omega))))) .nil) ?_
     exact bD ((s1.1 ++ [(r1.getD k1 0)]),r98) hm (Conv.frz [1560])
    ·intro h97 hm
     refine Sk ?_
     exact bD (s1.1,s1.2) hm Conv.t0
   ·rcases bt (r87.partition==1) with h88|h88
    ·replace hm:=Az h88 hm
     rcases bt (p3==1) with h89|h89
     ·replace hm:=Az h89 hm
      rcases bt (decide (((r87.cpus.length:Nat):Int)>0)) with h94|h94
      ·replace hm:=Az h94 hm
       obtain ⟨r95,hr95,hm⟩:=bo hm
       rcases bt r95 with h96|h96
       ·replace hm:=Az h96 hm
        refine RD hnt (nn 7 (.skip::pT::pT::nn 5 (pT::nn 4 (o119 [] true r95::pT::nn 7 (pT :: []))))) [] [(66,pB (decide (((s1.2.length:Nat):Int)>((r87.cpus.length:Nat):Int))))] [] [] (an3 h88 (an h89 (an h88 (an h89 (an h88 (an5 tt (an4 h94 (an (Iv r87.cpus s1.2 r95 hr95) (an h94 (an h96 (an6 h96 tv))))))))))) ?_
        exact jD (decide (((s1.2.length:Nat):Int)>((r87.cpus.length:Nat):Int))) hm Conv.eqK
       ·replace hm:=Ay h96 hm
        refine RD hnt (nn 7 (.skip::pT::pT::nn 5 (pT::nn 4 (o119 [] true r95::pT :: .no::sk 6 (pF :: []))))) [] [(66,pB false)] [] [] (an3 h88 (an h89 (an h88 (an h89 (an h88 (an5 tt (an4 h94 (an (Iv r87.cpus s1.2 r95 hr95) (an h94 (an h96 (an6 h96 tv))))))))))) ?_
        exact jD false hm Conv.eqK
      ·replace hm:=Ay h94 hm
       refine RD hnt (nn 7 (.skip::pT::pT::nn 5 (pT :: .no::sk 4 (pF :: .no::sk 6 (pF :: []))))) [] [(66,pB false)] [] [] (an3 h88 (an h89 (an h88 (an h89 (an h88 (an5 tt (an5 h94 (an ff (an6 ff tv))))))))) ?_
       exact jD false hm Conv.eqK
     ·replace hm:=Ay h89 hm
      rcases bt p5 with h90|h90
      ·replace hm:=Az h90 hm
       rcases bt (decide (((r87.cpus.length:Nat):Int)>0)) with h91|h91
       ·replace hm:=Az h91 hm
        obtain ⟨r92,hr92,hm⟩:=bo hm
        rcases bt r92 with h93|h93
        ·replace hm:=Az h93 hm
         refine RD hnt (nn 8 (pF::pT::nn 5 (pT::nn 4 (o119 [] true r92::pT::nn 7 (pT :: []))))) [] [(66,pB (decide (((s1.2.length:Nat):Int)>((r87.cpus.length:Nat):Int))))] [] [] (an3 h88 (an h89 (an h88 (an h89 (an h88 (an5 h90 (an4 h91 (an (Iv r87.cpus s1.2 r92 hr92) (an h91 (an h93 (an6 h93 tv))))))))))) ?_
         exact jD (decide (((s1.2.length:Nat):Int)>((r87.cpus.length:Nat):Int))) hm Conv.eqK
        ·replace hm:=Ay h93 hm
         refine RD hnt (nn 8 (pF::pT::nn 5 (pT::nn 4 (o119 [] true r92::pT :: .no::sk 6 (pF :: []))))) [] [(66,pB false)] [] [] (an3 h88 (an h89 (an h88 (an h89 (an h88 (an5 h90 (an4 h91 (an (Iv r87.cpus s1.2 r92 hr92) (an h91 (an h93 (an6 h93 tv))))))))))) ?_
         exact jD false hm Conv.eqK
       ·replace hm:=Ay h91 hm
        refine RD hnt (nn 8 (pF::pT::nn 5 (pT :: .no::sk 4 (pF :: .no::sk 6 (pF :: []))))) [] [(66,pB false)] [] [] (an3 h88 (an h89 (an h88 (an h89 (an h88 (an5 h90 (an5 h91 (an ff (an6 ff tv))))))))) ?_
        exact jD false hm Conv.eqK
      ·replace hm:=Ay h90 hm
       refine RD hnt (nn 8 (pF::pT :: .no::sk 4 (pF :: .no::sk 4 (pF :: .no::sk 6 (pF :: []))))) [] [(66,pB false)] [] [] (an3 h88 (an h89 (an h88 (an h89 (an h88 (an5 h90 (an6 ff (an6 ff tv)))))))) ?_
       exact jD false hm Conv.eqK
    ·replace hm:=Ay h88 hm
     refine RD hnt (nn 4 (sk 5 (pF :: .no::sk 4 (pF :: .no::sk 4 (pF :: .no::sk 6 (pF :: [])))))) [] [(66,pB false)] [] [] (an5 h88 (an5 ff (an6 ff (an6 ff tv)))) ?_
     exact jD false hm Conv.eqK
 ·intro h86
  have hge1:¬ k1<r1.length:=by have:=of_decide_eq_false h86; omega
  have hm:=he1 hge1
  unfold Ra at hm
  refine DW.exit ?_
  refine Ao ?_
  refine Ba ?_
  refine Ai ?_
  show DW _ _ _ _ _
  obtain ⟨g100,hm⟩:=go1 hm
  refine Sq (RN hnt (nn 6 (.mv :: .no :: [])) [(1,.p (Ah p1)),(2,ow 1672 (p2 ++ [({ group:=p3,cpus:=s1.2,alone:=p5 } : place)]).length),(6,rr 1048),(13,ow 1184 r1.length),(14,.p (slI s1.2)),(15,ow 1616 s1.1.length)] [(Si p0),(1184,ob0 (roI r1)),(1616,ob0 (roI s1.1)),(1672,ob0 (roplace (p2 ++ [({ group:=p3,cpus:=s1.2,alone:=p5 } : place)])))] [(2,ow 1672 (p2.length+1))] [(1672,.row 3 (p2.length+1) (De p2.length (elplace p2) (cut 3 [vi p3,slI s1.2,vb p5])))] (an (by omega:(p2.length+1)*40≤140737488355328) (an (rfl:p2.length+1=p2.length+1) tv)) (by kernel_rfl) (.cons rfl (MLe.ownLen (enc:=encplace) (d:=dplace) (f:=(De p2.length (elplace p2) (cut 3 [vi p3,slI s1.2,vb p5]))) (RowIs.cat RowIs.elems (RowIs.lit (enc:=encplace) (d:=dplace) (n:=1) (f:=(cut 3 [vi p3,slI s1.2,vb p5])) [({ group:=p3,cpus:=s1.2,alone:=p5 } : place)] rfl (fun|0,_=>rfl|n+1,h=>absurd h (by omega))))) .nil) (.cons rfl (BLe.typed (RowIs.cat RowIs.elems (RowIs.lit (enc:=encplace) (d:=dplace) (n:=1) (f:=(cut 3 [vi p3,slI s1.2,vb p5])) [({ group:=p3,cpus:=s1.2,alone:=p5 } : place)] rfl (fun|0,_=>rfl|n+1,h=>absurd h (by omega))))) .nil) ?_)
  refine Sq (Sq (RD hnt (.no :: []) [] [(18,pI 0)] [] [] tv ?_))
  refine Bk ?_
  obtain ⟨hc4,hm⟩:=go1 hm
  refine DW.rangeO (fun (k4:Nat) (s4:List place)=>Af [(1,.p (Ah p1)),(2,ow 1672 s4.length),(6,rr 1048),(13,ow 1184 r1.length),(14,.p (slI s1.2)),(15,ow 1616 s1.1.length),(18,pI ((k4:Nat):Int))] [(Si p0),(1184,ob0 (roI r1)),(1616,ob0 (roI s1.1)),(1672,ob0 (roplace s4))]) 0 hm Conv.eqK ?_
  intro k4 s4 n4 hk4 hs4 he4
  refine Sq (Sq (RD hnt (nn 4 []) [] [(88,pB (decide (((k4:Nat):Int)<((r1.length:Nat):Int))))] [] [] tv ?_))
  refine Cv (decide (((k4:Nat):Int)<((r1.length:Nat):Int))) ?_ ?_
  ·intro h139
   have hlt4:k4<r1.length:=by have:=of_decide_eq_true h139; omega
   have hm:=hs4 hlt4
   unfold Zn at hm
   refine Sk ?_
   refine Sq ?_
   refine Jn (ι:=List place) (fun (y17:List place)=>Af [(1,.p (Ah p1)),(2,ow 1896 y17.length),(6,rr 1048),(13,ow 1184 r1.length),(14,.p (slI s1.2)),(15,ow 1616 s1.1.length),(18,pI ((k4:Nat):Int))] [(Si p0),(1184,ob0 (roI r1)),(1616,ob0 (roI s1.1)),(1896,ob0 (roplace y17))]) (fun y17=>(Nh n4) y17=some RES) ?_ ?_
   ·intro y17 hm
    unfold Nh at hm
    refine RD hnt (nn 3 []) [] [(18,pI (w64 (((k4:Nat):Int)+1)))] [] [] tv ?_
    exact jD y17 ⟨hlt4,hm⟩ (Conv.trans (τ:=Af [(1,.p (Ah p1)),(2,ow 1672 y17.length),(6,rr 1048),(13,ow 1184 r1.length),(14,.p (slI s1.2)),(15,ow 1616 s1.1.length),(18,pI (w64 (((k4:Nat):Int)+1)))] [(Si p0),(1184,ob0 (roI r1)),(1616,ob0 (roI s1.1)),(1672,ob0 (roplace y17))]) (Conv.rns [(1896,1672)]) (Conv.tp [(18,pI (w64 (((k4:Nat):Int)+1)))] [] (by kernel_rfl) (.cons rfl (.of_eq (congrArg pI (Bt hlt4 hc4))) .nil) .nil))
   ·refine Bk ?_
    obtain ⟨r140,hr140,hm⟩:=bo hm
    refine Sq (RD hnt (nn 5 (o17 [] true r140::nn 2 [])) [88] [(19,rr 1152)] [] [(1152,bx [pI r140.pidsMax,pI r140.weight,pI r140.quota,pI r140.period,pI r140.burst,pI r140.clampMin,pI r140.clampMax,ow 1768 r140.cpus.length,ow 1769 r140.mems.length,pI r140.partition,pI r140.memory.min,pI r140.memory.low,pI r140.memory.high,pI r140.memory.max,pI r140.memory.swapMax,pB r140.memory.together,ow 1770 r140.devices.length]),(1768,ob0 (roI r140.cpus)),(1769,ob0 (roI r140.mems)),(1770,ob0 (Aj r140.devices))] (an (nn0 k4) (an (ltc hlt4) (an (by omega:k4<r1.length) (an (Rg p1 (r1.getD k4 0) r140 hr140) tv)))) ?_)
    obtain ⟨r141,hr141,hm⟩:=bo hm
    refine Sq (Sq (RD hnt (nn 5 (o121 [] true r141 :: [])) [] [(102,pB r141)] [] [] (an (nn0 k4) (an (ltc hlt4) (an (by omega:k4<r1.length) (an (Sx s1.1 (r1.getD k4 0) r141 hr141) tv)))) ?_))
    refine Ar hm ?_ ?_
    ·intro h142 hm
     refine Sq (DW.cv [] [] [1768] [(1152,bx [pI r140.pidsMax,pI r140.weight,pI r140.quota,pI r140.period,pI r140.burst,pI r140.clampMin,pI r140.clampMax,.p (slI r140.cpus),ow 1769 r140.mems.length,pI r140.partition,pI r140.memory.min,pI r140.memory.low,pI r140.memory.high,pI r140.memory.max,pI r140.memory.swapMax,pB r140.memory.together,ow 1770 r140.devices.length])] (Conv.frz [1768]) ?_)
     obtain ⟨r144,hr144,hm⟩:=bo hm
     refine RD hnt (nn 9 (.call 65 [1672] true (ow 1 r144.length) [.dead] [roplace r144] [] :: .no :: [])) [19,102] [(2,ow 1896 r144.length)] [1152,1672,1769,1770] [(1896,ob0 (roplace r144))] (an (nn0 k4) (an (ltc hlt4) (an (by omega:k4<r1.length) (an (ih p0 p1 s4 (r1.getD k4 0) r140.cpus true r144 hr144) (an tv tv))))) ?_
     refine DW.exit ?_
     exact Ai (AdN r144 hm Conv.eqK)
    ·intro h142 hm
     refine Sk ?_
     obtain ⟨r145,hr145,hm⟩:=bo hm
     refine Sq (RD hnt (nn 3 (o123 [] true r145 :: .no :: [])) [19,102] [(20,ow 1928 r145.length)] [1152,1768,1769,1770] [(1928,ob0 (roI r145))] (an (Su r140.cpus s1.2 r145 hr145) (an ((fun _=>rfl):∀ i,((elI r145) i).all PV.flat=true) tv)) ?_)
     refine Sq (Sq (RD hnt (nn 3 []) [] [(119,pB (((r145.length:Nat):Int)==0))] [] [] tv ?_))
     refine Jn (ι:=List Int) (fun (y18:List Int)=>Af [(1,.p (Ah p1)),(2,ow 1672 s4.length),(6,rr 1048),(13,ow 1184 r1.length),(14,.p (slI s1.2)),(15,ow 1616 s1.1.length),(18,pI ((k4:Nat):Int)),(20,.p (slI y18))] [(Si p0),(1184,ob0 (roI r1)),(1616,ob0 (roI s1.1)),(1672,ob0 (roplace s4))]) (fun y18=>(Ng rec p0 p1 (r1.getD k4 0) s4 n4) y18=some RES) ?_ ?_
     ·intro y18 hm
      unfold Ng at hm
      obtain ⟨r147,hr147,hm⟩:=bo hm
      refine RD hnt (nn 8 (.call 65 [1672] true (ow 1 r147.length) [.dead] [roplace r147] [] :: .no :: [])) [20] [(2,ow 2032 r147.length)] [1672] [(2032,ob0 (roplace r147))] (an (nn0 k4) (an (ltc hlt4) (an (by omega:k4<r1.length) (an (ih p0 p1 s4 (r1.getD k4 0) y18 false r147 hr147) (an tv tv))))) ?_
      exact bD r147 hm (Conv.rns [(2032,1896)])
     ·refine Ar hm ?_ ?_
      ·intro h146 hm
       refine RD hnt (nn 2 []) [119] [(20,.p (slI s1.2))] [1928] [] tv ?_
       exact jD s1.2 hm Conv.eqK
      ·intro h146 hm
       refine Sk ?_
       exact jD r145 hm (Conv.trans (τ:=Af [(1,.p (Ah p1)),(2,ow 1672 s4.length),(6,rr 1048),(13,ow 1184 r1.length),(14,.p (slI s1.2)),(15,ow 1616 s1.1.length),(18,pI ((k4:Nat):Int)),(20,.p (slI r145)),(119,pB (((r145.length:Nat):Int)==0))] [(Si p0),(1184,ob0 (roI r1)),(1616,ob0 (roI s1.1)),(1672,ob0 (roplace s4))]) (Conv.frz [1928]) Conv.t0)
  ·intro h139
   have hge4:¬ k4<r1.length:=by have:=of_decide_eq_false h139; omega
   have hm:=he4 hge4
   unfold Zr at hm
   refine DW.exit ?_
   refine Ao ?_
   refine Ba ?_
   refine Ai ?_
   show DW _ _ _ _ _
   refine Sq (RK hnt (nn 2 []) [(12,ow 1672 s4.length)] [(1672,ob0 (roplace s4))] tv ?_)
   obtain rfl:=sj hm
   exact DW.ret (An [.dead,roplace s4] [1672] (ow 1 s4.length))
theorem AaC : ∀ (n:Nat) (p0:Ae) (p1:List Ab) (p2:List place) (p3:Int) (p4:List Int) (p5:Bool) (RES:List place),Hx n p0 p1 p2 p3 p4 p5=some RES→Spec Tryz.prog 65 [.p (.agg (Ag p0)),.p (Ah p1),ow 0 p2.length,pI p3,.p (slI p4),pB p5] [roplace p2] (ow 1 RES.length) [.dead] [roplace RES]
  | 0,p0,p1,p2,p3,p4,p5,RES,hm=>by simp [Hx] at hm
  | n+1,p0,p1,p2,p3,p4,p5,RES,hm=>Afx (Hx n) (AaC n) p0 p1 p2 p3 p4 p5 RES hm
theorem Abj (p0:Ae) (p1:List Ab) (p2:List place) (p3:Int) (p4:List Int) (p5:Bool) (RES:List place) (hm:Acb p0 p1 p2 p3 p4 p5=some RES):Spec Tryz.prog 65 [.p (.agg (Ag p0)),.p (Ah p1),ow 0 p2.length,pI p3,.p (slI p4),pB p5] [roplace p2] (ow 1 RES.length) [.dead] [roplace RES]:=AaC Fh p0 p1 p2 p3 p4 p5 RES hm

abbrev c124e1 (r85:At):Nat×Obj:=(1136,bx [pI r85.pidsMax,pI r85.weight,pI r85.quota,pI r85.period,pI r85.burst,pI r85.clampMin,pI r85.clampMax,ow 1288 r85.cpus.length,ow 1289 r85.mems.length,pI r85.partition,pI r85.memory.min,pI r85.memory.low,pI r85.memory.high,pI r85.memory.max,pI r85.memory.swapMax,pB r85.memory.together,ow 1290 r85.devices.length])
abbrev Ta (p0:Ae):Nat×Obj:=(1048,bx (pm (Ag p0)))
abbrev Aen : Nat×MV:=(2,.p (.sl .nil 0 0 (fun _ => [])))
theorem Acm (p0:Ae) (p1:List Ab) (p3:Int) (p4:List Int) (p5:Bool) (RES:List place) (hm:Mf p0 p1 p3 p4 p5=some RES):Spec Tryz.prog 65 [.p (.agg (Ag p0)),.p (Ah p1),.p (.sl .nil 0 0 (fun _ => [])),pI p3,.p (slI p4),pB p5] [] (ow 0 RES.length) [] [roplace RES]:=by
 unfold Mf at hm
 refine SO Tryz.func65 rfl rfl [(0,.p (.agg (Ag p0))),(1,.p (Ah p1)),(Aen),(3,pI p3),(4,.p (slI p4)),(5,pB p5)] [] ?_
 intro cx hnt
 refine Sq (RD hnt (nn 2 []) [0] [(6,rr 1048)] [] [(Ta p0)] tv ?_)
 obtain ⟨r1,hr1,hm⟩:=bo hm
 refine Sq (RD hnt (nn 2 (o101 [] true r1 :: .no :: [])) [] [(13,ow 1184 r1.length)] [] [(1184,ob0 (roI r1))] (an (Ub p0 p3 r1 hr1) tv) ?_)
 refine Sq (RD hnt (nn 2 []) [4] [(14,.p (slI p4))] [] [] tv ?_)
 refine Sq (RD hnt (.no :: []) [] [(15,.p (.sl .nil 0 0 (fun _ => [])))] [] [] tv ?_)
 refine Sq (Sq (RD hnt (.no :: []) [] [(16,pI 0)] [] [] tv ?_))
 refine Bk ?_
 obtain ⟨hc1,hm⟩:=go1 hm
 refine DW.rangeO (fun (k1:Nat) (s1:(List Int)×(List Int))=>Af [(1,.p (Ah p1)),(Aen),(3,pI p3),(5,pB p5),(6,rr 1048),(13,ow 1184 r1.length),(14,.p (slI s1.2)),(15,ow 1616 s1.1.length),(16,pI ((k1:Nat):Int))] [(Ta p0),(1184,ob0 (roI r1)),(1616,ob0 (roI s1.1))]) 0 hm (Conv.ads [(.s 15,1616,1,elems Au 0 [])]) ?_
 intro k1 s1 n1 hk1 hs1 he1
 refine Sq (Sq (RD hnt (nn 4 []) [] [(28,pB (decide (((k1:Nat):Int)<((r1.length:Nat):Int))))] [] [] tv ?_))
 refine Cv (decide (((k1:Nat):Int)<((r1.length:Nat):Int))) ?_ ?_
 ·intro h84
  have hlt1:k1<r1.length:=by have:=of_decide_eq_true h84; omega
  have hm:=hs1 hlt1
  unfold Xj at hm
  refine Sk ?_
  refine Sq ?_
  refine Jn (ι:=(List Int)×(List Int)) (fun (y11:(List Int)×(List Int))=>Af [(1,.p (Ah p1)),(Aen),(3,pI p3),(5,pB p5),(6,rr 1048),(13,ow 1184 r1.length),(14,.p (slI y11.2)),(15,ow 1616 y11.1.length),(16,pI ((k1:Nat):Int))] [(Ta p0),(1184,ob0 (roI r1)),(1616,ob0 (roI y11.1))]) (fun y11=>(Mm n1) y11=some RES) ?_ ?_
  ·intro y11 hm
   unfold Mm at hm
   refine RD hnt (nn 3 []) [] [(16,pI (w64 (((k1:Nat):Int)+1)))] [] [] tv ?_
   exact jD (y11.1,y11.2) ⟨hlt1,hm⟩ (Conv.tp [(16,pI (w64 (((k1:Nat):Int)+1)))] [] (by kernel_rfl) (.cons rfl (.of_eq (congrArg pI (Bt hlt1 hc1))) .nil) .nil)
  ·refine Bk ?_
   obtain ⟨r85,hr85,hm⟩:=bo hm
   refine Sq (RD hnt (nn 5 (o17 [] true r85::nn 2 [])) [28] [(17,rr 1136)] [] [(c124e1 r85),(1288,ob0 (roI r85.cpus)),(1289,ob0 (roI r85.mems)),(1290,ob0 (Aj r85.devices))] (an (nn0 k1) (an (ltc hlt1) (an (by omega:k1<r1.length) (an (Rg p1 (r1.getD k1 0) r85 hr85) tv)))) ?_)
   refine Sq ?_
   refine Jn (ι:=Bool) (fun (y12:Bool)=>Af [(1,.p (Ah p1)),(Aen),(3,pI p3),(5,pB p5),(6,rr 1048),(13,ow 1184 r1.length),(14,.p (slI s1.2)),(15,ow 1616 s1.1.length),(16,pI ((k1:Nat):Int)),(17,rr 1136),(66,pB y12)] [(Ta p0),(c124e1 r85),(1184,ob0 (roI r1)),(1288,ob0 (roI r85.cpus)),(1289,ob0 (roI r85.mems)),(1290,ob0 (Aj r85.devices)),(1616,ob0 (roI s1.1))]) (fun y12=>(Ef (r1.getD k1 0) s1 n1 r85) y12=some RES) ?_ ?_
   ·intro y12 hm
    unfold Ef at hm
    refine Ar hm ?_ ?_
    ·intro h95 hm
     obtain ⟨r96,hr96,hm⟩:=bo hm
     refine Sq (RD hnt (nn 3 (o120 [] true r96 :: .no :: [])) [17,66] [(14,ow 1560 r96.length)] [1136,1288,1289,1290] [(1560,ob0 (roI r96))] (an (Xx s1.2 r85.cpus r96 hr96) (an ((fun _=>rfl):∀ i,((elI r96) i).all PV.flat=true) tv)) ?_)
     obtain ⟨g97,hm⟩:=go1 hm
     refine RN hnt (nn 8 []) [(1,.p (Ah p1)),(Aen),(3,pI p3),(5,pB p5),(6,rr 1048),(13,ow 1184 r1.length),(14,ow 1560 r96.length),(15,ow 1616 (s1.1 ++ [(r1.getD k1 0)]).length),(16,pI ((k1:Nat):Int))] [(Ta p0),(1184,ob0 (roI r1)),(1560,ob0 (roI r96)),(1616,ob0 (roI (s1.1 ++ [(r1.getD k1 0)])))] [(15,ow 1616 (s1.1.length+1))] [(1616,.row 1 (s1.1.length+1) (De s1.1.length (elI s1.1) (cut 1 [vi (r1.getD k1 0)])))] (an (nn0 k1) (an (ltc hlt1) (an (by omega:k1<r1.length) (an (by omega:(s1.1.length+1)*8≤140737488355328) tv)))) (by kernel_rfl) (.cons rfl (MLe.ownLen (enc:=Au) (d:=0) (f:=(De s1.1.length (elI s1.1) (cut 1 [vi (r1.getD k1 0)]))) (RowIs.cat RowIs.elems (RowIs.lit (enc:=Au) (d:=0) (n:=1) (f:=(cut 1 [vi (r1.getD k1 0)])) [(r1.getD k1 0)] rfl (fun|0,_=>rfl|n+1,h=>absurd h (by omega))))) .nil) (.cons rfl (BLe.typed (RowIs.cat RowIs.elems (RowIs.lit (enc:=Au) (d:=0) (n:=1) (f:=(cut 1 [vi (r1.getD k1 0)])) [(r1.getD k1 0)] rfl (fun|0,_=>rfl|n+1,h=>absurd h (by omega))))) .nil) ?_
     exact bD ((s1.1 ++ [(r1.getD k1 0)]),r96) hm (Conv.frz [1560])
    ·intro h95 hm
     refine Sk ?_
     exact bD (s1.1,s1.2) hm Conv.t0
   ·rcases bt (r85.partition==1) with h86|h86
    ·replace hm:=Az h86 hm
     rcases bt (p3==1) with h87|h87
     ·replace hm:=Az h87 hm
      rcases bt (decide (((r85.cpus.length:Nat):Int)>0)) with h92|h92
      ·replace hm:=Az h92 hm
       obtain ⟨r93,hr93,hm⟩:=bo hm
       rcases bt r93 with h94|h94
       ·replace hm:=Az h94 hm
        refine RD hnt (nn 7 (.skip::pT::pT::nn 5 (pT::nn 4 (o119 [] true r93::pT::nn 7 (pT :: []))))) [] [(66,pB (decide (((s1.2.length:Nat):Int)>((r85.cpus.length:Nat):Int))))] [] [] (an3 h86 (an h87 (an h86 (an h87 (an h86 (an5 tt (an4 h92 (an (Iv r85.cpus s1.2 r93 hr93) (an h92 (an h94 (an6 h94 tv))))))))))) ?_
        exact jD (decide (((s1.2.length:Nat):Int)>((r85.cpus.length:Nat):Int))) hm Conv.eqK
       ·replace hm:=Ay h94 hm
        refine RD hnt (nn 7 (.skip::pT::pT::nn 5 (pT::nn 4 (o119 [] true r93::pT :: .no::sk 6 (pF :: []))))) [] [(66,pB false)] [] [] (an3 h86 (an h87 (an h86 (an h87 (an h86 (an5 tt (an4 h92 (an (Iv r85.cpus s1.2 r93 hr93) (an h92 (an h94 (an6 h94 tv))))))))))) ?_
        exact jD false hm Conv.eqK
      ·replace hm:=Ay h92 hm
       refine RD hnt (nn 7 (.skip::pT::pT::nn 5 (pT :: .no::sk 4 (pF :: .no::sk 6 (pF :: []))))) [] [(66,pB false)] [] [] (an3 h86 (an h87 (an h86 (an h87 (an h86 (an5 tt (an5 h92 (an ff (an6 ff tv))))))))) ?_
       exact jD false hm Conv.eqK
     ·replace hm:=Ay h87 hm
      rcases bt p5 with h88|h88
      ·replace hm:=Az h88 hm
       rcases bt (decide (((r85.cpus.length:Nat):Int)>0)) with h89|h89
       ·replace hm:=Az h89 hm
        obtain ⟨r90,hr90,hm⟩:=bo hm
        rcases bt r90 with h91|h91
        ·replace hm:=Az h91 hm
         refine RD hnt (nn 8 (pF::pT::nn 5 (pT::nn 4 (o119 [] true r90::pT::nn 7 (pT :: []))))) [] [(66,pB (decide (((s1.2.length:Nat):Int)>((r85.cpus.length:Nat):Int))))] [] [] (an3 h86 (an h87 (an h86 (an h87 (an h86 (an5 h88 (an4 h89 (an (Iv r85.cpus s1.2 r90 hr90) (an h89 (an h91 (an6 h91 tv))))))))))) ?_
         exact jD (decide (((s1.2.length:Nat):Int)>((r85.cpus.length:Nat):Int))) hm Conv.eqK
        ·replace hm:=Ay h91 hm
         refine RD hnt (nn 8 (pF::pT::nn 5 (pT::nn 4 (o119 [] true r90::pT :: .no::sk 6 (pF :: []))))) [] [(66,pB false)] [] [] (an3 h86 (an h87 (an h86 (an h87 (an h86 (an5 h88 (an4 h89 (an (Iv r85.cpus s1.2 r90 hr90) (an h89 (an h91 (an6 h91 tv))))))))))) ?_
         exact jD false hm Conv.eqK
       ·replace hm:=Ay h89 hm
        refine RD hnt (nn 8 (pF::pT::nn 5 (pT :: .no::sk 4 (pF :: .no::sk 6 (pF :: []))))) [] [(66,pB false)] [] [] (an3 h86 (an h87 (an h86 (an h87 (an h86 (an5 h88 (an5 h89 (an ff (an6 ff tv))))))))) ?_
        exact jD false hm Conv.eqK
      ·replace hm:=Ay h88 hm
       refine RD hnt (nn 8 (pF::pT :: .no::sk 4 (pF :: .no::sk 4 (pF :: .no::sk 6 (pF :: []))))) [] [(66,pB false)] [] [] (an3 h86 (an h87 (an h86 (an h87 (an h86 (an5 h88 (an6 ff (an6 ff tv)))))))) ?_
       exact jD false hm Conv.eqK
    ·replace hm:=Ay h86 hm
     refine RD hnt (nn 4 (sk 5 (pF :: .no::sk 4 (pF :: .no::sk 4 (pF :: .no::sk 6 (pF :: [])))))) [] [(66,pB false)] [] [] (an5 h86 (an5 ff (an6 ff (an6 ff tv)))) ?_
     exact jD false hm Conv.eqK
 ·intro h84
  have hge1:¬ k1<r1.length:=by have:=of_decide_eq_false h84; omega
  have hm:=he1 hge1
  unfold Nv at hm
  refine DW.exit ?_
  refine Ao ?_
  refine Ba ?_
  refine Ai ?_
  show DW _ _ _ _ _
  refine Sq (RN hnt (nn 8 []) [(1,.p (Ah p1)),(2,ow 1672 [({ group:=p3,cpus:=s1.2,alone:=p5 } : place)].length),(6,rr 1048),(13,ow 1184 r1.length),(14,.p (slI s1.2)),(15,ow 1616 s1.1.length)] [(Ta p0),(1184,ob0 (roI r1)),(1616,ob0 (roI s1.1)),(1672,ob0 (roplace [({ group:=p3,cpus:=s1.2,alone:=p5 } : place)]))] [(2,ow 1672 1)] [(1672,.row 3 1 (cut 3 [vi p3,slI s1.2,vb p5]))] (an (by decide:1*40≤140737488355328) tv) (by kernel_rfl) (.cons rfl (MLe.ownLen (enc:=encplace) (d:=dplace) (f:=(cut 3 [vi p3,slI s1.2,vb p5])) (RowIs.lit (enc:=encplace) (d:=dplace) (n:=1) (f:=(cut 3 [vi p3,slI s1.2,vb p5])) [({ group:=p3,cpus:=s1.2,alone:=p5 } : place)] rfl (fun|0,_=>rfl|n+1,h=>absurd h (by omega)))) .nil) (.cons rfl (BLe.typed (RowIs.lit (enc:=encplace) (d:=dplace) (n:=1) (f:=(cut 3 [vi p3,slI s1.2,vb p5])) [({ group:=p3,cpus:=s1.2,alone:=p5 } : place)] rfl (fun|0,_=>rfl|n+1,h=>absurd h (by omega)))) .nil) ?_)
  refine Sq (Sq (RD hnt (.no :: []) [] [(18,pI 0)] [] [] tv ?_))
  refine Bk ?_
  obtain ⟨hc4,hm⟩:=go1 hm
  refine DW.rangeO (fun (k4:Nat) (s4:List place)=>Af [(1,.p (Ah p1)),(2,ow 1672 s4.length),(6,rr 1048),(13,ow 1184 r1.length),(14,.p (slI s1.2)),(15,ow 1616 s1.1.length),(18,pI ((k4:Nat):Int))] [(Ta p0),(1184,ob0 (roI r1)),(1616,ob0 (roI s1.1)),(1672,ob0 (roplace s4))]) 0 hm Conv.eqK ?_
  intro k4 s4 n4 hk4 hs4 he4
  refine Sq (Sq (RD hnt (nn 4 []) [] [(88,pB (decide (((k4:Nat):Int)<((r1.length:Nat):Int))))] [] [] tv ?_))
  refine Cv (decide (((k4:Nat):Int)<((r1.length:Nat):Int))) ?_ ?_
  ·intro h136
   have hlt4:k4<r1.length:=by have:=of_decide_eq_true h136; omega
   have hm:=hs4 hlt4
   unfold Xm at hm
   refine Sk ?_
   refine Sq ?_
   refine Jn (ι:=List place) (fun (y17:List place)=>Af [(1,.p (Ah p1)),(2,ow 1896 y17.length),(6,rr 1048),(13,ow 1184 r1.length),(14,.p (slI s1.2)),(15,ow 1616 s1.1.length),(18,pI ((k4:Nat):Int))] [(Ta p0),(1184,ob0 (roI r1)),(1616,ob0 (roI s1.1)),(1896,ob0 (roplace y17))]) (fun y17=>(Ml n4) y17=some RES) ?_ ?_
   ·intro y17 hm
    unfold Ml at hm
    refine RD hnt (nn 3 []) [] [(18,pI (w64 (((k4:Nat):Int)+1)))] [] [] tv ?_
    exact jD y17 ⟨hlt4,hm⟩ (Conv.trans (τ:=Af [(1,.p (Ah p1)),(2,ow 1672 y17.length),(6,rr 1048),(13,ow 1184 r1.length),(14,.p (slI s1.2)),(15,ow 1616 s1.1.length),(18,pI (w64 (((k4:Nat):Int)+1)))] [(Ta p0),(1184,ob0 (roI r1)),(1616,ob0 (roI s1.1)),(1672,ob0 (roplace y17))]) (Conv.rns [(1896,1672)]) (Conv.tp [(18,pI (w64 (((k4:Nat):Int)+1)))] [] (by kernel_rfl) (.cons rfl (.of_eq (congrArg pI (Bt hlt4 hc4))) .nil) .nil))
   ·refine Bk ?_
    obtain ⟨r137,hr137,hm⟩:=bo hm
    refine Sq (RD hnt (nn 5 (o17 [] true r137::nn 2 [])) [88] [(19,rr 1152)] [] [(1152,bx [pI r137.pidsMax,pI r137.weight,pI r137.quota,pI r137.period,pI r137.burst,pI r137.clampMin,pI r137.clampMax,ow 1768 r137.cpus.length,ow 1769 r137.mems.length,pI r137.partition,pI r137.memory.min,pI r137.memory.low,pI r137.memory.high,pI r137.memory.max,pI r137.memory.swapMax,pB r137.memory.together,ow 1770 r137.devices.length]),(1768,ob0 (roI r137.cpus)),(1769,ob0 (roI r137.mems)),(1770,ob0 (Aj r137.devices))] (an (nn0 k4) (an (ltc hlt4) (an (by omega:k4<r1.length) (an (Rg p1 (r1.getD k4 0) r137 hr137) tv)))) ?_)
    obtain ⟨r138,hr138,hm⟩:=bo hm
    refine Sq (Sq (RD hnt (nn 5 (o121 [] true r138 :: [])) [] [(102,pB r138)] [] [] (an (nn0 k4) (an (ltc hlt4) (an (by omega:k4<r1.length) (an (Sx s1.1 (r1.getD k4 0) r138 hr138) tv)))) ?_))
    refine Ar hm ?_ ?_
    ·intro h139 hm
     refine Sq (DW.cv [] [] [1768] [(1152,bx [pI r137.pidsMax,pI r137.weight,pI r137.quota,pI r137.period,pI r137.burst,pI r137.clampMin,pI r137.clampMax,.p (slI r137.cpus),ow 1769 r137.mems.length,pI r137.partition,pI r137.memory.min,pI r137.memory.low,pI r137.memory.high,pI r137.memory.max,pI r137.memory.swapMax,pB r137.memory.together,ow 1770 r137.devices.length])] (Conv.frz [1768]) ?_)
     obtain ⟨r141,hr141,hm⟩:=bo hm
     refine RD hnt (nn 9 (.call 65 [1672] true (ow 1 r141.length) [.dead] [roplace r141] [] :: .no :: [])) [19,102] [(2,ow 1896 r141.length)] [1152,1672,1769,1770] [(1896,ob0 (roplace r141))] (an (nn0 k4) (an (ltc hlt4) (an (by omega:k4<r1.length) (an (Abj p0 p1 s4 (r1.getD k4 0) r137.cpus true r141 hr141) (an tv tv))))) ?_
     refine DW.exit ?_
     exact Ai (AdN r141 hm Conv.eqK)
    ·intro h139 hm
     refine Sk ?_
     obtain ⟨r142,hr142,hm⟩:=bo hm
     refine Sq (RD hnt (nn 3 (o123 [] true r142 :: .no :: [])) [19,102] [(20,ow 1928 r142.length)] [1152,1768,1769,1770] [(1928,ob0 (roI r142))] (an (Su r137.cpus s1.2 r142 hr142) (an ((fun _=>rfl):∀ i,((elI r142) i).all PV.flat=true) tv)) ?_)
     refine Sq (Sq (RD hnt (nn 3 []) [] [(119,pB (((r142.length:Nat):Int)==0))] [] [] tv ?_))
     refine Jn (ι:=List Int) (fun (y18:List Int)=>Af [(1,.p (Ah p1)),(2,ow 1672 s4.length),(6,rr 1048),(13,ow 1184 r1.length),(14,.p (slI s1.2)),(15,ow 1616 s1.1.length),(18,pI ((k4:Nat):Int)),(20,.p (slI y18))] [(Ta p0),(1184,ob0 (roI r1)),(1616,ob0 (roI s1.1)),(1672,ob0 (roplace s4))]) (fun y18=>(Ms p0 p1 (r1.getD k4 0) s4 n4) y18=some RES) ?_ ?_
     ·intro y18 hm
      unfold Ms at hm
      obtain ⟨r144,hr144,hm⟩:=bo hm
      refine RD hnt (nn 8 (.call 65 [1672] true (ow 1 r144.length) [.dead] [roplace r144] [] :: .no :: [])) [20] [(2,ow 2032 r144.length)] [1672] [(2032,ob0 (roplace r144))] (an (nn0 k4) (an (ltc hlt4) (an (by omega:k4<r1.length) (an (Abj p0 p1 s4 (r1.getD k4 0) y18 false r144 hr144) (an tv tv))))) ?_
      exact bD r144 hm (Conv.rns [(2032,1896)])
     ·refine Ar hm ?_ ?_
      ·intro h143 hm
       refine RD hnt (nn 2 []) [119] [(20,.p (slI s1.2))] [1928] [] tv ?_
       exact jD s1.2 hm Conv.eqK
      ·intro h143 hm
       refine Sk ?_
       exact jD r142 hm (Conv.trans (τ:=Af [(1,.p (Ah p1)),(2,ow 1672 s4.length),(6,rr 1048),(13,ow 1184 r1.length),(14,.p (slI s1.2)),(15,ow 1616 s1.1.length),(18,pI ((k4:Nat):Int)),(20,.p (slI r142)),(119,pB (((r142.length:Nat):Int)==0))] [(Ta p0),(1184,ob0 (roI r1)),(1616,ob0 (roI s1.1)),(1672,ob0 (roplace s4))]) (Conv.frz [1928]) Conv.t0)
  ·intro h136
   have hge4:¬ k4<r1.length:=by have:=of_decide_eq_false h136; omega
   have hm:=he4 hge4
   unfold Xi at hm
   refine DW.exit ?_
   refine Ao ?_
   refine Ba ?_
   refine Ai ?_
   show DW _ _ _ _ _
   refine Sq (RK hnt (nn 2 []) [(12,ow 1672 s4.length)] [(1672,ob0 (roplace s4))] tv ?_)
   obtain rfl:=sj hm
   exact DW.ret (An [roplace s4] [1672] (ow 0 s4.length))
abbrev o124 (ks:List Nat) (b:Bool) (RES:List place) (sm:List Nat := []):Orc := .call 65 ks b (ow 0 RES.length) [] [roplace RES] sm

theorem Vk (p0:Ae) (p1:List Ab) (p2:List Int) (RES:List place) (hm:Lc p0 p1 p2=some RES):Spec Tryz.prog 37 [.p (.agg (Ag p0)),.p (Ah p1),.p (slI p2)] [] (ow 0 RES.length) [] [roplace RES]:=by
 unfold Lc at hm
 refine SO Tryz.func37 rfl rfl [(0,.p (.agg (Ag p0))),(1,.p (Ah p1)),(2,.p (slI p2))] [] ?_
 intro cx hnt
 refine Sq (RD hnt (nn 2 []) [0] [(3,rr 1024)] [] [(1024,bx (pm (Ag p0)))] tv ?_)
 obtain ⟨r1,hr1,hm⟩:=bo hm
 refine Sq (Sq (RD hnt (nn 3 (o111 [] true r1 :: .no :: [])) [] [(11,pB (!r1))] [] [] (an (Sa p0 p1 p2 16 r1 hr1) tv) ?_))
 refine Ar hm ?_ ?_
 ·intro h2 hm
  refine Sq (RK hnt (.no :: []) [(6,.p (.sl .nil 0 0 (fun _ => [])))] [] tv ?_)
  refine DW.cv [] [(6,ow 100000 0)] [] [(100000,ob0 (roplace []))] (Conv.ads [(.s 6,100000,3,elems encplace dplace [])]) ?_
  obtain rfl:=sj hm
  exact DW.ret (An [roplace []] [100000] (ow 0 0))
 ·intro h2 hm
  refine Sk ?_
  obtain ⟨r3,hr3,hm⟩:=bo hm
  refine Sq (RK hnt (nn 3 (o124 [] true r3 :: .no :: [])) [(6,ow 1120 r3.length)] [(1120,ob0 (roplace r3))] (an (Acm p0 p1 1 p2 false r3 hr3) tv) ?_)
  obtain rfl:=sj hm
  exact DW.ret (An [roplace r3] [1120] (ow 0 r3.length))
abbrev o117 (ks:List Nat) (b:Bool) (RES:List place) (sm:List Nat := []):Orc := .call 37 ks b (ow 0 RES.length) [] [roplace RES] sm

theorem Xn (p0:Ae) (p1:List Ab) (p2:List Int) (p3:Int) (RES:List Int) (hm:Jw p0 p1 p2 p3=some RES):Spec Tryz.prog 18 [.p (.agg (Ag p0)),.p (Ah p1),.p (slI p2),pI p3] [] (ow 0 RES.length) [] [roI RES]:=by
 unfold Jw at hm
 refine SO Tryz.func18 rfl rfl [(0,.p (.agg (Ag p0))),(1,.p (Ah p1)),(2,.p (slI p2)),(3,pI p3)] [] ?_
 intro cx hnt
 refine Sq (RD hnt (nn 2 []) [0] [(4,rr 1032)] [] [(1032,bx (pm (Ag p0)))] tv ?_)
 obtain ⟨r1,hr1,hm⟩:=bo hm
 refine Sq (RK hnt (nn 3 (o117 [] true r1 :: .no :: [])) [(3,pI p3),(9,ow 1112 r1.length)] [(1112,ob0 (roplace r1))] (an (Vk p0 p1 p2 r1 hr1) tv) ?_)
 refine Sq (Sq (RD hnt (.no :: []) [] [(10,pI 0)] [] [] tv ?_))
 refine Bk ?_
 obtain ⟨hc1,hm⟩:=go1 hm
 refine DW.rangeO (fun (k1:Nat) (s1:Unit)=>Af [(3,pI p3),(9,ow 1112 r1.length),(10,pI ((k1:Nat):Int))] [(1112,ob0 (roplace r1))]) dplace hm Conv.eqK ?_
 intro k1 s1 n1 hk1 hs1 he1
 refine Sq (Sq (RD hnt (nn 4 []) [] [(18,pB (decide (((k1:Nat):Int)<((r1.length:Nat):Int))))] [] [] tv ?_))
 refine Cv (decide (((k1:Nat):Int)<((r1.length:Nat):Int))) ?_ ?_
 ·intro h16
  have hlt1:k1<r1.length:=by have:=of_decide_eq_true h16; omega
  have hm:=hs1 hlt1
  unfold Wy at hm
  refine Sk ?_
  refine Sq (Bk ?_)
  refine Sq (RD hnt (nn 7 []) [18] [(27,pB ((r1.getD k1 dplace).group==p3))] [] [] (an (nn0 k1) (an (ltc hlt1) (an (by omega:k1<r1.length) tv))) ?_)
  refine Ar hm ?_ ?_
  ·intro h17 hm
   obtain ⟨g18,hm⟩:=go1 hm
   refine Sq (RN hnt (nn 7 []) [(8,ow 1264 (r1.getD k1 dplace).cpus.length)] [(1264,ob0 (roI (r1.getD k1 dplace).cpus))] [] [(1264,.row 1 (r1.getD k1 dplace).cpus.length (elI (r1.getD k1 dplace).cpus))] (an (nn0 k1) (an (ltc hlt1) (an (by omega:k1<r1.length) (an (by omega:(r1.getD k1 dplace).cpus.length*8≤140737488355328) tv)))) (by kernel_rfl) .nil (.cons rfl (BLe.typed RowIs.elems) .nil) ?_)
   obtain rfl:=sj hm
   exact DW.ret (An [roI (r1.getD k1 dplace).cpus] [1264] (ow 0 (r1.getD k1 dplace).cpus.length))
  ·intro h17 hm
   refine Sk ?_
   refine DW.done ?_
   show DW _ _ _ _ _
   refine RD hnt (nn 3 []) [27] [(10,pI (w64 (((k1:Nat):Int)+1)))] [] [] tv ?_
   exact jD () ⟨hlt1,hm⟩ (Conv.tp [(10,pI (w64 (((k1:Nat):Int)+1)))] [] (by kernel_rfl) (.cons rfl (.of_eq (congrArg pI (Bt hlt1 hc1))) .nil) .nil)
 ·intro h16
  have hge1:¬ k1<r1.length:=by have:=of_decide_eq_false h16; omega
  have hm:=he1 hge1
  unfold AaR at hm
  refine DW.exit ?_
  refine Ao ?_
  refine Ba ?_
  refine Ai ?_
  show DW _ _ _ _ _
  refine Sq (RK hnt (.no :: []) [(8,.p (.sl .nil 0 0 (fun _ => [])))] [] tv ?_)
  refine DW.cv [] [(8,ow 100000 0)] [] [(100000,ob0 (roI []))] (Conv.ads [(.s 8,100000,1,elems Au 0 [])]) ?_
  obtain rfl:=sj hm
  exact DW.ret (An [roI []] [100000] (ow 0 0))
abbrev o116 (ks:List Nat) (b:Bool) (RES:List Int) (sm:List Nat := []):Orc := .call 18 ks b (ow 0 RES.length) [] [roI RES] sm

theorem Aga (p0:Ae) (p1:List Ab) (p2:List Int) (p3:Int) (RES:List Int) (hm:Jw p0 p1 p2 p3=some RES):Spec Tryz.prog 18 [.p (.agg (Ag p0)),.p (Ah p1),.p (slI p2),pI p3] [] (.p (slI RES)) [] []:=by
 unfold Jw at hm
 refine SO Tryz.func18 rfl rfl [(0,.p (.agg (Ag p0))),(1,.p (Ah p1)),(2,.p (slI p2)),(3,pI p3)] [] ?_
 intro cx hnt
 refine Sq (RD hnt (nn 2 []) [0] [(4,rr 1032)] [] [(1032,bx (pm (Ag p0)))] tv ?_)
 obtain ⟨r1,hr1,hm⟩:=bo hm
 refine Sq (RK hnt (nn 3 (o117 [] true r1 :: .no :: [])) [(3,pI p3),(9,ow 1112 r1.length)] [(1112,ob0 (roplace r1))] (an (Vk p0 p1 p2 r1 hr1) tv) ?_)
 refine Sq (Sq (RD hnt (.no :: []) [] [(10,pI 0)] [] [] tv ?_))
 refine Bk ?_
 obtain ⟨hc1,hm⟩:=go1 hm
 refine DW.rangeO (fun (k1:Nat) (s1:Unit)=>Af [(3,pI p3),(9,ow 1112 r1.length),(10,pI ((k1:Nat):Int))] [(1112,ob0 (roplace r1))]) dplace hm Conv.eqK ?_
 intro k1 s1 n1 hk1 hs1 he1
 refine Sq (Sq (RD hnt (nn 4 []) [] [(18,pB (decide (((k1:Nat):Int)<((r1.length:Nat):Int))))] [] [] tv ?_))
 refine Cv (decide (((k1:Nat):Int)<((r1.length:Nat):Int))) ?_ ?_
 ·intro h16
  have hlt1:k1<r1.length:=by have:=of_decide_eq_true h16; omega
  have hm:=hs1 hlt1
  unfold Wy at hm
  refine Sk ?_
  refine Sq (Bk ?_)
  refine Sq (RD hnt (nn 7 []) [18] [(27,pB ((r1.getD k1 dplace).group==p3))] [] [] (an (nn0 k1) (an (ltc hlt1) (an (by omega:k1<r1.length) tv))) ?_)
  refine Ar hm ?_ ?_
  ·intro h17 hm
   obtain ⟨g18,hm⟩:=go1 hm
   refine Sq (RN hnt (nn 7 []) [(8,ow 1264 (r1.getD k1 dplace).cpus.length)] [(1264,ob0 (roI (r1.getD k1 dplace).cpus))] [] [(1264,.row 1 (r1.getD k1 dplace).cpus.length (elI (r1.getD k1 dplace).cpus))] (an (nn0 k1) (an (ltc hlt1) (an (by omega:k1<r1.length) (an (by omega:(r1.getD k1 dplace).cpus.length*8≤140737488355328) tv)))) (by kernel_rfl) .nil (.cons rfl (BLe.typed RowIs.elems) .nil) ?_)
   obtain rfl:=sj hm
   exact DW.ret (An [] [] (.p (slI (r1.getD k1 dplace).cpus)))
  ·intro h17 hm
   refine Sk ?_
   refine DW.done ?_
   show DW _ _ _ _ _
   refine RD hnt (nn 3 []) [27] [(10,pI (w64 (((k1:Nat):Int)+1)))] [] [] tv ?_
   exact jD () ⟨hlt1,hm⟩ (Conv.tp [(10,pI (w64 (((k1:Nat):Int)+1)))] [] (by kernel_rfl) (.cons rfl (.of_eq (congrArg pI (Bt hlt1 hc1))) .nil) .nil)
 ·intro h16
  have hge1:¬ k1<r1.length:=by have:=of_decide_eq_false h16; omega
  have hm:=he1 hge1
  unfold AaR at hm
  refine DW.exit ?_
  refine Ao ?_
  refine Ba ?_
  refine Ai ?_
  show DW _ _ _ _ _
  refine Sq (RK hnt (.no :: []) [(8,.p (.sl .nil 0 0 (fun _ => [])))] [] tv ?_)
  refine DW.conv (τ:=Af [(8,.p (slI []))] []) (Conv.tp [(8,.p (.sl .nil 0 0 (fun _ => [])))] [] (by kernel_rfl) (.cons rfl MLe.nilL .nil) .nil) ?_
  obtain rfl:=sj hm
  exact DW.ret (An [] [] (.p (slI [])))
abbrev o125 (ks:List Nat) (b:Bool) (RES:List Int) (sm:List Nat := []):Orc := .call 18 ks b (.p (slI RES)) [] [] sm

theorem AhJ (p0:Ae) (p1:List Ab) (p2:List Int) (RES:List (List Int)) (hm:Qh p0 p1 p2=some RES):Spec Tryz.prog 12 [.p (.agg (Ag p0)),.p (Ah p1),.p (slI p2)] [] (ow 0 RES.length) [] [Hj 1 (Eg 1 Au 0) [] RES]:=by
 unfold Qh at hm
 refine SO Tryz.func12 rfl rfl [(0,.p (.agg (Ag p0))),(1,.p (Ah p1)),(2,.p (slI p2))] [] ?_
 intro cx hnt
 refine Sq (RD hnt (nn 2 []) [0] [(3,rr 1024)] [] [(1024,bx (pm (Ag p0)))] tv ?_)
 obtain ⟨r1,hr1,hm⟩:=bo hm
 refine Sq (Sq (RD hnt (nn 3 (o111 [] true r1 :: .no :: [])) [] [(13,pB (!r1))] [] [] (an (Sa p0 p1 p2 16 r1 hr1) tv) ?_))
 refine Ar hm ?_ ?_
 ·intro h2 hm
  refine Sq (RK hnt (.no :: []) [(6,.p (.sl .nil 0 0 (fun _ => [])))] [] tv ?_)
  refine DW.cv [] [(6,ow 100000 0)] [] [(100000,ob0 (Hj 1 (Eg 1 Au 0) [] []))] (Conv.ads [(.s 6,100000,1,elems (Eg 1 Au 0) [] [])]) ?_
  obtain rfl:=sj hm
  exact DW.ret (An [Hj 1 (Eg 1 Au 0) [] []] [100000] (ow 0 0))
 ·intro h2 hm
  refine Sk ?_
  refine Sq (RD hnt (.no :: []) [13] [(7,.p (.sl .nil 0 0 (fun _ => [])))] [] [] tv ?_)
  refine Sq (Sq (RD hnt (.no :: []) [] [(8,pI 0)] [] [] tv ?_))
  refine Bk ?_
  obtain ⟨hc1,hm⟩:=go1 hm
  refine DW.rangeO (fun (k1:Nat) (s1:List (List Int))=>Af [(1,.p (Ah p1)),(2,.p (slI p2)),(3,rr 1024),(7,ow 1264 s1.length),(8,pI ((k1:Nat):Int))] [(1024,bx (pm (Ag p0))),(1264,ob0 (Hj 1 (Eg 1 Au 0) [] s1))]) Aq hm (Conv.ads [(.s 7,1264,1,elems (Eg 1 Au 0) [] [])]) ?_
  intro k1 s1 n1 hk1 hs1 he1
  refine Sq (Sq (RD hnt (nn 5 []) [] [(18,pB (decide (((k1:Nat):Int)<((p0.nodes.length:Nat):Int))))] [] [] tv ?_))
  refine Cv (decide (((k1:Nat):Int)<((p0.nodes.length:Nat):Int))) ?_ ?_
  ·intro h14
   have hlt1:k1<p0.nodes.length:=by have:=of_decide_eq_true h14; omega
   have hm:=hs1 hlt1
   unfold AbV at hm
   refine Sk ?_
   refine Sq (Bk ?_)
   obtain ⟨r16,hr16,hm⟩:=bo hm
   obtain ⟨g17,hm⟩:=go1 hm
   refine RN hnt (nn 10 (o125 [] true r16::nn 3 [])) [(1,.p (Ah p1)),(2,.p (slI p2)),(3,rr 1024),(7,ow 1264 (s1 ++ [r16]).length),(8,pI ((k1:Nat):Int))] [(1024,bx (pm (Ag p0))),(1264,ob0 (Hj 1 (Eg 1 Au 0) [] (s1 ++ [r16])))] [(7,ow 1264 (s1.length+1))] [(1264,.row 1 (s1.length+1) (De s1.length (elems (Eg 1 Au 0) [] s1) (cut 1 [slI r16])))] (an (nn0 k1) (an (ltc hlt1) (an (Aga p0 p1 p2 (p0.nodes.getD k1 Aq).id r16 hr16) (an (by omega:(s1.length+1)*24≤140737488355328) tv)))) (by kernel_rfl) (.cons rfl (MLe.ownLen (enc:=(Eg 1 Au 0)) (d := []) (f:=(De s1.length (elems (Eg 1 Au 0) [] s1) (cut 1 [slI r16]))) (RowIs.cat RowIs.elems (RowIs.lit (enc:=(Eg 1 Au 0)) (d := []) (n:=1) (f:=(cut 1 [slI r16])) [r16] rfl (fun|0,_=>rfl|n+1,h=>absurd h (by omega))))) .nil) (.cons rfl (BLe.typed (RowIs.cat RowIs.elems (RowIs.lit (enc:=(Eg 1 Au 0)) (d := []) (n:=1) (f:=(cut 1 [slI r16])) [r16] rfl (fun|0,_=>rfl|n+1,h=>absurd h (by omega))))) .nil) ?_
   refine DW.done ?_
   show DW _ _ _ _ _
   refine RD hnt (nn 3 []) [] [(8,pI (w64 (((k1:Nat):Int)+1)))] [] [] tv ?_
   exact jD (s1 ++ [r16]) ⟨hlt1,hm⟩ (Conv.tp [(8,pI (w64 (((k1:Nat):Int)+1)))] [] (by kernel_rfl) (.cons rfl (.of_eq (congrArg pI (Bt hlt1 hc1))) .nil) .nil)
  ·intro h14
   have hge1:¬ k1<p0.nodes.length:=by have:=of_decide_eq_false h14; omega
   have hm:=he1 hge1
   unfold AeX at hm
   refine DW.exit ?_
   refine Ao ?_
   refine Ba ?_
   refine Ai ?_
   show DW _ _ _ _ _
   refine Sq (RD hnt (nn 2 []) [1,2,3,7,8,18] [(6,ow 1264 s1.length)] [1024] [] tv ?_)
   obtain rfl:=sj hm
   exact DW.ret (An [Hj 1 (Eg 1 Au 0) [] s1] [1264] (ow 0 s1.length))
abbrev o110 (ks:List Nat) (b:Bool) (RES:List (List Int)) (sm:List Nat := []):Orc := .call 12 ks b (ow 0 RES.length) [] [Hj 1 (Eg 1 Au 0) [] RES] sm
end Go.Dm


/- Go functions compute their models, printed by a program. -/
namespace Go.Dm
open Go.Proofs
set_option linter.unusedVariables false
theorem Xg (p0:Ae) (p1:List Ab) (p2:List Int) (RES:List Int) (hm:Gc p0 p1 p2=some RES):Spec Tryz.prog 15 [.p (.agg (Ag p0)),.p (Ah p1),.p (slI p2)] [] (ow 0 RES.length) [] [roI RES]:=by
 unfold Gc at hm
 refine SO Tryz.func15 rfl rfl [(0,.p (.agg (Ag p0))),(1,.p (Ah p1)),(2,.p (slI p2))] [] ?_
 intro cx hnt
 refine Sq (RD hnt (nn 2 []) [0] [(3,rr 1024)] [] [(1024,bx (pm (Ag p0)))] tv ?_)
 refine Sq (RD hnt (.no :: []) [] [(7,.p (.sl .nil 0 0 (fun _ => [])))] [] [] tv ?_)
 obtain ⟨r1,hr1,hm⟩:=bo hm
 refine Sq (RD hnt (nn 3 (o117 [] true r1 :: .no :: [])) [1,2,3] [(8,ow 1104 r1.length)] [1024] [(1104,ob0 (roplace r1))] (an (Vk p0 p1 p2 r1 hr1) tv) ?_)
 refine Sq (Sq (RD hnt (.no :: []) [] [(9,pI 0)] [] [] tv ?_))
 refine Bk ?_
 obtain ⟨hc1,hm⟩:=go1 hm
 refine DW.rangeO (fun (k1:Nat) (s1:List Int)=>Af [(7,ow 1256 s1.length),(8,ow 1104 r1.length),(9,pI ((k1:Nat):Int))] [(1104,ob0 (roplace r1)),(1256,ob0 (roI s1))]) dplace hm (Conv.ads [(.s 7,1256,1,elems Au 0 [])]) ?_
 intro k1 s1 n1 hk1 hs1 he1
 refine Sq (Sq (RD hnt (nn 4 []) [] [(17,pB (decide (((k1:Nat):Int)<((r1.length:Nat):Int))))] [] [] tv ?_))
 refine Cv (decide (((k1:Nat):Int)<((r1.length:Nat):Int))) ?_ ?_
 ·intro h18
  have hlt1:k1<r1.length:=by have:=of_decide_eq_true h18; omega
  have hm:=hs1 hlt1
  unfold So at hm
  refine Sk ?_
  refine Sq ?_
  refine Jn (ι:=List Int) (fun (y3:List Int)=>Af [(7,ow 1256 y3.length),(8,ow 1104 r1.length),(9,pI ((k1:Nat):Int))] [(1104,ob0 (roplace r1)),(1256,ob0 (roI y3))]) (fun y3=>(Lm n1) y3=some RES) ?_ ?_
  ·intro y3 hm
   unfold Lm at hm
   refine RD hnt (nn 3 []) [] [(9,pI (w64 (((k1:Nat):Int)+1)))] [] [] tv ?_
   exact jD y3 ⟨hlt1,hm⟩ (Conv.tp [(9,pI (w64 (((k1:Nat):Int)+1)))] [] (by kernel_rfl) (.cons rfl (.of_eq (congrArg pI (Bt hlt1 hc1))) .nil) .nil)
  ·refine Bk ?_
   refine Sq (RD hnt (nn 5 []) [17] [(24,pB (r1.getD k1 dplace).alone)] [] [] (an (nn0 k1) (an (ltc hlt1) (an (by omega:k1<r1.length) tv))) ?_)
   refine Ar hm ?_ ?_
   ·intro h19 hm
    obtain ⟨g20,hm⟩:=go1 hm
    refine RN hnt (nn 9 []) [(7,ow 1256 (s1 ++ [(r1.getD k1 dplace).group]).length),(8,ow 1104 r1.length),(9,pI ((k1:Nat):Int))] [(1104,ob0 (roplace r1)),(1256,ob0 (roI (s1 ++ [(r1.getD k1 dplace).group])))] [(7,ow 1256 (s1.length+1))] [(1256,.row 1 (s1.length+1) (De s1.length (elI s1) (cut 1 [vi (r1.getD k1 dplace).group])))] (an (nn0 k1) (an (ltc hlt1) (an (by omega:k1<r1.length) (an (by omega:(s1.length+1)*8≤140737488355328) tv)))) (by kernel_rfl) (.cons rfl (MLe.ownLen (enc:=Au) (d:=0) (f:=(De s1.length (elI s1) (cut 1 [vi (r1.getD k1 dplace).group]))) (RowIs.cat RowIs.elems (RowIs.lit (enc:=Au) (d:=0) (n:=1) (f:=(cut 1 [vi (r1.getD k1 dplace).group])) [(r1.getD k1 dplace).group] rfl (fun|0,_=>rfl|n+1,h=>absurd h (by omega))))) .nil) (.cons rfl (BLe.typed (RowIs.cat RowIs.elems (RowIs.lit (enc:=Au) (d:=0) (n:=1) (f:=(cut 1 [vi (r1.getD k1 dplace).group])) [(r1.getD k1 dplace).group] rfl (fun|0,_=>rfl|n+1,h=>absurd h (by omega))))) .nil) ?_
    exact bD (s1 ++ [(r1.getD k1 dplace).group]) hm .refl
   ·intro h19 hm
    refine Sk ?_
    exact bD s1 hm Conv.t0
 ·intro h18
  have hge1:¬ k1<r1.length:=by have:=of_decide_eq_false h18; omega
  have hm:=he1 hge1
  unfold Ln at hm
  refine DW.exit ?_
  refine Ao ?_
  refine Ba ?_
  refine Ai ?_
  show DW _ _ _ _ _
  refine Sq (DW.cv [] [(7,.p (slI s1))] [1256] [] (Conv.frz [1256]) ?_)
  obtain ⟨r22,hr22,hm⟩:=bo hm
  refine RK hnt (.no::o122 [] true r22 :: .no :: []) [(6,ow 1272 r22.length)] [(1272,ob0 (roI r22))] (an (Wx s1 r22 hr22) tv) ?_
  obtain rfl:=sj hm
  exact DW.ret (An [roI r22] [1272] (ow 0 r22.length))
abbrev o126 (ks:List Nat) (b:Bool) (RES:List Int) (sm:List Nat := []):Orc := .call 15 ks b (ow 0 RES.length) [] [roI RES] sm

theorem Xk (p0:Ak) (p1:Ae) (RES:Int×Ak) (hm:Lt p0 p1=some RES):Spec Tryz.prog 16 [rr 0,.p (.agg (Ag p1))] [.box (pm (Al p0))] (pI RES.1) [.box (pm (Al RES.2))] []:=by
 unfold Lt at hm
 refine SO Tryz.func16 rfl rfl [(0,rr 0),(1,.p (.agg (Ag p1)))] [(0,bx (pm (Al p0)))] ?_
 intro cx hnt
 refine Sq (RD hnt (nn 2 []) [1] [(3,rr 1024)] [] [(1024,bx (pm (Ag p1)))] tv ?_)
 obtain ⟨r1,hr1,hm⟩:=bo hm
 refine Sq (Sq ?_)
 refine Jn (ι:=Bool) (fun (y1:Bool)=>Af [(0,rr 0),(3,rr 1024),(12,pB y1)] [(0,bx (pm (Al r1.2))),(1024,bx (pm (Ag p1)))]) (fun y1=>(Ke p1 r1) y1=some RES) ?_ ?_
 ·intro y1 hm
  unfold Ke at hm
  refine Ar hm ?_ ?_
  ·intro h3 hm
   obtain ⟨r4,hr4,hm⟩:=bo hm
   refine Sq (RK hnt (.no::o97 [0] true r4::nn 2 []) [(4,pI (w64 (r4.1-1)))] [(0,bx (pm (Al r4.2)))] (an (Cn r1.2 9 r4 hr4) (an tv tv)) ?_)
   obtain rfl:=sj hm
   exact DW.ret (An [.box (pm (Al r4.2))] [] (pI (w64 (r4.1-1))))
  ·intro h3 hm
   refine Sk ?_
   obtain ⟨r5,hr5,hm⟩:=bo hm
   obtain ⟨g6,hm⟩:=go1 hm
   refine Sq (RK hnt (nn 6 (o97 [0] true r5::nn 4 [])) [(4,pI (p1.nodes.getD (Int.toNat r5.1) Aq).id)] [(0,bx (pm (Al r5.2)))] (an (Cn r1.2 ((p1.nodes.length:Nat):Int) r5 hr5) (an tv (an g6.1 (an g6.2 tv)))) ?_)
   obtain rfl:=sj hm
   exact DW.ret (An [.box (pm (Al r5.2))] [] (pI (p1.nodes.getD (Int.toNat r5.1) Aq).id))
 ·rcases bt r1.1 with h2|h2
  ·replace hm:=Az h2 hm
   refine RD hnt (.no::o99 [0] true r1 :: .no::sk 4 (pT :: [])) [] [(12,pB true)] [] [(0,bx (pm (Al r1.2)))] (an (Eu p0 15 r1 hr1) (an tv (an5 h2 tv))) ?_
   exact jD true hm Conv.eqK
  ·replace hm:=Ay h2 hm
   refine RD hnt (.no::o99 [0] true r1::nn 5 (pF :: [])) [] [(12,pB (((p1.nodes.length:Nat):Int)==0))] [] [(0,bx (pm (Al r1.2)))] (an (Eu p0 15 r1 hr1) (an tv (an5 h2 tv))) ?_
   exact jD (((p1.nodes.length:Nat):Int)==0) hm Conv.eqK
abbrev o127 (ks:List Nat) (b:Bool) (RES:Int×Ak) (sm:List Nat := []):Orc := .call 16 ks b (pI RES.1) [.box (pm (Al RES.2))] [] sm

theorem Age (p0:Ax) (p1:Int) (RES:Bool) (hm:AbP p0 p1=some RES):Spec Tryz.prog 120 [.p (.agg (Cc p0)),rr 0] [.box [pI p1]] (pB RES) [.box [pI p1]] []:=by
 unfold AbP at hm
 refine SO Tryz.func120 rfl rfl [(0,.p (.agg (Cc p0))),(1,rr 0)] [(0,bx [pI p1])] ?_
 intro cx hnt
 refine Sq (RD hnt (nn 2 []) [0] [(2,rr 1016)] [] [(1016,bx (pm (Cc p0)))] tv ?_)
 refine Sq (RK hnt (nn 5 []) [(3,pB (p0.id==p1))] [(0,bx [pI p1])] tv ?_)
 obtain rfl:=sj hm
 exact DW.ret (An [.box [pI p1]] [] (pB (p0.id==p1)))

theorem Se (p0:List Ax) (p1c0:Int) (RES:Int) (hm:Gp p0 p1c0=some RES):Spec Tryz.prog 119 [.p (Da p0),.fn 120 [rr 0]] [.box [pI p1c0]] (pI RES) [.box [pI p1c0]] []:=by
 unfold Gp at hm
 refine SO Tryz.func119 rfl rfl [(0,.p (Da p0)),(1,.fn 120 [rr 0])] [(0,bx [pI p1c0])] ?_
 intro cx hnt
 refine Sq (RD hnt (.no :: []) [] [] [] [] tv ?_)
 refine Sq (Sq (RD hnt (nn 3 []) [] [(7,pI ((p0.length:Nat):Int)),(8,pI 0)] [] [] tv ?_))
 refine Bk ?_
 obtain ⟨hc1,hm⟩:=go1 hm
 refine DW.rangeO (fun (k1:Nat) (s1:Unit)=>Af [(0,.p (Da p0)),(1,.fn 120 [rr 0]),(7,pI ((p0.length:Nat):Int)),(8,pI ((k1:Nat):Int))] [(0,bx [pI p1c0])]) Aq hm Conv.eqK ?_
 intro k1 s1 n1 hk1 hs1 he1
 refine Sq (RD hnt (.no :: []) [] [(9,pB (decide (((k1:Nat):Int)<((p0.length:Nat):Int))))] [] [] tv ?_)
 refine Sq (Cv (decide (((k1:Nat):Int)<((p0.length:Nat):Int))) ?_ ?_)
 ·intro h9
  have hlt1:k1<p0.length:=by have:=of_decide_eq_true h9; omega
  have hm:=hs1 hlt1
  unfold Lu at hm
  refine Sk ?_
  refine Sq (Bk ?_)
  refine Sq (RD hnt (nn 2 []) [9] [(5,pI ((k1:Nat):Int))] [] [] tv ?_)
  obtain ⟨r10,hr10,hm⟩:=bo hm
  refine Sq (RD hnt (nn 5 (.call 120 [0] true (pB r10) [.box [pI p1c0]] [] [] :: [])) [] [(16,pB r10)] [] [] (an (nn0 k1) (an (ltc hlt1) (an (Age (p0.getD k1 Aq) p1c0 r10 hr10) (an tv tv)))) ?_)
  refine Ar hm ?_ ?_
  ·intro h11 hm
   refine Sq (RK hnt (nn 2 []) [(4,pI ((k1:Nat):Int))] [(0,bx [pI p1c0])] tv ?_)
   obtain rfl:=sj hm
   exact DW.ret (An [.box [pI p1c0]] [] (pI ((k1:Nat):Int)))
  ·intro h11 hm
   refine Sk ?_
   refine DW.done ?_
   show DW _ _ _ _ _
   refine RD hnt (nn 2 []) [5,16] [(8,pI (w64 (((k1:Nat):Int)+1)))] [] [] tv ?_
   exact jD () ⟨hlt1,hm⟩ (Conv.tp [(8,pI (w64 (((k1:Nat):Int)+1)))] [] (by kernel_rfl) (.cons rfl (.of_eq (congrArg pI (Bt hlt1 hc1))) .nil) .nil)
 ·intro h9
  have hge1:¬ k1<p0.length:=by have:=of_decide_eq_false h9; omega
  have hm:=he1 hge1
  unfold Lo at hm
  refine DW.exit ?_
  refine Ao ?_
  refine Ba ?_
  refine Ai ?_
  show DW _ _ _ _ _
  refine Sq (RK hnt (.no :: []) [(4,pI (-1))] [(0,bx [pI p1c0])] tv ?_)
  obtain rfl:=sj hm
  exact DW.ret (An [.box [pI p1c0]] [] (pI (-1)))

theorem AhI (p0:Ae) (p1:Int) (RES:Int) (hm:Ze p0 p1=some RES):Spec Tryz.prog 96 [.p (.agg (Ag p0)),pI p1] [] (pI RES) [] []:=by
 unfold Ze at hm
 refine SO Tryz.func96 rfl rfl [(0,.p (.agg (Ag p0))),(1,pI p1)] [] ?_
 intro cx hnt
 refine Sq (RK hnt (nn 3 []) [(2,rr 1016),(3,rr 1024)] [(1016,bx (pm (Ag p0))),(1024,bx [pI p1])] tv ?_)
 obtain ⟨r1,hr1,hm⟩:=bo hm
 refine Sq (RK hnt (nn 3 (.call 119 [1024] true (pI r1) [.box [pI p1]] [] [] :: .no :: [])) [(4,pI r1)] [] (an (Se p0.nodes p1 r1 hr1) (an tv tv)) ?_)
 obtain rfl:=sj hm
 exact DW.ret (An [] [] (pI r1))
abbrev o131 (ks:List Nat) (b:Bool) (RES:Int) (sm:List Nat := []):Orc := .call 96 ks b (pI RES) [] [] sm

theorem Agk (p0:Ae) (p1:Int) (RES:Ax×Bool) (hm:Um p0 p1=some RES):Spec Tryz.prog 66 [.p (.agg (Ag p0)),pI p1] [] (.p (.tup [.agg (Cc RES.1),vb RES.2])) [] []:=by
 unfold Um at hm
 refine SO Tryz.func66 rfl rfl [(0,.p (.agg (Ag p0))),(1,pI p1)] [] ?_
 intro cx hnt
 refine Sq (RK hnt (nn 3 []) [(1,pI p1),(2,rr 1016),(4,rr 1032)] [(1016,bx (pm (Ag p0))),(1032,bx [pI 0,pI 0,pS ByteArray.empty,pI 0,pI 0,pI 0])] tv ?_)
 obtain ⟨r1,hr1,hm⟩:=bo hm
 refine Sq (RD hnt (nn 2 (o131 [] true r1 :: .no :: [])) [1] [(6,pI r1)] [] [] (an (AhI p0 p1 r1 hr1) tv) ?_)
 refine Sq (Sq (RD hnt (nn 2 []) [] [(11,pB (decide (r1<0)))] [] [] tv ?_))
 refine Ar hm ?_ ?_
 ·intro h2 hm
  refine Sq (RD hnt (nn 3 []) [2,6,11] [(5,pB false)] [1016] [] tv ?_)
  obtain rfl:=sj hm
  exact DW.ret (An [] [] (.p (.tup [.agg [vi 0,vi 0,vs ByteArray.empty,vi 0,vi 0,vi 0],vb false])))
 ·intro h2 hm
  refine Sk ?_
  obtain ⟨g3,hm⟩:=go1 hm
  refine Sq (RK hnt (nn 7 []) [(4,rr 1032),(5,pB true)] [(1032,bx (pm (Cc (p0.nodes.getD (Int.toNat r1) Aq))))] (an g3.1 (an g3.2 tv)) ?_)
  obtain rfl:=sj hm
  exact DW.ret (An [] [] (.p (.tup [.agg (Cc (p0.nodes.getD (Int.toNat r1) Aq)),vb true])))
abbrev o130 (ks:List Nat) (b:Bool) (RES:Ax×Bool) (sm:List Nat := []):Orc := .call 66 ks b (.p (.tup [.agg (Cc RES.1),vb RES.2])) [] [] sm

theorem AcX (p0:Ae) (p1:Int) (RES:List Int) (hm:Np p0 p1=some RES):Spec Tryz.prog 39 [.p (.agg (Ag p0)),pI p1] [] (ow 0 RES.length) [] [roI RES]:=by
 unfold Np at hm
 refine SO Tryz.func39 rfl rfl [(0,.p (.agg (Ag p0))),(1,pI p1)] [] ?_
 intro cx hnt
 refine Sq (RK hnt (nn 2 []) [(1,pI p1),(2,rr 1016)] [(1016,bx (pm (Ag p0)))] tv ?_)
 refine Sq (RD hnt (.no :: []) [] [(5,.p (.sl .nil 0 0 (fun _ => [])))] [] [] tv ?_)
 refine Sq (Sq (RD hnt (nn 4 []) [] [(10,pI ((p0.nodes.length:Nat):Int)),(11,pI 0)] [] [] tv ?_))
 refine Jn (ι:=List Int) (fun (y1:List Int)=>Af [(5,ow 1192 y1.length)] [(1192,ob0 (roI y1))]) (fun y1=>Le y1=some RES) ?_ ?_
 ·intro y1 hm
  unfold Le at hm
  refine Sq (RD hnt (nn 2 []) [5] [(4,ow 1192 y1.length)] [] [] tv ?_)
  obtain rfl:=sj hm
  exact DW.ret (An [roI y1] [1192] (ow 0 y1.length))
 ·refine Bk ?_
  obtain ⟨hc1,hm⟩:=go1 hm
  refine DW.rangeO (fun (k1:Nat) (s1:(List Int)×Int)=>Af [(1,pI s1.2),(2,rr 1016),(5,ow 1192 s1.1.length),(10,pI ((p0.nodes.length:Nat):Int)),(11,pI ((k1:Nat):Int))] [(1016,bx (pm (Ag p0))),(1192,ob0 (roI s1.1))]) Aq hm (Conv.ads [(.s 5,1192,1,elems Au 0 [])]) ?_
  intro k1 s1 n1 hk1 hs1 he1
  refine Sq (RD hnt (.no :: []) [] [(12,pB (decide (((k1:Nat):Int)<((p0.nodes.length:Nat):Int))))] [] [] tv ?_)
  refine Sq (Cv (decide (((k1:Nat):Int)<((p0.nodes.length:Nat):Int))) ?_ ?_)
  ·intro h8
   have hlt1:k1<p0.nodes.length:=by have:=of_decide_eq_true h8; omega
   have hm:=hs1 hlt1
   unfold Sj at hm
   refine Sk ?_
   refine Sq (Bk ?_)
   obtain ⟨r9,hr9,hm⟩:=bo hm
   refine Sq (RD hnt (nn 2 (o130 [] true r9::nn 6 [])) [12] [(6,rr 1048),(7,pB r9.2)] [] [(1048,bx (pm (Cc r9.1)))] (an (Agk p0 s1.2 r9 hr9) tv) ?_)
   refine Sq (Sq (RD hnt (nn 2 []) [7] [(20,pB (!r9.2))] [] [] tv ?_))
   refine Ar hm ?_ ?_
   ·intro h10 hm
    refine DW.exit ?_
    refine Pv (by decide) ?_
    refine Ba ?_
    refine Ao ?_
    refine Ba ?_
    exact Ai (AdN s1.1 hm Conv.t0)
   ·intro h10 hm
    refine Sk ?_
    obtain ⟨g11,hm⟩:=go1 hm
    refine Sq (RN hnt (nn 5 []) [(2,rr 1016),(5,ow 1192 (s1.1 ++ [s1.2]).length),(6,rr 1048),(10,pI ((p0.nodes.length:Nat):Int)),(11,pI ((k1:Nat):Int))] [(1016,bx (pm (Ag p0))),(1048,bx (pm (Cc r9.1))),(1192,ob0 (roI (s1.1 ++ [s1.2])))] [(5,ow 1192 (s1.1.length+1))] [(1192,.row 1 (s1.1.length+1) (De s1.1.length (elI s1.1) (cut 1 [vi s1.2])))] (an (by omega:(s1.1.length+1)*8≤140737488355328) tv) (by kernel_rfl) (.cons rfl (MLe.ownLen (enc:=Au) (d:=0) (f:=(De s1.1.length (elI s1.1) (cut 1 [vi s1.2]))) (RowIs.cat RowIs.elems (RowIs.lit (enc:=Au) (d:=0) (n:=1) (f:=(cut 1 [vi s1.2])) [s1.2] rfl (fun|0,_=>rfl|n+1,h=>absurd h (by omega))))) .nil) (.cons rfl (BLe.typed (RowIs.cat RowIs.elems (RowIs.lit (enc:=Au) (d:=0) (n:=1) (f:=(cut 1 [vi s1.2])) [s1.2] rfl (fun|0,_=>rfl|n+1,h=>absurd h (by omega))))) .nil) ?_)
    refine RD hnt (nn 3 []) [6] [(1,pI r9.1.parent)] [1048] [] tv ?_
    refine DW.done ?_
    show DW _ _ _ _ _
    refine RD hnt (nn 2 []) [] [(11,pI (w64 (((k1:Nat):Int)+1)))] [] [] tv ?_
    exact jD ((s1.1 ++ [s1.2]),r9.1.parent) ⟨hlt1,hm⟩ (Conv.tp [(11,pI (w64 (((k1:Nat):Int)+1)))] [] (by kernel_rfl) (.cons rfl (.of_eq (congrArg pI (Bt hlt1 hc1))) .nil) .nil)
  ·intro h8
   have hge1:¬ k1<p0.nodes.length:=by have:=of_decide_eq_false h8; omega
   have hm:=he1 hge1
   unfold Yo at hm
   refine DW.exit ?_
   refine Ao ?_
   refine Ba ?_
   exact Ai (AdN s1.1 hm Conv.t0)
abbrev o129 (ks:List Nat) (b:Bool) (RES:List Int) (sm:List Nat := []):Orc := .call 39 ks b (ow 0 RES.length) [] [roI RES] sm

theorem Abe (p0:List Int) (RES:List Int) (hm:Nu p0=some RES):Spec Tryz.prog 40 [.p (slI p0)] [] (.fn 67 [rr 0]) [] [.box [.p (slI RES)]]:=by
 unfold Nu at hm
 refine SO Tryz.func40 rfl rfl [(0,.p (slI p0))] [] ?_
 intro cx hnt
 refine Sq (RK hnt (nn 2 []) [(1,rr 1008)] [(1008,bx [.p (slI p0)])] tv ?_)
 refine Sq (RD hnt (nn 2 []) [1] [(2,.fn 67 [rr 1008])] [] [] tv ?_)
 obtain rfl:=sj hm
 exact DW.ret (An [.box [.p (slI p0)]] [1008] (.fn 67 [rr 0]))
abbrev o134 (ks:List Nat) (b:Bool) (RES:List Int) (sm:List Nat := []):Orc := .call 40 ks b (.fn 67 [rr 0]) [] [.box [.p (slI RES)]] sm

theorem AeP (p0:List Ab) (p1:List Int) (p2:Int) (RES:(List Ab)×(List Int)) (hm:Rj p0 p1 p2=some RES):∀ c:Code,((Tryz.f19).body.bind (subC [1,1,1,1,1,0,1,0,0]))=some c→BSpec Tryz.prog 41 c [.any,.any,.any,.any,.any,rr 0,.any,.any,.any,.any,rr 1,.any,pI p2,.any,.any,.any,.any,.any,.any,.any,.any,.any,.any,.any,.any,.any,.any,.any,.any,.any,.any,.any,.any,.any,.any,.any,.any,.any,.any,.any,.any] [.box [.p (Ah p0)],.box [.p (slI p1)]] [.box [.p (Ah RES.1)],.box [.p (slI RES.2)]]:=by
 unfold Rj at hm
 refine SB rfl rfl [(5,rr 0),(10,rr 1),(12,pI p2)] [(0,bx [.p (Ah p0)]),(1,bx [.p (slI p1)])] ?_
 intro cx hnt
 refine Bk ?_
 obtain ⟨r1,hr1,hm⟩:=bo hm
 obtain ⟨r2,hr2,hm⟩:=bo hm
 refine RD hnt (nn 2 (o42 [] true r1::nn 2 (o91 [] false r2 :: .no :: []))) [5,10,12] [] [] [(1,bx [.p (slI r2)])] (an (Uy p0 p2 r1 hr1) (an (Zs r1.mems p1 r2 hr2) tv)) ?_
 refine DW.done ?_
 show DW _ _ _ _ _
 refine DW.done ?_
 obtain rfl:=sj hm
 exact endB [.box [.p (Ah p0)],.box [.p (slI r2)]] [] (.p (.tup []))

abbrev AfG : Nat×MV:=(8,.p (.sl .nil 0 0 (fun _ => [])))
theorem Abo (p0:Ae) (p1:List Ab) (p2:List Int) (p3:Int) (RES:List Int) (hm:Mv p0 p1 p2 p3=some RES):Spec Tryz.prog 19 [.p (.agg (Ag p0)),.p (Ah p1),.p (slI p2),pI p3] [] (.p (slI RES)) [] []:=by
 unfold Mv at hm
 refine SOR Tryz.func19 rfl rfl [(0,.p (.agg (Ag p0))),(1,.p (Ah p1)),(2,.p (slI p2)),(3,pI p3)] [] ?_
 intro cx hnt hrd
 refine Sq (RD hnt (nn 3 []) [0,1] [(4,rr 1032),(5,rr 1040)] [] [(1032,bx (pm (Ag p0))),(1040,bx [.p (Ah p1)])] tv ?_)
 obtain ⟨r1,hr1,hm⟩:=bo hm
 refine Sq (Sq (RD hnt (nn 3 (o24 [] true r1 :: .no :: [])) [] [(17,pB (!r1))] [] [] (an (Pd p0 p1 p2 8 r1 hr1) tv) ?_))
 refine Ar hm ?_ ?_
 ·intro h2 hm
  refine Sq (RK hnt (.no :: []) [(AfG)] [] tv ?_)
  refine DW.conv (τ:=Af [(8,.p (slI []))] []) (Conv.tp [(AfG)] [] (by kernel_rfl) (.cons rfl MLe.nilL .nil) .nil) ?_
  obtain rfl:=sj hm
  exact DW.ret (An [] [] (.p (slI [])))
 ·intro h2 hm
  refine Sk ?_
  obtain ⟨r3,hr3,hm⟩:=bo hm
  refine Sq (RD hnt (nn 2 (o129 [] true r3 :: .no :: [])) [3,4,17] [(9,ow 1160 r3.length)] [1032] [(1160,ob0 (roI r3))] (an (AcX p0 p3 r3 hr3) tv) ?_)
  refine Sq (Sq (RD hnt (nn 3 []) [] [(23,pB (((r3.length:Nat):Int)==0))] [] [] tv ?_))
  refine Ar hm ?_ ?_
  ·intro h4 hm
   refine Sq (RK hnt (.no :: []) [(AfG)] [] tv ?_)
   refine DW.conv (τ:=Af [(8,.p (slI []))] []) (Conv.tp [(AfG)] [] (by kernel_rfl) (.cons rfl MLe.nilL .nil) .nil) ?_
   obtain rfl:=sj hm
   exact DW.ret (An [] [] (.p (slI [])))
  ·intro h4 hm
   refine Sk ?_
   obtain ⟨r5,hr5,hm⟩:=bo hm
   refine Sq (RD hnt (.no::o39 [] true r5::nn 2 []) [2,23] [(10,rr 1080)] [] [(1080,bx [ow 1200 r5.length]),(1200,ob0 (roI r5))] (an (Gw p2 r5 hr5) tv) ?_)
   refine Sq (Sq (DW.cv [] [(9,.p (slI r3))] [1160] [] (Conv.frz [1160]) ?_))
   obtain ⟨g8,hm⟩:=go1 hm
   obtain ⟨r9,hr9,hm⟩:=bo hm
   refine RD hnt (nn 5 (o134 [] true r9 :: [])) [9] [(31,.fn 67 [rr 1248])] [] [(1248,bx [.p (slI r9)])] (an (by omega:(0:Int)≤0) (an (by omega:(0:Int)≤(w64 (((r3.length:Nat):Int)-1))) (an (by omega:(w64 (((r3.length:Nat):Int)-1))≤((r3.length:Nat):Int)) (an (Spec.args (xs := [.p (.sl .unk 1 (Int.toNat (w64 (((r3.length:Nat):Int)-1))) (elI r3))]) (Abe (r3.take (Int.toNat (w64 (((r3.length:Nat):Int)-1)))) r9 hr9) (.cons (.p (PLe.typed (RowIs.elems.take (by omega)))) .nil)) tv)))) ?_
   refine Bk ?_
   refine DW.cv [] [] [1200] [(1080,bx [.p (slI r5)])] (Conv.frz [1200]) ?_
   obtain ⟨g11,hm⟩:=go1 hm
   obtain ⟨r10,hr10,hm⟩:=bo hm
   refine DW.rangeB (nt:=41) (kb:=1248) hrd hnt TryzBack g11 [(5,rr 1040),(10,rr 1080),(31,.fn 67 [rr 1248])] (fun s => [(1040,bx [.p (Ah s.1)]),(1080,bx [.p (slI s.2)]),(1248,bx [.p (slI r9)])]) hr10 [1040,1080] [5,10] (fun _=>rfl) (fun x s s2 _ hs2=>⟨[.any,.any,.any,.any,.any,(.ref 0 0 0),.any,.any,.any,.any,(.ref 1 0 0),.any,.p (vi x),.any,.any,.any,.any,.any,.any,.any,.any,.any,.any,.any,.any,.any,.any,.any,.any,.any,.any,.any,.any,.any,.any,.any,.any,.any,.any,.any,.any],[.box [.p (Ah s.1)],.box [.p (slI s.2)]],[.box [.p (Ah s2.1)],.box [.p (slI s2.2)]],[Body.same (.box [.p (Ah s.1)]) (.box [.p (Ah s2.1)]),Body.same (.box [.p (slI s.2)]) (.box [.p (slI s2.2)])],by kernel_rfl,⟨tv,tv,tv⟩,AeP s.1 s.2 x s2 hs2 _ rfl⟩) ?_
   refine DW.done ?_
   show DW _ _ _ _ _
   refine Sq (RK hnt (nn 2 []) [(8,.p (slI r10.2))] [] tv ?_)
   obtain rfl:=sj hm
   exact DW.ret (An [] [] (.p (slI r10.2)))
abbrev o128 (ks:List Nat) (b:Bool) (RES:List Int) (sm:List Nat := []):Orc := .call 19 ks b (.p (slI RES)) [] [] sm

theorem Acj (p0:Ae) (p1:List Ab) (p2:List Int) (p3:Int) (RES:List Int) (hm:Oa p0 p1 p2 p3=some RES):Spec Tryz.prog 20 [.p (.agg (Ag p0)),.p (Ah p1),.p (slI p2),pI p3] [] (.p (slI RES)) [] []:=by
 unfold Oa at hm
 refine SO Tryz.func20 rfl rfl [(0,.p (.agg (Ag p0))),(1,.p (Ah p1)),(2,.p (slI p2)),(3,pI p3)] [] ?_
 intro cx hnt
 refine Sq (RD hnt (nn 2 []) [0] [(4,rr 1032)] [] [(1032,bx (pm (Ag p0)))] tv ?_)
 obtain ⟨r1,hr1,hm⟩:=bo hm
 refine Sq (RD hnt (nn 2 (o13 [] true r1 :: .no :: [])) [3] [(9,ow 1120 r1.length)] [] [(1120,ob0 (roI r1))] (an (Yk p0 p3 r1 hr1) tv) ?_)
 obtain ⟨r2,hr2,hm⟩:=bo hm
 refine Sq (Sq ?_)
 refine Jn (ι:=Bool) (fun (y1:Bool)=>Af [(1,.p (Ah p1)),(2,.p (slI p2)),(9,ow 1120 r1.length),(25,pB y1)] [(1120,ob0 (roI r1))]) (fun y1=>(Po p1 p2 r1) y1=some RES) ?_ ?_
 ·intro y1 hm
  unfold Po at hm
  refine Ar hm ?_ ?_
  ·intro h4 hm
   refine Sq (RK hnt (.no :: []) [(8,.p (.sl .nil 0 0 (fun _ => [])))] [] tv ?_)
   refine DW.conv (τ:=Af [(8,.p (slI []))] []) (Conv.tp [(8,.p (.sl .nil 0 0 (fun _ => [])))] [] (by kernel_rfl) (.cons rfl MLe.nilL .nil) .nil) ?_
   obtain rfl:=sj hm
   exact DW.ret (An [] [] (.p (slI [])))
  ·intro h4 hm
   refine Sk ?_
   obtain ⟨g5,hm⟩:=go1 hm
   refine Sq (RN hnt (nn 3 []) [(1,.p (Ah p1)),(9,ow 1120 r1.length),(10,ow 1216 p2.length)] [(1120,ob0 (roI r1)),(1216,ob0 (roI p2))] [] [(1216,.row 1 p2.length (elI p2))] (an (by omega:p2.length*8≤140737488355328) tv) (by kernel_rfl) .nil (.cons rfl (BLe.typed RowIs.elems) .nil) ?_)
   refine Sq (Sq (RD hnt (nn 4 []) [] [(11,pI (w64 (((r1.length:Nat):Int)-2)))] [] [] tv ?_))
   refine Bk ?_
   refine DW.whileO (fun (s1:(List Int)×Int)=>Af [(1,.p (Ah p1)),(9,ow 1120 r1.length),(10,.p (slI s1.1)),(11,pI s1.2)] [(1120,ob0 (roI r1))]) hm (Conv.frz [1216]) ?_
   intro s1 n1 hm
   unfold AaY at hm
   refine Sq (Sq (RD hnt (nn 2 []) [] [(32,pB (decide (s1.2≥0)))] [] [] tv ?_))
   refine Ar hm ?_ ?_
   ·intro h16 hm
    refine Sk ?_
    refine Sq ?_
    refine Jn (ι:=List Int) (fun (y3:List Int)=>Af [(1,.p (Ah p1)),(9,ow 1120 r1.length),(10,.p (slI y3)),(11,pI s1.2)] [(1120,ob0 (roI r1))]) (fun y3=>(Qa s1 n1) y3=some RES) ?_ ?_
    ·intro y3 hm
     unfold Qa at hm
     refine RD hnt (nn 3 []) [] [(11,pI (w64 (s1.2-1)))] [] [] tv ?_
     exact jD (y3,(w64 (s1.2-1))) hm Conv.eqK
    ·refine Bk ?_
     obtain ⟨g17,g18,hm⟩:=go2 hm
     obtain ⟨r19,hr19,hm⟩:=bo hm
     obtain ⟨r20,hr20,hm⟩:=bo hm
     refine Sq (RD hnt (nn 5 (o17 [] true r19::nn 2 (o123 [] false r20 :: .no :: []))) [32] [(12,ow 1344 r20.length)] [] [(1344,ob0 (roI r20))] (an g17.1 (an g17.2 (an g18 (an (Rg p1 (r1.getD (Int.toNat s1.2) 0) r19 hr19) (an (Su r19.mems s1.1 r20 hr20) tv))))) ?_)
     refine Sq (RD hnt (nn 3 []) [] [(46,pB (decide (((r20.length:Nat):Int)>0)))] [] [] tv ?_)
     refine Ar hm ?_ ?_
     ·intro h21 hm
      refine RD hnt (nn 2 []) [12,46] [(10,ow 1344 r20.length)] [] [] tv ?_
      exact bD r20 hm (Conv.frz [1344])
     ·intro h21 hm
      refine Sk ?_
      exact bD s1.1 hm Conv.t0
   ·intro h16 hm
    refine DW.exit ?_
    refine Ao ?_
    refine Ba ?_
    refine Ai ?_
    show DW _ _ _ _ _
    refine Sq (RK hnt (nn 2 []) [(8,.p (slI s1.1))] [] tv ?_)
    obtain rfl:=sj hm
    exact DW.ret (An [] [] (.p (slI s1.1)))
 ·rcases bt (!r2) with h3|h3
  ·replace hm:=Az h3 hm
   refine RD hnt (nn 3 (o111 [] true r2::nn 2 (sk 3 (pT :: [])))) [4] [(25,pB true)] [1032] [] (an (Sa p0 p1 p2 8 r2 hr2) (an4 h3 tv)) ?_
   exact jD true hm Conv.eqK
  ·replace hm:=Ay h3 hm
   refine RD hnt (nn 3 (o111 [] true r2::nn 5 (pF :: []))) [4] [(25,pB (((r1.length:Nat):Int)==0))] [1032] [] (an (Sa p0 p1 p2 8 r2 hr2) (an4 h3 tv)) ?_
   exact jD (((r1.length:Nat):Int)==0) hm Conv.eqK
abbrev o136 (ks:List Nat) (b:Bool) (RES:List Int) (sm:List Nat := []):Orc := .call 20 ks b (.p (slI RES)) [] [] sm

theorem Adl (p0:Ae) (p1:List Ab) (p2:List Int) (p3:Int) (RES:Bool) (hm:Ix p0 p1 p2 p3=some RES):Spec Tryz.prog 22 [.p (.agg (Ag p0)),.p (Ah p1),.p (slI p2),pI p3] [] (pB RES) [] []:=by
 unfold Ix at hm
 refine SO Tryz.func22 rfl rfl [(0,.p (.agg (Ag p0))),(1,.p (Ah p1)),(2,.p (slI p2)),(3,pI p3)] [] ?_
 intro cx hnt
 refine Sq (RD hnt (nn 2 []) [0] [(4,rr 1032)] [] [(1032,bx (pm (Ag p0)))] tv ?_)
 obtain ⟨r1,hr1,hm⟩:=bo hm
 obtain ⟨r2,hr2,hm⟩:=bo hm
 refine Sq (RK hnt (nn 3 (o126 [] true r1 :: .no::o121 [] true r2 :: .no :: [])) [(8,pB r2)] [] (an (Xg p0 p1 p2 r1 hr1) (an (Sx r1 p3 r2 hr2) tv)) ?_)
 obtain rfl:=sj hm
 exact DW.ret (An [] [] (pB r2))
abbrev o137 (ks:List Nat) (b:Bool) (RES:Bool) (sm:List Nat := []):Orc := .call 22 ks b (pB RES) [] [] sm

abbrev c1e1 (r7:(List Ab)×Ak) (r9:Int×Ak):=({ group:=(r7.1.getD (Int.toNat r9.1) Ap).group,settings:=({ pidsMax:=(r7.1.getD (Int.toNat r9.1) Ap).settings.pidsMax,weight:=0,quota:=(r7.1.getD (Int.toNat r9.1) Ap).settings.quota,period:=(r7.1.getD (Int.toNat r9.1) Ap).settings.period,burst:=(r7.1.getD (Int.toNat r9.1) Ap).settings.burst,clampMin:=(r7.1.getD (Int.toNat r9.1) Ap).settings.clampMin,clampMax:=(r7.1.getD (Int.toNat r9.1) Ap).settings.clampMax,cpus:=(r7.1.getD (Int.toNat r9.1) Ap).settings.cpus,mems:=(r7.1.getD (Int.toNat r9.1) Ap).settings.mems,partition:=(r7.1.getD (Int.toNat r9.1) Ap).settings.partition,memory:=(r7.1.getD (Int.toNat r9.1) Ap).settings.memory,devices:=(r7.1.getD (Int.toNat r9.1) Ap).settings.devices } : At) } : Ab)
abbrev Iq (r7:(List Ab)×Ak) (r9:Int×Ak):=(r7.1.set (Int.toNat r9.1) (c1e1 r7 r9))
abbrev c1e3 (r7:(List Ab)×Ak) (r9:Int×Ak):=(Bs (Vd r7.1) (Int.toNat r9.1) [vi (r7.1.getD (Int.toNat r9.1) Ap).group,vi (r7.1.getD (Int.toNat r9.1) Ap).settings.pidsMax,vi 0,vi (r7.1.getD (Int.toNat r9.1) Ap).settings.quota,vi (r7.1.getD (Int.toNat r9.1) Ap).settings.period,vi (r7.1.getD (Int.toNat r9.1) Ap).settings.burst,vi (r7.1.getD (Int.toNat r9.1) Ap).settings.clampMin,vi (r7.1.getD (Int.toNat r9.1) Ap).settings.clampMax,slI (r7.1.getD (Int.toNat r9.1) Ap).settings.cpus,slI (r7.1.getD (Int.toNat r9.1) Ap).settings.mems,vi (r7.1.getD (Int.toNat r9.1) Ap).settings.partition,vi (r7.1.getD (Int.toNat r9.1) Ap).settings.memory.min,vi (r7.1.getD (Int.toNat r9.1) Ap).settings.memory.low,vi (r7.1.getD (Int.toNat r9.1) Ap).settings.memory.high,vi (r7.1.getD (Int.toNat r9.1) Ap).settings.memory.max,vi (r7.1.getD (Int.toNat r9.1) Ap).settings.memory.swapMax,vb (r7.1.getD (Int.toNat r9.1) Ap).settings.memory.together,Db (r7.1.getD (Int.toNat r9.1) Ap).settings.devices])
abbrev c1e4 (r7:(List Ab)×Ak) (r9:Int×Ak):Nat×Obj:=(1384,ob0 (Hj 1 (Eg 18 Es Ap) [] [r7.1,(Iq r7 r9)]))
abbrev Zo (r6:Ae×Ak):Nat×Obj:=(1064,bx (pm (Ag r6.1)))
abbrev c1e6 (r7:(List Ab)×Ak) (r9:Int×Ak) (k1:Nat):Nat×MV:=(12,.p (Ah ([r7.1,(Iq r7 r9)].getD k1 [])))
abbrev c1e7 (p1:List Int) (r969:(List Int)×Ak) (r970:(List Int)×Ak):Nat×Obj:=(1480,ob0 (Hj 1 (Eg 1 Au 0) [] [p1,r969.1,r970.1,[]]))
abbrev c1e8 (r7:(List Ab)×Ak) (r9:Int×Ak):Nat×MV:=(48,ow 1384 [r7.1,(Iq r7 r9)].length)
abbrev c1e9 (k1:Nat):Nat×MV:=(50,pI ((k1:Nat):Int))
abbrev Aev (k28:Nat):Nat×MV:=(62,pI ((k28:Nat):Int))
abbrev AcN (p1:List Int) (r969:(List Int)×Ak) (r970:(List Int)×Ak):Nat×MV:=(60,ow 1480 [p1,r969.1,r970.1,[]].length)
theorem Adm (p0:List Int) (p1:List Int) (p2:Int) (RES:Bool) (hm:Oj p0 p1 p2=some RES):Spec Tryz.prog 3 [.p (slI p0),.p (slI p1),pI p2] [] (pB RES) [] []:=by
 unfold Oj at hm
 refine SO Tryz.func3 rfl rfl [(0,.p (slI p0)),(1,.p (slI p1)),(2,pI p2)] [] ?_
 intro cx hnt
 refine Sq (RD hnt (.no :: []) [] [] [] [] tv ?_)
 obtain ⟨r1,hr1,hm⟩:=bo hm
 refine Sq (Sq ?_)
 refine Jn (ι:=Bool) (fun (y1:Bool)=>Af [(0,.p (slI p0)),(1,.p (slI p1)),(2,pI p2),(27,pB y1)] []) (fun y1=>(It p0 p1 p2) y1=some RES) ?_ ?_
 ·intro y1 hm
  unfold It at hm
  refine Ar hm ?_ ?_
  ·intro h3 hm
   obtain ⟨r4,hr4,hm⟩:=bo hm
   refine Sq (RK hnt (o3 [] true r4 :: .no :: []) [(6,pB r4)] [] (an (Acg r4 hr4) tv) ?_)
   obtain rfl:=sj hm
   exact DW.ret (An [] [] (pB r4))
  ·intro h3 hm
   refine Sk ?_
   obtain ⟨r5,hr5,hm⟩:=bo hm
   refine Sq (RD hnt (.no::o95 [] true r5 :: .no :: []) [0,27] [(7,rr 1240)] [] [(1240,bx (pm (Al r5)))] (an (AhA p0 r5 hr5) tv) ?_)
   obtain ⟨r6,hr6,hm⟩:=bo hm
   refine Sq (RD hnt (.no::o96 [1240] true r6::nn 2 []) [] [(8,rr 1064)] [] [(Zo r6),(1240,bx (pm (Al r6.2)))] (an (AdQ r5 8 r6 hr6) (an tv tv)) ?_)
   obtain ⟨r7,hr7,hm⟩:=bo hm
   refine Sq (RD hnt (nn 2 (o102 [1240] true r7 :: .no :: [])) [] [(9,ow 1280 r7.1.length)] [] [(1240,bx (pm (Al r7.2))),(1280,ob0 (Ed r7.1))] (an (Acd r6.2 r6.1 r7 hr7) (an tv tv)) ?_)
   obtain ⟨g8,hm⟩:=go1 hm
   refine Sq (RN hnt (nn 3 []) [(1,.p (slI p1)),(2,pI p2),(7,rr 1240),(8,rr 1064),(9,ow 1280 r7.1.length),(10,ow 1296 r7.1.length)] [(Zo r6),(1240,bx (pm (Al r7.2))),(1280,ob0 (Ed r7.1)),(1296,ob0 (Ed r7.1))] [] [(1296,.row 18 r7.1.length (Vd r7.1))] (an (by omega:r7.1.length*192≤140737488355328) tv) (by kernel_rfl) .nil (.cons rfl (BLe.typed RowIs.elems) .nil) ?_)
   obtain ⟨r9,hr9,hm⟩:=bo hm
   obtain ⟨g10,g11,hm⟩:=go2 hm
   refine Sq (RN hnt (nn 4 (o97 [1240] true r9::nn 4 [])) [(1,.p (slI p1)),(2,pI p2),(7,rr 1240),(8,rr 1064),(9,ow 1280 r7.1.length),(10,ow 1296 (Iq r7 r9).length)] [(Zo r6),(1240,bx (pm (Al r9.2))),(1280,ob0 (Ed r7.1)),(1296,ob0 (Ed (Iq r7 r9)))] [(10,ow 1296 r7.1.length)] [(1296,.row 18 r7.1.length (c1e3 r7 r9))] (an (Cn r7.2 ((r7.1.length:Nat):Int) r9 hr9) (an tv (an g10.1 (an g10.2 (an g11 tv))))) (by kernel_rfl) (.cons rfl (MLe.ownLen (enc:=Es) (d:=Ap) (f:=(c1e3 r7 r9)) (RowIs.upd RowIs.elems (c1e1 r7 r9) rfl)) .nil) (.cons rfl (BLe.typed (RowIs.upd RowIs.elems (c1e1 r7 r9) rfl)) .nil) ?_)
   refine Sq (Sq (DW.cv [] [(9,.p (Ah r7.1))] [1280] [] (Conv.frz [1280]) ?_))
   refine DW.cv [] [(10,.p (Ah (Iq r7 r9)))] [1296] [] (Conv.frz [1296]) ?_
   refine RN hnt (nn 5 []) [(1,.p (slI p1)),(2,pI p2),(7,rr 1240),(8,rr 1064),(c1e8 r7 r9),(49,pI 2),(50,pI 0)] [(Zo r6),(1240,bx (pm (Al r9.2))),(c1e4 r7 r9)] [(48,ow 1384 2)] [(1384,.row 1 2 (cut 1 [Ah r7.1,Ah (Iq r7 r9)]))] tv (by kernel_rfl) (.cons rfl (MLe.ownLen (enc:=(Eg 18 Es Ap)) (d := []) (f:=(cut 1 [Ah r7.1,Ah (Iq r7 r9)])) (RowIs.lit (enc:=(Eg 18 Es Ap)) (d := []) (n:=2) (f:=(cut 1 [Ah r7.1,Ah (Iq r7 r9)])) [r7.1,(Iq r7 r9)] rfl (fun|0,_=>rfl|1,_=>rfl|n+2,h=>absurd h (by omega)))) .nil) (.cons rfl (BLe.typed (RowIs.lit (enc:=(Eg 18 Es Ap)) (d := []) (n:=2) (f:=(cut 1 [Ah r7.1,Ah (Iq r7 r9)])) [r7.1,(Iq r7 r9)] rfl (fun|0,_=>rfl|1,_=>rfl|n+2,h=>absurd h (by omega)))) .nil) ?_
   refine Bk ?_
   obtain ⟨hc1,hm⟩:=go1 hm
   refine DW.rangeO (fun (k1:Nat) (s1:Ak)=>Af [(1,.p (slI p1)),(2,pI p2),(7,rr 1240),(8,rr 1064),(c1e8 r7 r9),(49,pI 2),(c1e9 k1)] [(Zo r6),(1240,bx (pm (Al s1))),(c1e4 r7 r9)]) [] hm .refl ?_
   intro k1 s1 n1 hk1 hs1 he1
   refine Sq (RD hnt (.no :: []) [] [(51,pB (decide (((k1:Nat):Int)<2)))] [] [] tv ?_)
   refine Sq (Cv (decide (((k1:Nat):Int)<2)) ?_ ?_)
   ·intro h962
    have hlt1:k1 < [r7.1,(Iq r7 r9)].length:=by have:=of_decide_eq_true h962; have hL : [r7.1,(Iq r7 r9)].length=2:=rfl; omega
    have hm:=hs1 hlt1
    unfold Uh at hm
    refine Sk ?_
    refine Sq (Bk ?_)
    refine Sq (RD hnt (nn 3 []) [51] [(c1e6 r7 r9 k1)] [] [] (an (nn0 k1) (an (ltc hlt1) (an (by omega:k1 < [r7.1,(r7.1.set (Int.toNat r9.1) ({ group:=(r7.1.getD (Int.toNat r9.1) Ap).group,settings:=({ pidsMax:=(r7.1.getD (Int.toNat r9.1) Ap).settings.pidsMax,weight:=0,quota:=(r7.1.getD (Int.toNat r9.1) Ap).settings.quota,period:=(r7.1.getD (Int.toNat r9.1) Ap).settings.period,burst:=(r7.1.getD (Int.toNat r9.1) Ap).settings.burst,clampMin:=(r7.1.getD (Int.toNat r9.1) Ap).settings.clampMin,clampMax:=(r7.1.getD (Int.toNat r9.1) Ap).settings.clampMax,cpus:=(r7.1.getD (Int.toNat r9.1) Ap).settings.cpus,mems:=(r7.1.getD (Int.toNat r9.1) Ap).settings.mems,partition:=(r7.1.getD (Int.toNat r9.1) Ap).settings.partition,memory:=(r7.1.getD (Int.toNat r9.1) Ap).settings.memory,devices:=(r7.1.getD (Int.toNat r9.1) Ap).settings.devices } : At) } : Ab))].length) tv))) ?_)
    obtain ⟨r969,hr969,hm⟩:=bo hm
    obtain ⟨r970,hr970,hm⟩:=bo hm
    refine Sq (RN hnt (nn 2 (o107 [1240] true r969 :: .no::o107 [1240] true r970 :: .frz 0 (elems Au 0 [])::nn 3 [])) [(1,.p (slI p1)),(2,pI p2),(7,rr 1240),(8,rr 1064),(c1e6 r7 r9 k1),(c1e8 r7 r9),(49,pI 2),(c1e9 k1),(AcN p1 r969 r970),(61,pI 4),(62,pI 0)] [(Zo r6),(1240,bx (pm (Al r970.2))),(c1e4 r7 r9),(c1e7 p1 r969 r970)] [(60,ow 1480 4)] [(1480,.row 1 4 (cut 1 [slI p1,slI r969.1,slI r970.1,slI []]))] (an (Vq s1 6 r969 hr969) (an tv (an (Vq r969.2 4 r970 hr970) (an tv (an ((RowIs.asP (enc:=Au) (d:=0) (L := []) RowIs.nil):0=0∧∀ i,i<0→(cut 1 []) i=(elems Au 0 []) i) tv))))) (by kernel_rfl) (.cons rfl (MLe.ownLen (enc:=(Eg 1 Au 0)) (d := []) (f:=(cut 1 [slI p1,slI r969.1,slI r970.1,slI []])) (RowIs.lit (enc:=(Eg 1 Au 0)) (d := []) (n:=4) (f:=(cut 1 [slI p1,slI r969.1,slI r970.1,slI []])) [p1,r969.1,r970.1,[]] rfl (fun|0,_=>rfl|1,_=>rfl|2,_=>rfl|3,_=>rfl|n+4,h=>absurd h (by omega)))) .nil) (.cons rfl (BLe.typed (RowIs.lit (enc:=(Eg 1 Au 0)) (d := []) (n:=4) (f:=(cut 1 [slI p1,slI r969.1,slI r970.1,slI []])) [p1,r969.1,r970.1,[]] rfl (fun|0,_=>rfl|1,_=>rfl|2,_=>rfl|3,_=>rfl|n+4,h=>absurd h (by omega)))) .nil) ?_)
    refine Bk ?_
    obtain ⟨hc28,hm⟩:=go1 hm
    refine DW.rangeO (fun (k28:Nat) (s28:Ak)=>Af [(1,.p (slI p1)),(2,pI p2),(7,rr 1240),(8,rr 1064),(c1e6 r7 r9 k1),(c1e8 r7 r9),(49,pI 2),(c1e9 k1),(AcN p1 r969 r970),(61,pI 4),(Aev k28)] [(Zo r6),(1240,bx (pm (Al s28))),(c1e4 r7 r9),(c1e7 p1 r969 r970)]) [] hm .refl ?_
    intro k28 s28 n28 hk28 hs28 he28
    refine Sq (RD hnt (.no :: []) [] [(63,pB (decide (((k28:Nat):Int)<4)))] [] [] tv ?_)
    refine Sq (Cv (decide (((k28:Nat):Int)<4)) ?_ ?_)
    ·intro h1281
     have hlt28:k28 < [p1,r969.1,r970.1,[]].length:=by have:=of_decide_eq_true h1281; have hL : [p1,r969.1,r970.1,[]].length=4:=rfl; omega
     have hm:=hs28 hlt28
     unfold Od at hm
     refine Sk ?_
     refine Sq (Bk ?_)
     refine Sq (RD hnt (nn 3 []) [63] [(14,.p (slI ([p1,r969.1,r970.1,[]].getD k28 [])))] [] [] (an (nn0 k28) (an (ltc hlt28) (an (by omega:k28 < [p1,r969.1,r970.1,[]].length) tv))) ?_)
     obtain ⟨r1282,hr1282,hm⟩:=bo hm
     obtain ⟨r1283,hr1283,hm⟩:=bo hm
     refine Sq (RD hnt (nn 3 (o108 [] true r1282::nn 3 (o110 [] true r1283::nn 2 []))) [] [(15,ow 1552 r1282.length),(16,ow 1584 r1283.length)] [] [(1552,ob0 (Hj 1 (Eg 1 Au 0) [] r1282)),(1584,ob0 (Hj 1 (Eg 1 Au 0) [] r1283))] (an (Agu r6.1 ([r7.1,(Iq r7 r9)].getD k1 []) ([p1,r969.1,r970.1,[]].getD k28 []) r1282 hr1282) (an (AhJ r6.1 ([r7.1,(Iq r7 r9)].getD k1 []) ([p1,r969.1,r970.1,[]].getD k28 []) r1283 hr1283) tv)) ?_)
     refine Sq (Sq ?_)
     refine Jn (ι:=Bool) (fun (y82:Bool)=>Af [(1,.p (slI p1)),(2,pI p2),(7,rr 1240),(8,rr 1064),(c1e6 r7 r9 k1),(14,.p (slI ([p1,r969.1,r970.1,[]].getD k28 []))),(15,ow 1552 r1282.length),(16,ow 1584 r1283.length),(c1e8 r7 r9),(49,pI 2),(c1e9 k1),(AcN p1 r969 r970),(61,pI 4),(Aev k28),(90,pB y82)] [(Zo r6),(1240,bx (pm (Al s28))),(c1e4 r7 r9),(c1e7 p1 r969 r970),(1552,ob0 (Hj 1 (Eg 1 Au 0) [] r1282)),(1584,ob0 (Hj 1 (Eg 1 Au 0) [] r1283))]) (fun y82=>(Ld p2 r6 ([r7.1,(Iq r7 r9)].getD k1 []) ([p1,r969.1,r970.1,[]].getD k28 []) s28 n28 r1282 r1283) y82=some RES) ?_ ?_
     ·intro y82 hm
      unfold Ld at hm
      refine Ar hm ?_ ?_
      ·intro h1288 hm
       refine Sq (RK hnt (.no :: []) [(6,pB false)] [] tv ?_)
       obtain rfl:=sj hm
       exact DW.ret (An [] [] (pB false))
      ·intro h1288 hm
       refine Sk ?_
       refine Sq (Sq (RD hnt (nn 3 []) [90] [(92,pI ((r1282.length:Nat):Int)),(93,pI 0)] [] [] tv ?_))
       refine Bk ?_
       obtain ⟨hc37,hm⟩:=go1 hm
       refine DW.rangeO (fun (k37:Nat) (s37:Unit)=>Af [(1,.p (slI p1)),(2,pI p2),(7,rr 1240),(8,rr 1064),(c1e6 r7 r9 k1),(14,.p (slI ([p1,r969.1,r970.1,[]].getD k28 []))),(15,ow 1552 r1282.length),(16,ow 1584 r1283.length),(c1e8 r7 r9),(49,pI 2),(c1e9 k1),(AcN p1 r969 r970),(61,pI 4),(Aev k28),(92,pI ((r1282.length:Nat):Int)),(93,pI ((k37:Nat):Int))] [(Zo r6),(1240,bx (pm (Al s28))),(c1e4 r7 r9),(c1e7 p1 r969 r970),(1552,ob0 (Hj 1 (Eg 1 Au 0) [] r1282)),(1584,ob0 (Hj 1 (Eg 1 Au 0) [] r1283))]) [] hm Conv.eqK ?_
       intro k37 s37 n37 hk37 hs37 he37
       refine Sq (RD hnt (.no :: []) [] [(94,pB (decide (((k37:Nat):Int)<((r1282.length:Nat):Int))))] [] [] tv ?_)
       refine Sq (Cv (decide (((k37:Nat):Int)<((r1282.length:Nat):Int))) ?_ ?_)
       ·intro h1387
        have hlt37:k37<r1282.length:=by have:=of_decide_eq_true h1387; omega
        have hm:=hs37 hlt37
        unfold Te at hm
        refine Sk ?_
        refine Sq (Bk ?_)
        refine Sq (RD hnt (nn 2 []) [94] [(17,pI ((k37:Nat):Int))] [] [] tv ?_)
        obtain ⟨g1388,g1389,hm⟩:=go2 hm
        obtain ⟨r1390,hr1390,hm⟩:=bo hm
        refine Sq (RD hnt (nn 8 (o92 [] true r1390 :: .no :: [])) [17] [(105,pB (!r1390))] [] [] (an (nn0 k37) (an (ltc hlt37) (an (by omega:k37<r1282.length) (an (nn0 k37) (an (ltc g1388) (an g1389 (an (Ee (r1282.getD k37 []) (r1283.getD k37 []) r1390 hr1390) tv))))))) ?_)
        refine Ar hm ?_ ?_
        ·intro h1391 hm
         refine Sq (RK hnt (.no :: []) [(6,pB false)] [] tv ?_)
         obtain rfl:=sj hm
         exact DW.ret (An [] [] (pB false))
        ·intro h1391 hm
         refine Sk ?_
         refine DW.done ?_
         show DW _ _ _ _ _
         refine RD hnt (nn 2 []) [105] [(93,pI (w64 (((k37:Nat):Int)+1)))] [] [] tv ?_
         exact jD () ⟨hlt37,hm⟩ (Conv.tp [(93,pI (w64 (((k37:Nat):Int)+1)))] [] (by kernel_rfl) (.cons rfl (.of_eq (congrArg pI (Bt hlt37 hc37))) .nil) .nil)
       ·intro h1387
        have hge37:¬ k37<r1282.length:=by have:=of_decide_eq_false h1387; omega
        have hm:=he37 hge37
        unfold Sl at hm
        refine DW.exit ?_
        refine Ao ?_
        refine Ba ?_
        refine Ai ?_
        show DW _ _ _ _ _
        obtain ⟨r1392,hr1392,hm⟩:=bo hm
        obtain ⟨r1393,hr1393,hm⟩:=bo hm
        refine Sq (RN hnt (nn 3 (o127 [1240] true r1392::nn 2 (o127 [1240] true r1393::nn 3 []))) [(1,.p (slI p1)),(2,pI p2),(7,rr 1240),(8,rr 1064),(c1e6 r7 r9 k1),(14,.p (slI ([p1,r969.1,r970.1,[]].getD k28 []))),(c1e8 r7 r9),(49,pI 2),(c1e9 k1),(AcN p1 r969 r970),(61,pI 4),(Aev k28),(114,ow 1912 [p2,r1392.1,r1393.1].length),(115,pI 3),(116,pI 0)] [(Zo r6),(1240,bx (pm (Al r1393.2))),(c1e4 r7 r9),(c1e7 p1 r969 r970),(1912,ob0 (roI [p2,r1392.1,r1393.1]))] [(114,ow 1912 3)] [(1912,.row 1 3 (cut 1 [vi p2,vi r1392.1,vi r1393.1]))] (an (Xk s28 r6.1 r1392 hr1392) (an tv (an (Xk r1392.2 r6.1 r1393 hr1393) (an tv tv)))) (by kernel_rfl) (.cons rfl (MLe.ownLen (enc:=Au) (d:=0) (f:=(cut 1 [vi p2,vi r1392.1,vi r1393.1])) (RowIs.lit (enc:=Au) (d:=0) (n:=3) (f:=(cut 1 [vi p2,vi r1392.1,vi r1393.1])) [p2,r1392.1,r1393.1] rfl (fun|0,_=>rfl|1,_=>rfl|2,_=>rfl|n+3,h=>absurd h (by omega)))) .nil) (.cons rfl (BLe.typed (RowIs.lit (enc:=Au) (d:=0) (n:=3) (f:=(cut 1 [vi p2,vi r1392.1,vi r1393.1])) [p2,r1392.1,r1393.1] rfl (fun|0,_=>rfl|1,_=>rfl|2,_=>rfl|n+3,h=>absurd h (by omega)))) .nil) ?_)
        refine Bk ?_
        obtain ⟨hc40,hm⟩:=go1 hm
        refine DW.rangeO (fun (k40:Nat) (s40:Unit)=>Af [(1,.p (slI p1)),(2,pI p2),(7,rr 1240),(8,rr 1064),(c1e6 r7 r9 k1),(14,.p (slI ([p1,r969.1,r970.1,[]].getD k28 []))),(c1e8 r7 r9),(49,pI 2),(c1e9 k1),(AcN p1 r969 r970),(61,pI 4),(Aev k28),(114,ow 1912 [p2,r1392.1,r1393.1].length),(115,pI 3),(116,pI ((k40:Nat):Int))] [(Zo r6),(1240,bx (pm (Al r1393.2))),(c1e4 r7 r9),(c1e7 p1 r969 r970),(1912,ob0 (roI [p2,r1392.1,r1393.1]))]) 0 hm .refl ?_
        intro k40 s40 n40 hk40 hs40 he40
        refine Sq (RD hnt (.no :: []) [] [(117,pB (decide (((k40:Nat):Int)<3)))] [] [] tv ?_)
        refine Sq (Cv (decide (((k40:Nat):Int)<3)) ?_ ?_)
        ·intro h1422
         have hlt40:k40 < [p2,r1392.1,r1393.1].length:=by have:=of_decide_eq_true h1422; have hL : [p2,r1392.1,r1393.1].length=3:=rfl; omega
         have hm:=hs40 hlt40
         unfold Sz at hm
         refine Sk ?_
         refine Sq (Bk ?_)
         refine Sq (RD hnt (nn 3 []) [117] [(19,pI ([p2,r1392.1,r1393.1].getD k40 0))] [] [] (an (nn0 k40) (an (ltc hlt40) (an (by omega:k40 < [p2,r1392.1,r1393.1].length) tv))) ?_)
         obtain ⟨r1423,hr1423,hm⟩:=bo hm
         obtain ⟨r1424,hr1424,hm⟩:=bo hm
         obtain ⟨r1425,hr1425,hm⟩:=bo hm
         refine Sq ?_
         refine Jn (ι:=Bool) (fun (y91:Bool)=>Af [(1,.p (slI p1)),(2,pI p2),(7,rr 1240),(8,rr 1064),(c1e6 r7 r9 k1),(14,.p (slI ([p1,r969.1,r970.1,[]].getD k28 []))),(c1e8 r7 r9),(49,pI 2),(c1e9 k1),(AcN p1 r969 r970),(61,pI 4),(Aev k28),(114,ow 1912 [p2,r1392.1,r1393.1].length),(115,pI 3),(116,pI ((k40:Nat):Int)),(158,pB y91)] [(Zo r6),(1240,bx (pm (Al r1393.2))),(c1e4 r7 r9),(c1e7 p1 r969 r970),(1912,ob0 (roI [p2,r1392.1,r1393.1]))]) (fun y91=>(Jj n40) y91=some RES) ?_ ?_
         ·intro y91 hm
          unfold Jj at hm
          refine Ar hm ?_ ?_
          ·intro h1433 hm
           refine Sq (RK hnt (.no :: []) [(6,pB false)] [] tv ?_)
           obtain rfl:=sj hm
           exact DW.ret (An [] [] (pB false))
          ·intro h1433 hm
           refine Sk ?_
           refine DW.done ?_
           show DW _ _ _ _ _
           refine RD hnt (nn 2 []) [158] [(116,pI (w64 (((k40:Nat):Int)+1)))] [] [] tv ?_
           exact jD () ⟨hlt40,hm⟩ (Conv.tp [(116,pI (w64 (((k40:Nat):Int)+1)))] [] (by kernel_rfl) (.cons rfl (.of_eq (congrArg pI (Bt hlt40 hc40))) .nil) .nil)
         ·rcases bt (!r1425) with h1426|h1426
          ·replace hm:=Az h1426 hm
           refine RD hnt (nn 4 (o23 [] true r1423::nn 4 (o116 [] true r1424::o92 [] true r1425::nn 2 (sk 12 (pT :: .no::sk 11 (pT :: [])))))) [19] [(158,pB true)] [] [] (an (Fd r6.1 ([r7.1,(Iq r7 r9)].getD k1 []) ([p1,r969.1,r970.1,[]].getD k28 []) ([p2,r1392.1,r1393.1].getD k40 0) r1423 hr1423) (an (Xn r6.1 ([r7.1,(Iq r7 r9)].getD k1 []) ([p1,r969.1,r970.1,[]].getD k28 []) ([p2,r1392.1,r1393.1].getD k40 0) r1424 hr1424) (an (Ee r1423 r1424 r1425 hr1425) (an h1426 (an6 h1426 (an6 h1426 (an6 tt (an6 tt tv)))))))) ?_
           exact jD true hm Conv.eqK
          ·replace hm:=Ay h1426 hm
           obtain ⟨r1427,hr1427,hm⟩:=bo hm
           obtain ⟨r1428,hr1428,hm⟩:=bo hm
           obtain ⟨r1429,hr1429,hm⟩:=bo hm
           rcases bt (!r1429) with h1430|h1430
           ·replace hm:=Az h1430 hm
            refine RD hnt (nn 4 (o23 [] true r1423::nn 4 (o116 [] true r1424::o92 [] true r1425::nn 6 (o128 [] true r1427::nn 4 (o136 [] true r1428::o92 [] true r1429 :: .no::pF :: .no::sk 11 (pT :: [])))))) [19] [(158,pB true)] [] [] (an (Fd r6.1 ([r7.1,(Iq r7 r9)].getD k1 []) ([p1,r969.1,r970.1,[]].getD k28 []) ([p2,r1392.1,r1393.1].getD k40 0) r1423 hr1423) (an (Xn r6.1 ([r7.1,(Iq r7 r9)].getD k1 []) ([p1,r969.1,r970.1,[]].getD k28 []) ([p2,r1392.1,r1393.1].getD k40 0) r1424 hr1424) (an (Ee r1423 r1424 r1425 hr1425) (an5 h1426 (an (Abo r6.1 ([r7.1,(Iq r7 r9)].getD k1 []) ([p1,r969.1,r970.1,[]].getD k28 []) ([p2,r1392.1,r1393.1].getD k40 0) r1427 hr1427) (an5 h1426 (an (Acj r6.1 ([r7.1,(Iq r7 r9)].getD k1 []) ([p1,r969.1,r970.1,[]].getD k28 []) ([p2,r1392.1,r1393.1].getD k40 0) r1428 hr1428) (an h1426 (an (Ee r1427 r1428 r1429 hr1429) (an2 h1426 (an6 h1430 (an6 h1430 tv)))))))))))) ?_
            exact jD true hm Conv.eqK
           ·replace hm:=Ay h1430 hm
            obtain ⟨r1431,hr1431,hm⟩:=bo hm
            obtain ⟨r1432,hr1432,hm⟩:=bo hm
            refine RD hnt (nn 4 (o23 [] true r1423::nn 4 (o116 [] true r1424::o92 [] true r1425::nn 6 (o128 [] true r1427::nn 4 (o136 [] true r1428::o92 [] true r1429 :: .no::pF::nn 5 (o93 [] true r1431::nn 4 (o137 [] true r1432 :: .no::pF :: []))))))) [19] [(158,pB (r1431 != r1432))] [] [] (an (Fd r6.1 ([r7.1,(Iq r7 r9)].getD k1 []) ([p1,r969.1,r970.1,[]].getD k28 []) ([p2,r1392.1,r1393.1].getD k40 0) r1423 hr1423) (an (Xn r6.1 ([r7.1,(Iq r7 r9)].getD k1 []) ([p1,r969.1,r970.1,[]].getD k28 []) ([p2,r1392.1,r1393.1].getD k40 0) r1424 hr1424) (an (Ee r1423 r1424 r1425 hr1425) (an5 h1426 (an (Abo r6.1 ([r7.1,(Iq r7 r9)].getD k1 []) ([p1,r969.1,r970.1,[]].getD k28 []) ([p2,r1392.1,r1393.1].getD k40 0) r1427 hr1427) (an5 h1426 (an (Acj r6.1 ([r7.1,(Iq r7 r9)].getD k1 []) ([p1,r969.1,r970.1,[]].getD k28 []) ([p2,r1392.1,r1393.1].getD k40 0) r1428 hr1428) (an h1426 (an (Ee r1427 r1428 r1429 hr1429) (an2 h1426 (an5 h1430 (an (Wd r6.1 ([r7.1,(Iq r7 r9)].getD k1 []) ([p1,r969.1,r970.1,[]].getD k28 []) ([p2,r1392.1,r1393.1].getD k40 0) r1431 hr1431) (an5 h1430 (an (Adl r6.1 ([r7.1,(Iq r7 r9)].getD k1 []) ([p1,r969.1,r970.1,[]].getD k28 []) ([p2,r1392.1,r1393.1].getD k40 0) r1432 hr1432) (an2 h1430 tv))))))))))))))) ?_
            exact jD (r1431 != r1432) hm Conv.eqK
        ·intro h1422
         have hge40:¬ k40 < [p2,r1392.1,r1393.1].length:=by have:=of_decide_eq_false h1422; have hL : [p2,r1392.1,r1393.1].length=3:=rfl; omega
         have hm:=he40 hge40
         unfold Sv at hm
         refine DW.exit ?_
         refine Ao ?_
         refine Ba ?_
         refine Ai ?_
         show DW _ _ _ _ _
         refine DW.done ?_
         show DW _ _ _ _ _
         refine RD hnt (nn 2 []) [14,114,115,116,117] [(62,pI (w64 (((k28:Nat):Int)+1)))] [1912] [] tv ?_
         exact jD r1393.2 ⟨hlt28,hm⟩ (Conv.tp [(62,pI (w64 (((k28:Nat):Int)+1)))] [] (by kernel_rfl) (.cons rfl (.of_eq (congrArg pI (Bt hlt28 hc28))) .nil) .nil)
     ·rcases bt (((r1282.length:Nat):Int) != ((r1283.length:Nat):Int)) with h1284|h1284
      ·replace hm:=Az h1284 hm
       refine RD hnt (nn 6 (sk 10 (pT :: []))) [] [(90,pB true)] [] [] (an5 h1284 (an6 h1284 tv)) ?_
       exact jD true hm Conv.eqK
      ·replace hm:=Ay h1284 hm
       obtain ⟨r1285,hr1285,hm⟩:=bo hm
       obtain ⟨r1286,hr1286,hm⟩:=bo hm
       obtain ⟨r1287,hr1287,hm⟩:=bo hm
       refine RD hnt (nn 9 (o94 [] true r1285::nn 3 (o126 [] true r1286::o92 [] true r1287 :: .no::pF :: []))) [] [(90,pB (!r1287))] [] [] (an4 h1284 (an (Vt r6.1 ([r7.1,(Iq r7 r9)].getD k1 []) ([p1,r969.1,r970.1,[]].getD k28 []) r1285 hr1285) (an4 h1284 (an (Xg r6.1 ([r7.1,(Iq r7 r9)].getD k1 []) ([p1,r969.1,r970.1,[]].getD k28 []) r1286 hr1286) (an h1284 (an (Ee r1285 r1286 r1287 hr1287) (an2 h1284 tv))))))) ?_
       exact jD (!r1287) hm Conv.eqK
    ·intro h1281
     have hge28:¬ k28 < [p1,r969.1,r970.1,[]].length:=by have:=of_decide_eq_false h1281; have hL : [p1,r969.1,r970.1,[]].length=4:=rfl; omega
     have hm:=he28 hge28
     unfold Sm at hm
     refine DW.exit ?_
     refine Ao ?_
     refine Ba ?_
     refine Ai ?_
     show DW _ _ _ _ _
     refine DW.done ?_
     show DW _ _ _ _ _
     refine RD hnt (nn 2 []) [12,60,61,62,63] [(50,pI (w64 (((k1:Nat):Int)+1)))] [1480] [] tv ?_
     exact jD s28 ⟨hlt1,hm⟩ (Conv.tp [(50,pI (w64 (((k1:Nat):Int)+1)))] [] (by kernel_rfl) (.cons rfl (.of_eq (congrArg pI (Bt hlt1 hc1))) .nil) .nil)
   ·intro h962
    have hge1:¬ k1 < [r7.1,(Iq r7 r9)].length:=by have:=of_decide_eq_false h962; have hL : [r7.1,(Iq r7 r9)].length=2:=rfl; omega
    have hm:=he1 hge1
    unfold Uc at hm
    refine DW.exit ?_
    refine Ao ?_
    refine Ba ?_
    refine Ai ?_
    show DW _ _ _ _ _
    obtain ⟨r1434,hr1434,hm⟩:=bo hm
    refine Sq (RK hnt (o3 [] true r1434 :: .no :: []) [(6,pB r1434)] [] (an (Acg r1434 hr1434) tv) ?_)
    obtain rfl:=sj hm
    exact DW.ret (An [] [] (pB r1434))
 ·rcases bt (!r1) with h2|h2
  ·replace hm:=Az h2 hm
   refine RD hnt (.no::o2 [] true r1::nn 2 (sk 3 (pT :: []))) [] [(27,pB true)] [] [] (an (Acx p0 r1 hr1) (an4 h2 tv)) ?_
   exact jD true hm Conv.eqK
  ·replace hm:=Ay h2 hm
   refine RD hnt (.no::o2 [] true r1::nn 5 (pF :: [])) [] [(27,pB (decide (((p1.length:Nat):Int)>40)))] [] [] (an (Acx p0 r1 hr1) (an4 h2 tv)) ?_
   exact jD (decide (((p1.length:Nat):Int)>40)) hm Conv.eqK
abbrev o1 (ks:List Nat) (b:Bool) (RES:Bool) (sm:List Nat := []):Orc := .call 3 ks b (pB RES) [] [] sm
end Go.Dm

