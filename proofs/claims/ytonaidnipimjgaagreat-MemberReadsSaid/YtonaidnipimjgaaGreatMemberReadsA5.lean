/- Texts of the proof of MemberReads: the data machine, the models of the Go functions, their contracts. -/
import Derived.Test.YtonaidnipimjgaaGreatMemberReadsA4
set_option linter.unusedVariables false
set_option linter.unusedSimpArgs false
/- Go functions compute their models, printed by a program. -/
namespace Go.Dm
open Go.Proofs
set_option linter.unusedVariables false
theorem Jr (p0 : Aa) (RES : Aa) (hm : Ff p0 = some RES) : Spec Tryz.prog 98 [.p (.agg (Ab p0))] [] (.p (.agg (Ab RES))) [] [] := by
 unfold Ff at hm
 refine SO Tryz.func98 rfl rfl [(0,.p (.agg (Ab p0)))] [] ?_
 intro cx hnt
 refine Sq (RK hnt (nn 2 []) [(1,rr 1008),(2,rr 1016)] [(1008,bx (pm (Ab p0))),(1016,bx [.p (.sl .nil 0 0 (fun _ => [])),pI 0,.p (.sl .nil 0 0 (fun _ => [])),pI 0])] tv ?_)
 obtain ⟨r1,hr1,hm⟩ := bo hm
 refine Sq (Sq (RD hnt (.no :: o7 [] true r1 :: .no :: []) [] [(5,pB (!r1))] [] [] (an (Hr p0 r1 hr1) tv) ?_))
 refine Ag hm ?_ ?_
 ·intro h2 hm
  refine Sq (RD hnt (nn 2 []) [1,5] [] [1008] [] tv ?_)
  refine DW.conv (τ := Ao [(2,rr 1016)] [(1016,bx [.p (Cz []),pI 0,.p (Bt []),pI 0])]) (Conv.tp [] [(1016,.box [.p (.sl .nil 0 0 (fun _ => [])),pI 0,.p (.sl .nil 0 0 (fun _ => [])),pI 0])] (by kernel_rfl) .nil (.cons rfl (.box (.cons MLe.nilL (.cons .rfl (.cons MLe.nilL (.cons .rfl .nil))))) .nil)) ?_
  obtain rfl := sj hm
  exact DW.ret (Ak [] [] (.p (.agg [Cz [],vi 0,Bt [],vi 0])))
 ·intro h2 hm
  refine Sk ?_
  refine Sq (RK hnt (nn 2 []) [(2,rr 1016)] [(1016,bx (pm (Ab p0)))] tv ?_)
  obtain rfl := sj hm
  exact DW.ret (Ak [] [] (.p (.agg (Ab p0))))
abbrev o82 (ks : List Nat) (b : Bool) (RES : Aa) : Orc := .call 98 ks b (.p (.agg (Ab RES))) [] []

theorem AeF (p0 : Aa) (p1 : Int) (RES : Aj × Bool) (hm : Mt p0 p1 = some RES) : Spec Tryz.prog 22 [.p (.agg (Ab p0)),pI p1] [] (.p (.tup [.agg (Am RES.1),vb RES.2])) [] [] := by
 unfold Mt at hm
 refine SO Tryz.func22 rfl rfl [(0,.p (.agg (Ab p0))),(1,pI p1)] [] ?_
 intro cx hnt
 refine Sq (RK hnt (nn 3 []) [(1,pI p1),(2,rr 1016),(4,rr 1032)] [(1016,bx (pm (Ab p0))),(1032,bx [pI 0,pI 0,pI 0,pI 0])] tv ?_)
 obtain ⟨r1,hr1,hm⟩ := bo hm
 obtain ⟨r2,hr2,hm⟩ := bo hm
 refine Sq (RK hnt (.no :: o82 [] true r1 :: .no :: o14 [] true r2 :: nn 4 []) [(4,rr 1032),(5,pB r2.2)] [(1032,bx (pm (Am r2.1)))] (an (Jr p0 r1 hr1) (an (Vv r1 p1 r2 hr2) tv)) ?_)
 obtain rfl := sj hm
 exact DW.ret (Ak [] [] (.p (.tup [.agg (Am r2.1),vb r2.2])))
abbrev o81 (ks : List Nat) (b : Bool) (RES : Aj × Bool) : Orc := .call 22 ks b (.p (.tup [.agg (Am RES.1),vb RES.2])) [] []

theorem Aen (p0 : Aj) (p1 : Int) (RES : Bool) (hm : So p0 p1 = some RES) : Spec Tryz.prog 170 [.p (.agg (Am p0)),rr 0] [.box [pI p1]] (pB RES) [.box [pI p1]] [] := by
 unfold So at hm
 refine SO Tryz.func170 rfl rfl [(0,.p (.agg (Am p0))),(1,rr 0)] [(0,bx [pI p1])] ?_
 intro cx hnt
 refine Sq (RD hnt (nn 2 []) [0] [(2,rr 1016)] [] [(1016,bx (pm (Am p0)))] tv ?_)
 refine Sq (RK hnt (nn 5 []) [(3,pB (p0.group == p1))] [(0,bx [pI p1])] tv ?_)
 obtain rfl := sj hm
 exact DW.ret (Ak [.box [pI p1]] [] (pB (p0.group == p1)))

theorem Ads (p0 : Aj) (RES : Int) (hm : Xc p0 = some RES) : Spec Tryz.prog 171 [.p (.agg (Am p0))] [] (pI RES) [] [] := by
 unfold Xc at hm
 refine SO Tryz.func171 rfl rfl [(0,.p (.agg (Am p0)))] [] ?_
 intro cx hnt
 refine Sq (RK hnt (nn 2 []) [(1,rr 1008)] [(1008,bx (pm (Am p0)))] tv ?_)
 refine Sq (RK hnt (nn 3 []) [(2,pI p0.id)] [] tv ?_)
 obtain rfl := sj hm
 exact DW.ret (Ak [] [] (pI p0.id))
abbrev o87 (ks : List Nat) (b : Bool) (RES : Int) : Orc := .call 171 ks b (pI RES) [] []

abbrev c90e1 (y3 : Int × Int) := (w64 (y3.2 + (w64 (((Bl (bs [0,1,2,2,3,3,3,3,4,4,4,4,4,4,4,4,5,5,5,5,5,5,5,5,5,5,5,5,5,5,5,5,6,6,6,6,6,6,6,6,6,6,6,6,6,6,6,6,6,6,6,6,6,6,6,6,6,6,6,6,6,6,6,6,7,7,7,7,7,7,7,7,7,7,7,7,7,7,7,7,7,7,7,7,7,7,7,7,7,7,7,7,7,7,7,7,7,7,7,7,7,7,7,7,7,7,7,7,7,7,7,7,7,7,7,7,7,7,7,7,7,7,7,7,7,7,7,7,8,8,8,8,8,8,8,8,8,8,8,8,8,8,8,8,8,8,8,8,8,8,8,8,8,8,8,8,8,8,8,8,8,8,8,8,8,8,8,8,8,8,8,8,8,8,8,8,8,8,8,8,8,8,8,8,8,8,8,8,8,8,8,8,8,8,8,8,8,8,8,8,8,8,8,8,8,8,8,8,8,8,8,8,8,8,8,8,8,8,8,8,8,8,8,8,8,8,8,8,8,8,8,8,8,8,8,8,8,8,8,8,8,8,8,8,8,8,8,8,8,8,8,8,8,8,8,8]) (Int.toNat (IntKind.u8.wrap y3.1))) : Nat) : Int))))
theorem Afx (p0 : Int) (RES : Int) (hm : Abc p0 = some RES) : Spec Tryz.prog 225 [.p (vk .u64 p0)] [] (pI RES) [] [] := by
 unfold Abc at hm
 refine SO Tryz.func225 rfl rfl [(0,.p (vk .u64 p0))] [] ?_
 intro cx hnt
 refine Sq (RD hnt (.no :: []) [] [(2,pI 0)] [] [] tv ?_)
 refine Sq (Sq (RD hnt (nn 2 []) [] [(4,pB (decide (p0 ≥ 4294967296)))] [] [] tv ?_))
 refine Jn (ι := Int × Int) (fun (y1 : Int × Int) => Ao [(0,.p (vk .u64 y1.1)),(2,pI y1.2)] []) (fun y1 => Sl y1 = some RES) ?_ ?_
 ·intro y1 hm
  unfold Sl at hm
  refine Sq (Sq (RD hnt (nn 2 []) [] [(8,pB (decide (y1.1 ≥ 65536)))] [] [] tv ?_))
  refine Jn (ι := Int × Int) (fun (y2 : Int × Int) => Ao [(0,.p (vk .u64 y2.1)),(2,pI y2.2)] []) (fun y2 => Tc y2 = some RES) ?_ ?_
  ·intro y2 hm
   unfold Tc at hm
   refine Sq (Sq (RD hnt (nn 2 []) [] [(14,pB (decide (y2.1 ≥ 256)))] [] [] tv ?_))
   refine Jn (ι := Int × Int) (fun (y3 : Int × Int) => Ao [(0,.p (vk .u64 y3.1)),(2,pI y3.2)] []) (fun y3 => Td y3 = some RES) ?_ ?_
   ·intro y3 hm
    unfold Td at hm
    obtain ⟨g4,hm⟩ := go1 hm
    refine Sq (RK hnt (nn 7 []) [(2,pI (c90e1 y3))] [] (an g4.1 (an g4.2 tv)) ?_)
    obtain rfl := sj hm
    exact DW.ret (Ak [] [] (pI (c90e1 y3)))
   ·refine Ag hm ?_ ?_
    ·intro h3 hm
     refine Sq (RK hnt (nn 3 []) [(0,.p (vk .u64 (kshr .u64 y2.1 8))),(2,pI y2.2)] [] (an (by decide : (0 : Int) ≤ 8) tv) ?_)
     refine RD hnt (nn 3 []) [] [(2,pI (w64 (y2.2 + 8)))] [] [] tv ?_
     exact jD ((kshr .u64 y2.1 8),(w64 (y2.2 + 8))) hm Conv.eqK
    ·intro h3 hm
     refine Sk ?_
     exact jD (y2.1,y2.2) hm Conv.t0
  ·refine Ag hm ?_ ?_
   ·intro h2 hm
    refine Sq (RK hnt (nn 3 []) [(0,.p (vk .u64 (kshr .u64 y1.1 16))),(2,pI y1.2)] [] (an (by decide : (0 : Int) ≤ 16) tv) ?_)
    refine RD hnt (nn 3 []) [] [(2,pI (w64 (y1.2 + 16)))] [] [] tv ?_
    exact jD ((kshr .u64 y1.1 16),(w64 (y1.2 + 16))) hm Conv.eqK
   ·intro h2 hm
    refine Sk ?_
    exact jD (y1.1,y1.2) hm Conv.t0
 ·refine Ag hm ?_ ?_
  ·intro h1 hm
   refine Sq (RK hnt (nn 3 []) [(0,.p (vk .u64 (kshr .u64 p0 32)))] [] (an (by decide : (0 : Int) ≤ 32) tv) ?_)
   refine RD hnt (.no :: []) [] [(2,pI 32)] [] [] tv ?_
   exact jD ((kshr .u64 p0 32),32) hm Conv.eqK
  ·intro h1 hm
   refine Sk ?_
   exact jD (p0,0) hm Conv.t0
abbrev o90 (ks : List Nat) (b : Bool) (RES : Int) : Orc := .call 225 ks b (pI RES) [] []

theorem Acy (p0 : Int) (RES : Int) (hm : Nv p0 = some RES) : Spec Tryz.prog 182 [.p (vk .u64 p0)] [] (pI RES) [] [] := by
 unfold Nv at hm
 refine SO Tryz.func182 rfl rfl [(0,.p (vk .u64 p0))] [] ?_
 intro cx hnt
 refine Sq (RD hnt (.no :: []) [] [] [] [] tv ?_)
 refine Sq (condF ff ?_)
 refine Sk ?_
 obtain ⟨r1,hr1,hm⟩ := bo hm
 refine Sq (RK hnt (.no :: o90 [] true r1 :: .no :: []) [(2,pI r1)] [] (an (Afx p0 r1 hr1) tv) ?_)
 obtain rfl := sj hm
 exact DW.ret (Ak [] [] (pI r1))
abbrev o89 (ks : List Nat) (b : Bool) (RES : Int) : Orc := .call 182 ks b (pI RES) [] []

theorem Ke (p0 : Int) (RES : Bool) (hm : Om p0 = some RES) : Spec Tryz.prog 247 [pI p0] [] (pB RES) [] [] := by
 unfold Om at hm
 refine SO Tryz.func247 rfl rfl [(0,pI p0)] [] ?_
 intro cx hnt
 refine Sq (RK hnt (.no :: []) [(0,pI p0)] [] tv ?_)
 refine Sq (RK hnt (nn 4 []) [(2,pB (p0 != p0))] [] tv ?_)
 obtain rfl := sj hm
 exact DW.ret (Ak [] [] (pB (p0 != p0)))
abbrev o94 (ks : List Nat) (b : Bool) (RES : Bool) : Orc := .call 247 ks b (pB RES) [] []

theorem Co (p0 : Int) (p1 : Int) (RES : Bool) (hm : Cw p0 p1 = some RES) : Spec Tryz.prog 221 [pI p0,pI p1] [] (pB RES) [] [] := by
 unfold Cw at hm
 refine SO Tryz.func221 rfl rfl [(0,pI p0),(1,pI p1)] [] ?_
 intro cx hnt
 refine Sq (RD hnt (.no :: []) [] [] [] [] tv ?_)
 obtain ⟨r1,hr1,hm⟩ := bo hm
 refine Sq ?_
 refine Jn (ι := Bool) (fun (y1 : Bool) => Ao [(4,pB y1)] []) (fun y1 => Kv y1 = some RES) ?_ ?_
 ·intro y1 hm
  unfold Kv at hm
  obtain rfl := sj hm
  exact DW.ret (Ak [] [] (pB y1))
 ·rcases bt r1 with h2 | h2
  ·replace hm := Bg h2 hm
   obtain ⟨r3,hr3,hm⟩ := bo hm
   rcases bt (!r3) with h4 | h4
   ·replace hm := Bg h4 hm
    refine RK hnt (.no :: o94 [] true r1 :: nn 2 (o94 [] true r3 :: .no :: pT :: .no :: sk 3 (pT :: .no :: []))) [(4,pB true)] [] (an (Ke p0 r1 hr1) (an2 h2 (an (Ke p1 r3 hr3) (an2 h2 (an4 h4 tv))))) ?_
    exact jD true hm .refl
   ·replace hm := Bh h4 hm
    refine RK hnt (.no :: o94 [] true r1 :: nn 2 (o94 [] true r3 :: .no :: pT :: nn 4 (pF :: .no :: []))) [(4,pB (decide (p0 < p1)))] [] (an (Ke p0 r1 hr1) (an2 h2 (an (Ke p1 r3 hr3) (an2 h2 (an4 h4 tv))))) ?_
    exact jD (decide (p0 < p1)) hm .refl
  ·replace hm := Bh h2 hm
   refine RK hnt (.no :: o94 [] true r1 :: .no :: sk 3 (pF :: nn 4 (pF :: .no :: []))) [(4,pB (decide (p0 < p1)))] [] (an (Ke p0 r1 hr1) (an4 h2 (an4 ff tv))) ?_
   exact jD (decide (p0 < p1)) hm .refl
abbrev o93 (ks : List Nat) (b : Bool) (RES : Bool) : Orc := .call 221 ks b (pB RES) [] []

abbrev AcQ (s4 : (List Int) × Int) := (s4.1.getD (Int.toNat (w64 (s4.2 - 1))) 0)
abbrev c92e2 (s4 : (List Int) × Int) := (Bj (Bj (elI s4.1) (Int.toNat s4.2) [vi (AcQ s4)]) (Int.toNat (w64 (s4.2 - 1))) (setRange ((Bj (elI s4.1) (Int.toNat s4.2) [vi (AcQ s4)]) (Int.toNat (w64 (s4.2 - 1)))) 0 [vi (s4.1.getD (Int.toNat s4.2) 0)]))
abbrev c92e3 (s4 : (List Int) × Int) := ((s4.1.set (Int.toNat s4.2) (AcQ s4)).set (Int.toNat (w64 (s4.2 - 1))) (s4.1.getD (Int.toNat s4.2) 0))
theorem Qp (p0 : List Int) (p1 : Int) (p2 : Int) (RES : List Int) (hm : Ci p0 p1 p2 = some RES) : Spec Tryz.prog 215 [ow 0 p0.length,pI p1,pI p2] [roI p0] (.p (.tup [])) [roI RES] [] := by
 unfold Ci at hm
 refine SO Tryz.func215 rfl rfl [(0,ow 0 p0.length),(1,pI p1),(2,pI p2)] [(0,ob0 (roI p0))] ?_
 intro cx hnt
 refine Sq (RD hnt (nn 3 []) [] [(6,pI (w64 (p1 + 1)))] [] [] tv ?_)
 refine Bk ?_
 obtain ⟨hc1,hm⟩ := go1 hm
 refine DW.forO (fun (k1 : Int) (s1 : List Int) => Ao [(0,ow 0 s1.length),(1,pI p1),(2,pI p2),(6,pI k1)] [(0,ob0 (roI s1))]) (lo := (w64 (p1 + 1))) (hi := p2) hm Conv.eqK ?_
 intro k1 s1 n1 hk1 hs1 he1
 refine Sq (Sq (RD hnt (nn 3 []) [] [(12,pB (decide (k1 < p2)))] [] [] tv ?_))
 refine Cm (decide (k1 < p2)) ?_ ?_
 ·intro h75
  have hlt1 : k1 < p2 := by have := of_decide_eq_true h75; omega
  have hm := hs1 hlt1
  unfold Fj at hm
  refine Sk ?_
  refine Sq (Bk ?_)
  refine Sq (RD hnt (nn 2 []) [12] [(7,pI k1)] [] [] tv ?_)
  refine Bk ?_
  refine DW.whileO (fun (s4 : (List Int) × Int) => Ao [(0,ow 0 s4.1.length),(1,pI p1),(2,pI p2),(6,pI k1),(7,pI s4.2)] [(0,ob0 (roI s4.1))]) hm Conv.eqK ?_
  intro s4 n4 hm
  unfold Fo at hm
  refine Sq (Sq ?_)
  refine Jn (ι := Bool) (fun (y6 : Bool) => Ao [(0,ow 0 s4.1.length),(1,pI p1),(2,pI p2),(6,pI k1),(7,pI s4.2),(30,pB y6)] [(0,ob0 (roI s4.1))]) (fun y6 => (Cu n1 s4 n4) y6 = some RES) ?_ ?_
  ·intro y6 hm
   unfold Cu at hm
   refine Ag hm ?_ ?_
   ·intro h97 hm
    refine Sk ?_
    refine Sq (Bk ?_)
    obtain ⟨g98,g99,g100,g101,hm⟩ := go4 hm
    obtain ⟨g102,g103,g104,g105,hm⟩ := go4 hm
    refine RN hnt (nn 18 []) [(0,ow 0 (c92e3 s4).length),(1,pI p1),(2,pI p2),(6,pI k1),(7,pI s4.2)] [(0,ob0 (roI (c92e3 s4)))] [(0,ow 0 s4.1.length)] [(0,.row 1 s4.1.length (c92e2 s4))] (an g98.1 (an g98.2 (an g99 (an g100.1 (an g100.2 (an g101 (an g102.1 (an g102.2 (an g103 (an g104.1 (an g104.2 (an g105 tv)))))))))))) (by kernel_rfl) (.cons rfl (MLe.ownLen (enc := Bd) (d := 0) (f := (c92e2 s4)) (RowIs.updR (RowIs.upd RowIs.elems (AcQ s4) rfl) (by omega) (s4.1.getD (Int.toNat s4.2) 0) rfl)) .nil) (.cons rfl (BLe.typed (RowIs.updR (RowIs.upd RowIs.elems (AcQ s4) rfl) (by omega) (s4.1.getD (Int.toNat s4.2) 0) rfl)) .nil) ?_
    refine DW.done ?_
    show DW _ _ _ _ _
    refine RD hnt (nn 3 []) [] [(7,pI (w64 (s4.2 - 1)))] [] [] tv ?_
    exact jD ((c92e3 s4),(w64 (s4.2 - 1))) hm Conv.eqK
   ·intro h97 hm
    refine DW.exit ?_
    refine Ar ?_
    refine Au ?_
    refine Ap ?_
    show DW _ _ _ _ _
    refine DW.done ?_
    show DW _ _ _ _ _
    refine RD hnt (nn 3 []) [7,30] [(6,pI (w64 (k1 + 1)))] [] [] tv ?_
    exact jD s4.1 ⟨hlt1,hm⟩ (Conv.tp [(6,pI (w64 (k1 + 1)))] [] (by kernel_rfl) (.cons rfl (.of_eq (congrArg pI (Tw (lo := (w64 (p1 + 1))) (hi := p2) (by omega) hk1 hlt1 (by omega)))) .nil) .nil)
  ·rcases bt (decide (s4.2 > p1)) with h91 | h91
   ·replace hm := Bg h91 hm
    obtain ⟨g92,g93,g94,g95,hm⟩ := go4 hm
    obtain ⟨r96,hr96,hm⟩ := bo hm
    refine RD hnt (nn 13 (o93 [] true r96 :: pT :: [])) [] [(30,pB r96)] [] [] (an3 h91 (an g92.1 (an g92.2 (an h91 (an g93 (an4 h91 (an g94.1 (an g94.2 (an h91 (an g95 (an h91 (an (Co (s4.1.getD (Int.toNat s4.2) 0) (AcQ s4) r96 hr96) (an h91 tv))))))))))))) ?_
    exact jD r96 hm Conv.eqK
   ·replace hm := Bh h91 hm
    refine RD hnt (nn 4 (sk 10 (pF :: []))) [] [(30,pB false)] [] [] (an5 h91 (an6 h91 tv)) ?_
    exact jD false hm Conv.eqK
 ·intro h75
  have hge1 : ¬ k1 < p2 := by have := of_decide_eq_false h75; omega
  have hm := he1 hge1
  unfold Ks at hm
  refine DW.exit ?_
  refine Ar ?_
  refine Au ?_
  refine Ap ?_
  show DW _ _ _ _ _
  refine DW.done ?_
  obtain rfl := sj hm
  exact endK [roI s1] [] (.p (.tup []))
abbrev o92 (ks : List Nat) (b : Bool) (RES : List Int) : Orc := .call 215 ks b (.p (.tup [])) [roI RES] []

abbrev c96e1 (s1 : (List Int) × Int) (p3 : Int) (y4 : Int) := (Bj (Bj (elI s1.1) (Int.toNat (w64 (p3 + s1.2))) [vi (s1.1.getD (Int.toNat (w64 (p3 + y4))) 0)]) (Int.toNat (w64 (p3 + y4))) (setRange ((Bj (elI s1.1) (Int.toNat (w64 (p3 + s1.2))) [vi (s1.1.getD (Int.toNat (w64 (p3 + y4))) 0)]) (Int.toNat (w64 (p3 + y4)))) 0 [vi (s1.1.getD (Int.toNat (w64 (p3 + s1.2))) 0)]))
abbrev c96e2 (s1 : (List Int) × Int) (p3 : Int) (y4 : Int) := ((s1.1.set (Int.toNat (w64 (p3 + s1.2))) (s1.1.getD (Int.toNat (w64 (p3 + y4))) 0)).set (Int.toNat (w64 (p3 + y4))) (s1.1.getD (Int.toNat (w64 (p3 + s1.2))) 0))
abbrev Wr (s1 : (List Int) × Int) := (w64 ((w64 (2 * s1.2)) + 1))
theorem Mo (p0 : List Int) (p1 : Int) (p2 : Int) (p3 : Int) (RES : List Int) (hm : Eh p0 p1 p2 p3 = some RES) : Spec Tryz.prog 242 [ow 0 p0.length,pI p1,pI p2,pI p3] [roI p0] (.p (.tup [])) [roI RES] [] := by
 unfold Eh at hm
 refine SO Tryz.func242 rfl rfl [(0,ow 0 p0.length),(1,pI p1),(2,pI p2),(3,pI p3)] [(0,ob0 (roI p0))] ?_
 intro cx hnt
 refine Sq (RD hnt (nn 2 []) [1] [(8,pI p1)] [] [] tv ?_)
 refine Bk ?_
 refine DW.whileO (fun (s1 : (List Int) × Int) => Ao [(0,ow 0 s1.1.length),(2,pI p2),(3,pI p3),(8,pI s1.2)] [(0,ob0 (roI s1.1))]) hm Conv.eqK ?_
 intro s1 n1 hm
 unfold Jb at hm
 refine Bk ?_
 refine Sq (RD hnt (nn 4 []) [] [(9,pI (Wr s1))] [] [] tv ?_)
 refine Sq (Sq (RD hnt (nn 3 []) [] [(16,pB (decide ((Wr s1) ≥ p2)))] [] [] tv ?_))
 refine Ag hm ?_ ?_
 ·intro h23 hm
  refine DW.exit ?_
  refine Qd (by decide) ?_
  refine Au ?_
  refine Ar ?_
  refine Au ?_
  refine Ap ?_
  show DW _ _ _ _ _
  refine DW.done ?_
  obtain rfl := sj hm
  exact endK [roI s1.1] [] (.p (.tup []))
 ·intro h23 hm
  refine Sk ?_
  refine Sq (Sq ?_)
  refine Jn (ι := Bool) (fun (y3 : Bool) => Ao [(0,ow 0 s1.1.length),(2,pI p2),(3,pI p3),(8,pI s1.2),(9,pI (Wr s1)),(36,pB y3)] [(0,ob0 (roI s1.1))]) (fun y3 => (Fh p3 s1 n1) y3 = some RES) ?_ ?_
  ·intro y3 hm
   unfold Fh at hm
   refine Jn (ι := Int) (fun (y4 : Int) => Ao [(0,ow 0 s1.1.length),(2,pI p2),(3,pI p3),(8,pI s1.2),(9,pI y4)] [(0,ob0 (roI s1.1))]) (fun y4 => (Dt p3 s1 n1) y4 = some RES) ?_ ?_
   ·intro y4 hm
    unfold Dt at hm
    obtain ⟨g31,g32,g33,g34,hm⟩ := go4 hm
    obtain ⟨r35,hr35,hm⟩ := bo hm
    refine Sq (Sq (RD hnt (nn 12 (o93 [] true r35 :: .no :: [])) [] [(52,pB (!r35))] [] [] (an g31.1 (an g31.2 (an g32 (an g33.1 (an g33.2 (an g34 (an (Co (s1.1.getD (Int.toNat (w64 (p3 + s1.2))) 0) (s1.1.getD (Int.toNat (w64 (p3 + y4))) 0) r35 hr35) tv))))))) ?_))
    refine Ag hm ?_ ?_
    ·intro h36 hm
     obtain rfl := sj hm
     exact DW.ret (Ak [roI s1.1] [] (.p (.tup [])))
    ·intro h36 hm
     refine Sk ?_
     obtain ⟨g37,g38,g39,g40,hm⟩ := go4 hm
     obtain ⟨g41,g42,g43,g44,hm⟩ := go4 hm
     refine Sq (RN hnt (nn 24 []) [(0,ow 0 (c96e2 s1 p3 y4).length),(2,pI p2),(3,pI p3),(9,pI y4)] [(0,ob0 (roI (c96e2 s1 p3 y4)))] [(0,ow 0 s1.1.length)] [(0,.row 1 s1.1.length (c96e1 s1 p3 y4))] (an g37.1 (an g37.2 (an g38 (an g39.1 (an g39.2 (an g40 (an g41.1 (an g41.2 (an g42 (an g43.1 (an g43.2 (an g44 tv)))))))))))) (by kernel_rfl) (.cons rfl (MLe.ownLen (enc := Bd) (d := 0) (f := (c96e1 s1 p3 y4)) (RowIs.updR (RowIs.upd RowIs.elems (s1.1.getD (Int.toNat (w64 (p3 + y4))) 0) rfl) (by omega) (s1.1.getD (Int.toNat (w64 (p3 + s1.2))) 0) rfl)) .nil) (.cons rfl (BLe.typed (RowIs.updR (RowIs.upd RowIs.elems (s1.1.getD (Int.toNat (w64 (p3 + y4))) 0) rfl) (by omega) (s1.1.getD (Int.toNat (w64 (p3 + s1.2))) 0) rfl)) .nil) ?_)
     refine RD hnt (nn 2 []) [9] [(8,pI y4)] [] [] tv ?_
     refine DW.done ?_
     show DW _ _ _ _ _
     exact jD ((c96e2 s1 p3 y4),y4) hm Conv.eqK
   ·refine Ag hm ?_ ?_
    ·intro h30 hm
     refine RD hnt (nn 3 []) [36] [(9,pI (w64 ((Wr s1) + 1)))] [] [] tv ?_
     exact jD (w64 ((Wr s1) + 1)) hm Conv.eqK
    ·intro h30 hm
     refine Sk ?_
     exact jD (Wr s1) hm Conv.t0
  ·rcases bt (decide ((w64 ((Wr s1) + 1)) < p2)) with h24 | h24
   ·replace hm := Bg h24 hm
    obtain ⟨g25,g26,g27,g28,hm⟩ := go4 hm
    obtain ⟨r29,hr29,hm⟩ := bo hm
    refine RD hnt (nn 18 (o93 [] true r29 :: pT :: [])) [16] [(36,pB r29)] [] [] (an5 h24 (an g25.1 (an g25.2 (an h24 (an g26 (an6 h24 (an g27.1 (an g27.2 (an h24 (an g28 (an h24 (an (Co (s1.1.getD (Int.toNat (w64 (p3 + (Wr s1)))) 0) (s1.1.getD (Int.toNat (w64 ((w64 (p3 + (Wr s1))) + 1))) 0) r29 hr29) (an h24 tv))))))))))))) ?_
    exact jD r29 hm Conv.eqK
   ·replace hm := Bh h24 hm
    refine RD hnt (nn 5 (sk 14 (pF :: []))) [16] [(36,pB false)] [] [] (an3 h24 (an6 h24 (an6 h24 tv))) ?_
    exact jD false hm Conv.eqK
abbrev o96 (ks : List Nat) (b : Bool) (RES : List Int) : Orc := .call 242 ks b (.p (.tup [])) [roI RES] []

abbrev c95e1 (s3 : (List Int) × Int) (p1 : Int) := ((s3.1.set (Int.toNat p1) (s3.1.getD (Int.toNat (w64 (p1 + s3.2))) 0)).set (Int.toNat (w64 (p1 + s3.2))) (s3.1.getD (Int.toNat p1) 0))
abbrev c95e2 (s3 : (List Int) × Int) (p1 : Int) := (Bj (Bj (elI s3.1) (Int.toNat p1) [vi (s3.1.getD (Int.toNat (w64 (p1 + s3.2))) 0)]) (Int.toNat (w64 (p1 + s3.2))) (setRange ((Bj (elI s3.1) (Int.toNat p1) [vi (s3.1.getD (Int.toNat (w64 (p1 + s3.2))) 0)]) (Int.toNat (w64 (p1 + s3.2)))) 0 [vi (s3.1.getD (Int.toNat p1) 0)]))
theorem Sj (p0 : List Int) (p1 : Int) (p2 : Int) (RES : List Int) (hm : Fy p0 p1 p2 = some RES) : Spec Tryz.prog 216 [ow 0 p0.length,pI p1,pI p2] [roI p0] (.p (.tup [])) [roI RES] [] := by
 unfold Fy at hm
 refine SO Tryz.func216 rfl rfl [(0,ow 0 p0.length),(1,pI p1),(2,pI p2)] [(0,ob0 (roI p0))] ?_
 intro cx hnt
 refine Sq (RD hnt (nn 2 []) [] [(6,pI p1)] [] [] tv ?_)
 refine Sq (RD hnt (.no :: []) [] [(7,pI 0)] [] [] tv ?_)
 refine Sq (RD hnt (nn 4 []) [1,2] [(8,pI (w64 (p2 - p1)))] [] [] tv ?_)
 refine Sq (Sq (RD hnt (nn 4 []) [] [(9,pI (w64 (Int.tdiv (w64 ((w64 (p2 - p1)) - 1)) 2)))] [] [] (an (by decide : (2 : Int) ≠ 0) tv) ?_))
 refine Bk ?_
 refine DW.whileO (fun (s1 : (List Int) × Int) => Ao [(0,ow 0 s1.1.length),(6,pI p1),(7,pI 0),(8,pI (w64 (p2 - p1))),(9,pI s1.2)] [(0,ob0 (roI s1.1))]) hm Conv.eqK ?_
 intro s1 n1 hm
 unfold Jh at hm
 refine Sq (Sq (RD hnt (nn 2 []) [] [(19,pB (decide (s1.2 ≥ 0)))] [] [] tv ?_))
 refine Ag hm ?_ ?_
 ·intro h26 hm
  refine Sk ?_
  refine Sq (Bk ?_)
  obtain ⟨r27,hr27,hm⟩ := bo hm
  obtain ⟨g28,hm⟩ := go1 hm
  refine RN hnt (nn 4 (o96 [0] true r27 :: [])) [(0,ow 0 r27.length),(6,pI p1),(7,pI 0),(8,pI (w64 (p2 - p1))),(9,pI s1.2)] [(0,ob0 (roI r27))] [(0,ow 0 s1.1.length)] [] (an (Mo s1.1 s1.2 (w64 (p2 - p1)) p1 r27 hr27) (an (⟨rfl,g28⟩ : Body.same (roI s1.1) (roI r27)) tv)) (by kernel_rfl) (.cons rfl (MLe.of_eq (congrArg (MV.own 0 0 0) g28)) .nil) .nil ?_
  refine DW.done ?_
  show DW _ _ _ _ _
  refine RD hnt (nn 3 []) [] [(9,pI (w64 (s1.2 - 1)))] [] [] tv ?_
  exact jD (r27,(w64 (s1.2 - 1))) hm Conv.eqK
 ·intro h26 hm
  refine DW.exit ?_
  refine Ar ?_
  refine Au ?_
  refine Ap ?_
  show DW _ _ _ _ _
  refine Sq (RD hnt (nn 3 []) [8,9,19] [(10,pI (w64 ((w64 (p2 - p1)) - 1)))] [] [] tv ?_)
  refine Bk ?_
  refine DW.whileO (fun (s3 : (List Int) × Int) => Ao [(0,ow 0 s3.1.length),(6,pI p1),(7,pI 0),(10,pI s3.2)] [(0,ob0 (roI s3.1))]) hm Conv.eqK ?_
  intro s3 n3 hm
  unfold Ji at hm
  refine Sq (Sq (RD hnt (nn 2 []) [] [(30,pB (decide (s3.2 ≥ 0)))] [] [] tv ?_))
  refine Ag hm ?_ ?_
  ·intro h40 hm
   refine Sk ?_
   refine Sq (Bk ?_)
   obtain ⟨g41,g42,g43,g44,hm⟩ := go4 hm
   obtain ⟨g45,g46,g47,g48,hm⟩ := go4 hm
   refine Sq (RN hnt (nn 20 []) [(0,ow 0 (c95e1 s3 p1).length),(6,pI p1),(7,pI 0),(10,pI s3.2)] [(0,ob0 (roI (c95e1 s3 p1)))] [(0,ow 0 s3.1.length)] [(0,.row 1 s3.1.length (c95e2 s3 p1))] (an g41.1 (an g41.2 (an g42 (an g43.1 (an g43.2 (an g44 (an g45.1 (an g45.2 (an g46 (an g47.1 (an g47.2 (an g48 tv)))))))))))) (by kernel_rfl) (.cons rfl (MLe.ownLen (enc := Bd) (d := 0) (f := (c95e2 s3 p1)) (RowIs.updR (RowIs.upd RowIs.elems (s3.1.getD (Int.toNat (w64 (p1 + s3.2))) 0) rfl) (by omega) (s3.1.getD (Int.toNat p1) 0) rfl)) .nil) (.cons rfl (BLe.typed (RowIs.updR (RowIs.upd RowIs.elems (s3.1.getD (Int.toNat (w64 (p1 + s3.2))) 0) rfl) (by omega) (s3.1.getD (Int.toNat p1) 0) rfl)) .nil) ?_)
   obtain ⟨r49,hr49,hm⟩ := bo hm
   obtain ⟨g50,hm⟩ := go1 hm
   refine RN hnt (nn 4 (o96 [0] true r49 :: [])) [(0,ow 0 r49.length),(6,pI p1),(7,pI 0),(10,pI s3.2)] [(0,ob0 (roI r49))] [(0,ow 0 (c95e1 s3 p1).length)] [] (an (Mo (c95e1 s3 p1) 0 s3.2 p1 r49 hr49) (an (⟨rfl,g50⟩ : Body.same (roI (c95e1 s3 p1)) (roI r49)) tv)) (by kernel_rfl) (.cons rfl (MLe.of_eq (congrArg (MV.own 0 0 0) g50)) .nil) .nil ?_
   refine DW.done ?_
   show DW _ _ _ _ _
   refine RD hnt (nn 3 []) [] [(10,pI (w64 (s3.2 - 1)))] [] [] tv ?_
   exact jD (r49,(w64 (s3.2 - 1))) hm Conv.eqK
  ·intro h40 hm
   refine DW.exit ?_
   refine Ar ?_
   refine Au ?_
   refine Ap ?_
   show DW _ _ _ _ _
   refine DW.done ?_
   obtain rfl := sj hm
   exact endK [roI s3.1] [] (.p (.tup []))
abbrev o95 (ks : List Nat) (b : Bool) (RES : List Int) : Orc := .call 216 ks b (.p (.tup [])) [roI RES] []

theorem Iw (p0 : List Int) (p1 : Int) (p2 : Int) (p3 : Int) (RES : Int × Int × Int) (hm : Cr p0 p1 p2 p3 = some RES) : Spec Tryz.prog 251 [.p (slI p0),pI p1,pI p2,rr 0] [.box [pI p3]] (.p (.tup [vi RES.1,vi RES.2.1])) [.box [pI RES.2.2]] [] := by
 unfold Cr at hm
 refine SO Tryz.func251 rfl rfl [(0,.p (slI p0)),(1,pI p1),(2,pI p2),(3,rr 0)] [(0,bx [pI p3])] ?_
 intro cx hnt
 refine Sq (RD hnt (nn 2 []) [] [] [] [] tv ?_)
 obtain ⟨g1,g2,hm⟩ := go2 hm
 obtain ⟨r3,hr3,hm⟩ := bo hm
 refine Sq (Sq (RD hnt (nn 8 (o93 [] true r3 :: [])) [0] [(18,pB r3)] [] [] (an g1.1 (an g1.2 (an g2.1 (an g2.2 (an (Co (p0.getD (Int.toNat p2) 0) (p0.getD (Int.toNat p1) 0) r3 hr3) tv))))) ?_))
 refine Ag hm ?_ ?_
 ·intro h4 hm
  refine Sq (RD hnt (nn 6 []) [3,18] [] [] [(0,bx [pI (w64 (p3 + 1))])] tv ?_)
  refine Sq (RD hnt (nn 4 []) [1,2] [(8,pI p2),(9,pI p1)] [] [] tv ?_)
  obtain rfl := sj hm
  exact DW.ret (Ak [.box [pI (w64 (p3 + 1))]] [] (.p (.tup [vi p2,vi p1])))
 ·intro h4 hm
  refine Sk ?_
  refine Sq (RK hnt (nn 4 []) [(8,pI p1),(9,pI p2)] [(0,bx [pI p3])] tv ?_)
  obtain rfl := sj hm
  exact DW.ret (Ak [.box [pI p3]] [] (.p (.tup [vi p1,vi p2])))
abbrev o100 (ks : List Nat) (b : Bool) (RES : Int × Int × Int) : Orc := .call 251 ks b (.p (.tup [vi RES.1,vi RES.2.1])) [.box [pI RES.2.2]] []

theorem Np (p0 : List Int) (p1 : Int) (p2 : Int) (p3 : Int) (p4 : Int) (RES : Int × Int) (hm : Dd p0 p1 p2 p3 p4 = some RES) : Spec Tryz.prog 246 [.p (slI p0),pI p1,pI p2,pI p3,rr 0] [.box [pI p4]] (pI RES.1) [.box [pI RES.2]] [] := by
 unfold Dd at hm
 refine SO Tryz.func246 rfl rfl [(0,.p (slI p0)),(1,pI p1),(2,pI p2),(3,pI p3),(4,rr 0)] [(0,bx [pI p4])] ?_
 intro cx hnt
 refine Sq (RD hnt (.no :: []) [] [] [] [] tv ?_)
 obtain ⟨r1,hr1,hm⟩ := bo hm
 refine Sq (RD hnt (nn 4 (o100 [0] true r1 :: nn 5 [])) [] [(1,pI r1.1),(2,pI r1.2.1)] [] [(0,bx [pI r1.2.2])] (an (Iw p0 p1 p2 p4 r1 hr1) (an tv tv)) ?_)
 obtain ⟨r2,hr2,hm⟩ := bo hm
 refine Sq (RD hnt (nn 4 (o100 [0] true r2 :: nn 5 [])) [3] [(2,pI r2.1)] [] [(0,bx [pI r2.2.2])] (an (Iw p0 r1.2.1 p3 r1.2.2 r2 hr2) (an tv tv)) ?_)
 obtain ⟨r3,hr3,hm⟩ := bo hm
 refine Sq (RK hnt (nn 4 (o100 [0] true r3 :: nn 5 [])) [(2,pI r3.2.1)] [(0,bx [pI r3.2.2])] (an (Iw p0 r1.1 r2.1 r2.2.2 r3 hr3) (an tv tv)) ?_)
 refine Sq (RD hnt (nn 2 []) [2] [(10,pI r3.2.1)] [] [] tv ?_)
 obtain rfl := sj hm
 exact DW.ret (Ak [.box [pI r3.2.2]] [] (pI r3.2.1))
abbrev o99 (ks : List Nat) (b : Bool) (RES : Int × Int) : Orc := .call 246 ks b (pI RES.1) [.box [pI RES.2]] []

theorem Gv (p0 : List Int) (p1 : Int) (p2 : Int) (RES : Int × Int) (hm : Bu p0 p1 p2 = some RES) : Spec Tryz.prog 245 [.p (slI p0),pI p1,rr 0] [.box [pI p2]] (pI RES.1) [.box [pI RES.2]] [] := by
 unfold Bu at hm
 refine SO Tryz.func245 rfl rfl [(0,.p (slI p0)),(1,pI p1),(2,rr 0)] [(0,bx [pI p2])] ?_
 intro cx hnt
 refine Sq (RD hnt (.no :: []) [] [] [] [] tv ?_)
 obtain ⟨r1,hr1,hm⟩ := bo hm
 refine Sq (RK hnt (nn 7 (o99 [0] true r1 :: .no :: [])) [(6,pI r1.1)] [(0,bx [pI r1.2])] (an (Np p0 (w64 (p1 - 1)) p1 (w64 (p1 + 1)) p2 r1 hr1) (an tv tv)) ?_)
 obtain rfl := sj hm
 exact DW.ret (Ak [.box [pI r1.2]] [] (pI r1.1))
abbrev o98 (ks : List Nat) (b : Bool) (RES : Int × Int) : Orc := .call 245 ks b (pI RES.1) [.box [pI RES.2]] []

abbrev Zf (p2 : Int) (p1 : Int) := (w64 (Int.tdiv (w64 (p2 - p1)) 4))
abbrev c97e2 (p1 : Int) (p2 : Int) := (w64 (p1 + (w64 ((Zf p2 p1) * 2))))
theorem Rf (p0 : List Int) (p1 : Int) (p2 : Int) (RES : Int × Int) (hm : Ct p0 p1 p2 = some RES) : Spec Tryz.prog 218 [.p (slI p0),pI p1,pI p2] [] (.p (.tup [vi RES.1,vi RES.2])) [] [] := by
 unfold Ct at hm
 refine SO Tryz.func218 rfl rfl [(0,.p (slI p0)),(1,pI p1),(2,pI p2)] [] ?_
 intro cx hnt
 refine Sq (RD hnt (nn 2 []) [] [] [] [] tv ?_)
 refine Sq (RD hnt (nn 4 []) [2] [(8,pI (w64 (p2 - p1)))] [] [] tv ?_)
 refine Sq (RD hnt (.no :: []) [] [(9,rr 1072)] [] [(1072,bx [pI 0])] tv ?_)
 refine Sq (RD hnt (nn 6 []) [] [(10,pI (w64 (p1 + (w64 ((Zf p2 p1) * 1)))))] [] [] (an (by decide : (4 : Int) ≠ 0) tv) ?_)
 refine Sq (RD hnt (nn 6 []) [] [(11,pI (c97e2 p1 p2))] [] [] (an (by decide : (4 : Int) ≠ 0) tv) ?_)
 refine Sq (RD hnt (nn 6 []) [1] [(12,pI (w64 (p1 + (w64 ((Zf p2 p1) * 3)))))] [] [] (an (by decide : (4 : Int) ≠ 0) tv) ?_)
 refine Sq (Sq (RD hnt (nn 2 []) [] [(32,pB (decide ((w64 (p2 - p1)) ≥ 8)))] [] [] tv ?_))
 refine Jn (ι := Int × Int) (fun (y1 : Int × Int) => Ao [(9,rr 1072),(11,pI y1.2)] [(1072,bx [pI y1.1])]) (fun y1 => Ck y1 = some RES) ?_ ?_
 ·intro y1 hm
  unfold Ck at hm
  refine Sq (RK hnt (.no :: []) [(11,pI y1.2),(49,pI y1.1)] [] tv ?_)
  refine Bk ?_
  refine Sq (RD hnt (nn 2 []) [] [(51,pB (y1.1 == 0))] [] [] tv ?_)
  refine Ag hm ?_ ?_
  ·intro h7 hm
   refine Sq (RK hnt (nn 3 []) [(6,pI y1.2),(7,pI 1)] [] tv ?_)
   obtain rfl := sj hm
   exact DW.ret (Ak [] [] (.p (.tup [vi y1.2,vi 1])))
  ·intro h7 hm
   refine Sq (RK hnt (nn 2 []) [(11,pI y1.2),(54,pB (y1.1 == 12))] [] tv ?_)
   refine Ag hm ?_ ?_
   ·intro h8 hm
    refine Sq (RK hnt (nn 3 []) [(6,pI y1.2),(7,pI 2)] [] tv ?_)
    obtain rfl := sj hm
    exact DW.ret (Ak [] [] (.p (.tup [vi y1.2,vi 2])))
   ·intro h8 hm
    refine Sq (RK hnt (nn 3 []) [(6,pI y1.2),(7,pI 0)] [] tv ?_)
    obtain rfl := sj hm
    exact DW.ret (Ak [] [] (.p (.tup [vi y1.2,vi 0])))
 ·refine Ag hm ?_ ?_
  ·intro h1 hm
   refine Sq (Sq (RD hnt (nn 2 []) [8,32] [(34,pB (decide ((w64 (p2 - p1)) ≥ 50)))] [] [] tv ?_))
   refine Jn (ι := Int × Int × Int × Int) (fun (y2 : Int × Int × Int × Int) => Ao [(0,.p (slI p0)),(9,rr 1072),(10,pI y2.2.1),(11,pI y2.2.2.1),(12,pI y2.2.2.2)] [(1072,bx [pI y2.1])]) (fun y2 => (Cj p0) y2 = some RES) ?_ ?_
   ·intro y2 hm
    unfold Cj at hm
    obtain ⟨r6,hr6,hm⟩ := bo hm
    refine RK hnt (nn 4 (o99 [1072] true r6 :: .no :: [])) [(9,rr 1072),(11,pI r6.1)] [(1072,bx [pI r6.2])] (an (Np p0 y2.2.1 y2.2.2.1 y2.2.2.2 y2.1 r6 hr6) (an tv tv)) ?_
    exact jD (r6.2,r6.1) hm .refl
   ·refine Ag hm ?_ ?_
    ·intro h2 hm
     obtain ⟨r3,hr3,hm⟩ := bo hm
     refine Sq (RK hnt (nn 2 (o98 [1072] true r3 :: .no :: [])) [(0,.p (slI p0)),(9,rr 1072),(10,pI r3.1),(11,pI (c97e2 p1 p2)),(12,pI (w64 (p1 + (w64 ((Zf p2 p1) * 3)))))] [(1072,bx [pI r3.2])] (an (Gv p0 (w64 (p1 + (w64 ((Zf p2 p1) * 1)))) 0 r3 hr3) (an tv tv)) ?_)
     obtain ⟨r4,hr4,hm⟩ := bo hm
     refine Sq (RD hnt (nn 2 (o98 [1072] true r4 :: .no :: [])) [] [(11,pI r4.1)] [] [(1072,bx [pI r4.2])] (an (Gv p0 (c97e2 p1 p2) r3.2 r4 hr4) (an tv tv)) ?_)
     obtain ⟨r5,hr5,hm⟩ := bo hm
     refine RD hnt (nn 2 (o98 [1072] true r5 :: .no :: [])) [] [(12,pI r5.1)] [] [(1072,bx [pI r5.2])] (an (Gv p0 (w64 (p1 + (w64 ((Zf p2 p1) * 3)))) r4.2 r5 hr5) (an tv tv)) ?_
     exact jD (r5.2,r3.1,r4.1,r5.1) hm Conv.eqK
    ·intro h2 hm
     refine Sk ?_
     exact jD (0,(w64 (p1 + (w64 ((Zf p2 p1) * 1)))),(c97e2 p1 p2),(w64 (p1 + (w64 ((Zf p2 p1) * 3))))) hm Conv.t0
  ·intro h1 hm
   refine Sk ?_
   exact jD (0,(c97e2 p1 p2)) hm Conv.t0
abbrev o97 (ks : List Nat) (b : Bool) (RES : Int × Int) : Orc := .call 218 ks b (.p (.tup [vi RES.1,vi RES.2])) [] []

abbrev c101e1 (s1 : (List Int) × Int × Int) := (Bj (Bj (elI s1.1) (Int.toNat s1.2.1) [vi (s1.1.getD (Int.toNat s1.2.2) 0)]) (Int.toNat s1.2.2) (setRange ((Bj (elI s1.1) (Int.toNat s1.2.1) [vi (s1.1.getD (Int.toNat s1.2.2) 0)]) (Int.toNat s1.2.2)) 0 [vi (s1.1.getD (Int.toNat s1.2.1) 0)]))
abbrev c101e2 (s1 : (List Int) × Int × Int) := ((s1.1.set (Int.toNat s1.2.1) (s1.1.getD (Int.toNat s1.2.2) 0)).set (Int.toNat s1.2.2) (s1.1.getD (Int.toNat s1.2.1) 0))
theorem Qw (p0 : List Int) (p1 : Int) (p2 : Int) (RES : List Int) (hm : Ek p0 p1 p2 = some RES) : Spec Tryz.prog 219 [ow 0 p0.length,pI p1,pI p2] [roI p0] (.p (.tup [])) [roI RES] [] := by
 unfold Ek at hm
 refine SO Tryz.func219 rfl rfl [(0,ow 0 p0.length),(1,pI p1),(2,pI p2)] [(0,ob0 (roI p0))] ?_
 intro cx hnt
 refine Sq (RD hnt (nn 2 []) [1] [(6,pI p1)] [] [] tv ?_)
 refine Sq (RD hnt (nn 3 []) [2] [(7,pI (w64 (p2 - 1)))] [] [] tv ?_)
 refine Bk ?_
 refine DW.whileO (fun (s1 : (List Int) × Int × Int) => Ao [(0,ow 0 s1.1.length),(6,pI s1.2.1),(7,pI s1.2.2)] [(0,ob0 (roI s1.1))]) hm Conv.eqK ?_
 intro s1 n1 hm
 unfold Hs at hm
 refine Sq (Sq (RD hnt (nn 3 []) [] [(13,pB (decide (s1.2.1 < s1.2.2)))] [] [] tv ?_))
 refine Ag hm ?_ ?_
 ·intro h10 hm
  refine Sk ?_
  refine Bk ?_
  obtain ⟨g11,g12,g13,g14,hm⟩ := go4 hm
  obtain ⟨g15,g16,g17,g18,hm⟩ := go4 hm
  refine Sq (RN hnt (nn 16 []) [(0,ow 0 (c101e2 s1).length),(6,pI s1.2.1),(7,pI s1.2.2)] [(0,ob0 (roI (c101e2 s1)))] [(0,ow 0 s1.1.length)] [(0,.row 1 s1.1.length (c101e1 s1))] (an g11.1 (an g11.2 (an g12 (an g13.1 (an g13.2 (an g14 (an g15.1 (an g15.2 (an g16 (an g17.1 (an g17.2 (an g18 tv)))))))))))) (by kernel_rfl) (.cons rfl (MLe.ownLen (enc := Bd) (d := 0) (f := (c101e1 s1)) (RowIs.updR (RowIs.upd RowIs.elems (s1.1.getD (Int.toNat s1.2.2) 0) rfl) (by omega) (s1.1.getD (Int.toNat s1.2.1) 0) rfl)) .nil) (.cons rfl (BLe.typed (RowIs.updR (RowIs.upd RowIs.elems (s1.1.getD (Int.toNat s1.2.2) 0) rfl) (by omega) (s1.1.getD (Int.toNat s1.2.1) 0) rfl)) .nil) ?_)
  refine Sq (RD hnt (nn 3 []) [] [(6,pI (w64 (s1.2.1 + 1)))] [] [] tv ?_)
  refine RD hnt (nn 3 []) [] [(7,pI (w64 (s1.2.2 - 1)))] [] [] tv ?_
  refine DW.done ?_
  show DW _ _ _ _ _
  exact jD ((c101e2 s1),(w64 (s1.2.1 + 1)),(w64 (s1.2.2 - 1))) hm Conv.eqK
 ·intro h10 hm
  refine DW.exit ?_
  refine Ar ?_
  refine Au ?_
  refine Ap ?_
  show DW _ _ _ _ _
  refine DW.done ?_
  obtain rfl := sj hm
  exact endK [roI s1.1] [] (.p (.tup []))
abbrev o101 (ks : List Nat) (b : Bool) (RES : List Int) : Orc := .call 219 ks b (.p (.tup [])) [roI RES] []

abbrev AaM (s15 : (List Int) × Int) := (s15.1.getD (Int.toNat (w64 (s15.2 - 1))) 0)
abbrev c102e2 (s1 : (List Int) × Int) (s12 : Int) := (Bj (Bj (elI s1.1) (Int.toNat s12) [vi (s1.1.getD (Int.toNat (w64 (s12 - 1))) 0)]) (Int.toNat (w64 (s12 - 1))) (setRange ((Bj (elI s1.1) (Int.toNat s12) [vi (s1.1.getD (Int.toNat (w64 (s12 - 1))) 0)]) (Int.toNat (w64 (s12 - 1)))) 0 [vi (s1.1.getD (Int.toNat s12) 0)]))
abbrev c102e3 (s16 : List Int) (k16 : Int) := (Bj (Bj (elI s16) (Int.toNat k16) [vi (s16.getD (Int.toNat (w64 (k16 - 1))) 0)]) (Int.toNat (w64 (k16 - 1))) (setRange ((Bj (elI s16) (Int.toNat k16) [vi (s16.getD (Int.toNat (w64 (k16 - 1))) 0)]) (Int.toNat (w64 (k16 - 1)))) 0 [vi (s16.getD (Int.toNat k16) 0)]))
abbrev c102e4 (s1 : (List Int) × Int) (s12 : Int) := ((s1.1.set (Int.toNat s12) (s1.1.getD (Int.toNat (w64 (s12 - 1))) 0)).set (Int.toNat (w64 (s12 - 1))) (s1.1.getD (Int.toNat s12) 0))
abbrev c102e5 (s16 : List Int) (k16 : Int) := ((s16.set (Int.toNat k16) (s16.getD (Int.toNat (w64 (k16 - 1))) 0)).set (Int.toNat (w64 (k16 - 1))) (s16.getD (Int.toNat k16) 0))
abbrev c102e6 (s15 : (List Int) × Int) := (Bj (Bj (elI s15.1) (Int.toNat s15.2) [vi (AaM s15)]) (Int.toNat (w64 (s15.2 - 1))) (setRange ((Bj (elI s15.1) (Int.toNat s15.2) [vi (AaM s15)]) (Int.toNat (w64 (s15.2 - 1)))) 0 [vi (s15.1.getD (Int.toNat s15.2) 0)]))
abbrev c102e7 (s15 : (List Int) × Int) := ((s15.1.set (Int.toNat s15.2) (AaM s15)).set (Int.toNat (w64 (s15.2 - 1))) (s15.1.getD (Int.toNat s15.2) 0))
theorem No (p0 : List Int) (p1 : Int) (p2 : Int) (RES : Bool × (List Int)) (hm : Bz p0 p1 p2 = some RES) : Spec Tryz.prog 220 [ow 0 p0.length,pI p1,pI p2] [roI p0] (pB RES.1) [roI RES.2] [] := by
 unfold Bz at hm
 refine SO Tryz.func220 rfl rfl [(0,ow 0 p0.length),(1,pI p1),(2,pI p2)] [(0,ob0 (roI p0))] ?_
 intro cx hnt
 refine Sq (RD hnt (.no :: []) [] [] [] [] tv ?_)
 refine Sq (RD hnt (nn 3 []) [] [(7,pI (w64 (p1 + 1)))] [] [] tv ?_)
 refine Sq (Sq (RD hnt (.no :: []) [] [(8,pI 0)] [] [] tv ?_))
 refine Bk ?_
 refine DW.forO (fun (k1 : Int) (s1 : (List Int) × Int) => Ao [(0,ow 0 s1.1.length),(1,pI p1),(2,pI p2),(7,pI s1.2),(8,pI k1)] [(0,ob0 (roI s1.1))]) (lo := 0) (hi := 5) hm Conv.eqK ?_
 intro k1 s1 n1 hk1 hs1 he1
 refine Sq (Sq (RD hnt (nn 2 []) [] [(14,pB (decide (k1 < 5)))] [] [] tv ?_))
 refine Cm (decide (k1 < 5)) ?_ ?_
 ·intro h391
  have hlt1 : k1 < 5 := by have := of_decide_eq_true h391; omega
  have hm := hs1 hlt1
  unfold Dn at hm
  refine Sk ?_
  refine Sq ?_
  refine Jn (ι := (List Int) × Int) (fun (y11 : (List Int) × Int) => Ao [(0,ow 0 y11.1.length),(1,pI p1),(2,pI p2),(7,pI y11.2),(8,pI k1)] [(0,ob0 (roI y11.1))]) (fun y11 => (Bs n1) y11 = some RES) ?_ ?_
  ·intro y11 hm
   unfold Bs at hm
   refine RD hnt (nn 3 []) [] [(8,pI (w64 (k1 + 1)))] [] [] tv ?_
   exact jD (y11.1,y11.2) ⟨hlt1,hm⟩ (Conv.tp [(8,pI (w64 (k1 + 1)))] [] (by kernel_rfl) (.cons rfl (.of_eq (congrArg pI (Tw (lo := 0) (hi := 5) (by omega) hk1 hlt1 (by omega)))) .nil) .nil)
  ·refine Bk ?_
   refine Sq (Bk ?_)
   refine DW.whileO (fun (s12 : Int) => Ao [(0,ow 0 s1.1.length),(1,pI p1),(2,pI p2),(7,pI s12),(8,pI k1)] [(0,ob0 (roI s1.1))]) hm Conv.t0 ?_
   intro s12 n12 hm
   unfold Dl at hm
   refine Sq (Sq ?_)
   refine Jn (ι := Bool) (fun (y14 : Bool) => Ao [(0,ow 0 s1.1.length),(1,pI p1),(2,pI p2),(7,pI s12),(8,pI k1),(32,pB y14)] [(0,ob0 (roI s1.1))]) (fun y14 => (Bn p1 p2 s1 n1 s12 n12) y14 = some RES) ?_ ?_
   ·intro y14 hm
    unfold Bn at hm
    refine Ag hm ?_ ?_
    ·intro h492 hm
     refine Sk ?_
     refine Bk ?_
     refine RD hnt (nn 3 []) [32] [(7,pI (w64 (s12 + 1)))] [] [] tv ?_
     refine DW.done ?_
     show DW _ _ _ _ _
     exact jD (w64 (s12 + 1)) hm Conv.eqK
    ·intro h492 hm
     refine DW.exit ?_
     refine Ar ?_
     refine Au ?_
     refine Ap ?_
     show DW _ _ _ _ _
     refine Sq (Sq (RD hnt (nn 3 []) [32] [(37,pB (s12 == p2))] [] [] tv ?_))
     refine Ag hm ?_ ?_
     ·intro h493 hm
      refine Sq (RK hnt (.no :: []) [(6,pB true)] [(0,ob0 (roI s1.1))] tv ?_)
      obtain rfl := sj hm
      exact DW.ret (Ak [roI s1.1] [] (pB true))
     ·intro h493 hm
      refine Sk ?_
      refine Sq (Sq (RD hnt (nn 4 []) [37] [(41,pB (decide ((w64 (p2 - p1)) < 50)))] [] [] tv ?_))
      refine Ag hm ?_ ?_
      ·intro h494 hm
       refine Sq (RK hnt (.no :: []) [(6,pB false)] [(0,ob0 (roI s1.1))] tv ?_)
       obtain rfl := sj hm
       exact DW.ret (Ak [roI s1.1] [] (pB false))
      ·intro h494 hm
       refine Sk ?_
       obtain ⟨g495,g496,g497,g498,hm⟩ := go4 hm
       obtain ⟨g499,g500,g501,g502,hm⟩ := go4 hm
       refine Sq (RN hnt (nn 18 []) [(0,ow 0 (c102e4 s1 s12).length),(1,pI p1),(2,pI p2),(7,pI s12),(8,pI k1)] [(0,ob0 (roI (c102e4 s1 s12)))] [(0,ow 0 s1.1.length)] [(0,.row 1 s1.1.length (c102e2 s1 s12))] (an g495.1 (an g495.2 (an g496 (an g497.1 (an g497.2 (an g498 (an g499.1 (an g499.2 (an g500 (an g501.1 (an g501.2 (an g502 tv)))))))))))) (by kernel_rfl) (.cons rfl (MLe.ownLen (enc := Bd) (d := 0) (f := (c102e2 s1 s12)) (RowIs.updR (RowIs.upd RowIs.elems (s1.1.getD (Int.toNat (w64 (s12 - 1))) 0) rfl) (by omega) (s1.1.getD (Int.toNat s12) 0) rfl)) .nil) (.cons rfl (BLe.typed (RowIs.updR (RowIs.upd RowIs.elems (s1.1.getD (Int.toNat (w64 (s12 - 1))) 0) rfl) (by omega) (s1.1.getD (Int.toNat s12) 0) rfl)) .nil) ?_)
       refine Sq (Sq (RD hnt (nn 4 []) [] [(61,pB (decide ((w64 (s12 - p1)) ≥ 2)))] [] [] tv ?_))
       refine Jn (ι := List Int) (fun (y15 : List Int) => Ao [(0,ow 0 y15.length),(1,pI p1),(2,pI p2),(7,pI s12),(8,pI k1)] [(0,ob0 (roI y15))]) (fun y15 => (Bm p2 n1 s12) y15 = some RES) ?_ ?_
       ·intro y15 hm
        unfold Bm at hm
        refine Sq (RD hnt (nn 4 []) [] [(98,pB (decide ((w64 (p2 - s12)) ≥ 2)))] [] [] tv ?_)
        refine Ag hm ?_ ?_
        ·intro h534 hm
         refine Sq (RD hnt (nn 3 []) [98] [(10,pI (w64 (s12 + 1)))] [] [] tv ?_)
         refine Bk ?_
         obtain ⟨hc16,hm⟩ := go1 hm
         refine DW.forO (fun (k16 : Int) (s16 : List Int) => Ao [(0,ow 0 s16.length),(1,pI p1),(2,pI p2),(7,pI s12),(8,pI k1),(10,pI k16)] [(0,ob0 (roI s16))]) (lo := (w64 (s12 + 1))) (hi := p2) hm Conv.eqK ?_
         intro k16 s16 n16 hk16 hs16 he16
         refine Sq (Sq (RD hnt (nn 3 []) [] [(103,pB (decide (k16 < p2)))] [] [] tv ?_))
         refine Cm (decide (k16 < p2)) ?_ ?_
         ·intro h565
          have hlt16 : k16 < p2 := by have := of_decide_eq_true h565; omega
          have hm := hs16 hlt16
          unfold Fq at hm
          refine Sk ?_
          refine Sq (Bk ?_)
          obtain ⟨g566,g567,g568,g569,hm⟩ := go4 hm
          obtain ⟨r570,hr570,hm⟩ := bo hm
          refine Sq (Sq (RD hnt (nn 9 (o93 [] true r570 :: .no :: [])) [103] [(116,pB (!r570))] [] [] (an g566.1 (an g566.2 (an g567 (an g568.1 (an g568.2 (an g569 (an (Co (s16.getD (Int.toNat k16) 0) (s16.getD (Int.toNat (w64 (k16 - 1))) 0) r570 hr570) tv))))))) ?_))
          refine Ag hm ?_ ?_
          ·intro h571 hm
           refine DW.exit ?_
           refine Qd (by decide) ?_
           refine Au ?_
           refine Ar ?_
           refine Au ?_
           refine Ap ?_
           show DW _ _ _ _ _
           exact bD (s16,s12) hm Conv.t0
          ·intro h571 hm
           refine Sk ?_
           obtain ⟨g572,g573,g574,g575,hm⟩ := go4 hm
           obtain ⟨g576,g577,g578,g579,hm⟩ := go4 hm
           refine RN hnt (nn 18 []) [(0,ow 0 (c102e5 s16 k16).length),(1,pI p1),(2,pI p2),(7,pI s12),(8,pI k1),(10,pI k16)] [(0,ob0 (roI (c102e5 s16 k16)))] [(0,ow 0 s16.length)] [(0,.row 1 s16.length (c102e3 s16 k16))] (an g572.1 (an g572.2 (an g573 (an g574.1 (an g574.2 (an g575 (an g576.1 (an g576.2 (an g577 (an g578.1 (an g578.2 (an g579 tv)))))))))))) (by kernel_rfl) (.cons rfl (MLe.ownLen (enc := Bd) (d := 0) (f := (c102e3 s16 k16)) (RowIs.updR (RowIs.upd RowIs.elems (s16.getD (Int.toNat (w64 (k16 - 1))) 0) rfl) (by omega) (s16.getD (Int.toNat k16) 0) rfl)) .nil) (.cons rfl (BLe.typed (RowIs.updR (RowIs.upd RowIs.elems (s16.getD (Int.toNat (w64 (k16 - 1))) 0) rfl) (by omega) (s16.getD (Int.toNat k16) 0) rfl)) .nil) ?_
           refine DW.done ?_
           show DW _ _ _ _ _
           refine RD hnt (nn 3 []) [] [(10,pI (w64 (k16 + 1)))] [] [] tv ?_
           exact jD (c102e5 s16 k16) ⟨hlt16,hm⟩ (Conv.tp [(10,pI (w64 (k16 + 1)))] [] (by kernel_rfl) (.cons rfl (.of_eq (congrArg pI (Tw (lo := (w64 (s12 + 1))) (hi := p2) (by omega) hk16 hlt16 (by omega)))) .nil) .nil)
         ·intro h565
          have hge16 : ¬ k16 < p2 := by have := of_decide_eq_false h565; omega
          have hm := he16 hge16
          unfold Ic at hm
          refine DW.exit ?_
          refine Ar ?_
          refine Au ?_
          refine Ap ?_
          show DW _ _ _ _ _
          exact bD (s16,s12) hm Conv.t0
        ·intro h534 hm
         refine Sk ?_
         exact bD (y15,s12) hm Conv.t0
       ·refine Ag hm ?_ ?_
        ·intro h503 hm
         refine Sq (RD hnt (nn 3 []) [61] [(9,pI (w64 (s12 - 1)))] [] [] tv ?_)
         refine Bk ?_
         refine DW.whileO (fun (s15 : (List Int) × Int) => Ao [(0,ow 0 s15.1.length),(1,pI p1),(2,pI p2),(7,pI s12),(8,pI k1),(9,pI s15.2)] [(0,ob0 (roI s15.1))]) hm Conv.eqK ?_
         intro s15 n15 hm
         unfold Fr at hm
         refine Sq (Sq (RD hnt (nn 2 []) [] [(65,pB (decide (s15.2 ≥ 1)))] [] [] tv ?_))
         refine Ag hm ?_ ?_
         ·intro h519 hm
          refine Sk ?_
          refine Sq (Bk ?_)
          obtain ⟨g520,g521,g522,g523,hm⟩ := go4 hm
          obtain ⟨r524,hr524,hm⟩ := bo hm
          refine Sq (Sq (RD hnt (nn 9 (o93 [] true r524 :: .no :: [])) [65] [(78,pB (!r524))] [] [] (an g520.1 (an g520.2 (an g521 (an g522.1 (an g522.2 (an g523 (an (Co (s15.1.getD (Int.toNat s15.2) 0) (AaM s15) r524 hr524) tv))))))) ?_))
          refine Ag hm ?_ ?_
          ·intro h525 hm
           refine DW.exit ?_
           refine Qd (by decide) ?_
           refine Au ?_
           refine Ar ?_
           refine Au ?_
           refine Ap ?_
           show DW _ _ _ _ _
           exact jD s15.1 hm Conv.t0
          ·intro h525 hm
           refine Sk ?_
           obtain ⟨g526,g527,g528,g529,hm⟩ := go4 hm
           obtain ⟨g530,g531,g532,g533,hm⟩ := go4 hm
           refine RN hnt (nn 18 []) [(0,ow 0 (c102e7 s15).length),(1,pI p1),(2,pI p2),(7,pI s12),(8,pI k1),(9,pI s15.2)] [(0,ob0 (roI (c102e7 s15)))] [(0,ow 0 s15.1.length)] [(0,.row 1 s15.1.length (c102e6 s15))] (an g526.1 (an g526.2 (an g527 (an g528.1 (an g528.2 (an g529 (an g530.1 (an g530.2 (an g531 (an g532.1 (an g532.2 (an g533 tv)))))))))))) (by kernel_rfl) (.cons rfl (MLe.ownLen (enc := Bd) (d := 0) (f := (c102e6 s15)) (RowIs.updR (RowIs.upd RowIs.elems (AaM s15) rfl) (by omega) (s15.1.getD (Int.toNat s15.2) 0) rfl)) .nil) (.cons rfl (BLe.typed (RowIs.updR (RowIs.upd RowIs.elems (AaM s15) rfl) (by omega) (s15.1.getD (Int.toNat s15.2) 0) rfl)) .nil) ?_
           refine DW.done ?_
           show DW _ _ _ _ _
           refine RD hnt (nn 3 []) [] [(9,pI (w64 (s15.2 - 1)))] [] [] tv ?_
           exact jD ((c102e7 s15),(w64 (s15.2 - 1))) hm Conv.eqK
         ·intro h519 hm
          refine DW.exit ?_
          refine Ar ?_
          refine Au ?_
          refine Ap ?_
          show DW _ _ _ _ _
          exact jD s15.1 hm Conv.t0
        ·intro h503 hm
         refine Sk ?_
         exact jD (c102e4 s1 s12) hm Conv.t0
   ·rcases bt (decide (s12 < p2)) with h486 | h486
    ·replace hm := Bg h486 hm
     obtain ⟨g487,g488,g489,g490,hm⟩ := go4 hm
     obtain ⟨r491,hr491,hm⟩ := bo hm
     refine RD hnt (nn 13 (o93 [] true r491 :: .no :: pT :: [])) [] [(32,pB (!r491))] [] [] (an3 h486 (an g487.1 (an g487.2 (an h486 (an g488 (an4 h486 (an g489.1 (an g489.2 (an h486 (an g490 (an h486 (an (Co (s1.1.getD (Int.toNat s12) 0) (s1.1.getD (Int.toNat (w64 (s12 - 1))) 0) r491 hr491) (an2 h486 tv))))))))))))) ?_
     exact jD (!r491) hm Conv.eqK
    ·replace hm := Bh h486 hm
     refine RD hnt (nn 4 (sk 11 (pF :: []))) [] [(32,pB false)] [] [] (an6 h486 (an6 h486 tv)) ?_
     exact jD false hm Conv.eqK
 ·intro h391
  have hge1 : ¬ k1 < 5 := by have := of_decide_eq_false h391; omega
  have hm := he1 hge1
  unfold Ik at hm
  refine DW.exit ?_
  refine Ar ?_
  refine Au ?_
  refine Ap ?_
  show DW _ _ _ _ _
  refine Sq (RK hnt (.no :: []) [(6,pB false)] [(0,ob0 (roI s1.1))] tv ?_)
  obtain rfl := sj hm
  exact DW.ret (Ak [roI s1.1] [] (pB false))
abbrev o102 (ks : List Nat) (b : Bool) (RES : Bool × (List Int)) : Orc := .call 220 ks b (pB RES.1) [roI RES.2] []

abbrev c103e1 (p0 : List Int) (p1 : Int) (p3 : Int) := (Bj (Bj (elI p0) (Int.toNat p1) [vi (p0.getD (Int.toNat p3) 0)]) (Int.toNat p3) (setRange ((Bj (elI p0) (Int.toNat p1) [vi (p0.getD (Int.toNat p3) 0)]) (Int.toNat p3)) 0 [vi (p0.getD (Int.toNat p1) 0)]))
abbrev c103e2 (s1 : (List Int) × Int × Int) (s5 : Int) (s7 : Int) := (Bj (Bj (elI s1.1) (Int.toNat s5) [vi (s1.1.getD (Int.toNat s7) 0)]) (Int.toNat s7) (setRange ((Bj (elI s1.1) (Int.toNat s5) [vi (s1.1.getD (Int.toNat s7) 0)]) (Int.toNat s7)) 0 [vi (s1.1.getD (Int.toNat s5) 0)]))
abbrev c103e3 (s1 : (List Int) × Int × Int) (s5 : Int) (s7 : Int) := ((s1.1.set (Int.toNat s5) (s1.1.getD (Int.toNat s7) 0)).set (Int.toNat s7) (s1.1.getD (Int.toNat s5) 0))
theorem Pm (p0 : List Int) (p1 : Int) (p2 : Int) (p3 : Int) (RES : Int × (List Int)) (hm : Dz p0 p1 p2 p3 = some RES) : Spec Tryz.prog 222 [ow 0 p0.length,pI p1,pI p2,pI p3] [roI p0] (pI RES.1) [roI RES.2] [] := by
 unfold Dz at hm
 refine SO Tryz.func222 rfl rfl [(0,ow 0 p0.length),(1,pI p1),(2,pI p2),(3,pI p3)] [(0,ob0 (roI p0))] ?_
 intro cx hnt
 refine Sq (RD hnt (.no :: []) [] [] [] [] tv ?_)
 obtain ⟨g1,g2,g3,g4,hm⟩ := go4 hm
 obtain ⟨g5,g6,g7,g8,hm⟩ := go4 hm
 refine Sq (RN hnt (nn 16 []) [(0,ow 0 ((p0.set (Int.toNat p1) (p0.getD (Int.toNat p3) 0)).set (Int.toNat p3) (p0.getD (Int.toNat p1) 0)).length),(1,pI p1),(2,pI p2)] [(0,ob0 (roI ((p0.set (Int.toNat p1) (p0.getD (Int.toNat p3) 0)).set (Int.toNat p3) (p0.getD (Int.toNat p1) 0))))] [(0,ow 0 p0.length)] [(0,.row 1 p0.length (c103e1 p0 p1 p3))] (an g1.1 (an g1.2 (an g2 (an g3.1 (an g3.2 (an g4 (an g5.1 (an g5.2 (an g6 (an g7.1 (an g7.2 (an g8 tv)))))))))))) (by kernel_rfl) (.cons rfl (MLe.ownLen (enc := Bd) (d := 0) (f := (c103e1 p0 p1 p3)) (RowIs.updR (RowIs.upd RowIs.elems (p0.getD (Int.toNat p3) 0) rfl) (by omega) (p0.getD (Int.toNat p1) 0) rfl)) .nil) (.cons rfl (BLe.typed (RowIs.updR (RowIs.upd RowIs.elems (p0.getD (Int.toNat p3) 0) rfl) (by omega) (p0.getD (Int.toNat p1) 0) rfl)) .nil) ?_)
 refine Sq (RD hnt (nn 6 []) [2] [(9,pI (w64 (p1 + 1))),(10,pI (w64 (p2 - 1)))] [] [] tv ?_)
 refine Sq (Bk ?_)
 refine DW.whileO (fun (s1 : (List Int) × Int × Int) => Ao [(0,ow 0 s1.1.length),(1,pI p1),(9,pI s1.2.2),(10,pI s1.2.1)] [(0,ob0 (roI s1.1))]) hm Conv.eqK ?_
 intro s1 n1 hm
 unfold Hd at hm
 refine Bk ?_
 refine Sq (Bk ?_)
 refine DW.whileO (fun (s5 : Int) => Ao [(0,ow 0 s1.1.length),(1,pI p1),(9,pI s5),(10,pI s1.2.1)] [(0,ob0 (roI s1.1))]) hm .refl ?_
 intro s5 n5 hm
 unfold He at hm
 refine Sq (Sq ?_)
 refine Jn (ι := Bool) (fun (y10 : Bool) => Ao [(0,ow 0 s1.1.length),(1,pI p1),(9,pI s5),(10,pI s1.2.1),(43,pB y10)] [(0,ob0 (roI s1.1))]) (fun y10 => (Dh p1 s1 n1 s5 n5) y10 = some RES) ?_ ?_
 ·intro y10 hm
  unfold Dh at hm
  refine Ag hm ?_ ?_
  ·intro h156 hm
   refine Sk ?_
   refine Bk ?_
   refine RD hnt (nn 3 []) [43] [(9,pI (w64 (s5 + 1)))] [] [] tv ?_
   refine DW.done ?_
   show DW _ _ _ _ _
   exact jD (w64 (s5 + 1)) hm Conv.eqK
  ·intro h156 hm
   refine DW.exit ?_
   refine Ar ?_
   refine Au ?_
   refine Ap ?_
   show DW _ _ _ _ _
   refine Sq (Bk ?_)
   refine DW.whileO (fun (s7 : Int) => Ao [(0,ow 0 s1.1.length),(1,pI p1),(9,pI s5),(10,pI s7)] [(0,ob0 (roI s1.1))]) hm Conv.t0 ?_
   intro s7 n7 hm
   unfold Ey at hm
   refine Sq (Sq ?_)
   refine Jn (ι := Bool) (fun (y12 : Bool) => Ao [(0,ow 0 s1.1.length),(1,pI p1),(9,pI s5),(10,pI s7),(59,pB y12)] [(0,ob0 (roI s1.1))]) (fun y12 => (Df s1 n1 s5 s7 n7) y12 = some RES) ?_ ?_
   ·intro y12 hm
    unfold Df at hm
    refine Ag hm ?_ ?_
    ·intro h179 hm
     refine Sk ?_
     refine Bk ?_
     refine RD hnt (nn 3 []) [59] [(10,pI (w64 (s7 - 1)))] [] [] tv ?_
     refine DW.done ?_
     show DW _ _ _ _ _
     exact jD (w64 (s7 - 1)) hm Conv.eqK
    ·intro h179 hm
     refine DW.exit ?_
     refine Ar ?_
     refine Au ?_
     refine Ap ?_
     show DW _ _ _ _ _
     refine Sq (Sq (RD hnt (nn 3 []) [59] [(64,pB (decide (s5 > s7)))] [] [] tv ?_))
     refine Ag hm ?_ ?_
     ·intro h180 hm
      refine DW.exit ?_
      refine Qd (by decide) ?_
      refine Au ?_
      refine Ar ?_
      refine Au ?_
      refine Ap ?_
      show DW _ _ _ _ _
      refine Sq (RK hnt (nn 2 []) [(8,pI s5)] [(0,ob0 (roI s1.1))] tv ?_)
      obtain rfl := sj hm
      exact DW.ret (Ak [roI s1.1] [] (pI s5))
     ·intro h180 hm
      refine Sk ?_
      obtain ⟨g181,g182,g183,g184,hm⟩ := go4 hm
      obtain ⟨g185,g186,g187,g188,hm⟩ := go4 hm
      refine Sq (RN hnt (nn 16 []) [(0,ow 0 (c103e3 s1 s5 s7).length),(1,pI p1),(9,pI s5),(10,pI s7)] [(0,ob0 (roI (c103e3 s1 s5 s7)))] [(0,ow 0 s1.1.length)] [(0,.row 1 s1.1.length (c103e2 s1 s5 s7))] (an g181.1 (an g181.2 (an g182 (an g183.1 (an g183.2 (an g184 (an g185.1 (an g185.2 (an g186 (an g187.1 (an g187.2 (an g188 tv)))))))))))) (by kernel_rfl) (.cons rfl (MLe.ownLen (enc := Bd) (d := 0) (f := (c103e2 s1 s5 s7)) (RowIs.updR (RowIs.upd RowIs.elems (s1.1.getD (Int.toNat s7) 0) rfl) (by omega) (s1.1.getD (Int.toNat s5) 0) rfl)) .nil) (.cons rfl (BLe.typed (RowIs.updR (RowIs.upd RowIs.elems (s1.1.getD (Int.toNat s7) 0) rfl) (by omega) (s1.1.getD (Int.toNat s5) 0) rfl)) .nil) ?_)
      refine Sq (RD hnt (nn 3 []) [] [(9,pI (w64 (s5 + 1)))] [] [] tv ?_)
      refine RD hnt (nn 3 []) [] [(10,pI (w64 (s7 - 1)))] [] [] tv ?_
      refine DW.done ?_
      show DW _ _ _ _ _
      exact jD ((c103e3 s1 s5 s7),(w64 (s7 - 1)),(w64 (s5 + 1))) hm Conv.eqK
   ·rcases bt (decide (s5 ≤ s7)) with h173 | h173
    ·replace hm := Bg h173 hm
     obtain ⟨g174,g175,g176,g177,hm⟩ := go4 hm
     obtain ⟨r178,hr178,hm⟩ := bo hm
     refine RD hnt (nn 12 (o93 [] true r178 :: pT :: [])) [] [(59,pB r178)] [] [] (an3 h173 (an g174.1 (an g174.2 (an h173 (an g175 (an3 h173 (an g176.1 (an g176.2 (an h173 (an g177 (an h173 (an (Co (s1.1.getD (Int.toNat p1) 0) (s1.1.getD (Int.toNat s7) 0) r178 hr178) (an h173 tv))))))))))))) ?_
     exact jD r178 hm Conv.eqK
    ·replace hm := Bh h173 hm
     refine RD hnt (nn 4 (sk 9 (pF :: []))) [] [(59,pB false)] [] [] (an4 h173 (an6 h173 tv)) ?_
     exact jD false hm Conv.eqK
 ·rcases bt (decide (s5 ≤ s1.2.1)) with h150 | h150
  ·replace hm := Bg h150 hm
   obtain ⟨g151,g152,g153,g154,hm⟩ := go4 hm
   obtain ⟨r155,hr155,hm⟩ := bo hm
   refine RD hnt (nn 12 (o93 [] true r155 :: .no :: pT :: [])) [] [(43,pB (!r155))] [] [] (an3 h150 (an g151.1 (an g151.2 (an h150 (an g152 (an3 h150 (an g153.1 (an g153.2 (an h150 (an g154 (an h150 (an (Co (s1.1.getD (Int.toNat p1) 0) (s1.1.getD (Int.toNat s5) 0) r155 hr155) (an2 h150 tv))))))))))))) ?_
   exact jD (!r155) hm Conv.eqK
  ·replace hm := Bh h150 hm
   refine RD hnt (nn 4 (sk 10 (pF :: []))) [] [(43,pB false)] [] [] (an5 h150 (an6 h150 tv)) ?_
   exact jD false hm Conv.eqK
abbrev o103 (ks : List Nat) (b : Bool) (RES : Int × (List Int)) : Orc := .call 222 ks b (pI RES.1) [roI RES.2] []

abbrev Cd (p0 : List Int) (p1 : Int) (p3 : Int) := ((p0.set (Int.toNat p1) (p0.getD (Int.toNat p3) 0)).set (Int.toNat p3) (p0.getD (Int.toNat p1) 0))
abbrev c104e2 (p0 : List Int) (p1 : Int) (p3 : Int) (s1 : Int) (s17 : Int) := (Bj (Bj (elI (Cd p0 p1 p3)) (Int.toNat s1) [vi ((Cd p0 p1 p3).getD (Int.toNat s17) 0)]) (Int.toNat s17) (setRange ((Bj (elI (Cd p0 p1 p3)) (Int.toNat s1) [vi ((Cd p0 p1 p3).getD (Int.toNat s17) 0)]) (Int.toNat s17)) 0 [vi ((Cd p0 p1 p3).getD (Int.toNat s1) 0)]))
abbrev c104e3 (p0 : List Int) (p1 : Int) (p3 : Int) := (Bj (Bj (elI p0) (Int.toNat p1) [vi (p0.getD (Int.toNat p3) 0)]) (Int.toNat p3) (setRange ((Bj (elI p0) (Int.toNat p1) [vi (p0.getD (Int.toNat p3) 0)]) (Int.toNat p3)) 0 [vi (p0.getD (Int.toNat p1) 0)]))
abbrev c104e4 (s25 : (List Int) × Int × Int) (s29 : Int) (s31 : Int) := (Bj (Bj (elI s25.1) (Int.toNat s29) [vi (s25.1.getD (Int.toNat s31) 0)]) (Int.toNat s31) (setRange ((Bj (elI s25.1) (Int.toNat s29) [vi (s25.1.getD (Int.toNat s31) 0)]) (Int.toNat s31)) 0 [vi (s25.1.getD (Int.toNat s29) 0)]))
abbrev c104e5 (s25 : (List Int) × Int × Int) (s29 : Int) (s31 : Int) := ((s25.1.set (Int.toNat s29) (s25.1.getD (Int.toNat s31) 0)).set (Int.toNat s31) (s25.1.getD (Int.toNat s29) 0))
theorem Sd (p0 : List Int) (p1 : Int) (p2 : Int) (p3 : Int) (RES : Int × Bool × (List Int)) (hm : Fu p0 p1 p2 p3 = some RES) : Spec Tryz.prog 223 [ow 0 p0.length,pI p1,pI p2,pI p3] [roI p0] (.p (.tup [vi RES.1,vb RES.2.1])) [roI RES.2.2] [] := by
 unfold Fu at hm
 refine SO Tryz.func223 rfl rfl [(0,ow 0 p0.length),(1,pI p1),(2,pI p2),(3,pI p3)] [(0,ob0 (roI p0))] ?_
 intro cx hnt
 refine Sq (RD hnt (nn 2 []) [] [] [] [] tv ?_)
 obtain ⟨g1,g2,g3,g4,hm⟩ := go4 hm
 obtain ⟨g5,g6,g7,g8,hm⟩ := go4 hm
 refine Sq (RN hnt (nn 16 []) [(0,ow 0 (Cd p0 p1 p3).length),(1,pI p1),(2,pI p2)] [(0,ob0 (roI (Cd p0 p1 p3)))] [(0,ow 0 p0.length)] [(0,.row 1 p0.length (c104e3 p0 p1 p3))] (an g1.1 (an g1.2 (an g2 (an g3.1 (an g3.2 (an g4 (an g5.1 (an g5.2 (an g6 (an g7.1 (an g7.2 (an g8 tv)))))))))))) (by kernel_rfl) (.cons rfl (MLe.ownLen (enc := Bd) (d := 0) (f := (c104e3 p0 p1 p3)) (RowIs.updR (RowIs.upd RowIs.elems (p0.getD (Int.toNat p3) 0) rfl) (by omega) (p0.getD (Int.toNat p1) 0) rfl)) .nil) (.cons rfl (BLe.typed (RowIs.updR (RowIs.upd RowIs.elems (p0.getD (Int.toNat p3) 0) rfl) (by omega) (p0.getD (Int.toNat p1) 0) rfl)) .nil) ?_)
 refine Sq (RD hnt (nn 6 []) [2] [(10,pI (w64 (p1 + 1))),(11,pI (w64 (p2 - 1)))] [] [] tv ?_)
 refine Sq (Bk ?_)
 refine DW.whileO (fun (s1 : Int) => Ao [(0,ow 0 (Cd p0 p1 p3).length),(1,pI p1),(10,pI s1),(11,pI (w64 (p2 - 1)))] [(0,ob0 (roI (Cd p0 p1 p3)))]) hm Conv.eqK ?_
 intro s1 n1 hm
 unfold Ir at hm
 refine Sq (Sq ?_)
 refine Jn (ι := Bool) (fun (y28 : Bool) => Ao [(0,ow 0 (Cd p0 p1 p3).length),(1,pI p1),(10,pI s1),(11,pI (w64 (p2 - 1))),(43,pB y28)] [(0,ob0 (roI (Cd p0 p1 p3)))]) (fun y28 => (Eo p0 p1 p2 p3 s1 n1) y28 = some RES) ?_ ?_
 ·intro y28 hm
  unfold Eo at hm
  refine Ag hm ?_ ?_
  ·intro h588 hm
   refine Sk ?_
   refine Bk ?_
   refine RD hnt (nn 3 []) [43] [(10,pI (w64 (s1 + 1)))] [] [] tv ?_
   refine DW.done ?_
   show DW _ _ _ _ _
   exact jD (w64 (s1 + 1)) hm Conv.eqK
  ·intro h588 hm
   refine DW.exit ?_
   refine Ar ?_
   refine Au ?_
   refine Ap ?_
   show DW _ _ _ _ _
   refine Sq (Bk ?_)
   refine DW.whileO (fun (s17 : Int) => Ao [(0,ow 0 (Cd p0 p1 p3).length),(1,pI p1),(10,pI s1),(11,pI s17)] [(0,ob0 (roI (Cd p0 p1 p3)))]) hm Conv.t0 ?_
   intro s17 n17 hm
   unfold Gk at hm
   refine Sq (Sq ?_)
   refine Jn (ι := Bool) (fun (y42 : Bool) => Ao [(0,ow 0 (Cd p0 p1 p3).length),(1,pI p1),(10,pI s1),(11,pI s17),(60,pB y42)] [(0,ob0 (roI (Cd p0 p1 p3)))]) (fun y42 => (Ep p0 p1 p3 s1 s17 n17) y42 = some RES) ?_ ?_
   ·intro y42 hm
    unfold Ep at hm
    refine Ag hm ?_ ?_
    ·intro h875 hm
     refine Sk ?_
     refine Bk ?_
     refine RD hnt (nn 3 []) [60] [(11,pI (w64 (s17 - 1)))] [] [] tv ?_
     refine DW.done ?_
     show DW _ _ _ _ _
     exact jD (w64 (s17 - 1)) hm Conv.eqK
    ·intro h875 hm
     refine DW.exit ?_
     refine Ar ?_
     refine Au ?_
     refine Ap ?_
     show DW _ _ _ _ _
     refine Sq (Sq (RD hnt (nn 3 []) [60] [(65,pB (decide (s1 > s17)))] [] [] tv ?_))
     refine Ag hm ?_ ?_
     ·intro h876 hm
      obtain ⟨g877,g878,g879,g880,hm⟩ := go4 hm
      obtain ⟨g881,g882,g883,g884,hm⟩ := go4 hm
      refine Sq (RN hnt (nn 16 []) [(11,pI s17)] [(0,ob0 (roI (((Cd p0 p1 p3).set (Int.toNat s17) ((Cd p0 p1 p3).getD (Int.toNat p1) 0)).set (Int.toNat p1) ((Cd p0 p1 p3).getD (Int.toNat s17) 0))))] [] [(0,.row 1 (Cd p0 p1 p3).length (Bj (Bj (elI (Cd p0 p1 p3)) (Int.toNat s17) [vi ((Cd p0 p1 p3).getD (Int.toNat p1) 0)]) (Int.toNat p1) (setRange ((Bj (elI (Cd p0 p1 p3)) (Int.toNat s17) [vi ((Cd p0 p1 p3).getD (Int.toNat p1) 0)]) (Int.toNat p1)) 0 [vi ((Cd p0 p1 p3).getD (Int.toNat s17) 0)])))] (an g877.1 (an g877.2 (an g878 (an g879.1 (an g879.2 (an g880 (an g881.1 (an g881.2 (an g882 (an g883.1 (an g883.2 (an g884 tv)))))))))))) (by kernel_rfl) .nil (.cons rfl (BLe.typed (RowIs.updR (RowIs.upd RowIs.elems ((Cd p0 p1 p3).getD (Int.toNat p1) 0) rfl) (by omega) ((Cd p0 p1 p3).getD (Int.toNat s17) 0) rfl)) .nil) ?_)
      refine Sq (RD hnt (nn 3 []) [11] [(8,pI s17),(9,pB true)] [] [] tv ?_)
      obtain rfl := sj hm
      exact DW.ret (Ak [roI (((Cd p0 p1 p3).set (Int.toNat s17) ((Cd p0 p1 p3).getD (Int.toNat p1) 0)).set (Int.toNat p1) ((Cd p0 p1 p3).getD (Int.toNat s17) 0))] [] (.p (.tup [vi s17,vb true])))
     ·intro h876 hm
      refine Sk ?_
      obtain ⟨g885,g886,g887,g888,hm⟩ := go4 hm
      obtain ⟨g889,g890,g891,g892,hm⟩ := go4 hm
      refine Sq (RN hnt (nn 16 []) [(0,ow 0 (((Cd p0 p1 p3).set (Int.toNat s1) ((Cd p0 p1 p3).getD (Int.toNat s17) 0)).set (Int.toNat s17) ((Cd p0 p1 p3).getD (Int.toNat s1) 0)).length),(1,pI p1),(10,pI s1),(11,pI s17)] [(0,ob0 (roI (((Cd p0 p1 p3).set (Int.toNat s1) ((Cd p0 p1 p3).getD (Int.toNat s17) 0)).set (Int.toNat s17) ((Cd p0 p1 p3).getD (Int.toNat s1) 0))))] [(0,ow 0 (Cd p0 p1 p3).length)] [(0,.row 1 (Cd p0 p1 p3).length (c104e2 p0 p1 p3 s1 s17))] (an g885.1 (an g885.2 (an g886 (an g887.1 (an g887.2 (an g888 (an g889.1 (an g889.2 (an g890 (an g891.1 (an g891.2 (an g892 tv)))))))))))) (by kernel_rfl) (.cons rfl (MLe.ownLen (enc := Bd) (d := 0) (f := (c104e2 p0 p1 p3 s1 s17)) (RowIs.updR (RowIs.upd RowIs.elems ((Cd p0 p1 p3).getD (Int.toNat s17) 0) rfl) (by omega) ((Cd p0 p1 p3).getD (Int.toNat s1) 0) rfl)) .nil) (.cons rfl (BLe.typed (RowIs.updR (RowIs.upd RowIs.elems ((Cd p0 p1 p3).getD (Int.toNat s17) 0) rfl) (by omega) ((Cd p0 p1 p3).getD (Int.toNat s1) 0) rfl)) .nil) ?_)
      refine Sq (RD hnt (nn 3 []) [] [(10,pI (w64 (s1 + 1)))] [] [] tv ?_)
      refine Sq (RD hnt (nn 3 []) [] [(11,pI (w64 (s17 - 1)))] [] [] tv ?_)
      refine Sq (Bk ?_)
      refine DW.whileO (fun (s25 : (List Int) × Int × Int) => Ao [(0,ow 0 s25.1.length),(1,pI p1),(10,pI s25.2.1),(11,pI s25.2.2)] [(0,ob0 (roI s25.1))]) hm Conv.eqK ?_
      intro s25 n25 hm
      unfold Gl at hm
      refine Bk ?_
      refine Sq (Bk ?_)
      refine DW.whileO (fun (s29 : Int) => Ao [(0,ow 0 s25.1.length),(1,pI p1),(10,pI s29),(11,pI s25.2.2)] [(0,ob0 (roI s25.1))]) hm .refl ?_
      intro s29 n29 hm
      unfold Ij at hm
      refine Sq (Sq ?_)
      refine Jn (ι := Bool) (fun (y52 : Bool) => Ao [(0,ow 0 s25.1.length),(1,pI p1),(10,pI s29),(11,pI s25.2.2),(112,pB y52)] [(0,ob0 (roI s25.1))]) (fun y52 => (En p1 s25 n25 s29 n29) y52 = some RES) ?_ ?_
      ·intro y52 hm
       unfold En at hm
       refine Ag hm ?_ ?_
       ·intro h1088 hm
        refine Sk ?_
        refine Bk ?_
        refine RD hnt (nn 3 []) [112] [(10,pI (w64 (s29 + 1)))] [] [] tv ?_
        refine DW.done ?_
        show DW _ _ _ _ _
        exact jD (w64 (s29 + 1)) hm Conv.eqK
       ·intro h1088 hm
        refine DW.exit ?_
        refine Ar ?_
        refine Au ?_
        refine Ap ?_
        show DW _ _ _ _ _
        refine Sq (Bk ?_)
        refine DW.whileO (fun (s31 : Int) => Ao [(0,ow 0 s25.1.length),(1,pI p1),(10,pI s29),(11,pI s31)] [(0,ob0 (roI s25.1))]) hm Conv.t0 ?_
        intro s31 n31 hm
        unfold Gm at hm
        refine Sq (Sq ?_)
        refine Jn (ι := Bool) (fun (y54 : Bool) => Ao [(0,ow 0 s25.1.length),(1,pI p1),(10,pI s29),(11,pI s31),(129,pB y54)] [(0,ob0 (roI s25.1))]) (fun y54 => (Er p1 s25 n25 s29 s31 n31) y54 = some RES) ?_ ?_
        ·intro y54 hm
         unfold Er at hm
         refine Ag hm ?_ ?_
         ·intro h1119 hm
          refine Sk ?_
          refine Bk ?_
          refine RD hnt (nn 3 []) [129] [(11,pI (w64 (s31 - 1)))] [] [] tv ?_
          refine DW.done ?_
          show DW _ _ _ _ _
          exact jD (w64 (s31 - 1)) hm Conv.eqK
         ·intro h1119 hm
          refine DW.exit ?_
          refine Ar ?_
          refine Au ?_
          refine Ap ?_
          show DW _ _ _ _ _
          refine Sq (Sq (RD hnt (nn 3 []) [129] [(134,pB (decide (s29 > s31)))] [] [] tv ?_))
          refine Ag hm ?_ ?_
          ·intro h1120 hm
           refine DW.exit ?_
           refine Qd (by decide) ?_
           refine Au ?_
           refine Ar ?_
           refine Au ?_
           refine Ap ?_
           show DW _ _ _ _ _
           obtain ⟨g1121,g1122,g1123,g1124,hm⟩ := go4 hm
           obtain ⟨g1125,g1126,g1127,g1128,hm⟩ := go4 hm
           refine Sq (RN hnt (nn 16 []) [(11,pI s31)] [(0,ob0 (roI ((s25.1.set (Int.toNat s31) (s25.1.getD (Int.toNat p1) 0)).set (Int.toNat p1) (s25.1.getD (Int.toNat s31) 0))))] [] [(0,.row 1 s25.1.length (Bj (Bj (elI s25.1) (Int.toNat s31) [vi (s25.1.getD (Int.toNat p1) 0)]) (Int.toNat p1) (setRange ((Bj (elI s25.1) (Int.toNat s31) [vi (s25.1.getD (Int.toNat p1) 0)]) (Int.toNat p1)) 0 [vi (s25.1.getD (Int.toNat s31) 0)])))] (an g1121.1 (an g1121.2 (an g1122 (an g1123.1 (an g1123.2 (an g1124 (an g1125.1 (an g1125.2 (an g1126 (an g1127.1 (an g1127.2 (an g1128 tv)))))))))))) (by kernel_rfl) .nil (.cons rfl (BLe.typed (RowIs.updR (RowIs.upd RowIs.elems (s25.1.getD (Int.toNat p1) 0) rfl) (by omega) (s25.1.getD (Int.toNat s31) 0) rfl)) .nil) ?_)
           refine Sq (RD hnt (nn 3 []) [11] [(8,pI s31),(9,pB false)] [] [] tv ?_)
           obtain rfl := sj hm
           exact DW.ret (Ak [roI ((s25.1.set (Int.toNat s31) (s25.1.getD (Int.toNat p1) 0)).set (Int.toNat p1) (s25.1.getD (Int.toNat s31) 0))] [] (.p (.tup [vi s31,vb false])))
          ·intro h1120 hm
           refine Sk ?_
           obtain ⟨g1129,g1130,g1131,g1132,hm⟩ := go4 hm
           obtain ⟨g1133,g1134,g1135,g1136,hm⟩ := go4 hm
           refine Sq (RN hnt (nn 16 []) [(0,ow 0 (c104e5 s25 s29 s31).length),(1,pI p1),(10,pI s29),(11,pI s31)] [(0,ob0 (roI (c104e5 s25 s29 s31)))] [(0,ow 0 s25.1.length)] [(0,.row 1 s25.1.length (c104e4 s25 s29 s31))] (an g1129.1 (an g1129.2 (an g1130 (an g1131.1 (an g1131.2 (an g1132 (an g1133.1 (an g1133.2 (an g1134 (an g1135.1 (an g1135.2 (an g1136 tv)))))))))))) (by kernel_rfl) (.cons rfl (MLe.ownLen (enc := Bd) (d := 0) (f := (c104e4 s25 s29 s31)) (RowIs.updR (RowIs.upd RowIs.elems (s25.1.getD (Int.toNat s31) 0) rfl) (by omega) (s25.1.getD (Int.toNat s29) 0) rfl)) .nil) (.cons rfl (BLe.typed (RowIs.updR (RowIs.upd RowIs.elems (s25.1.getD (Int.toNat s31) 0) rfl) (by omega) (s25.1.getD (Int.toNat s29) 0) rfl)) .nil) ?_)
           refine Sq (RD hnt (nn 3 []) [] [(10,pI (w64 (s29 + 1)))] [] [] tv ?_)
           refine RD hnt (nn 3 []) [] [(11,pI (w64 (s31 - 1)))] [] [] tv ?_
           refine DW.done ?_
           show DW _ _ _ _ _
           exact jD ((c104e5 s25 s29 s31),(w64 (s29 + 1)),(w64 (s31 - 1))) hm Conv.eqK
        ·rcases bt (decide (s29 ≤ s31)) with h1113 | h1113
         ·replace hm := Bg h1113 hm
          obtain ⟨g1114,g1115,g1116,g1117,hm⟩ := go4 hm
          obtain ⟨r1118,hr1118,hm⟩ := bo hm
          refine RD hnt (nn 12 (o93 [] true r1118 :: .no :: pT :: [])) [] [(129,pB (!r1118))] [] [] (an3 h1113 (an g1114.1 (an g1114.2 (an h1113 (an g1115 (an3 h1113 (an g1116.1 (an g1116.2 (an h1113 (an g1117 (an h1113 (an (Co (s25.1.getD (Int.toNat s31) 0) (s25.1.getD (Int.toNat p1) 0) r1118 hr1118) (an2 h1113 tv))))))))))))) ?_
          exact jD (!r1118) hm Conv.eqK
         ·replace hm := Bh h1113 hm
          refine RD hnt (nn 4 (sk 10 (pF :: []))) [] [(129,pB false)] [] [] (an5 h1113 (an6 h1113 tv)) ?_
          exact jD false hm Conv.eqK
      ·rcases bt (decide (s29 ≤ s25.2.2)) with h1082 | h1082
       ·replace hm := Bg h1082 hm
        obtain ⟨g1083,g1084,g1085,g1086,hm⟩ := go4 hm
        obtain ⟨r1087,hr1087,hm⟩ := bo hm
        refine RD hnt (nn 12 (o93 [] true r1087 :: pT :: [])) [] [(112,pB r1087)] [] [] (an3 h1082 (an g1083.1 (an g1083.2 (an h1082 (an g1084 (an3 h1082 (an g1085.1 (an g1085.2 (an h1082 (an g1086 (an h1082 (an (Co (s25.1.getD (Int.toNat s29) 0) (s25.1.getD (Int.toNat p1) 0) r1087 hr1087) (an h1082 tv))))))))))))) ?_
        exact jD r1087 hm Conv.eqK
       ·replace hm := Bh h1082 hm
        refine RD hnt (nn 4 (sk 9 (pF :: []))) [] [(112,pB false)] [] [] (an4 h1082 (an6 h1082 tv)) ?_
        exact jD false hm Conv.eqK
   ·rcases bt (decide (s1 ≤ s17)) with h869 | h869
    ·replace hm := Bg h869 hm
     obtain ⟨g870,g871,g872,g873,hm⟩ := go4 hm
     obtain ⟨r874,hr874,hm⟩ := bo hm
     refine RD hnt (nn 12 (o93 [] true r874 :: .no :: pT :: [])) [] [(60,pB (!r874))] [] [] (an3 h869 (an g870.1 (an g870.2 (an h869 (an g871 (an3 h869 (an g872.1 (an g872.2 (an h869 (an g873 (an h869 (an (Co ((Cd p0 p1 p3).getD (Int.toNat s17) 0) ((Cd p0 p1 p3).getD (Int.toNat p1) 0) r874 hr874) (an2 h869 tv))))))))))))) ?_
     exact jD (!r874) hm Conv.eqK
    ·replace hm := Bh h869 hm
     refine RD hnt (nn 4 (sk 10 (pF :: []))) [] [(60,pB false)] [] [] (an5 h869 (an6 h869 tv)) ?_
     exact jD false hm Conv.eqK
 ·rcases bt (decide (s1 ≤ (w64 (p2 - 1)))) with h582 | h582
  ·replace hm := Bg h582 hm
   obtain ⟨g583,g584,g585,g586,hm⟩ := go4 hm
   obtain ⟨r587,hr587,hm⟩ := bo hm
   refine RD hnt (nn 12 (o93 [] true r587 :: pT :: [])) [] [(43,pB r587)] [] [] (an3 h582 (an g583.1 (an g583.2 (an h582 (an g584 (an3 h582 (an g585.1 (an g585.2 (an h582 (an g586 (an h582 (an (Co ((Cd p0 p1 p3).getD (Int.toNat s1) 0) ((Cd p0 p1 p3).getD (Int.toNat p1) 0) r587 hr587) (an h582 tv))))))))))))) ?_
   exact jD r587 hm Conv.eqK
  ·replace hm := Bh h582 hm
   refine RD hnt (nn 4 (sk 9 (pF :: []))) [] [(43,pB false)] [] [] (an4 h582 (an6 h582 tv)) ?_
   exact jD false hm Conv.eqK
abbrev o104 (ks : List Nat) (b : Bool) (RES : Int × Bool × (List Int)) : Orc := .call 223 ks b (.p (.tup [vi RES.1,vb RES.2.1])) [roI RES.2.2] []

theorem Wf (p0 : Int) (RES : Int) (hm : Gr p0 = some RES) : Spec Tryz.prog 243 [pI p0] [] (.p (vk .u64 RES)) [] [] := by
 unfold Gr at hm
 refine SO Tryz.func243 rfl rfl [(0,pI p0)] [] ?_
 intro cx hnt
 refine Sq (RK hnt (.no :: []) [(0,pI p0)] [] tv ?_)
 obtain ⟨r1,hr1,hm⟩ := bo hm
 obtain ⟨g2,hm⟩ := go1 hm
 refine Sq (RK hnt (nn 2 (o89 [] true r1 :: nn 2 [])) [(2,.p (vk .u64 (kshl .u64 1 r1)))] [] (an (Acy (IntKind.u64.wrap p0) r1 hr1) (an g2 tv)) ?_)
 obtain rfl := sj hm
 exact DW.ret (Ak [] [] (.p (vk .u64 (kshl .u64 1 r1))))
abbrev o106 (ks : List Nat) (b : Bool) (RES : Int) : Orc := .call 243 ks b (.p (vk .u64 RES)) [] []

theorem Ya (p0 : Int) (RES : Int × Int) (hm : Ki p0 = some RES) : Spec Tryz.prog 244 [rr 0] [.box [.p (vk .u64 p0)]] (.p (vk .u64 RES.1)) [.box [.p (vk .u64 RES.2)]] [] := by
 unfold Ki at hm
 refine SO Tryz.func244 rfl rfl [(0,rr 0)] [(0,bx [.p (vk .u64 p0)])] ?_
 intro cx hnt
 refine Sq (RD hnt (.no :: []) [] [] [] [] tv ?_)
 refine Sq (RK hnt (nn 10 []) [(0,rr 0)] [(0,bx [.p (vk .u64 (kxor .u64 p0 (kshl .u64 p0 13)))])] (an (by decide : (0 : Int) ≤ 13) tv) ?_)
 refine Sq (RK hnt (nn 10 []) [(0,rr 0)] [(0,bx [.p (vk .u64 (kxor .u64 (kxor .u64 p0 (kshl .u64 p0 13)) (kshr .u64 (kxor .u64 p0 (kshl .u64 p0 13)) 7)))])] (an (by decide : (0 : Int) ≤ 7) tv) ?_)
 refine Sq (RK hnt (nn 10 []) [(0,rr 0)] [(0,bx [.p (vk .u64 (kxor .u64 (kxor .u64 (kxor .u64 p0 (kshl .u64 p0 13)) (kshr .u64 (kxor .u64 p0 (kshl .u64 p0 13)) 7)) (kshl .u64 (kxor .u64 (kxor .u64 p0 (kshl .u64 p0 13)) (kshr .u64 (kxor .u64 p0 (kshl .u64 p0 13)) 7)) 17)))])] (an (by decide : (0 : Int) ≤ 17) tv) ?_)
 refine Sq (RD hnt (nn 4 []) [0] [(2,.p (vk .u64 (kxor .u64 (kxor .u64 (kxor .u64 p0 (kshl .u64 p0 13)) (kshr .u64 (kxor .u64 p0 (kshl .u64 p0 13)) 7)) (kshl .u64 (kxor .u64 (kxor .u64 p0 (kshl .u64 p0 13)) (kshr .u64 (kxor .u64 p0 (kshl .u64 p0 13)) 7)) 17))))] [] [] tv ?_)
 obtain rfl := sj hm
 exact DW.ret (Ak [.box [.p (vk .u64 (kxor .u64 (kxor .u64 (kxor .u64 p0 (kshl .u64 p0 13)) (kshr .u64 (kxor .u64 p0 (kshl .u64 p0 13)) 7)) (kshl .u64 (kxor .u64 (kxor .u64 p0 (kshl .u64 p0 13)) (kshr .u64 (kxor .u64 p0 (kshl .u64 p0 13)) 7)) 17)))]] [] (.p (vk .u64 (kxor .u64 (kxor .u64 (kxor .u64 p0 (kshl .u64 p0 13)) (kshr .u64 (kxor .u64 p0 (kshl .u64 p0 13)) 7)) (kshl .u64 (kxor .u64 (kxor .u64 p0 (kshl .u64 p0 13)) (kshr .u64 (kxor .u64 p0 (kshl .u64 p0 13)) 7)) 17)))))
abbrev o107 (ks : List Nat) (b : Bool) (RES : Int × Int) : Orc := .call 244 ks b (.p (vk .u64 RES.1)) [.box [.p (vk .u64 RES.2)]] []

abbrev c105e1 (s1 : (List Int) × Int × Int) (p1 : Int) (y2 : Int) := (Bj (Bj (elI s1.1) (Int.toNat s1.2.2) [vi (s1.1.getD (Int.toNat (w64 (p1 + y2))) 0)]) (Int.toNat (w64 (p1 + y2))) (setRange ((Bj (elI s1.1) (Int.toNat s1.2.2) [vi (s1.1.getD (Int.toNat (w64 (p1 + y2))) 0)]) (Int.toNat (w64 (p1 + y2)))) 0 [vi (s1.1.getD (Int.toNat s1.2.2) 0)]))
abbrev c105e2 (s1 : (List Int) × Int × Int) (p1 : Int) (y2 : Int) := ((s1.1.set (Int.toNat s1.2.2) (s1.1.getD (Int.toNat (w64 (p1 + y2))) 0)).set (Int.toNat (w64 (p1 + y2))) (s1.1.getD (Int.toNat s1.2.2) 0))
abbrev AcJ (r15 : Int × Int) (r2 : Int) := (w64 (kand .u64 r15.1 (IntKind.u64.wrap (r2 - 1))))
theorem Qk (p0 : List Int) (p1 : Int) (p2 : Int) (RES : List Int) (hm : Ec p0 p1 p2 = some RES) : Spec Tryz.prog 217 [ow 0 p0.length,pI p1,pI p2] [roI p0] (.p (.tup [])) [roI RES] [] := by
 unfold Ec at hm
 refine SO Tryz.func217 rfl rfl [(0,ow 0 p0.length),(1,pI p1),(2,pI p2)] [(0,ob0 (roI p0))] ?_
 intro cx hnt
 refine Sq (RD hnt (nn 4 []) [2] [(6,pI (w64 (p2 - p1)))] [] [] tv ?_)
 refine Sq (RD hnt (nn 2 []) [] [(15,pB (decide ((w64 (p2 - p1)) ≥ 8)))] [] [] tv ?_)
 refine Ag hm ?_ ?_
 ·intro h1 hm
  refine Sq (RD hnt (nn 4 []) [15] [(7,rr 1056)] [] [(1056,bx [.p (vk .u64 (IntKind.u64.wrap (w64 (p2 - p1))))])] tv ?_)
  obtain ⟨r2,hr2,hm⟩ := bo hm
  refine Sq (RD hnt (.no :: o106 [] true r2 :: .no :: []) [] [(8,.p (vk .u64 r2))] [] [] (an (Wf (w64 (p2 - p1)) r2 hr2) tv) ?_)
  refine Sq (RD hnt (nn 7 []) [] [(9,pI (w64 ((w64 (p1 + (w64 ((w64 (Int.tdiv (w64 (p2 - p1)) 4)) * 2)))) - 1)))] [] [] (an (by decide : (4 : Int) ≠ 0) tv) ?_)
  refine Bk ?_
  refine DW.whileO (fun (s1 : (List Int) × Int × Int) => Ao [(0,ow 0 s1.1.length),(1,pI p1),(6,pI (w64 (p2 - p1))),(7,rr 1056),(8,.p (vk .u64 r2)),(9,pI s1.2.2)] [(0,ob0 (roI s1.1)),(1056,bx [.p (vk .u64 s1.2.1)])]) hm Conv.eqK ?_
  intro s1 n1 hm
  unfold Hk at hm
  refine Sq (Sq (RD hnt (nn 8 []) [] [(33,pB (decide (s1.2.2 ≤ (w64 ((w64 (p1 + (w64 ((w64 (Int.tdiv (w64 (p2 - p1)) 4)) * 2)))) + 1)))))] [] [] (an (by decide : (4 : Int) ≠ 0) tv) ?_))
  refine Ag hm ?_ ?_
  ·intro h14 hm
   refine Sk ?_
   refine Sq (Bk ?_)
   obtain ⟨r15,hr15,hm⟩ := bo hm
   refine Sq (RD hnt (o107 [1056] true r15 :: nn 5 []) [33] [(10,pI (AcJ r15 r2))] [] [(1056,bx [.p (vk .u64 r15.2)])] (an (Ya s1.2.1 r15 hr15) (an tv tv)) ?_)
   refine Sq (Sq (RD hnt (nn 3 []) [] [(43,pB (decide ((AcJ r15 r2) ≥ (w64 (p2 - p1)))))] [] [] tv ?_))
   refine Jn (ι := Int) (fun (y2 : Int) => Ao [(0,ow 0 s1.1.length),(1,pI p1),(6,pI (w64 (p2 - p1))),(7,rr 1056),(8,.p (vk .u64 r2)),(9,pI s1.2.2),(10,pI y2)] [(0,ob0 (roI s1.1)),(1056,bx [.p (vk .u64 r15.2)])]) (fun y2 => (Cv p1 s1 n1 r15) y2 = some RES) ?_ ?_
   ·intro y2 hm
    unfold Cv at hm
    obtain ⟨g17,g18,g19,g20,hm⟩ := go4 hm
    obtain ⟨g21,g22,g23,g24,hm⟩ := go4 hm
    refine RN hnt (nn 20 []) [(0,ow 0 (c105e2 s1 p1 y2).length),(1,pI p1),(6,pI (w64 (p2 - p1))),(7,rr 1056),(8,.p (vk .u64 r2)),(9,pI s1.2.2)] [(0,ob0 (roI (c105e2 s1 p1 y2))),(1056,bx [.p (vk .u64 r15.2)])] [(0,ow 0 s1.1.length)] [(0,.row 1 s1.1.length (c105e1 s1 p1 y2))] (an g17.1 (an g17.2 (an g18 (an g19.1 (an g19.2 (an g20 (an g21.1 (an g21.2 (an g22 (an g23.1 (an g23.2 (an g24 tv)))))))))))) (by kernel_rfl) (.cons rfl (MLe.ownLen (enc := Bd) (d := 0) (f := (c105e1 s1 p1 y2)) (RowIs.updR (RowIs.upd RowIs.elems (s1.1.getD (Int.toNat (w64 (p1 + y2))) 0) rfl) (by omega) (s1.1.getD (Int.toNat s1.2.2) 0) rfl)) .nil) (.cons rfl (BLe.typed (RowIs.updR (RowIs.upd RowIs.elems (s1.1.getD (Int.toNat (w64 (p1 + y2))) 0) rfl) (by omega) (s1.1.getD (Int.toNat s1.2.2) 0) rfl)) .nil) ?_
    refine DW.done ?_
    show DW _ _ _ _ _
    refine RD hnt (nn 3 []) [] [(9,pI (w64 (s1.2.2 + 1)))] [] [] tv ?_
    exact jD ((c105e2 s1 p1 y2),r15.2,(w64 (s1.2.2 + 1))) hm Conv.eqK
   ·refine Ag hm ?_ ?_
    ·intro h16 hm
     refine RD hnt (nn 4 []) [43] [(10,pI (w64 ((AcJ r15 r2) - (w64 (p2 - p1)))))] [] [] tv ?_
     exact jD (w64 ((AcJ r15 r2) - (w64 (p2 - p1)))) hm Conv.eqK
    ·intro h16 hm
     refine Sk ?_
     exact jD (AcJ r15 r2) hm Conv.t0
  ·intro h14 hm
   refine DW.exit ?_
   refine Ar ?_
   refine Au ?_
   refine Ap ?_
   show DW _ _ _ _ _
   refine DW.done ?_
   obtain rfl := sj hm
   exact endK [roI s1.1] [] (.p (.tup []))
 ·intro h1 hm
  refine Sk ?_
  refine DW.done ?_
  obtain rfl := sj hm
  exact endK [roI p0] [] (.p (.tup []))
abbrev o105 (ks : List Nat) (b : Bool) (RES : List Int) : Orc := .call 217 ks b (.p (.tup [])) [roI RES] []

abbrev Ui (s1 : (List Int) × Int × Int × Int × Bool × Bool) : Nat × MV := (10,pI (w64 (s1.2.2.1 - s1.2.1)))
abbrev Abs (s1 : (List Int) × Int × Int × Int × Bool × Bool) := (w64 (Int.tdiv (w64 (s1.2.2.1 - s1.2.1)) 8))
theorem Sx (rec : (List Int) → Int → Int → Int → Option (List Int)) (ih : ∀ (p0 : List Int) (p1 : Int) (p2 : Int) (p3 : Int) (RES : List Int),rec p0 p1 p2 p3 = some RES → Spec Tryz.prog 181 [ow 0 p0.length,pI p1,pI p2,pI p3] [roI p0] (.p (.tup [])) [roI RES] []) (p0 : List Int) (p1 : Int) (p2 : Int) (p3 : Int) (RES : List Int) (hm : Eg rec p0 p1 p2 p3 = some RES) : Spec Tryz.prog 181 [ow 0 p0.length,pI p1,pI p2,pI p3] [roI p0] (.p (.tup [])) [roI RES] [] := by
 unfold Eg at hm
 refine SO Tryz.func181 rfl rfl [(0,ow 0 p0.length),(1,pI p1),(2,pI p2),(3,pI p3)] [(0,ob0 (roI p0))] ?_
 intro cx hnt
 refine Sq (RD hnt (.no :: []) [] [(8,pB true)] [] [] tv ?_)
 refine Sq (RD hnt (.no :: []) [] [(9,pB true)] [] [] tv ?_)
 refine Bk ?_
 refine DW.whileO (fun (s1 : (List Int) × Int × Int × Int × Bool × Bool) => Ao [(0,ow 0 s1.1.length),(1,pI s1.2.1),(2,pI s1.2.2.1),(3,pI s1.2.2.2.1),(8,pB s1.2.2.2.2.1),(9,pB s1.2.2.2.2.2)] [(0,ob0 (roI s1.1))]) hm Conv.eqK ?_
 intro s1 n1 hm
 unfold Hg at hm
 refine Bk ?_
 refine Sq (RD hnt (nn 4 []) [] [(Ui s1)] [] [] tv ?_)
 refine Sq (Sq (RD hnt (nn 2 []) [] [(23,pB (decide ((w64 (s1.2.2.1 - s1.2.1)) ≤ 12)))] [] [] tv ?_))
 refine Ag hm ?_ ?_
 ·intro h66 hm
  obtain ⟨r67,hr67,hm⟩ := bo hm
  obtain ⟨g68,hm⟩ := go1 hm
  refine Sq (RK hnt (nn 3 (o92 [0] true r67 :: [])) [] [(0,ob0 (roI r67))] (an (Qp s1.1 s1.2.1 s1.2.2.1 r67 hr67) (an (⟨rfl,g68⟩ : Body.same (roI s1.1) (roI r67)) tv)) ?_)
  obtain rfl := sj hm
  exact DW.ret (Ak [roI r67] [] (.p (.tup [])))
 ·intro h66 hm
  refine Sk ?_
  refine Sq (Sq (RD hnt (nn 2 []) [23] [(29,pB (s1.2.2.2.1 == 0))] [] [] tv ?_))
  refine Ag hm ?_ ?_
  ·intro h69 hm
   obtain ⟨r70,hr70,hm⟩ := bo hm
   obtain ⟨g71,hm⟩ := go1 hm
   refine Sq (RK hnt (nn 3 (o95 [0] true r70 :: [])) [] [(0,ob0 (roI r70))] (an (Sj s1.1 s1.2.1 s1.2.2.1 r70 hr70) (an (⟨rfl,g71⟩ : Body.same (roI s1.1) (roI r70)) tv)) ?_)
   obtain rfl := sj hm
   exact DW.ret (Ak [roI r70] [] (.p (.tup [])))
  ·intro h69 hm
   refine Sk ?_
   refine Sq (Sq (RD hnt (nn 2 []) [29] [(35,pB (!s1.2.2.2.2.1))] [] [] tv ?_))
   refine Jn (ι := (List Int) × Int) (fun (y8 : (List Int) × Int) => Ao [(0,ow 0 y8.1.length),(1,pI s1.2.1),(2,pI s1.2.2.1),(3,pI y8.2),(8,pB s1.2.2.2.2.1),(9,pB s1.2.2.2.2.2),(Ui s1)] [(0,ob0 (roI y8.1))]) (fun y8 => (De rec s1 n1) y8 = some RES) ?_ ?_
   ·intro y8 hm
    unfold De at hm
    obtain ⟨r75,hr75,hm⟩ := bo hm
    refine Sq (RD hnt (nn 3 (o97 [] true r75 :: nn 5 [])) [] [(11,pI r75.1),(12,pI r75.2)] [] [] (an (Rf y8.1 s1.2.1 s1.2.2.1 r75 hr75) tv) ?_)
    refine Sq (Sq (RD hnt (nn 2 []) [] [(50,pB (r75.2 == 2))] [] [] tv ?_))
    refine Jn (ι := (List Int) × Int × Int) (fun (y9 : (List Int) × Int × Int) => Ao [(0,ow 0 y9.1.length),(1,pI s1.2.1),(2,pI s1.2.2.1),(3,pI y8.2),(8,pB s1.2.2.2.2.1),(9,pB s1.2.2.2.2.2),(Ui s1),(11,pI y9.2.1),(12,pI y9.2.2)] [(0,ob0 (roI y9.1))]) (fun y9 => (Dc rec s1 n1 y8) y9 = some RES) ?_ ?_
    ·intro y9 hm
     unfold Dc at hm
     refine Sq (Sq (DW.regJ (sl2 := [(0,ow 0 y9.1.length),(1,pI s1.2.1),(2,pI s1.2.2.1),(3,pI y8.2),(8,pB s1.2.2.2.2.1),(9,pB s1.2.2.2.2.2),(Ui s1),(11,pI y9.2.1),(68,pB ((s1.2.2.2.2.1 && s1.2.2.2.2.2) && (y9.2.2 == 1)))]) (ob2 := [(0,ob0 (roI y9.1))]) ?_ ?_))
     ·rcases bt s1.2.2.2.2.1 with h79 | h79
      ·rcases bt s1.2.2.2.2.2 with h80 | h80
       ·exact RT hnt (nn 3 (pT :: nn 3 (pT :: []))) [(68,pB (y9.2.2 == 1))] (an2 h79 (an3 h80 tv)) (by kernel_rfl) (.cons rfl (.of_eq (by rw [h79,h80]; try rfl)) .nil)
       ·exact RT hnt (nn 3 (pT :: .no :: sk 2 (pF :: []))) [(68,pB false)] (an2 h79 (an3 h80 tv)) (by kernel_rfl) (.cons rfl (.of_eq (by rw [h79,h80]; try rfl)) .nil)
      ·exact RT hnt (nn 2 (.skip :: pF :: .no :: sk 2 (pF :: []))) [(68,pB false)] (an2 h79 (an3 ff tv)) (by kernel_rfl) (.cons rfl (.of_eq (by rw [h79]; try rfl)) .nil)
     ·refine Jn (ι := List Int) (fun (y10 : List Int) => Ao [(0,ow 0 y10.length),(1,pI s1.2.1),(2,pI s1.2.2.1),(3,pI y8.2),(8,pB s1.2.2.2.2.1),(9,pB s1.2.2.2.2.2),(Ui s1),(11,pI y9.2.1)] [(0,ob0 (roI y10))]) (fun y10 => (Du rec s1 n1 y8 y9) y10 = some RES) ?_ ?_
      ·intro y10 hm
       unfold Du at hm
       refine Sq (Sq ?_)
       refine Jn (ι := Bool) (fun (y11 : Bool) => Ao [(0,ow 0 y10.length),(1,pI s1.2.1),(2,pI s1.2.2.1),(3,pI y8.2),(8,pB s1.2.2.2.2.1),(9,pB s1.2.2.2.2.2),(Ui s1),(11,pI y9.2.1),(87,pB y11)] [(0,ob0 (roI y10))]) (fun y11 => (Dv rec s1 n1 y8 y9 y10) y11 = some RES) ?_ ?_
       ·intro y11 hm
        unfold Dv at hm
        refine Ag hm ?_ ?_
        ·intro h91 hm
         obtain ⟨r92,hr92,hm⟩ := bo hm
         obtain ⟨g93,hm⟩ := go1 hm
         refine Sq (RN hnt (nn 4 (o103 [0] true r92 :: .no :: [])) [(0,ow 0 r92.2.length),(2,pI s1.2.2.1),(3,pI y8.2),(8,pB s1.2.2.2.2.1),(9,pB s1.2.2.2.2.2),(13,pI r92.1)] [(0,ob0 (roI r92.2))] [(0,ow 0 y10.length)] [] (an (Pm y10 s1.2.1 s1.2.2.1 y9.2.1 r92 hr92) (an (⟨rfl,g93⟩ : Body.same (roI y10) (roI r92.2)) tv)) (by kernel_rfl) (.cons rfl (MLe.of_eq (congrArg (MV.own 0 0 0) g93)) .nil) .nil ?_)
         refine Sq (RD hnt (nn 2 []) [13] [(1,pI r92.1)] [] [] tv ?_)
         refine DW.exit ?_
         refine Ap ?_
         show DW _ _ _ _ _
         exact jD (r92.2,r92.1,s1.2.2.1,y8.2,s1.2.2.2.2.1,s1.2.2.2.2.2) hm Conv.eqK
        ·intro h91 hm
         refine Sk ?_
         obtain ⟨r94,hr94,hm⟩ := bo hm
         obtain ⟨g95,hm⟩ := go1 hm
         refine Sq (RN hnt (nn 4 (o104 [0] true r94 :: nn 5 [])) [(0,ow 0 r94.2.2.length),(1,pI s1.2.1),(2,pI s1.2.2.1),(3,pI y8.2),(Ui s1),(14,pI r94.1),(15,pB r94.2.1)] [(0,ob0 (roI r94.2.2))] [(0,ow 0 y10.length)] [] (an (Sd y10 s1.2.1 s1.2.2.1 y9.2.1 r94 hr94) (an (⟨rfl,g95⟩ : Body.same (roI y10) (roI r94.2.2)) tv)) (by kernel_rfl) (.cons rfl (MLe.of_eq (congrArg (MV.own 0 0 0) g95)) .nil) .nil ?_)
         refine Sq (RD hnt (nn 2 []) [15] [(9,pB r94.2.1)] [] [] tv ?_)
         refine Sq (RD hnt (nn 8 []) [] [(16,pI (w64 (r94.1 - s1.2.1))),(17,pI (w64 (s1.2.2.1 - r94.1)))] [] [] tv ?_)
         refine Sq (RD hnt (nn 3 []) [10] [(18,pI (Abs s1))] [] [] (an (by decide : (8 : Int) ≠ 0) tv) ?_)
         refine Sq (RD hnt (nn 3 []) [] [(113,pB (decide ((w64 (r94.1 - s1.2.1)) < (w64 (s1.2.2.1 - r94.1)))))] [] [] tv ?_)
         refine Ag hm ?_ ?_
         ·intro h96 hm
          refine Sq (RD hnt (nn 4 []) [16,17,18,113] [(8,pB (decide ((w64 (r94.1 - s1.2.1)) ≥ (Abs s1))))] [] [] tv ?_)
          obtain ⟨r97,hr97,hm⟩ := bo hm
          obtain ⟨g98,hm⟩ := go1 hm
          refine Sq (RN hnt (nn 4 (.call 181 [0] true (.p (.tup [])) [roI r97] [] :: [])) [(0,ow 0 r97.length),(2,pI s1.2.2.1),(3,pI y8.2),(8,pB (decide ((w64 (r94.1 - s1.2.1)) ≥ (Abs s1)))),(9,pB r94.2.1),(14,pI r94.1)] [(0,ob0 (roI r97))] [(0,ow 0 r94.2.2.length)] [] (an (ih r94.2.2 s1.2.1 r94.1 y8.2 r97 hr97) (an (⟨rfl,g98⟩ : Body.same (roI r94.2.2) (roI r97)) tv)) (by kernel_rfl) (.cons rfl (MLe.of_eq (congrArg (MV.own 0 0 0) g98)) .nil) .nil ?_)
          refine RD hnt (nn 3 []) [14] [(1,pI (w64 (r94.1 + 1)))] [] [] tv ?_
          refine DW.done ?_
          show DW _ _ _ _ _
          exact jD (r97,(w64 (r94.1 + 1)),s1.2.2.1,y8.2,(decide ((w64 (r94.1 - s1.2.1)) ≥ (Abs s1))),r94.2.1) hm Conv.eqK
         ·intro h96 hm
          refine Sq (RD hnt (nn 4 []) [16,17,18,113] [(8,pB (decide ((w64 (s1.2.2.1 - r94.1)) ≥ (Abs s1))))] [] [] tv ?_)
          obtain ⟨r99,hr99,hm⟩ := bo hm
          obtain ⟨g100,hm⟩ := go1 hm
          refine Sq (RN hnt (nn 5 (.call 181 [0] true (.p (.tup [])) [roI r99] [] :: [])) [(0,ow 0 r99.length),(1,pI s1.2.1),(3,pI y8.2),(8,pB (decide ((w64 (s1.2.2.1 - r94.1)) ≥ (Abs s1)))),(9,pB r94.2.1),(14,pI r94.1)] [(0,ob0 (roI r99))] [(0,ow 0 r94.2.2.length)] [] (an (ih r94.2.2 (w64 (r94.1 + 1)) s1.2.2.1 y8.2 r99 hr99) (an (⟨rfl,g100⟩ : Body.same (roI r94.2.2) (roI r99)) tv)) (by kernel_rfl) (.cons rfl (MLe.of_eq (congrArg (MV.own 0 0 0) g100)) .nil) .nil ?_)
          refine RD hnt (nn 2 []) [14] [(2,pI r94.1)] [] [] tv ?_
          refine DW.done ?_
          show DW _ _ _ _ _
          exact jD (r99,s1.2.1,r94.1,y8.2,(decide ((w64 (s1.2.2.1 - r94.1)) ≥ (Abs s1))),r94.2.1) hm Conv.eqK
       ·rcases bt (decide (s1.2.1 > 0)) with h85 | h85
        ·replace hm := Bg h85 hm
         obtain ⟨g86,g87,g88,g89,hm⟩ := go4 hm
         obtain ⟨r90,hr90,hm⟩ := bo hm
         refine RD hnt (nn 12 (o93 [] true r90 :: .no :: pT :: [])) [] [(87,pB (!r90))] [] [] (an4 h85 (an g86.1 (an g86.2 (an h85 (an g87 (an3 h85 (an g88.1 (an g88.2 (an h85 (an g89 (an h85 (an (Co (y10.getD (Int.toNat (w64 (s1.2.1 - 1))) 0) (y10.getD (Int.toNat y9.2.1) 0) r90 hr90) (an2 h85 tv))))))))))))) ?_
         exact jD (!r90) hm Conv.eqK
        ·replace hm := Bh h85 hm
         refine RD hnt (nn 3 (sk 11 (pF :: []))) [] [(87,pB false)] [] [] (an6 h85 (an6 h85 tv)) ?_
         exact jD false hm Conv.eqK
      ·refine Ag hm ?_ ?_
       ·intro h81 hm
        obtain ⟨r82,hr82,hm⟩ := bo hm
        obtain ⟨g83,hm⟩ := go1 hm
        refine Sq (RN hnt (nn 3 (o102 [0] true r82 :: [])) [(0,ow 0 r82.2.length),(1,pI s1.2.1),(2,pI s1.2.2.1),(3,pI y8.2),(8,pB s1.2.2.2.2.1),(9,pB s1.2.2.2.2.2),(Ui s1),(11,pI y9.2.1),(72,pB r82.1)] [(0,ob0 (roI r82.2))] [(0,ow 0 y9.1.length)] [] (an (No y9.1 s1.2.1 s1.2.2.1 r82 hr82) (an (⟨rfl,g83⟩ : Body.same (roI y9.1) (roI r82.2)) tv)) (by kernel_rfl) (.cons rfl (MLe.of_eq (congrArg (MV.own 0 0 0) g83)) .nil) .nil ?_)
        refine Ag hm ?_ ?_
        ·intro h84 hm
         obtain rfl := sj hm
         exact DW.ret (Ak [roI r82.2] [] (.p (.tup [])))
        ·intro h84 hm
         refine Sk ?_
         exact jD r82.2 hm Conv.t0
       ·intro h81 hm
        refine Sk ?_
        exact jD y9.1 hm Conv.t0
    ·refine Ag hm ?_ ?_
     ·intro h76 hm
      obtain ⟨r77,hr77,hm⟩ := bo hm
      obtain ⟨g78,hm⟩ := go1 hm
      refine Sq (RN hnt (nn 3 (o101 [0] true r77 :: [])) [(0,ow 0 r77.length),(1,pI s1.2.1),(2,pI s1.2.2.1),(3,pI y8.2),(8,pB s1.2.2.2.2.1),(9,pB s1.2.2.2.2.2),(Ui s1),(11,pI r75.1)] [(0,ob0 (roI r77))] [(0,ow 0 y8.1.length)] [] (an (Qw y8.1 s1.2.1 s1.2.2.1 r77 hr77) (an (⟨rfl,g78⟩ : Body.same (roI y8.1) (roI r77)) tv)) (by kernel_rfl) (.cons rfl (MLe.of_eq (congrArg (MV.own 0 0 0) g78)) .nil) .nil ?_)
      refine Sq (RD hnt (nn 7 []) [] [(11,pI (w64 ((w64 (s1.2.2.1 - 1)) - (w64 (r75.1 - s1.2.1)))))] [] [] tv ?_)
      refine RD hnt (.no :: []) [] [(12,pI 1)] [] [] tv ?_
      exact jD (r77,(w64 ((w64 (s1.2.2.1 - 1)) - (w64 (r75.1 - s1.2.1)))),1) hm Conv.eqK
     ·intro h76 hm
      refine Sk ?_
      exact jD (y8.1,r75.1,r75.2) hm Conv.t0
   ·refine Ag hm ?_ ?_
    ·intro h72 hm
     obtain ⟨r73,hr73,hm⟩ := bo hm
     obtain ⟨g74,hm⟩ := go1 hm
     refine Sq (RN hnt (nn 3 (o105 [0] true r73 :: [])) [(0,ow 0 r73.length),(1,pI s1.2.1),(2,pI s1.2.2.1),(3,pI s1.2.2.2.1),(8,pB s1.2.2.2.2.1),(9,pB s1.2.2.2.2.2),(Ui s1)] [(0,ob0 (roI r73))] [(0,ow 0 s1.1.length)] [] (an (Qk s1.1 s1.2.1 s1.2.2.1 r73 hr73) (an (⟨rfl,g74⟩ : Body.same (roI s1.1) (roI r73)) tv)) (by kernel_rfl) (.cons rfl (MLe.of_eq (congrArg (MV.own 0 0 0) g74)) .nil) .nil ?_)
     refine RD hnt (nn 3 []) [] [(3,pI (w64 (s1.2.2.2.1 - 1)))] [] [] tv ?_
     exact jD (r73,(w64 (s1.2.2.2.1 - 1))) hm Conv.eqK
    ·intro h72 hm
     refine Sk ?_
     exact jD (s1.1,s1.2.2.2.1) hm Conv.t0
theorem Mc : ∀ (n : Nat) (p0 : List Int) (p1 : Int) (p2 : Int) (p3 : Int) (RES : List Int),Bi n p0 p1 p2 p3 = some RES → Spec Tryz.prog 181 [ow 0 p0.length,pI p1,pI p2,pI p3] [roI p0] (.p (.tup [])) [roI RES] []
  | 0,p0,p1,p2,p3,RES,hm => by simp [Bi] at hm
  | n + 1,p0,p1,p2,p3,RES,hm => Sx (Bi n) (Mc n) p0 p1 p2 p3 RES hm
theorem Tn (p0 : List Int) (p1 : Int) (p2 : Int) (p3 : Int) (RES : List Int) (hm : Ib p0 p1 p2 p3 = some RES) : Spec Tryz.prog 181 [ow 0 p0.length,pI p1,pI p2,pI p3] [roI p0] (.p (.tup [])) [roI RES] [] := Mc Ea p0 p1 p2 p3 RES hm
abbrev o91 (ks : List Nat) (b : Bool) (RES : List Int) : Orc := .call 181 ks b (.p (.tup [])) [roI RES] []

theorem Pa (p0 : List Int) (RES : List Int) (hm : Fm p0 = some RES) : Spec Tryz.prog 116 [ow 0 p0.length] [roI p0] (.p (.tup [])) [roI RES] [] := by
 unfold Fm at hm
 refine SO Tryz.func116 rfl rfl [(0,ow 0 p0.length)] [(0,ob0 (roI p0))] ?_
 intro cx hnt
 refine Sq (RD hnt (nn 3 []) [] [(2,pI ((p0.length : Nat) : Int))] [] [] tv ?_)
 obtain ⟨r1,hr1,hm⟩ := bo hm
 obtain ⟨r2,hr2,hm⟩ := bo hm
 obtain ⟨g3,hm⟩ := go1 hm
 refine RK hnt (nn 4 (o89 [] true r1 :: o91 [0] true r2 :: [])) [] [(0,ob0 (roI r2))] (an (Acy (IntKind.u64.wrap ((p0.length : Nat) : Int)) r1 hr1) (an (Tn p0 0 ((p0.length : Nat) : Int) r1 r2 hr2) (an (⟨rfl,g3⟩ : Body.same (roI p0) (roI r2)) tv))) ?_
 refine DW.done ?_
 obtain rfl := sj hm
 exact endK [roI r2] [] (.p (.tup []))
abbrev o88 (ks : List Nat) (b : Bool) (RES : List Int) : Orc := .call 116 ks b (.p (.tup [])) [roI RES] []

abbrev Uy (s4 : (List Int) × Int) (k1 : Int) (k4 : Int) := (s4.1.getD (Sw (Int.toNat k1) (Int.toNat k4)) 0)
abbrev AeG (k1 : Int) (p0 : List Int) : Nat × MV := (4,.own 0 0 (Int.toNat k1) (Cc p0.length (Int.toNat k1)))
abbrev c108e3 (s4 : (List Int) × Int) := (Lw s4.1 (Int.toNat s4.2) (Cc s4.1.length (Int.toNat s4.2)) 0)
theorem Ms (p0 : List Int) (RES : Nat × (List Int)) (hm : Dq p0 = some RES) : Spec Tryz.prog 139 [ow 0 p0.length] [roI p0] (ow 0 RES.1) [roI RES.2] [] := by
 unfold Dq at hm
 refine SO Tryz.func139 rfl rfl [(0,ow 0 p0.length)] [(0,ob0 (roI p0))] ?_
 intro cx hnt
 refine Sq (RD hnt (.no :: []) [] [] [] [] tv ?_)
 refine Sq (Sq (RD hnt (nn 3 []) [] [(8,pB (decide (((p0.length : Nat) : Int) < 2)))] [] [] tv ?_))
 refine Ag hm ?_ ?_
 ·intro h1 hm
  refine Sq (RK hnt (nn 2 []) [(2,ow 0 p0.length)] [(0,ob0 (roI p0))] tv ?_)
  obtain rfl := sj hm
  exact DW.ret (Ak [roI p0] [] (ow 0 p0.length))
 ·intro h1 hm
  refine Sk ?_
  refine Sq (Sq (RD hnt (.no :: []) [8] [(3,pI 1)] [] [] tv ?_))
  refine Bk ?_
  obtain ⟨hc1,hm⟩ := go1 hm
  refine DW.forO (fun (k1 : Int) (s1 : Unit) => Ao [(0,ow 0 p0.length),(3,pI k1)] [(0,ob0 (roI p0))]) (lo := 1) (hi := ((p0.length : Nat) : Int)) hm Conv.eqK ?_
  intro k1 s1 n1 hk1 hs1 he1
  refine Sq (Sq (RD hnt (nn 4 []) [] [(13,pB (decide (k1 < ((p0.length : Nat) : Int))))] [] [] tv ?_))
  refine Cm (decide (k1 < ((p0.length : Nat) : Int))) ?_ ?_
  ·intro h94
   have hlt1 : k1 < ((p0.length : Nat) : Int) := by have := of_decide_eq_true h94; omega
   have hm := hs1 hlt1
   unfold Kl at hm
   refine Sk ?_
   refine Sq (Bk ?_)
   obtain ⟨g95,g96,g97,g98,hm⟩ := go4 hm
   refine Sq (RD hnt (nn 10 []) [13] [(25,pB ((p0.getD (Int.toNat k1) 0) == (p0.getD (Int.toNat (w64 (k1 - 1))) 0)))] [] [] (an g95.1 (an g95.2 (an g96 (an g97.1 (an g97.2 (an g98 tv)))))) ?_)
   refine Ag hm ?_ ?_
   ·intro h99 hm
    obtain ⟨g100,hm⟩ := go1 hm
    refine Sq (RD hnt (nn 4 []) [25] [(AeG k1 p0)] [] [] (an (by omega : (0 : Int) ≤ k1) (an (by omega : k1 ≤ ((p0.length : Nat) : Int)) (an (by omega : ((p0.length : Nat) : Int) ≤ ((p0.length : Nat) : Int)) tv))) ?_)
    refine Sq (Sq (RD hnt (.no :: []) [] [(5,pI 1)] [] [] tv ?_))
    refine Bk ?_
    obtain ⟨hc4,hm⟩ := go1 hm
    refine DW.forO (fun (k4 : Int) (s4 : (List Int) × Int) => Ao [(0,ow 0 s4.1.length),(3,pI s4.2),(AeG k1 p0),(5,pI k4)] [(0,ob0 (roI s4.1))]) (lo := 1) (hi := (((Cc p0.length (Int.toNat k1)) : Nat) : Int)) hm Conv.eqK ?_
    intro k4 s4 n4 hk4 hs4 he4
    refine Sq (Sq (RD hnt (nn 4 []) [] [(32,pB (decide (k4 < (((Cc p0.length (Int.toNat k1)) : Nat) : Int))))] [] [] tv ?_))
    refine Cm (decide (k4 < (((Cc p0.length (Int.toNat k1)) : Nat) : Int))) ?_ ?_
    ·intro h127
     have hlt4 : k4 < (((Cc p0.length (Int.toNat k1)) : Nat) : Int) := by have := of_decide_eq_true h127; omega
     have hm := hs4 hlt4
     unfold Oa at hm
     refine Sk ?_
     refine Sq ?_
     refine Jn (ι := (List Int) × Int) (fun (y9 : (List Int) × Int) => Ao [(0,ow 0 y9.1.length),(3,pI y9.2),(AeG k1 p0),(5,pI k4)] [(0,ob0 (roI y9.1))]) (fun y9 => (Kn n4) y9 = some RES) ?_ ?_
     ·intro y9 hm
      unfold Kn at hm
      refine RD hnt (nn 3 []) [] [(5,pI (w64 (k4 + 1)))] [] [] tv ?_
      exact jD (y9.1,y9.2) ⟨hlt4,hm⟩ (Conv.tp [(5,pI (w64 (k4 + 1)))] [] (by kernel_rfl) (.cons rfl (.of_eq (congrArg pI (Tw (lo := 1) (hi := (((Cc p0.length (Int.toNat k1)) : Nat) : Int)) (by omega) hk4 hlt4 (by omega)))) .nil) .nil)
     ·refine Bk ?_
      obtain ⟨g128,g129,g130,g131,hm⟩ := go4 hm
      refine Sq (RD hnt (nn 10 []) [32] [(44,pB ((Uy s4 k1 k4) != (s4.1.getD (Sw (Int.toNat k1) (Int.toNat (w64 (k4 - 1)))) 0)))] [] [] (an g128.1 (an g128.2 (an g129 (an g130.1 (an g130.2 (an g131 tv)))))) ?_)
      refine Ag hm ?_ ?_
      ·intro h132 hm
       obtain ⟨g133,g134,g135,g136,hm⟩ := go4 hm
       refine Sq (RN hnt (nn 8 []) [(0,ow 0 (s4.1.set (Int.toNat s4.2) (Uy s4 k1 k4)).length),(3,pI s4.2),(AeG k1 p0),(5,pI k4)] [(0,ob0 (roI (s4.1.set (Int.toNat s4.2) (Uy s4 k1 k4))))] [(0,ow 0 s4.1.length)] [(0,.row 1 s4.1.length (Bj (elI s4.1) (Int.toNat s4.2) [vi (Uy s4 k1 k4)]))] (an g133.1 (an g133.2 (an g134 (an g135.1 (an g135.2 (an g136 tv)))))) (by kernel_rfl) (.cons rfl (MLe.ownLen (enc := Bd) (d := 0) (f := (Bj (elI s4.1) (Int.toNat s4.2) [vi (Uy s4 k1 k4)])) (RowIs.upd RowIs.elems (Uy s4 k1 k4) rfl)) .nil) (.cons rfl (BLe.typed (RowIs.upd RowIs.elems (Uy s4 k1 k4) rfl)) .nil) ?_)
       refine RD hnt (nn 3 []) [] [(3,pI (w64 (s4.2 + 1)))] [] [] tv ?_
       exact bD ((s4.1.set (Int.toNat s4.2) (Uy s4 k1 k4)),(w64 (s4.2 + 1))) hm Conv.eqK
      ·intro h132 hm
       refine Sk ?_
       exact bD (s4.1,s4.2) hm Conv.t0
    ·intro h127
     have hge4 : ¬ k4 < (((Cc p0.length (Int.toNat k1)) : Nat) : Int) := by have := of_decide_eq_false h127; omega
     have hm := he4 hge4
     unfold Of at hm
     refine DW.exit ?_
     refine Ar ?_
     refine Au ?_
     refine Ap ?_
     show DW _ _ _ _ _
     obtain ⟨g137,g138,hm⟩ := go2 hm
     refine Sq (RN hnt (nn 4 []) [(0,ow 0 (c108e3 s4).length),(3,pI s4.2)] [(0,ob0 (roI (c108e3 s4)))] [(0,ow 0 s4.1.length)] [(0,.row 1 s4.1.length (Ko (elI s4.1) (Int.toNat s4.2) (Cc s4.1.length (Int.toNat s4.2)) (fun _ => [vi 0])))] (an (by omega : (0 : Int) ≤ s4.2) (an (by omega : s4.2 ≤ ((s4.1.length : Nat) : Int)) (an (by omega : ((s4.1.length : Nat) : Int) ≤ ((s4.1.length : Nat) : Int)) (an g138 tv)))) (by kernel_rfl) (.cons rfl (MLe.ownLen (enc := Bd) (d := 0) (f := (Ko (elI s4.1) (Int.toNat s4.2) (Cc s4.1.length (Int.toNat s4.2)) (fun _ => [vi 0]))) (RowIs.fill RowIs.elems 0 rfl (by first | exact g138 | omega))) .nil) (.cons rfl (BLe.typed (RowIs.fill RowIs.elems 0 rfl (by first | exact g138 | omega))) .nil) ?_)
     obtain ⟨g139,hm⟩ := go1 hm
     refine Sq (RD hnt (nn 4 []) [0,3] [(2,ow 0 (Int.toNat s4.2))] [] [] (an (by omega : (0 : Int) ≤ 0) (an (by omega : (0 : Int) ≤ s4.2) (an (by omega : s4.2 ≤ (((Lw s4.1 (Int.toNat s4.2) (Cc s4.1.length (Int.toNat s4.2)) 0).length : Nat) : Int)) tv))) ?_)
     obtain rfl := sj hm
     exact DW.ret (Ak [roI (c108e3 s4)] [] (ow 0 (Int.toNat s4.2)))
   ·intro h99 hm
    refine Sk ?_
    refine DW.done ?_
    show DW _ _ _ _ _
    refine RD hnt (nn 3 []) [25] [(3,pI (w64 (k1 + 1)))] [] [] tv ?_
    exact jD () ⟨hlt1,hm⟩ (Conv.tp [(3,pI (w64 (k1 + 1)))] [] (by kernel_rfl) (.cons rfl (.of_eq (congrArg pI (Tw (lo := 1) (hi := ((p0.length : Nat) : Int)) (by omega) hk1 hlt1 (by omega)))) .nil) .nil)
  ·intro h94
   have hge1 : ¬ k1 < ((p0.length : Nat) : Int) := by have := of_decide_eq_false h94; omega
   have hm := he1 hge1
   unfold Sz at hm
   refine DW.exit ?_
   refine Ar ?_
   refine Au ?_
   refine Ap ?_
   show DW _ _ _ _ _
   refine Sq (RK hnt (nn 2 []) [(2,ow 0 p0.length)] [(0,ob0 (roI p0))] tv ?_)
   obtain rfl := sj hm
   exact DW.ret (Ak [roI p0] [] (ow 0 p0.length))
abbrev o108 (ks : List Nat) (b : Bool) (RES : Nat × (List Int)) : Orc := .call 139 ks b (ow 0 RES.1) [roI RES.2] []

abbrev c85e1 (p0 : Aa) : Nat × MV := (12,pI ((p0.tasks.length : Nat) : Int))
theorem Qm (p0 : Aa) (p1c0 : Int) (RES : List Int) (hm : Gd p0 p1c0 = some RES) : Spec Tryz.prog 100 [.p (.agg (Ab p0)),.fn 170 [rr 0],.p (.fn 171 [])] [.box [pI p1c0]] (.p (slI RES)) [.box [pI p1c0]] [] := by
 unfold Gd at hm
 refine SO Tryz.func100 rfl rfl [(0,.p (.agg (Ab p0))),(1,.fn 170 [rr 0]),(2,.p (.fn 171 []))] [(0,bx [pI p1c0])] ?_
 intro cx hnt
 refine Sq (RD hnt (nn 2 []) [0] [(3,rr 1024)] [] [(1024,bx (pm (Ab p0)))] tv ?_)
 refine Sq (RD hnt (.no :: []) [] [(7,.p (.sl .nil 0 0 (fun _ => [])))] [] [] tv ?_)
 refine Sq (Sq (RD hnt (nn 4 []) [3] [(11,.p (Bt p0.tasks)),(c85e1 p0),(13,pI 0)] [1024] [] tv ?_))
 refine Bk ?_
 obtain ⟨hc1,hm⟩ := go1 hm
 refine DW.rangeO (fun (k1 : Nat) (s1 : List Int) => Ao [(1,.fn 170 [rr 0]),(2,.p (.fn 171 [])),(7,ow 1200 s1.length),(11,.p (Bt p0.tasks)),(c85e1 p0),(13,pI ((k1 : Nat) : Int))] [(0,bx [pI p1c0]),(1200,ob0 (roI s1))]) Ba hm (Conv.ads [(.s 7,1200,1,elems Bd 0 [])]) ?_
 intro k1 s1 n1 hk1 hs1 he1
 refine Sq (RD hnt (.no :: []) [] [(14,pB (decide (((k1 : Nat) : Int) < ((p0.tasks.length : Nat) : Int))))] [] [] tv ?_)
 refine Sq (Cm (decide (((k1 : Nat) : Int) < ((p0.tasks.length : Nat) : Int))) ?_ ?_)
 ·intro h22
  have hlt1 : k1 < p0.tasks.length := by have := of_decide_eq_true h22; omega
  have hm := hs1 hlt1
  unfold Hj at hm
  refine Sk ?_
  refine Sq ?_
  refine Jn (ι := List Int) (fun (y3 : List Int) => Ao [(1,.fn 170 [rr 0]),(2,.p (.fn 171 [])),(7,ow 1200 y3.length),(11,.p (Bt p0.tasks)),(c85e1 p0),(13,pI ((k1 : Nat) : Int))] [(0,bx [pI p1c0]),(1200,ob0 (roI y3))]) (fun y3 => (Ds n1) y3 = some RES) ?_ ?_
  ·intro y3 hm
   unfold Ds at hm
   refine RD hnt (nn 2 []) [] [(13,pI (w64 (((k1 : Nat) : Int) + 1)))] [] [] tv ?_
   exact jD y3 ⟨hlt1,hm⟩ (Conv.tp [(13,pI (w64 (((k1 : Nat) : Int) + 1)))] [] (by kernel_rfl) (.cons rfl (.of_eq (congrArg pI (Br hlt1 hc1))) .nil) .nil)
  ·refine Bk ?_
   refine Sq (RD hnt (nn 4 []) [14] [(9,rr 1072)] [] [(1072,bx (pm (Am (p0.tasks.getD k1 (default : Aj)))))] (an (nn0 k1) (an (ltc hlt1) tv)) ?_)
   obtain ⟨r23,hr23,hm⟩ := bo hm
   refine Sq (RD hnt (nn 2 (.call 170 [0] true (pB r23) [.box [pI p1c0]] [] :: [])) [] [(19,pB r23)] [] [] (an (Aen (p0.tasks.getD k1 (default : Aj)) p1c0 r23 hr23) (an tv tv)) ?_)
   refine Ag hm ?_ ?_
   ·intro h24 hm
    obtain ⟨r25,hr25,hm⟩ := bo hm
    obtain ⟨g26,hm⟩ := go1 hm
    refine RN hnt (nn 3 (o87 [] true r25 :: nn 3 [])) [(1,.fn 170 [rr 0]),(2,.p (.fn 171 [])),(7,ow 1200 (s1 ++ [r25]).length),(11,.p (Bt p0.tasks)),(c85e1 p0),(13,pI ((k1 : Nat) : Int))] [(0,bx [pI p1c0]),(1200,ob0 (roI (s1 ++ [r25])))] [(7,ow 1200 (s1.length + 1))] [(1200,.row 1 (s1.length + 1) (Cp s1.length (elI s1) (cut 1 [vi r25])))] (an (Ads (p0.tasks.getD k1 (default : Aj)) r25 hr25) (an (by omega : (s1.length + 1) * 8 ≤ 140737488355328) tv)) (by kernel_rfl) (.cons rfl (MLe.ownLen (enc := Bd) (d := 0) (f := (Cp s1.length (elI s1) (cut 1 [vi r25]))) (RowIs.cat RowIs.elems (RowIs.lit (enc := Bd) (d := 0) (n := 1) (f := (cut 1 [vi r25])) [r25] rfl (fun | 0,_ => rfl | n + 1,h => absurd h (by omega))))) .nil) (.cons rfl (BLe.typed (RowIs.cat RowIs.elems (RowIs.lit (enc := Bd) (d := 0) (n := 1) (f := (cut 1 [vi r25])) [r25] rfl (fun | 0,_ => rfl | n + 1,h => absurd h (by omega))))) .nil) ?_
    exact bD (s1 ++ [r25]) hm .refl
   ·intro h24 hm
    refine Sk ?_
    exact bD s1 hm Conv.t0
 ·intro h22
  have hge1 : ¬ k1 < p0.tasks.length := by have := of_decide_eq_false h22; omega
  have hm := he1 hge1
  unfold Fk at hm
  refine DW.exit ?_
  refine Ar ?_
  refine Au ?_
  refine Ap ?_
  show DW _ _ _ _ _
  obtain ⟨r27,hr27,hm⟩ := bo hm
  obtain ⟨g28,hm⟩ := go1 hm
  refine Sq (RN hnt (.no :: o88 [1200] true r27 :: []) [(7,ow 1200 r27.length)] [(0,bx [pI p1c0]),(1200,ob0 (roI r27))] [(7,ow 1200 s1.length)] [] (an (Pa s1 r27 hr27) (an (⟨rfl,g28⟩ : Body.same (roI s1) (roI r27)) tv)) (by kernel_rfl) (.cons rfl (MLe.of_eq (congrArg (MV.own 1200 0 0) g28)) .nil) .nil ?_)
  obtain ⟨r29,hr29,hm⟩ := bo hm
  obtain ⟨g30,g31,hm⟩ := go2 hm
  refine Sq (RD hnt (.no :: o108 [1200] true r29 :: .no :: []) [7] [(6,ow 1200 r29.1)] [] [(1200,ob0 (roI r29.2))] (an (Ms r27 r29 hr29) (an (⟨rfl,g30⟩ : Body.same (roI r27) (roI r29.2)) tv)) ?_)
  refine DW.conv (τ := Ao [(6,.p (slI (r29.2.take r29.1)))] [(0,bx [pI p1c0])]) (Conv.trans (τ := Ao [(6,.p (.sl .unk 1 r29.1 (elI r29.2)))] [(0,bx [pI p1c0])]) (Conv.frz [1200]) (Conv.tp [(6,.p (.sl .unk 1 r29.1 (elI r29.2)))] [] (by kernel_rfl) (.cons rfl (MLe.typed (RowIs.take RowIs.elems (by first | omega | (simp only [Fd,Mb] at *; omega)))) .nil) .nil)) ?_
  obtain rfl := sj hm
  exact DW.ret (Ak [.box [pI p1c0]] [] (.p (slI (r29.2.take r29.1))))

theorem AfK (p0 : Aa) (p1 : Int) (RES : List Int) (hm : Su p0 p1 = some RES) : Spec Tryz.prog 99 [.p (.agg (Ab p0)),pI p1] [] (.p (slI RES)) [] [] := by
 unfold Su at hm
 refine SO Tryz.func99 rfl rfl [(0,.p (.agg (Ab p0))),(1,pI p1)] [] ?_
 intro cx hnt
 refine Sq (RK hnt (nn 3 []) [(2,rr 1016),(3,rr 1024)] [(1016,bx (pm (Ab p0))),(1024,bx [pI p1])] tv ?_)
 obtain ⟨r1,hr1,hm⟩ := bo hm
 refine Sq (RK hnt (nn 2 (.call 100 [1024] true (.p (slI r1)) [.box [pI p1]] [] :: .no :: [])) [(4,.p (slI r1))] [] (an (Qm p0 p1 r1 hr1) (an tv tv)) ?_)
 obtain rfl := sj hm
 exact DW.ret (Ak [] [] (.p (slI r1)))
abbrev o84 (ks : List Nat) (b : Bool) (RES : List Int) : Orc := .call 99 ks b (.p (slI RES)) [] []

theorem Lf (p0 : Aa) (p1 : Int) (RES : List Int) (hm : Ls p0 p1 = some RES) : Spec Tryz.prog 25 [.p (.agg (Ab p0)),pI p1] [] (.p (slI RES)) [] [] := by
 unfold Ls at hm
 refine SO Tryz.func25 rfl rfl [(0,.p (.agg (Ab p0))),(1,pI p1)] [] ?_
 intro cx hnt
 refine Sq (RK hnt (nn 2 []) [(1,pI p1),(2,rr 1016)] [(1016,bx (pm (Ab p0)))] tv ?_)
 obtain ⟨r1,hr1,hm⟩ := bo hm
 obtain ⟨r2,hr2,hm⟩ := bo hm
 refine Sq (RK hnt (.no :: o82 [] true r1 :: .no :: o84 [] true r2 :: .no :: []) [(4,.p (slI r2))] [] (an (Jr p0 r1 hr1) (an (AfK r1 p1 r2 hr2) tv)) ?_)
 obtain rfl := sj hm
 exact DW.ret (Ak [] [] (.p (slI r2)))
abbrev o83 (ks : List Nat) (b : Bool) (RES : List Int) : Orc := .call 25 ks b (.p (slI RES)) [] []

theorem Fa (p0 : List Int) (p1 : List Int) (RES : Bool) (hm : Po p0 p1 = some RES) : Spec Tryz.prog 24 [.p (slI p0),.p (slI p1)] [] (pB RES) [] [] := by
 unfold Po at hm
 refine SO Tryz.func24 rfl rfl [(0,.p (slI p0)),(1,.p (slI p1))] [] ?_
 intro cx hnt
 refine Sq (RD hnt (.no :: []) [] [] [] [] tv ?_)
 refine Sq (Sq (RD hnt (nn 5 []) [] [(10,pB (((p0.length : Nat) : Int) != ((p1.length : Nat) : Int)))] [] [] tv ?_))
 refine Ag hm ?_ ?_
 ·intro h1 hm
  refine Sq (RK hnt (.no :: []) [(4,pB false)] [] tv ?_)
  obtain rfl := sj hm
  exact DW.ret (Ak [] [] (pB false))
 ·intro h1 hm
  refine Sk ?_
  refine Sq (Sq (RD hnt (.no :: []) [10] [(5,pI 0)] [] [] tv ?_))
  refine Bk ?_
  obtain ⟨hc1,hm⟩ := go1 hm
  refine DW.rangeO (fun (k1 : Nat) (s1 : Unit) => Ao [(0,.p (slI p0)),(1,.p (slI p1)),(5,pI ((k1 : Nat) : Int))] []) 0 hm Conv.eqK ?_
  intro k1 s1 n1 hk1 hs1 he1
  refine Sq (Sq (RD hnt (nn 4 []) [] [(14,pB (decide (((k1 : Nat) : Int) < ((p0.length : Nat) : Int))))] [] [] tv ?_))
  refine Cm (decide (((k1 : Nat) : Int) < ((p0.length : Nat) : Int))) ?_ ?_
  ·intro h10
   have hlt1 : k1 < p0.length := by have := of_decide_eq_true h10; omega
   have hm := hs1 hlt1
   unfold Aas at hm
   refine Sk ?_
   refine Sq (Bk ?_)
   obtain ⟨g11,hm⟩ := go1 hm
   refine Sq (RD hnt (nn 9 []) [14] [(25,pB ((p0.getD k1 0) != (p1.getD k1 0)))] [] [] (an (nn0 k1) (an (ltc hlt1) (an (nn0 k1) (an (ltc g11) tv)))) ?_)
   refine Ag hm ?_ ?_
   ·intro h12 hm
    refine Sq (RK hnt (.no :: []) [(4,pB false)] [] tv ?_)
    obtain rfl := sj hm
    exact DW.ret (Ak [] [] (pB false))
   ·intro h12 hm
    refine Sk ?_
    refine DW.done ?_
    show DW _ _ _ _ _
    refine RD hnt (nn 3 []) [25] [(5,pI (w64 (((k1 : Nat) : Int) + 1)))] [] [] tv ?_
    exact jD () ⟨hlt1,hm⟩ (Conv.tp [(5,pI (w64 (((k1 : Nat) : Int) + 1)))] [] (by kernel_rfl) (.cons rfl (.of_eq (congrArg pI (Br hlt1 hc1))) .nil) .nil)
  ·intro h10
   have hge1 : ¬ k1 < p0.length := by have := of_decide_eq_false h10; omega
   have hm := he1 hge1
   unfold AdC at hm
   refine DW.exit ?_
   refine Ar ?_
   refine Au ?_
   refine Ap ?_
   show DW _ _ _ _ _
   refine Sq (RK hnt (.no :: []) [(4,pB true)] [] tv ?_)
   obtain rfl := sj hm
   exact DW.ret (Ak [] [] (pB true))
abbrev Vt (ks : List Nat) (b : Bool) (RES : Bool) : Orc := .call 24 ks b (pB RES) [] []

theorem Aan (p0 : Aj) (p1 : Int) (RES : Bool) (hm : Mp p0 p1 = some RES) : Spec Tryz.prog 101 [.p (.agg (Am p0)),rr 0] [.box [pI p1]] (pB RES) [.box [pI p1]] [] := by
 unfold Mp at hm
 refine SO Tryz.func101 rfl rfl [(0,.p (.agg (Am p0))),(1,rr 0)] [(0,bx [pI p1])] ?_
 intro cx hnt
 refine Sq (RD hnt (nn 2 []) [0] [(2,rr 1016)] [] [(1016,bx (pm (Am p0)))] tv ?_)
 refine Sq (RK hnt (nn 5 []) [(3,pB (p0.group == p1))] [(0,bx [pI p1])] tv ?_)
 obtain rfl := sj hm
 exact DW.ret (Ak [.box [pI p1]] [] (pB (p0.group == p1)))

theorem Aad (p0 : Aj) (RES : Int) (hm : Md p0 = some RES) : Spec Tryz.prog 102 [.p (.agg (Am p0))] [] (pI RES) [] [] := by
 unfold Md at hm
 refine SO Tryz.func102 rfl rfl [(0,.p (.agg (Am p0)))] [] ?_
 intro cx hnt
 refine Sq (RK hnt (nn 2 []) [(1,rr 1008)] [(1008,bx (pm (Am p0)))] tv ?_)
 refine Sq (RK hnt (nn 3 []) [(2,pI p0.process)] [] tv ?_)
 obtain rfl := sj hm
 exact DW.ret (Ak [] [] (pI p0.process))
abbrev o113 (ks : List Nat) (b : Bool) (RES : Int) : Orc := .call 102 ks b (pI RES) [] []

abbrev Aev (p0 : Aa) : Nat × MV := (12,pI ((p0.tasks.length : Nat) : Int))
theorem Ka (p0 : Aa) (p1c0 : Int) (RES : List Int) (hm : Cb p0 p1c0 = some RES) : Spec Tryz.prog 100 [.p (.agg (Ab p0)),.fn 101 [rr 0],.p (.fn 102 [])] [.box [pI p1c0]] (.p (slI RES)) [.box [pI p1c0]] [] := by
 unfold Cb at hm
 refine SO Tryz.func100 rfl rfl [(0,.p (.agg (Ab p0))),(1,.fn 101 [rr 0]),(2,.p (.fn 102 []))] [(0,bx [pI p1c0])] ?_
 intro cx hnt
 refine Sq (RD hnt (nn 2 []) [0] [(3,rr 1024)] [] [(1024,bx (pm (Ab p0)))] tv ?_)
 refine Sq (RD hnt (.no :: []) [] [(7,.p (.sl .nil 0 0 (fun _ => [])))] [] [] tv ?_)
 refine Sq (Sq (RD hnt (nn 4 []) [3] [(11,.p (Bt p0.tasks)),(Aev p0),(13,pI 0)] [1024] [] tv ?_))
 refine Bk ?_
 obtain ⟨hc1,hm⟩ := go1 hm
 refine DW.rangeO (fun (k1 : Nat) (s1 : List Int) => Ao [(1,.fn 101 [rr 0]),(2,.p (.fn 102 [])),(7,ow 1200 s1.length),(11,.p (Bt p0.tasks)),(Aev p0),(13,pI ((k1 : Nat) : Int))] [(0,bx [pI p1c0]),(1200,ob0 (roI s1))]) Ba hm (Conv.ads [(.s 7,1200,1,elems Bd 0 [])]) ?_
 intro k1 s1 n1 hk1 hs1 he1
 refine Sq (RD hnt (.no :: []) [] [(14,pB (decide (((k1 : Nat) : Int) < ((p0.tasks.length : Nat) : Int))))] [] [] tv ?_)
 refine Sq (Cm (decide (((k1 : Nat) : Int) < ((p0.tasks.length : Nat) : Int))) ?_ ?_)
 ·intro h22
  have hlt1 : k1 < p0.tasks.length := by have := of_decide_eq_true h22; omega
  have hm := hs1 hlt1
  unfold Dp at hm
  refine Sk ?_
  refine Sq ?_
  refine Jn (ι := List Int) (fun (y3 : List Int) => Ao [(1,.fn 101 [rr 0]),(2,.p (.fn 102 [])),(7,ow 1200 y3.length),(11,.p (Bt p0.tasks)),(Aev p0),(13,pI ((k1 : Nat) : Int))] [(0,bx [pI p1c0]),(1200,ob0 (roI y3))]) (fun y3 => (Ca n1) y3 = some RES) ?_ ?_
  ·intro y3 hm
   unfold Ca at hm
   refine RD hnt (nn 2 []) [] [(13,pI (w64 (((k1 : Nat) : Int) + 1)))] [] [] tv ?_
   exact jD y3 ⟨hlt1,hm⟩ (Conv.tp [(13,pI (w64 (((k1 : Nat) : Int) + 1)))] [] (by kernel_rfl) (.cons rfl (.of_eq (congrArg pI (Br hlt1 hc1))) .nil) .nil)
  ·refine Bk ?_
   refine Sq (RD hnt (nn 4 []) [14] [(9,rr 1072)] [] [(1072,bx (pm (Am (p0.tasks.getD k1 (default : Aj)))))] (an (nn0 k1) (an (ltc hlt1) tv)) ?_)
   obtain ⟨r23,hr23,hm⟩ := bo hm
   refine Sq (RD hnt (nn 2 (.call 101 [0] true (pB r23) [.box [pI p1c0]] [] :: [])) [] [(19,pB r23)] [] [] (an (Aan (p0.tasks.getD k1 (default : Aj)) p1c0 r23 hr23) (an tv tv)) ?_)
   refine Ag hm ?_ ?_
   ·intro h24 hm
    obtain ⟨r25,hr25,hm⟩ := bo hm
    obtain ⟨g26,hm⟩ := go1 hm
    refine RN hnt (nn 3 (o113 [] true r25 :: nn 3 [])) [(1,.fn 101 [rr 0]),(2,.p (.fn 102 [])),(7,ow 1200 (s1 ++ [r25]).length),(11,.p (Bt p0.tasks)),(Aev p0),(13,pI ((k1 : Nat) : Int))] [(0,bx [pI p1c0]),(1200,ob0 (roI (s1 ++ [r25])))] [(7,ow 1200 (s1.length + 1))] [(1200,.row 1 (s1.length + 1) (Cp s1.length (elI s1) (cut 1 [vi r25])))] (an (Aad (p0.tasks.getD k1 (default : Aj)) r25 hr25) (an (by omega : (s1.length + 1) * 8 ≤ 140737488355328) tv)) (by kernel_rfl) (.cons rfl (MLe.ownLen (enc := Bd) (d := 0) (f := (Cp s1.length (elI s1) (cut 1 [vi r25]))) (RowIs.cat RowIs.elems (RowIs.lit (enc := Bd) (d := 0) (n := 1) (f := (cut 1 [vi r25])) [r25] rfl (fun | 0,_ => rfl | n + 1,h => absurd h (by omega))))) .nil) (.cons rfl (BLe.typed (RowIs.cat RowIs.elems (RowIs.lit (enc := Bd) (d := 0) (n := 1) (f := (cut 1 [vi r25])) [r25] rfl (fun | 0,_ => rfl | n + 1,h => absurd h (by omega))))) .nil) ?_
    exact bD (s1 ++ [r25]) hm .refl
   ·intro h24 hm
    refine Sk ?_
    exact bD s1 hm Conv.t0
 ·intro h22
  have hge1 : ¬ k1 < p0.tasks.length := by have := of_decide_eq_false h22; omega
  have hm := he1 hge1
  unfold Bp at hm
  refine DW.exit ?_
  refine Ar ?_
  refine Au ?_
  refine Ap ?_
  show DW _ _ _ _ _
  obtain ⟨r27,hr27,hm⟩ := bo hm
  obtain ⟨g28,hm⟩ := go1 hm
  refine Sq (RN hnt (.no :: o88 [1200] true r27 :: []) [(7,ow 1200 r27.length)] [(0,bx [pI p1c0]),(1200,ob0 (roI r27))] [(7,ow 1200 s1.length)] [] (an (Pa s1 r27 hr27) (an (⟨rfl,g28⟩ : Body.same (roI s1) (roI r27)) tv)) (by kernel_rfl) (.cons rfl (MLe.of_eq (congrArg (MV.own 1200 0 0) g28)) .nil) .nil ?_)
  obtain ⟨r29,hr29,hm⟩ := bo hm
  obtain ⟨g30,g31,hm⟩ := go2 hm
  refine Sq (RD hnt (.no :: o108 [1200] true r29 :: .no :: []) [7] [(6,ow 1200 r29.1)] [] [(1200,ob0 (roI r29.2))] (an (Ms r27 r29 hr29) (an (⟨rfl,g30⟩ : Body.same (roI r27) (roI r29.2)) tv)) ?_)
  refine DW.conv (τ := Ao [(6,.p (slI (r29.2.take r29.1)))] [(0,bx [pI p1c0])]) (Conv.trans (τ := Ao [(6,.p (.sl .unk 1 r29.1 (elI r29.2)))] [(0,bx [pI p1c0])]) (Conv.frz [1200]) (Conv.tp [(6,.p (.sl .unk 1 r29.1 (elI r29.2)))] [] (by kernel_rfl) (.cons rfl (MLe.typed (RowIs.take RowIs.elems (by first | omega | (simp only [Fd,Mb] at *; omega)))) .nil) .nil)) ?_
  obtain rfl := sj hm
  exact DW.ret (Ak [.box [pI p1c0]] [] (.p (slI (r29.2.take r29.1))))

theorem Kj (p0 : Aa) (p1 : Int) (RES : List Int) (hm : Ht p0 p1 = some RES) : Spec Tryz.prog 27 [.p (.agg (Ab p0)),pI p1] [] (.p (slI RES)) [] [] := by
 unfold Ht at hm
 refine SO Tryz.func27 rfl rfl [(0,.p (.agg (Ab p0))),(1,pI p1)] [] ?_
 intro cx hnt
 refine Sq (RK hnt (nn 3 []) [(2,rr 1016),(3,rr 1024)] [(1016,bx (pm (Ab p0))),(1024,bx [pI p1])] tv ?_)
 obtain ⟨r1,hr1,hm⟩ := bo hm
 obtain ⟨r2,hr2,hm⟩ := bo hm
 refine Sq (RK hnt (.no :: o82 [] true r1 :: .no :: .call 100 [1024] true (.p (slI r2)) [.box [pI p1]] [] :: .no :: []) [(4,.p (slI r2))] [] (an (Jr p0 r1 hr1) (an (Ka r1 p1 r2 hr2) (an tv tv))) ?_)
 obtain rfl := sj hm
 exact DW.ret (Ak [] [] (.p (slI r2)))
abbrev o110 (ks : List Nat) (b : Bool) (RES : List Int) : Orc := .call 27 ks b (.p (slI RES)) [] []
end Go.Dm


/- Go functions compute their models, printed by a program. -/
namespace Go.Dm
open Go.Proofs
set_option linter.unusedVariables false
abbrev Ux (k1 : Nat) : Nat × MV := (4,pI ((k1 : Nat) : Int))
theorem Aeu (p0 : List Int) (RES : List Int) (hm : Kt p0 = some RES) : Spec Tryz.prog 48 [.p (slI p0)] [] (ow 0 RES.length) [] [roI RES] := by
 unfold Kt at hm
 refine SO Tryz.func48 rfl rfl [(0,.p (slI p0))] [] ?_
 intro cx hnt
 refine Sq (RK hnt (.no :: []) [(0,.p (slI p0))] [] tv ?_)
 refine Sq (RD hnt (.no :: []) [] [(3,.p (.sl .nil 0 0 (fun _ => [])))] [] [] tv ?_)
 refine Sq (Sq (RD hnt (.no :: []) [] [(4,pI 0)] [] [] tv ?_))
 refine Bk ?_
 obtain ⟨hc1,hm⟩ := go1 hm
 refine DW.rangeO (fun (k1 : Nat) (s1 : List Int) => Ao [(0,.p (slI p0)),(3,ow 1368 s1.length),(Ux k1)] [(1368,ob0 (roI s1))]) 0 hm (Conv.ads [(.s 3,1368,1,elems Bd 0 [])]) ?_
 intro k1 s1 n1 hk1 hs1 he1
 refine Sq (Sq (RD hnt (nn 4 []) [] [(9,pB (decide (((k1 : Nat) : Int) < ((p0.length : Nat) : Int))))] [] [] tv ?_))
 refine Cm (decide (((k1 : Nat) : Int) < ((p0.length : Nat) : Int))) ?_ ?_
 ·intro h72
  have hlt1 : k1 < p0.length := by have := of_decide_eq_true h72; omega
  have hm := hs1 hlt1
  unfold Vu at hm
  refine Sk ?_
  refine Sq ?_
  refine Jn (ι := List Int) (fun (y11 : List Int) => Ao [(0,.p (slI p0)),(3,ow 1368 y11.length),(Ux k1)] [(1368,ob0 (roI y11))]) (fun y11 => (Nk n1) y11 = some RES) ?_ ?_
  ·intro y11 hm
   unfold Nk at hm
   refine RD hnt (nn 3 []) [] [(4,pI (w64 (((k1 : Nat) : Int) + 1)))] [] [] tv ?_
   exact jD y11 ⟨hlt1,hm⟩ (Conv.tp [(4,pI (w64 (((k1 : Nat) : Int) + 1)))] [] (by kernel_rfl) (.cons rfl (.of_eq (congrArg pI (Br hlt1 hc1))) .nil) .nil)
  ·refine Bk ?_
   refine Sq (RD hnt (nn 3 []) [9] [(5,pI ((s1.length : Nat) : Int))] [] [] tv ?_)
   refine Sq (Bk ?_)
   refine DW.whileO (fun (s4 : Int) => Ao [(0,.p (slI p0)),(3,ow 1368 s1.length),(Ux k1),(5,pI s4)] [(1368,ob0 (roI s1))]) hm Conv.eqK ?_
   intro s4 n4 hm
   unfold Rt at hm
   refine Sq (Sq ?_)
   refine Jn (ι := Bool) (fun (y14 : Bool) => Ao [(0,.p (slI p0)),(3,ow 1368 s1.length),(Ux k1),(5,pI s4),(27,pB y14)] [(1368,ob0 (roI s1))]) (fun y14 => (La (p0.getD k1 0) s1 n1 s4 n4) y14 = some RES) ?_ ?_
   ·intro y14 hm
    unfold La at hm
    refine Ag hm ?_ ?_
    ·intro h90 hm
     refine Sk ?_
     refine Bk ?_
     refine RD hnt (nn 3 []) [27] [(5,pI (w64 (s4 - 1)))] [] [] tv ?_
     refine DW.done ?_
     show DW _ _ _ _ _
     exact jD (w64 (s4 - 1)) hm Conv.eqK
    ·intro h90 hm
     refine DW.exit ?_
     refine Ar ?_
     refine Au ?_
     refine Ap ?_
     show DW _ _ _ _ _
     refine Sq (Sq ?_)
     refine Jn (ι := Bool) (fun (y15 : Bool) => Ao [(0,.p (slI p0)),(3,ow 1368 s1.length),(Ux k1),(5,pI s4),(43,pB y15)] [(1368,ob0 (roI s1))]) (fun y15 => (Lb (p0.getD k1 0) s1 n1 s4) y15 = some RES) ?_ ?_
     ·intro y15 hm
      unfold Lb at hm
      refine Ag hm ?_ ?_
      ·intro h94 hm
       refine DW.exit ?_
       exact Ap (joinKQ s1 hm Conv.t0)
      ·intro h94 hm
       refine Sk ?_
       obtain ⟨g95,hm⟩ := go1 hm
       refine Sq (RN hnt (nn 4 []) [(0,.p (slI p0)),(3,ow 1368 (s1 ++ [0]).length),(Ux k1),(5,pI s4)] [(1368,ob0 (roI (s1 ++ [0])))] [(3,ow 1368 (s1.length + 1))] [(1368,.row 1 (s1.length + 1) (Cp s1.length (elI s1) (cut 1 [vi 0])))] (an (by omega : (s1.length + 1) * 8 ≤ 140737488355328) tv) (by kernel_rfl) (.cons rfl (MLe.ownLen (enc := Bd) (d := 0) (f := (Cp s1.length (elI s1) (cut 1 [vi 0]))) (RowIs.cat RowIs.elems (RowIs.lit (enc := Bd) (d := 0) (n := 1) (f := (cut 1 [vi 0])) [0] rfl (fun | 0,_ => rfl | n + 1,h => absurd h (by omega))))) .nil) (.cons rfl (BLe.typed (RowIs.cat RowIs.elems (RowIs.lit (enc := Bd) (d := 0) (n := 1) (f := (cut 1 [vi 0])) [0] rfl (fun | 0,_ => rfl | n + 1,h => absurd h (by omega))))) .nil) ?_)
       obtain ⟨g96,g97,g98,hm⟩ := go3 hm
       refine Sq (RN hnt (nn 8 []) [(0,.p (slI p0)),(3,ow 1368 (Ml (s1 ++ [0]) (Int.toNat (w64 (s4 + 1))) (Gn (Cc (s1 ++ [0]).length (Int.toNat s4)) (Cc (s1 ++ [0]).length (Int.toNat (w64 (s4 + 1))))) (((s1 ++ [0]).drop (Int.toNat s4)).take (Cc (s1 ++ [0]).length (Int.toNat s4)))).length),(Ux k1),(5,pI s4)] [(1368,ob0 (roI (Ml (s1 ++ [0]) (Int.toNat (w64 (s4 + 1))) (Gn (Cc (s1 ++ [0]).length (Int.toNat s4)) (Cc (s1 ++ [0]).length (Int.toNat (w64 (s4 + 1))))) (((s1 ++ [0]).drop (Int.toNat s4)).take (Cc (s1 ++ [0]).length (Int.toNat s4))))))] [(3,ow 1368 (s1 ++ [0]).length)] [(1368,.row 1 (s1 ++ [0]).length (Ko (elI (s1 ++ [0])) (Int.toNat (w64 (s4 + 1))) (Gn (Cc (s1 ++ [0]).length (Int.toNat s4)) (Cc (s1 ++ [0]).length (Int.toNat (w64 (s4 + 1))))) (shF (Int.toNat s4) (elI (s1 ++ [0])))))] (an (by omega : (0 : Int) ≤ (w64 (s4 + 1))) (an (by omega : (w64 (s4 + 1)) ≤ (((s1 ++ [0]).length : Nat) : Int)) (an (by omega : (((s1 ++ [0]).length : Nat) : Int) ≤ (((s1 ++ [0]).length : Nat) : Int)) (an (by omega : (0 : Int) ≤ s4) (an (by omega : s4 ≤ (((s1 ++ [0]).length : Nat) : Int)) (an (by omega : (((s1 ++ [0]).length : Nat) : Int) ≤ (((s1 ++ [0]).length : Nat) : Int)) (an g98 tv))))))) (by kernel_rfl) (.cons rfl (MLe.ownLen (enc := Bd) (d := 0) (f := (Ko (elI (s1 ++ [0])) (Int.toNat (w64 (s4 + 1))) (Gn (Cc (s1 ++ [0]).length (Int.toNat s4)) (Cc (s1 ++ [0]).length (Int.toNat (w64 (s4 + 1))))) (shF (Int.toNat s4) (elI (s1 ++ [0]))))) (RowIs.over RowIs.elems (RowIs.sub RowIs.elems (by first | omega | (simp only [Fd,Mb] at *; omega))) (AcR _ _).1 (by have := (AcR (Cc (s1 ++ [0]).length (Int.toNat s4)) (Cc (s1 ++ [0]).length (Int.toNat (w64 (s4 + 1))))).2; omega))) .nil) (.cons rfl (BLe.typed (RowIs.over RowIs.elems (RowIs.sub RowIs.elems (by first | omega | (simp only [Fd,Mb] at *; omega))) (AcR _ _).1 (by have := (AcR (Cc (s1 ++ [0]).length (Int.toNat s4)) (Cc (s1 ++ [0]).length (Int.toNat (w64 (s4 + 1))))).2; omega))) .nil) ?_)
       generalize (Ml (s1 ++ [0]) (Int.toNat (w64 (s4 + 1))) (Gn (Cc (s1 ++ [0]).length (Int.toNat s4)) (Cc (s1 ++ [0]).length (Int.toNat (w64 (s4 + 1))))) (((s1 ++ [0]).drop (Int.toNat s4)).take (Cc (s1 ++ [0]).length (Int.toNat s4)))) = G1 at hm ⊢
       obtain ⟨g99,g100,hm⟩ := go2 hm
       refine RN hnt (nn 8 []) [(0,.p (slI p0)),(3,ow 1368 (G1.set (Int.toNat s4) (p0.getD k1 0)).length),(Ux k1)] [(1368,ob0 (roI (G1.set (Int.toNat s4) (p0.getD k1 0))))] [(3,ow 1368 G1.length)] [(1368,.row 1 G1.length (Bj (elI G1) (Int.toNat s4) [vi (p0.getD k1 0)]))] (an (nn0 k1) (an (ltc hlt1) (an g99.1 (an g99.2 (an g100 tv))))) (by kernel_rfl) (.cons rfl (MLe.ownLen (enc := Bd) (d := 0) (f := (Bj (elI G1) (Int.toNat s4) [vi (p0.getD k1 0)])) (RowIs.upd RowIs.elems (p0.getD k1 0) rfl)) .nil) (.cons rfl (BLe.typed (RowIs.upd RowIs.elems (p0.getD k1 0) rfl)) .nil) ?_
       exact bD (G1.set (Int.toNat s4) (p0.getD k1 0)) hm .refl
     ·rcases bt (decide (s4 > 0)) with h91 | h91
      ·replace hm := Bg h91 hm
       obtain ⟨g92,g93,hm⟩ := go2 hm
       refine RD hnt (nn 13 (pT :: [])) [27] [(43,pB ((s1.getD (Int.toNat (w64 (s4 - 1))) 0) == (p0.getD k1 0)))] [] [] (an4 h91 (an g92.1 (an g92.2 (an h91 (an g93 (an3 h91 (an (nn0 k1) (an (ltc hlt1) (an3 h91 tv))))))))) ?_
       exact jD ((s1.getD (Int.toNat (w64 (s4 - 1))) 0) == (p0.getD k1 0)) hm Conv.eqK
      ·replace hm := Bh h91 hm
       refine RD hnt (nn 3 (sk 10 (pF :: []))) [27] [(43,pB false)] [] [] (an5 h91 (an6 h91 tv)) ?_
       exact jD false hm Conv.eqK
   ·rcases bt (decide (s4 > 0)) with h87 | h87
    ·replace hm := Bg h87 hm
     obtain ⟨g88,g89,hm⟩ := go2 hm
     refine RD hnt (nn 13 (pT :: [])) [] [(27,pB (decide ((p0.getD k1 0) < (s1.getD (Int.toNat (w64 (s4 - 1))) 0))))] [] [] (an3 h87 (an (nn0 k1) (an (ltc hlt1) (an5 h87 (an g88.1 (an g88.2 (an h87 (an g89 (an2 h87 tv))))))))) ?_
     exact jD (decide ((p0.getD k1 0) < (s1.getD (Int.toNat (w64 (s4 - 1))) 0))) hm Conv.eqK
    ·replace hm := Bh h87 hm
     refine RD hnt (nn 3 (sk 10 (pF :: []))) [] [(27,pB false)] [] [] (an5 h87 (an6 h87 tv)) ?_
     exact jD false hm Conv.eqK
 ·intro h72
  have hge1 : ¬ k1 < p0.length := by have := of_decide_eq_false h72; omega
  have hm := he1 hge1
  unfold AbE at hm
  refine DW.exit ?_
  refine Ar ?_
  refine Au ?_
  refine Ap ?_
  show DW _ _ _ _ _
  refine Sq (RK hnt (nn 2 []) [(2,ow 1368 s1.length)] [(1368,ob0 (roI s1))] tv ?_)
  obtain rfl := sj hm
  exact DW.ret (Ak [roI s1] [1368] (ow 0 s1.length))
abbrev o115 (ks : List Nat) (b : Bool) (RES : List Int) : Orc := .call 48 ks b (ow 0 RES.length) [] [roI RES]

theorem Mh (p0 : Aa) (p1 : Int) (RES : List Int) (hm : Ja p0 p1 = some RES) : Spec Tryz.prog 28 [.p (.agg (Ab p0)),pI p1] [] (ow 0 RES.length) [] [roI RES] := by
 unfold Ja at hm
 refine SO Tryz.func28 rfl rfl [(0,.p (.agg (Ab p0))),(1,pI p1)] [] ?_
 intro cx hnt
 refine Sq (RK hnt (nn 2 []) [(1,pI p1),(2,rr 1016)] [(1016,bx (pm (Ab p0)))] tv ?_)
 refine Sq (RD hnt (.no :: []) [] [(5,.p (.sl .nil 0 0 (fun _ => [])))] [] [] tv ?_)
 obtain ⟨r1,hr1,hm⟩ := bo hm
 refine Sq (RD hnt (nn 2 (o60 [] true r1 :: .no :: [])) [1] [(6,ow 1096 r1.length)] [] [(1096,ob0 (roI r1))] (an (Fg p0 p1 r1 hr1) tv) ?_)
 refine Sq (Sq (RD hnt (.no :: []) [] [(7,pI 0)] [] [] tv ?_))
 refine Bk ?_
 obtain ⟨hc1,hm⟩ := go1 hm
 refine DW.rangeO (fun (k1 : Nat) (s1 : List Int) => Ao [(2,rr 1016),(5,ow 1256 s1.length),(6,ow 1096 r1.length),(7,pI ((k1 : Nat) : Int))] [(1016,bx (pm (Ab p0))),(1096,ob0 (roI r1)),(1256,ob0 (roI s1))]) 0 hm (Conv.ads [(.s 5,1256,1,elems Bd 0 [])]) ?_
 intro k1 s1 n1 hk1 hs1 he1
 refine Sq (Sq (RD hnt (nn 4 []) [] [(16,pB (decide (((k1 : Nat) : Int) < ((r1.length : Nat) : Int))))] [] [] tv ?_))
 refine Cm (decide (((k1 : Nat) : Int) < ((r1.length : Nat) : Int))) ?_ ?_
 ·intro h14
  have hlt1 : k1 < r1.length := by have := of_decide_eq_true h14; omega
  have hm := hs1 hlt1
  unfold Rw at hm
  refine Sk ?_
  refine Sq (Bk ?_)
  obtain ⟨r15,hr15,hm⟩ := bo hm
  refine Sq (RD hnt (nn 5 (o61 [] true r15 :: nn 6 [])) [16] [(8,rr 1064)] [] [(1064,bx (pm (Am r15.1)))] (an (nn0 k1) (an (ltc hlt1) (an (by omega : k1 < r1.length) (an (Jz p0 (r1.getD k1 0) r15 hr15) tv)))) ?_)
  obtain ⟨g16,hm⟩ := go1 hm
  refine RN hnt (nn 6 []) [(2,rr 1016),(5,ow 1256 (s1 ++ [r15.1.process]).length),(6,ow 1096 r1.length),(7,pI ((k1 : Nat) : Int))] [(1016,bx (pm (Ab p0))),(1096,ob0 (roI r1)),(1256,ob0 (roI (s1 ++ [r15.1.process])))] [(5,ow 1256 (s1.length + 1))] [(1256,.row 1 (s1.length + 1) (Cp s1.length (elI s1) (cut 1 [vi r15.1.process])))] (an (by omega : (s1.length + 1) * 8 ≤ 140737488355328) tv) (by kernel_rfl) (.cons rfl (MLe.ownLen (enc := Bd) (d := 0) (f := (Cp s1.length (elI s1) (cut 1 [vi r15.1.process]))) (RowIs.cat RowIs.elems (RowIs.lit (enc := Bd) (d := 0) (n := 1) (f := (cut 1 [vi r15.1.process])) [r15.1.process] rfl (fun | 0,_ => rfl | n + 1,h => absurd h (by omega))))) .nil) (.cons rfl (BLe.typed (RowIs.cat RowIs.elems (RowIs.lit (enc := Bd) (d := 0) (n := 1) (f := (cut 1 [vi r15.1.process])) [r15.1.process] rfl (fun | 0,_ => rfl | n + 1,h => absurd h (by omega))))) .nil) ?_
  refine DW.done ?_
  show DW _ _ _ _ _
  refine RD hnt (nn 3 []) [] [(7,pI (w64 (((k1 : Nat) : Int) + 1)))] [] [] tv ?_
  exact jD (s1 ++ [r15.1.process]) ⟨hlt1,hm⟩ (Conv.tp [(7,pI (w64 (((k1 : Nat) : Int) + 1)))] [] (by kernel_rfl) (.cons rfl (.of_eq (congrArg pI (Br hlt1 hc1))) .nil) .nil)
 ·intro h14
  have hge1 : ¬ k1 < r1.length := by have := of_decide_eq_false h14; omega
  have hm := he1 hge1
  unfold Ll at hm
  refine DW.exit ?_
  refine Ar ?_
  refine Au ?_
  refine Ap ?_
  show DW _ _ _ _ _
  refine Sq (DW.cv [] [(5,.p (slI s1))] [1256] [] (Conv.frz [1256]) ?_)
  obtain ⟨r18,hr18,hm⟩ := bo hm
  refine RK hnt (.no :: o115 [] true r18 :: .no :: []) [(4,ow 1272 r18.length)] [(1272,ob0 (roI r18))] (an (Aeu s1 r18 hr18) tv) ?_
  obtain rfl := sj hm
  exact DW.ret (Ak [roI r18] [1272] (ow 0 r18.length))
abbrev o114 (ks : List Nat) (b : Bool) (RES : List Int) : Orc := .call 28 ks b (ow 0 RES.length) [] [roI RES]

theorem Acv (p0 : Aj) (p1 : Int) (RES : Bool) (hm : Qi p0 p1 = some RES) : Spec Tryz.prog 172 [.p (.agg (Am p0)),rr 0] [.box [pI p1]] (pB RES) [.box [pI p1]] [] := by
 unfold Qi at hm
 refine SO Tryz.func172 rfl rfl [(0,.p (.agg (Am p0))),(1,rr 0)] [(0,bx [pI p1])] ?_
 intro cx hnt
 refine Sq (RD hnt (nn 2 []) [0] [(2,rr 1016)] [] [(1016,bx (pm (Am p0)))] tv ?_)
 refine Sq (RK hnt (nn 5 []) [(3,pB (p0.process == p1))] [(0,bx [pI p1])] tv ?_)
 obtain rfl := sj hm
 exact DW.ret (Ak [.box [pI p1]] [] (pB (p0.process == p1)))

abbrev AeJ (p0 : Aa) : Nat × MV := (12,pI ((p0.tasks.length : Nat) : Int))
theorem Ph (p0 : Aa) (p1c0 : Int) (RES : List Int) (hm : Fi p0 p1c0 = some RES) : Spec Tryz.prog 100 [.p (.agg (Ab p0)),.fn 172 [rr 0],.p (.fn 171 [])] [.box [pI p1c0]] (.p (slI RES)) [.box [pI p1c0]] [] := by
 unfold Fi at hm
 refine SO Tryz.func100 rfl rfl [(0,.p (.agg (Ab p0))),(1,.fn 172 [rr 0]),(2,.p (.fn 171 []))] [(0,bx [pI p1c0])] ?_
 intro cx hnt
 refine Sq (RD hnt (nn 2 []) [0] [(3,rr 1024)] [] [(1024,bx (pm (Ab p0)))] tv ?_)
 refine Sq (RD hnt (.no :: []) [] [(7,.p (.sl .nil 0 0 (fun _ => [])))] [] [] tv ?_)
 refine Sq (Sq (RD hnt (nn 4 []) [3] [(11,.p (Bt p0.tasks)),(AeJ p0),(13,pI 0)] [1024] [] tv ?_))
 refine Bk ?_
 obtain ⟨hc1,hm⟩ := go1 hm
 refine DW.rangeO (fun (k1 : Nat) (s1 : List Int) => Ao [(1,.fn 172 [rr 0]),(2,.p (.fn 171 [])),(7,ow 1200 s1.length),(11,.p (Bt p0.tasks)),(AeJ p0),(13,pI ((k1 : Nat) : Int))] [(0,bx [pI p1c0]),(1200,ob0 (roI s1))]) Ba hm (Conv.ads [(.s 7,1200,1,elems Bd 0 [])]) ?_
 intro k1 s1 n1 hk1 hs1 he1
 refine Sq (RD hnt (.no :: []) [] [(14,pB (decide (((k1 : Nat) : Int) < ((p0.tasks.length : Nat) : Int))))] [] [] tv ?_)
 refine Sq (Cm (decide (((k1 : Nat) : Int) < ((p0.tasks.length : Nat) : Int))) ?_ ?_)
 ·intro h22
  have hlt1 : k1 < p0.tasks.length := by have := of_decide_eq_true h22; omega
  have hm := hs1 hlt1
  unfold Ha at hm
  refine Sk ?_
  refine Sq ?_
  refine Jn (ι := List Int) (fun (y3 : List Int) => Ao [(1,.fn 172 [rr 0]),(2,.p (.fn 171 [])),(7,ow 1200 y3.length),(11,.p (Bt p0.tasks)),(AeJ p0),(13,pI ((k1 : Nat) : Int))] [(0,bx [pI p1c0]),(1200,ob0 (roI y3))]) (fun y3 => (Dg n1) y3 = some RES) ?_ ?_
  ·intro y3 hm
   unfold Dg at hm
   refine RD hnt (nn 2 []) [] [(13,pI (w64 (((k1 : Nat) : Int) + 1)))] [] [] tv ?_
   exact jD y3 ⟨hlt1,hm⟩ (Conv.tp [(13,pI (w64 (((k1 : Nat) : Int) + 1)))] [] (by kernel_rfl) (.cons rfl (.of_eq (congrArg pI (Br hlt1 hc1))) .nil) .nil)
  ·refine Bk ?_
   refine Sq (RD hnt (nn 4 []) [14] [(9,rr 1072)] [] [(1072,bx (pm (Am (p0.tasks.getD k1 (default : Aj)))))] (an (nn0 k1) (an (ltc hlt1) tv)) ?_)
   obtain ⟨r23,hr23,hm⟩ := bo hm
   refine Sq (RD hnt (nn 2 (.call 172 [0] true (pB r23) [.box [pI p1c0]] [] :: [])) [] [(19,pB r23)] [] [] (an (Acv (p0.tasks.getD k1 (default : Aj)) p1c0 r23 hr23) (an tv tv)) ?_)
   refine Ag hm ?_ ?_
   ·intro h24 hm
    obtain ⟨r25,hr25,hm⟩ := bo hm
    obtain ⟨g26,hm⟩ := go1 hm
    refine RN hnt (nn 3 (o87 [] true r25 :: nn 3 [])) [(1,.fn 172 [rr 0]),(2,.p (.fn 171 [])),(7,ow 1200 (s1 ++ [r25]).length),(11,.p (Bt p0.tasks)),(AeJ p0),(13,pI ((k1 : Nat) : Int))] [(0,bx [pI p1c0]),(1200,ob0 (roI (s1 ++ [r25])))] [(7,ow 1200 (s1.length + 1))] [(1200,.row 1 (s1.length + 1) (Cp s1.length (elI s1) (cut 1 [vi r25])))] (an (Ads (p0.tasks.getD k1 (default : Aj)) r25 hr25) (an (by omega : (s1.length + 1) * 8 ≤ 140737488355328) tv)) (by kernel_rfl) (.cons rfl (MLe.ownLen (enc := Bd) (d := 0) (f := (Cp s1.length (elI s1) (cut 1 [vi r25]))) (RowIs.cat RowIs.elems (RowIs.lit (enc := Bd) (d := 0) (n := 1) (f := (cut 1 [vi r25])) [r25] rfl (fun | 0,_ => rfl | n + 1,h => absurd h (by omega))))) .nil) (.cons rfl (BLe.typed (RowIs.cat RowIs.elems (RowIs.lit (enc := Bd) (d := 0) (n := 1) (f := (cut 1 [vi r25])) [r25] rfl (fun | 0,_ => rfl | n + 1,h => absurd h (by omega))))) .nil) ?_
    exact bD (s1 ++ [r25]) hm .refl
   ·intro h24 hm
    refine Sk ?_
    exact bD s1 hm Conv.t0
 ·intro h22
  have hge1 : ¬ k1 < p0.tasks.length := by have := of_decide_eq_false h22; omega
  have hm := he1 hge1
  unfold Ew at hm
  refine DW.exit ?_
  refine Ar ?_
  refine Au ?_
  refine Ap ?_
  show DW _ _ _ _ _
  obtain ⟨r27,hr27,hm⟩ := bo hm
  obtain ⟨g28,hm⟩ := go1 hm
  refine Sq (RN hnt (.no :: o88 [1200] true r27 :: []) [(7,ow 1200 r27.length)] [(0,bx [pI p1c0]),(1200,ob0 (roI r27))] [(7,ow 1200 s1.length)] [] (an (Pa s1 r27 hr27) (an (⟨rfl,g28⟩ : Body.same (roI s1) (roI r27)) tv)) (by kernel_rfl) (.cons rfl (MLe.of_eq (congrArg (MV.own 1200 0 0) g28)) .nil) .nil ?_)
  obtain ⟨r29,hr29,hm⟩ := bo hm
  obtain ⟨g30,g31,hm⟩ := go2 hm
  refine Sq (RD hnt (.no :: o108 [1200] true r29 :: .no :: []) [7] [(6,ow 1200 r29.1)] [] [(1200,ob0 (roI r29.2))] (an (Ms r27 r29 hr29) (an (⟨rfl,g30⟩ : Body.same (roI r27) (roI r29.2)) tv)) ?_)
  refine DW.conv (τ := Ao [(6,.p (slI (r29.2.take r29.1)))] [(0,bx [pI p1c0])]) (Conv.trans (τ := Ao [(6,.p (.sl .unk 1 r29.1 (elI r29.2)))] [(0,bx [pI p1c0])]) (Conv.frz [1200]) (Conv.tp [(6,.p (.sl .unk 1 r29.1 (elI r29.2)))] [] (by kernel_rfl) (.cons rfl (MLe.typed (RowIs.take RowIs.elems (by first | omega | (simp only [Fd,Mb] at *; omega)))) .nil) .nil)) ?_
  obtain rfl := sj hm
  exact DW.ret (Ak [.box [pI p1c0]] [] (.p (slI (r29.2.take r29.1))))

theorem AdV (p0 : Aa) (p1 : Int) (RES : List Int) (hm : Pz p0 p1 = some RES) : Spec Tryz.prog 103 [.p (.agg (Ab p0)),pI p1] [] (.p (slI RES)) [] [] := by
 unfold Pz at hm
 refine SO Tryz.func103 rfl rfl [(0,.p (.agg (Ab p0))),(1,pI p1)] [] ?_
 intro cx hnt
 refine Sq (RK hnt (nn 3 []) [(2,rr 1016),(3,rr 1024)] [(1016,bx (pm (Ab p0))),(1024,bx [pI p1])] tv ?_)
 obtain ⟨r1,hr1,hm⟩ := bo hm
 refine Sq (RK hnt (nn 2 (.call 100 [1024] true (.p (slI r1)) [.box [pI p1]] [] :: .no :: [])) [(4,.p (slI r1))] [] (an (Ph p0 p1 r1 hr1) (an tv tv)) ?_)
 obtain rfl := sj hm
 exact DW.ret (Ak [] [] (.p (slI r1)))
abbrev o117 (ks : List Nat) (b : Bool) (RES : List Int) : Orc := .call 103 ks b (.p (slI RES)) [] []

theorem Pq (p0 : Aa) (p1 : Int) (RES : List Int) (hm : Iz p0 p1 = some RES) : Spec Tryz.prog 29 [.p (.agg (Ab p0)),pI p1] [] (.p (slI RES)) [] [] := by
 unfold Iz at hm
 refine SO Tryz.func29 rfl rfl [(0,.p (.agg (Ab p0))),(1,pI p1)] [] ?_
 intro cx hnt
 refine Sq (RK hnt (nn 2 []) [(1,pI p1),(2,rr 1016)] [(1016,bx (pm (Ab p0)))] tv ?_)
 obtain ⟨r1,hr1,hm⟩ := bo hm
 obtain ⟨r2,hr2,hm⟩ := bo hm
 refine Sq (RK hnt (.no :: o82 [] true r1 :: .no :: o117 [] true r2 :: .no :: []) [(4,.p (slI r2))] [] (an (Jr p0 r1 hr1) (an (AdV r1 p1 r2 hr2) tv)) ?_)
 obtain rfl := sj hm
 exact DW.ret (Ak [] [] (.p (slI r2)))
abbrev o116 (ks : List Nat) (b : Bool) (RES : List Int) : Orc := .call 29 ks b (.p (slI RES)) [] []

abbrev Rb (p0 : Aa) (k1 : Nat) := (p0.tasks.getD k1 (default : Aj))
theorem Rx (p0 : Aa) (p1 : Int) (RES : List Int) (hm : Lo p0 p1 = some RES) : Spec Tryz.prog 30 [.p (.agg (Ab p0)),pI p1] [] (ow 0 RES.length) [] [roI RES] := by
 unfold Lo at hm
 refine SO Tryz.func30 rfl rfl [(0,.p (.agg (Ab p0))),(1,pI p1)] [] ?_
 intro cx hnt
 refine Sq (RK hnt (nn 2 []) [(1,pI p1),(2,rr 1016)] [(1016,bx (pm (Ab p0)))] tv ?_)
 obtain ⟨r1,hr1,hm⟩ := bo hm
 refine Sq (Sq (RD hnt (.no :: o56 [] true r1 :: .no :: []) [] [(9,pB (!r1))] [] [] (an (Ei p0 r1 hr1) tv) ?_))
 refine Ag hm ?_ ?_
 ·intro h2 hm
  refine Sq (RK hnt (.no :: []) [(4,.p (.sl .nil 0 0 (fun _ => [])))] [] tv ?_)
  refine DW.cv [] [(4,ow 100000 0)] [] [(100000,ob0 (roI []))] (Conv.ads [(.s 4,100000,1,elems Bd 0 [])]) ?_
  obtain rfl := sj hm
  exact DW.ret (Ak [roI []] [100000] (ow 0 0))
 ·intro h2 hm
  refine Sk ?_
  refine Sq (RD hnt (.no :: []) [9] [(5,.p (.sl .nil 0 0 (fun _ => [])))] [] [] tv ?_)
  refine Sq (Sq (RD hnt (.no :: []) [] [(6,pI 0)] [] [] tv ?_))
  refine Bk ?_
  obtain ⟨hc1,hm⟩ := go1 hm
  refine DW.rangeO (fun (k1 : Nat) (s1 : List Int) => Ao [(1,pI p1),(2,rr 1016),(5,ow 1264 s1.length),(6,pI ((k1 : Nat) : Int))] [(1016,bx (pm (Ab p0))),(1264,ob0 (roI s1))]) Ba hm (Conv.ads [(.s 5,1264,1,elems Bd 0 [])]) ?_
  intro k1 s1 n1 hk1 hs1 he1
  refine Sq (Sq (RD hnt (nn 5 []) [] [(14,pB (decide (((k1 : Nat) : Int) < ((p0.tasks.length : Nat) : Int))))] [] [] tv ?_))
  refine Cm (decide (((k1 : Nat) : Int) < ((p0.tasks.length : Nat) : Int))) ?_ ?_
  ·intro h12
   have hlt1 : k1 < p0.tasks.length := by have := of_decide_eq_true h12; omega
   have hm := hs1 hlt1
   unfold Tu at hm
   refine Sk ?_
   refine Sq ?_
   refine Jn (ι := List Int) (fun (y3 : List Int) => Ao [(1,pI p1),(2,rr 1016),(5,ow 1264 y3.length),(6,pI ((k1 : Nat) : Int))] [(1016,bx (pm (Ab p0))),(1264,ob0 (roI y3))]) (fun y3 => (My n1) y3 = some RES) ?_ ?_
   ·intro y3 hm
    unfold My at hm
    refine RD hnt (nn 3 []) [] [(6,pI (w64 (((k1 : Nat) : Int) + 1)))] [] [] tv ?_
    exact jD y3 ⟨hlt1,hm⟩ (Conv.tp [(6,pI (w64 (((k1 : Nat) : Int) + 1)))] [] (by kernel_rfl) (.cons rfl (.of_eq (congrArg pI (Br hlt1 hc1))) .nil) .nil)
   ·refine Bk ?_
    refine Sq (RD hnt (nn 8 []) [14] [(24,pB ((Rb p0 k1).process == p1))] [] [] (an (nn0 k1) (an (ltc hlt1) tv)) ?_)
    refine Ag hm ?_ ?_
    ·intro h13 hm
     obtain ⟨g14,hm⟩ := go1 hm
     refine RN hnt (nn 10 []) [(1,pI p1),(2,rr 1016),(5,ow 1264 (s1 ++ [(Rb p0 k1).id]).length),(6,pI ((k1 : Nat) : Int))] [(1016,bx (pm (Ab p0))),(1264,ob0 (roI (s1 ++ [(Rb p0 k1).id])))] [(5,ow 1264 (s1.length + 1))] [(1264,.row 1 (s1.length + 1) (Cp s1.length (elI s1) (cut 1 [vi (Rb p0 k1).id])))] (an (nn0 k1) (an (ltc hlt1) (an (by omega : (s1.length + 1) * 8 ≤ 140737488355328) tv))) (by kernel_rfl) (.cons rfl (MLe.ownLen (enc := Bd) (d := 0) (f := (Cp s1.length (elI s1) (cut 1 [vi (Rb p0 k1).id]))) (RowIs.cat RowIs.elems (RowIs.lit (enc := Bd) (d := 0) (n := 1) (f := (cut 1 [vi (Rb p0 k1).id])) [(Rb p0 k1).id] rfl (fun | 0,_ => rfl | n + 1,h => absurd h (by omega))))) .nil) (.cons rfl (BLe.typed (RowIs.cat RowIs.elems (RowIs.lit (enc := Bd) (d := 0) (n := 1) (f := (cut 1 [vi (Rb p0 k1).id])) [(Rb p0 k1).id] rfl (fun | 0,_ => rfl | n + 1,h => absurd h (by omega))))) .nil) ?_
     exact bD (s1 ++ [(Rb p0 k1).id]) hm .refl
    ·intro h13 hm
     refine Sk ?_
     exact bD s1 hm Conv.t0
  ·intro h12
   have hge1 : ¬ k1 < p0.tasks.length := by have := of_decide_eq_false h12; omega
   have hm := he1 hge1
   unfold AaL at hm
   refine DW.exit ?_
   refine Ar ?_
   refine Au ?_
   refine Ap ?_
   show DW _ _ _ _ _
   refine Sq (RK hnt (nn 2 []) [(4,ow 1264 s1.length)] [(1264,ob0 (roI s1))] tv ?_)
   obtain rfl := sj hm
   exact DW.ret (Ak [roI s1] [1264] (ow 0 s1.length))
abbrev o120 (ks : List Nat) (b : Bool) (RES : List Int) : Orc := .call 30 ks b (ow 0 RES.length) [] [roI RES]

abbrev Py (p0 : Ae) (k1 : Nat) := (p0.nodes.getD k1 (default : Af))
abbrev Aez (p0 : Ae) : Nat × MV := (10,pI ((p0.nodes.length : Nat) : Int))
theorem AbJ (p0 : Ae) (p1 : Int) (RES : List Int) (hm : Mq p0 p1 = some RES) : Spec Tryz.prog 211 [.p (.agg (Aq p0)),pI p1] [] (ow 0 RES.length) [] [roI RES] := by
 unfold Mq at hm
 refine SO Tryz.func211 rfl rfl [(0,.p (.agg (Aq p0))),(1,pI p1)] [] ?_
 intro cx hnt
 refine Sq (RK hnt (nn 2 []) [(1,pI p1),(2,rr 1016)] [(1016,bx (pm (Aq p0)))] tv ?_)
 refine Sq (RD hnt (.no :: []) [] [(5,.p (.sl .nil 0 0 (fun _ => [])))] [] [] tv ?_)
 refine Sq (Sq (RD hnt (nn 4 []) [2] [(9,.p (Cz p0.nodes)),(Aez p0),(11,pI 0)] [1016] [] tv ?_))
 refine Bk ?_
 obtain ⟨hc1,hm⟩ := go1 hm
 refine DW.rangeO (fun (k1 : Nat) (s1 : List Int) => Ao [(1,pI p1),(5,ow 1184 s1.length),(9,.p (Cz p0.nodes)),(Aez p0),(11,pI ((k1 : Nat) : Int))] [(1184,ob0 (roI s1))]) Aw hm (Conv.ads [(.s 5,1184,1,elems Bd 0 [])]) ?_
 intro k1 s1 n1 hk1 hs1 he1
 refine Sq (RD hnt (.no :: []) [] [(12,pB (decide (((k1 : Nat) : Int) < ((p0.nodes.length : Nat) : Int))))] [] [] tv ?_)
 refine Sq (Cm (decide (((k1 : Nat) : Int) < ((p0.nodes.length : Nat) : Int))) ?_ ?_)
 ·intro h8
  have hlt1 : k1 < p0.nodes.length := by have := of_decide_eq_true h8; omega
  have hm := hs1 hlt1
  unfold Qv at hm
  refine Sk ?_
  refine Sq ?_
  refine Jn (ι := List Int) (fun (y3 : List Int) => Ao [(1,pI p1),(5,ow 1184 y3.length),(9,.p (Cz p0.nodes)),(Aez p0),(11,pI ((k1 : Nat) : Int))] [(1184,ob0 (roI y3))]) (fun y3 => (Kf n1) y3 = some RES) ?_ ?_
  ·intro y3 hm
   unfold Kf at hm
   refine RD hnt (nn 2 []) [] [(11,pI (w64 (((k1 : Nat) : Int) + 1)))] [] [] tv ?_
   exact jD y3 ⟨hlt1,hm⟩ (Conv.tp [(11,pI (w64 (((k1 : Nat) : Int) + 1)))] [] (by kernel_rfl) (.cons rfl (.of_eq (congrArg pI (Br hlt1 hc1))) .nil) .nil)
  ·refine Bk ?_
   refine Sq (RD hnt (nn 4 []) [12] [(7,rr 1056)] [] [(1056,bx (pm (An (Py p0 k1))))] (an (nn0 k1) (an (ltc hlt1) tv)) ?_)
   refine Sq (RD hnt (nn 4 []) [] [(18,pB ((Py p0 k1).parent == p1))] [] [] tv ?_)
   refine Ag hm ?_ ?_
   ·intro h9 hm
    obtain ⟨g10,hm⟩ := go1 hm
    refine RN hnt (nn 6 []) [(1,pI p1),(5,ow 1184 (s1 ++ [(Py p0 k1).id]).length),(9,.p (Cz p0.nodes)),(Aez p0),(11,pI ((k1 : Nat) : Int))] [(1184,ob0 (roI (s1 ++ [(Py p0 k1).id])))] [(5,ow 1184 (s1.length + 1))] [(1184,.row 1 (s1.length + 1) (Cp s1.length (elI s1) (cut 1 [vi (Py p0 k1).id])))] (an (by omega : (s1.length + 1) * 8 ≤ 140737488355328) tv) (by kernel_rfl) (.cons rfl (MLe.ownLen (enc := Bd) (d := 0) (f := (Cp s1.length (elI s1) (cut 1 [vi (Py p0 k1).id]))) (RowIs.cat RowIs.elems (RowIs.lit (enc := Bd) (d := 0) (n := 1) (f := (cut 1 [vi (Py p0 k1).id])) [(Py p0 k1).id] rfl (fun | 0,_ => rfl | n + 1,h => absurd h (by omega))))) .nil) (.cons rfl (BLe.typed (RowIs.cat RowIs.elems (RowIs.lit (enc := Bd) (d := 0) (n := 1) (f := (cut 1 [vi (Py p0 k1).id])) [(Py p0 k1).id] rfl (fun | 0,_ => rfl | n + 1,h => absurd h (by omega))))) .nil) ?_
    exact bD (s1 ++ [(Py p0 k1).id]) hm .refl
   ·intro h9 hm
    refine Sk ?_
    exact bD s1 hm Conv.t0
 ·intro h8
  have hge1 : ¬ k1 < p0.nodes.length := by have := of_decide_eq_false h8; omega
  have hm := he1 hge1
  unfold Vz at hm
  refine DW.exit ?_
  refine Ar ?_
  refine Au ?_
  refine Ap ?_
  show DW _ _ _ _ _
  refine Sq (RK hnt (nn 2 []) [(4,ow 1184 s1.length)] [(1184,ob0 (roI s1))] tv ?_)
  obtain rfl := sj hm
  exact DW.ret (Ak [roI s1] [1184] (ow 0 s1.length))
abbrev o124 (ks : List Nat) (b : Bool) (RES : List Int) : Orc := .call 211 ks b (ow 0 RES.length) [] [roI RES]

abbrev Ym (p0 : Ae) : Nat × Obj := (1016,bx (pm (Aq p0)))
theorem AbX (p0 : Ae) (p1 : Int) (RES : List Int) (hm : Ld p0 p1 = some RES) : Spec Tryz.prog 173 [.p (.agg (Aq p0)),pI p1] [] (ow 0 RES.length) [] [roI RES] := by
 unfold Ld at hm
 refine SO Tryz.func173 rfl rfl [(0,.p (.agg (Aq p0))),(1,pI p1)] [] ?_
 intro cx hnt
 refine Sq (RK hnt (nn 2 []) [(1,pI p1),(2,rr 1016)] [(Ym p0)] tv ?_)
 obtain ⟨r1,hr1,hm⟩ := bo hm
 refine Sq (Sq (RD hnt (nn 2 (o18 [] true r1 :: .no :: [])) [] [(10,pB (decide (r1 < 0)))] [] [] (an (Vs p0 p1 r1 hr1) tv) ?_))
 refine Ag hm ?_ ?_
 ·intro h2 hm
  refine Sq (RK hnt (.no :: []) [(4,.p (.sl .nil 0 0 (fun _ => [])))] [] tv ?_)
  refine DW.cv [] [(4,ow 100000 0)] [] [(100000,ob0 (roI []))] (Conv.ads [(.s 4,100000,1,elems Bd 0 [])]) ?_
  obtain rfl := sj hm
  exact DW.ret (Ak [roI []] [100000] (ow 0 0))
 ·intro h2 hm
  refine Sk ?_
  refine Sq (RD hnt (.no :: []) [10] [(5,.p (.sl .nil 0 0 (fun _ => [])))] [] [] tv ?_)
  refine Sq (Sq (RN hnt (nn 3 []) [(2,rr 1016),(5,.p (.sl .nil 0 0 (fun _ => []))),(6,ow 1096 [p1].length)] [(Ym p0),(1096,ob0 (roI [p1]))] [(6,ow 1096 1)] [(1096,.row 1 1 (cut 1 [vi p1]))] tv (by kernel_rfl) (.cons rfl (MLe.ownLen (enc := Bd) (d := 0) (f := (cut 1 [vi p1])) (RowIs.lit (enc := Bd) (d := 0) (n := 1) (f := (cut 1 [vi p1])) [p1] rfl (fun | 0,_ => rfl | n + 1,h => absurd h (by omega)))) .nil) (.cons rfl (BLe.typed (RowIs.lit (enc := Bd) (d := 0) (n := 1) (f := (cut 1 [vi p1])) [p1] rfl (fun | 0,_ => rfl | n + 1,h => absurd h (by omega)))) .nil) ?_))
  refine Bk ?_
  refine DW.whileO (fun (s1 : (List Int) × (List Int)) => Ao [(2,rr 1016),(5,ow 1232 s1.1.length),(6,.p (slI s1.2))] [(Ym p0),(1232,ob0 (roI s1.1))]) hm (Conv.trans (τ := Ao [(2,rr 1016),(5,.p (.sl .nil 0 0 (fun _ => []))),(6,.p (slI [p1]))] [(Ym p0)]) (Conv.frz [1096]) (Conv.ads [(.s 5,1232,1,elems Bd 0 [])])) ?_
  intro s1 n1 hm
  unfold Rz at hm
  refine Sq (Sq (DW.regJ (sl2 := [(2,rr 1016),(5,ow 1232 s1.1.length),(6,.p (slI s1.2)),(23,pB ((decide (((s1.2.length : Nat) : Int) > 0)) && (decide (((s1.1.length : Nat) : Int) < ((p0.nodes.length : Nat) : Int)))))]) (ob2 := [(Ym p0),(1232,ob0 (roI s1.1))]) ?_ ?_))
  ·rcases bt (decide (((s1.2.length : Nat) : Int) > 0)) with h12 | h12
   ·exact RT hnt (nn 10 (pT :: [])) [(23,pB (decide (((s1.1.length : Nat) : Int) < ((p0.nodes.length : Nat) : Int))))] (an h12 (an6 h12 tv)) (by kernel_rfl) (.cons rfl (.of_eq (by rw [h12]; try rfl)) .nil)
   ·exact RT hnt (nn 4 (sk 6 (pF :: []))) [(23,pB false)] (an h12 (an6 h12 tv)) (by kernel_rfl) (.cons rfl (.of_eq (by rw [h12]; try rfl)) .nil)
  ·refine Ag hm ?_ ?_
   ·intro h13 hm
    refine Sk ?_
    refine Bk ?_
    obtain ⟨g14,g15,hm⟩ := go2 hm
    refine Sq (RN hnt (nn 7 []) [(2,rr 1016),(5,ow 1232 (s1.1 ++ [(s1.2.getD 0 0)]).length),(6,.p (slI s1.2))] [(Ym p0),(1232,ob0 (roI (s1.1 ++ [(s1.2.getD 0 0)])))] [(5,ow 1232 (s1.1.length + 1))] [(1232,.row 1 (s1.1.length + 1) (Cp s1.1.length (elI s1.1) (cut 1 [vi (s1.2.getD 0 0)])))] (an (nn0 0) (an (ltc g14) (an (by omega : (s1.1.length + 1) * 8 ≤ 140737488355328) tv))) (by kernel_rfl) (.cons rfl (MLe.ownLen (enc := Bd) (d := 0) (f := (Cp s1.1.length (elI s1.1) (cut 1 [vi (s1.2.getD 0 0)]))) (RowIs.cat RowIs.elems (RowIs.lit (enc := Bd) (d := 0) (n := 1) (f := (cut 1 [vi (s1.2.getD 0 0)])) [(s1.2.getD 0 0)] rfl (fun | 0,_ => rfl | n + 1,h => absurd h (by omega))))) .nil) (.cons rfl (BLe.typed (RowIs.cat RowIs.elems (RowIs.lit (enc := Bd) (d := 0) (n := 1) (f := (cut 1 [vi (s1.2.getD 0 0)])) [(s1.2.getD 0 0)] rfl (fun | 0,_ => rfl | n + 1,h => absurd h (by omega))))) .nil) ?_)
    obtain ⟨g16,hm⟩ := go1 hm
    obtain ⟨r17,hr17,hm⟩ := bo hm
    obtain ⟨g18,g19,hm⟩ := go2 hm
    refine RN hnt (nn 4 (o124 [] true r17 :: nn 4 [])) [(2,rr 1016),(5,ow 1232 (s1.1 ++ [(s1.2.getD 0 0)]).length),(6,ow 1272 (r17 ++ (s1.2.drop 1)).length)] [(Ym p0),(1232,ob0 (roI (s1.1 ++ [(s1.2.getD 0 0)]))),(1272,ob0 (roI (r17 ++ (s1.2.drop 1))))] [(6,ow 1272 (r17.length + (Cc s1.2.length 1)))] [(1272,.row 1 (r17.length + (Cc s1.2.length 1)) (Cp r17.length (elI r17) (shF 1 (elI s1.2))))] (an (nn0 0) (an (ltc g16) (an (AbJ p0 (s1.2.getD 0 0) r17 hr17) (an (by omega : (0 : Int) ≤ 1) (an (by omega : 1 ≤ ((s1.2.length : Nat) : Int)) (an (by omega : ((s1.2.length : Nat) : Int) ≤ ((s1.2.length : Nat) : Int)) (an (by omega : (r17.length + (Cc s1.2.length 1)) * 8 ≤ 140737488355328) tv))))))) (by kernel_rfl) (.cons rfl (MLe.ownLen (enc := Bd) (d := 0) (f := (Cp r17.length (elI r17) (shF 1 (elI s1.2)))) (RowIs.cat RowIs.elems (RowIs.elems.drop (Fd _ _) (by omega)))) .nil) (.cons rfl (BLe.typed (RowIs.cat RowIs.elems (RowIs.elems.drop (Fd _ _) (by omega)))) .nil) ?_
    refine DW.done ?_
    show DW _ _ _ _ _
    exact jD ((s1.1 ++ [(s1.2.getD 0 0)]),(r17 ++ (s1.2.drop 1))) hm (Conv.frz [1272])
   ·intro h13 hm
    refine DW.exit ?_
    refine Ar ?_
    refine Au ?_
    refine Ap ?_
    show DW _ _ _ _ _
    refine Sq (RK hnt (nn 2 []) [(4,ow 1232 s1.1.length)] [(1232,ob0 (roI s1.1))] tv ?_)
    obtain rfl := sj hm
    exact DW.ret (Ak [roI s1.1] [1232] (ow 0 s1.1.length))
abbrev o123 (ks : List Nat) (b : Bool) (RES : List Int) : Orc := .call 173 ks b (ow 0 RES.length) [] [roI RES]

theorem Abh (p0 : List Int) (p1 : Int) (RES : Int) (hm : Nz p0 p1 = some RES) : Spec Tryz.prog 186 [.p (slI p0),pI p1] [] (pI RES) [] [] := by
 unfold Nz at hm
 refine SO Tryz.func186 rfl rfl [(0,.p (slI p0)),(1,pI p1)] [] ?_
 intro cx hnt
 refine Sq (RD hnt (.no :: []) [] [] [] [] tv ?_)
 refine Sq (Sq (RD hnt (nn 3 []) [] [(7,pI ((p0.length : Nat) : Int)),(8,pI 0)] [] [] tv ?_))
 refine Bk ?_
 obtain ⟨hc1,hm⟩ := go1 hm
 refine DW.rangeO (fun (k1 : Nat) (s1 : Unit) => Ao [(0,.p (slI p0)),(1,pI p1),(7,pI ((p0.length : Nat) : Int)),(8,pI ((k1 : Nat) : Int))] []) 0 hm Conv.eqK ?_
 intro k1 s1 n1 hk1 hs1 he1
 refine Sq (RD hnt (.no :: []) [] [(9,pB (decide (((k1 : Nat) : Int) < ((p0.length : Nat) : Int))))] [] [] tv ?_)
 refine Sq (Cm (decide (((k1 : Nat) : Int) < ((p0.length : Nat) : Int))) ?_ ?_)
 ·intro h7
  have hlt1 : k1 < p0.length := by have := of_decide_eq_true h7; omega
  have hm := hs1 hlt1
  unfold Va at hm
  refine Sk ?_
  refine Sq (Bk ?_)
  refine Sq (RD hnt (nn 2 []) [9] [(5,pI ((k1 : Nat) : Int))] [] [] tv ?_)
  refine Sq (RD hnt (nn 6 []) [] [(16,pB (p1 == (p0.getD k1 0)))] [] [] (an (nn0 k1) (an (ltc hlt1) tv)) ?_)
  refine Ag hm ?_ ?_
  ·intro h8 hm
   refine Sq (RK hnt (nn 2 []) [(4,pI ((k1 : Nat) : Int))] [] tv ?_)
   obtain rfl := sj hm
   exact DW.ret (Ak [] [] (pI ((k1 : Nat) : Int)))
  ·intro h8 hm
   refine Sk ?_
   refine DW.done ?_
   show DW _ _ _ _ _
   refine RD hnt (nn 2 []) [5,16] [(8,pI (w64 (((k1 : Nat) : Int) + 1)))] [] [] tv ?_
   exact jD () ⟨hlt1,hm⟩ (Conv.tp [(8,pI (w64 (((k1 : Nat) : Int) + 1)))] [] (by kernel_rfl) (.cons rfl (.of_eq (congrArg pI (Br hlt1 hc1))) .nil) .nil)
 ·intro h7
  have hge1 : ¬ k1 < p0.length := by have := of_decide_eq_false h7; omega
  have hm := he1 hge1
  unfold Vd at hm
  refine DW.exit ?_
  refine Ar ?_
  refine Au ?_
  refine Ap ?_
  show DW _ _ _ _ _
  refine Sq (RK hnt (.no :: []) [(4,pI (-1))] [] tv ?_)
  obtain rfl := sj hm
  exact DW.ret (Ak [] [] (pI (-1)))
abbrev o126 (ks : List Nat) (b : Bool) (RES : Int) : Orc := .call 186 ks b (pI RES) [] []

theorem Yz (p0 : List Int) (p1 : Int) (RES : Bool) (hm : Iu p0 p1 = some RES) : Spec Tryz.prog 127 [.p (slI p0),pI p1] [] (pB RES) [] [] := by
 unfold Iu at hm
 refine SO Tryz.func127 rfl rfl [(0,.p (slI p0)),(1,pI p1)] [] ?_
 intro cx hnt
 refine Sq (RD hnt (.no :: []) [] [] [] [] tv ?_)
 obtain ⟨r1,hr1,hm⟩ := bo hm
 refine Sq (RK hnt (nn 2 (o126 [] true r1 :: nn 2 [])) [(4,pB (decide (r1 ≥ 0)))] [] (an (Abh p0 p1 r1 hr1) tv) ?_)
 obtain rfl := sj hm
 exact DW.ret (Ak [] [] (pB (decide (r1 ≥ 0))))
abbrev o125 (ks : List Nat) (b : Bool) (RES : Bool) : Orc := .call 127 ks b (pB RES) [] []

theorem Afm (p0 : Aa) (p1 : Int) (RES : Int) (hm : Ql p0 p1 = some RES) : Spec Tryz.prog 104 [.p (.agg (Ab p0)),pI p1] [] (pI RES) [] [] := by
 unfold Ql at hm
 refine SO Tryz.func104 rfl rfl [(0,.p (.agg (Ab p0))),(1,pI p1)] [] ?_
 intro cx hnt
 refine Sq (RK hnt (nn 2 []) [(1,pI p1),(2,rr 1016)] [(1016,bx (pm (Ab p0)))] tv ?_)
 obtain ⟨r1,hr1,hm⟩ := bo hm
 refine Sq (RD hnt (nn 3 (o123 [] true r1 :: .no :: [])) [1] [(5,ow 1096 r1.length)] [] [(1096,ob0 (roI r1))] (an (AbX p0.tree p1 r1 hr1) tv) ?_)
 refine Sq (RD hnt (.no :: []) [] [(6,pI 0)] [] [] tv ?_)
 refine Sq (Sq (RD hnt (nn 4 []) [2] [(14,.p (Bt p0.tasks)),(15,pI ((p0.tasks.length : Nat) : Int)),(16,pI 0)] [1016] [] tv ?_))
 refine Bk ?_
 obtain ⟨hc1,hm⟩ := go1 hm
 refine DW.rangeO (fun (k1 : Nat) (s1 : Int) => Ao [(5,ow 1096 r1.length),(6,pI s1),(14,.p (Bt p0.tasks)),(15,pI ((p0.tasks.length : Nat) : Int)),(16,pI ((k1 : Nat) : Int))] [(1096,ob0 (roI r1))]) Ba hm Conv.eqK ?_
 intro k1 s1 n1 hk1 hs1 he1
 refine Sq (RD hnt (.no :: []) [] [(17,pB (decide (((k1 : Nat) : Int) < ((p0.tasks.length : Nat) : Int))))] [] [] tv ?_)
 refine Sq (Cm (decide (((k1 : Nat) : Int) < ((p0.tasks.length : Nat) : Int))) ?_ ?_)
 ·intro h10
  have hlt1 : k1 < p0.tasks.length := by have := of_decide_eq_true h10; omega
  have hm := hs1 hlt1
  unfold Xf at hm
  refine Sk ?_
  refine Sq ?_
  refine Jn (ι := Int) (fun (y3 : Int) => Ao [(5,ow 1096 r1.length),(6,pI y3),(14,.p (Bt p0.tasks)),(15,pI ((p0.tasks.length : Nat) : Int)),(16,pI ((k1 : Nat) : Int))] [(1096,ob0 (roI r1))]) (fun y3 => (Pv n1) y3 = some RES) ?_ ?_
  ·intro y3 hm
   unfold Pv at hm
   refine RD hnt (nn 2 []) [] [(16,pI (w64 (((k1 : Nat) : Int) + 1)))] [] [] tv ?_
   exact jD y3 ⟨hlt1,hm⟩ (Conv.tp [(16,pI (w64 (((k1 : Nat) : Int) + 1)))] [] (by kernel_rfl) (.cons rfl (.of_eq (congrArg pI (Br hlt1 hc1))) .nil) .nil)
  ·refine Bk ?_
   refine Sq (RD hnt (nn 4 []) [17] [(8,rr 1064)] [] [(1064,bx (pm (Am (p0.tasks.getD k1 (default : Aj)))))] (an (nn0 k1) (an (ltc hlt1) tv)) ?_)
   obtain ⟨r11,hr11,hm⟩ := bo hm
   refine Sq (RD hnt (nn 3 (o125 [] true r11 :: [])) [8] [(23,pB r11)] [1064] [] (an (Yz r1 (p0.tasks.getD k1 (default : Aj)).group r11 hr11) tv) ?_)
   refine Ag hm ?_ ?_
   ·intro h12 hm
    refine RD hnt (nn 3 []) [23] [(6,pI (w64 (s1 + 1)))] [] [] tv ?_
    exact bD (w64 (s1 + 1)) hm Conv.eqK
   ·intro h12 hm
    refine Sk ?_
    exact bD s1 hm Conv.t0
 ·intro h10
  have hge1 : ¬ k1 < p0.tasks.length := by have := of_decide_eq_false h10; omega
  have hm := he1 hge1
  unfold Acx at hm
  refine DW.exit ?_
  refine Ar ?_
  refine Au ?_
  refine Ap ?_
  show DW _ _ _ _ _
  refine Sq (RK hnt (nn 2 []) [(4,pI s1)] [] tv ?_)
  obtain rfl := sj hm
  exact DW.ret (Ak [] [] (pI s1))
abbrev o122 (ks : List Nat) (b : Bool) (RES : Int) : Orc := .call 104 ks b (pI RES) [] []

theorem Rv (p0 : Aa) (p1 : Int) (RES : Int) (hm : Jv p0 p1 = some RES) : Spec Tryz.prog 31 [.p (.agg (Ab p0)),pI p1] [] (pI RES) [] [] := by
 unfold Jv at hm
 refine SO Tryz.func31 rfl rfl [(0,.p (.agg (Ab p0))),(1,pI p1)] [] ?_
 intro cx hnt
 refine Sq (RK hnt (nn 2 []) [(1,pI p1),(2,rr 1016)] [(1016,bx (pm (Ab p0)))] tv ?_)
 obtain ⟨r1,hr1,hm⟩ := bo hm
 obtain ⟨r2,hr2,hm⟩ := bo hm
 refine Sq (RK hnt (.no :: o82 [] true r1 :: .no :: o122 [] true r2 :: .no :: []) [(4,pI r2)] [] (an (Jr p0 r1 hr1) (an (Afm r1 p1 r2 hr2) tv)) ?_)
 obtain rfl := sj hm
 exact DW.ret (Ak [] [] (pI r2))
abbrev o121 (ks : List Nat) (b : Bool) (RES : Int) : Orc := .call 31 ks b (pI RES) [] []

theorem Adi (rec : Ae → Int → Option (List Int)) (ih : ∀ (p0 : Ae) (p1 : Int) (RES : List Int),rec p0 p1 = some RES → Spec Tryz.prog 69 [.p (.agg (Aq p0)),pI p1] [] (ow 0 RES.length) [] [roI RES]) (p0 : Ae) (p1 : Int) (RES : List Int) (hm : Oi rec p0 p1 = some RES) : Spec Tryz.prog 69 [.p (.agg (Aq p0)),pI p1] [] (ow 0 RES.length) [] [roI RES] := by
 unfold Oi at hm
 refine SO Tryz.func69 rfl rfl [(0,.p (.agg (Aq p0))),(1,pI p1)] [] ?_
 intro cx hnt
 refine Sq (RK hnt (nn 2 []) [(1,pI p1),(2,rr 1016)] [(1016,bx (pm (Aq p0)))] tv ?_)
 obtain ⟨r1,hr1,hm⟩ := bo hm
 refine Sq (Sq (RD hnt (nn 2 (o42 [] true r1 :: .no :: [])) [] [(11,pB (!r1))] [] [] (an (Cy p0 p1 r1 hr1) tv) ?_))
 refine Ag hm ?_ ?_
 ·intro h2 hm
  refine Sq (RK hnt (.no :: []) [(4,.p (.sl .nil 0 0 (fun _ => [])))] [] tv ?_)
  refine DW.cv [] [(4,ow 100000 0)] [] [(100000,ob0 (roI []))] (Conv.ads [(.s 4,100000,1,elems Bd 0 [])]) ?_
  obtain rfl := sj hm
  exact DW.ret (Ak [roI []] [100000] (ow 0 0))
 ·intro h2 hm
  refine Sk ?_
  refine Sq (RN hnt (nn 3 []) [(1,pI p1),(2,rr 1016),(5,ow 1104 [p1].length)] [(1016,bx (pm (Aq p0))),(1104,ob0 (roI [p1]))] [(5,ow 1104 1)] [(1104,.row 1 1 (cut 1 [vi p1]))] tv (by kernel_rfl) (.cons rfl (MLe.ownLen (enc := Bd) (d := 0) (f := (cut 1 [vi p1])) (RowIs.lit (enc := Bd) (d := 0) (n := 1) (f := (cut 1 [vi p1])) [p1] rfl (fun | 0,_ => rfl | n + 1,h => absurd h (by omega)))) .nil) (.cons rfl (BLe.typed (RowIs.lit (enc := Bd) (d := 0) (n := 1) (f := (cut 1 [vi p1])) [p1] rfl (fun | 0,_ => rfl | n + 1,h => absurd h (by omega)))) .nil) ?_)
  obtain ⟨r3,hr3,hm⟩ := bo hm
  refine Sq (RD hnt (nn 2 (o49 [] true r3 :: .no :: [])) [1] [(6,ow 1128 r3.length)] [] [(1128,ob0 (roI r3))] (an (Mu p0 p1 r3 hr3) tv) ?_)
  refine Sq (Sq (RD hnt (.no :: []) [] [(7,pI 0)] [] [] tv ?_))
  refine Bk ?_
  obtain ⟨hc1,hm⟩ := go1 hm
  refine DW.rangeO (fun (k1 : Nat) (s1 : List Int) => Ao [(2,rr 1016),(5,ow 1104 s1.length),(6,ow 1128 r3.length),(7,pI ((k1 : Nat) : Int))] [(1016,bx (pm (Aq p0))),(1104,ob0 (roI s1)),(1128,ob0 (roI r3))]) 0 hm Conv.eqK ?_
  intro k1 s1 n1 hk1 hs1 he1
  refine Sq (Sq (RD hnt (nn 4 []) [] [(20,pB (decide (((k1 : Nat) : Int) < ((r3.length : Nat) : Int))))] [] [] tv ?_))
  refine Cm (decide (((k1 : Nat) : Int) < ((r3.length : Nat) : Int))) ?_ ?_
  ·intro h14
   have hlt1 : k1 < r3.length := by have := of_decide_eq_true h14; omega
   have hm := hs1 hlt1
   unfold Ua at hm
   refine Sk ?_
   refine Sq (Bk ?_)
   obtain ⟨r15,hr15,hm⟩ := bo hm
   obtain ⟨g16,hm⟩ := go1 hm
   refine RN hnt (nn 6 (.call 69 [] true (ow 0 r15.length) [] [roI r15] :: nn 2 [])) [(2,rr 1016),(5,ow 1104 (s1 ++ r15).length),(6,ow 1128 r3.length),(7,pI ((k1 : Nat) : Int))] [(1016,bx (pm (Aq p0))),(1104,ob0 (roI (s1 ++ r15))),(1128,ob0 (roI r3))] [(5,ow 1104 (s1.length + r15.length))] [(1104,.row 1 (s1.length + r15.length) (Cp s1.length (elI s1) (elI r15)))] (an (nn0 k1) (an (ltc hlt1) (an (by omega : k1 < r3.length) (an (ih p0 (r3.getD k1 0) r15 hr15) (an (by omega : (s1.length + r15.length) * 8 ≤ 140737488355328) tv))))) (by kernel_rfl) (.cons rfl (MLe.ownLen (enc := Bd) (d := 0) (f := (Cp s1.length (elI s1) (elI r15))) (RowIs.cat RowIs.elems RowIs.elems)) .nil) (.cons rfl (BLe.typed (RowIs.cat RowIs.elems RowIs.elems)) .nil) ?_
   refine DW.done ?_
   show DW _ _ _ _ _
   refine RD hnt (nn 3 []) [] [(7,pI (w64 (((k1 : Nat) : Int) + 1)))] [] [] tv ?_
   exact jD (s1 ++ r15) ⟨hlt1,hm⟩ (Conv.tp [(7,pI (w64 (((k1 : Nat) : Int) + 1)))] [] (by kernel_rfl) (.cons rfl (.of_eq (congrArg pI (Br hlt1 hc1))) .nil) .nil)
  ·intro h14
   have hge1 : ¬ k1 < r3.length := by have := of_decide_eq_false h14; omega
   have hm := he1 hge1
   unfold AaS at hm
   refine DW.exit ?_
   refine Ar ?_
   refine Au ?_
   refine Ap ?_
   show DW _ _ _ _ _
   refine Sq (RK hnt (nn 2 []) [(4,ow 1104 s1.length)] [(1104,ob0 (roI s1))] tv ?_)
   obtain rfl := sj hm
   exact DW.ret (Ak [roI s1] [1104] (ow 0 s1.length))
theorem Wa : ∀ (n : Nat) (p0 : Ae) (p1 : Int) (RES : List Int),Ip n p0 p1 = some RES → Spec Tryz.prog 69 [.p (.agg (Aq p0)),pI p1] [] (ow 0 RES.length) [] [roI RES]
  | 0,p0,p1,RES,hm => by simp [Ip] at hm
  | n + 1,p0,p1,RES,hm => Adi (Ip n) (Wa n) p0 p1 RES hm
theorem Aec (p0 : Ae) (p1 : Int) (RES : List Int) (hm : Tb p0 p1 = some RES) : Spec Tryz.prog 69 [.p (.agg (Aq p0)),pI p1] [] (ow 0 RES.length) [] [roI RES] := Wa Ea p0 p1 RES hm
abbrev o128 (ks : List Nat) (b : Bool) (RES : List Int) : Orc := .call 69 ks b (ow 0 RES.length) [] [roI RES]

theorem Aha (p0 : List Int) (p1 : Int) (RES : Bool) (hm : Xu p0 p1 = some RES) : Spec Tryz.prog 46 [.p (slI p0),pI p1] [] (pB RES) [] [] := by
 unfold Xu at hm
 refine SO Tryz.func46 rfl rfl [(0,.p (slI p0)),(1,pI p1)] [] ?_
 intro cx hnt
 refine Sq (RD hnt (.no :: []) [] [] [] [] tv ?_)
 refine Sq (Sq (RD hnt (.no :: []) [] [(5,pI 0)] [] [] tv ?_))
 refine Bk ?_
 obtain ⟨hc1,hm⟩ := go1 hm
 refine DW.rangeO (fun (k1 : Nat) (s1 : Unit) => Ao [(0,.p (slI p0)),(1,pI p1),(5,pI ((k1 : Nat) : Int))] []) 0 hm Conv.eqK ?_
 intro k1 s1 n1 hk1 hs1 he1
 refine Sq (Sq (RD hnt (nn 4 []) [] [(9,pB (decide (((k1 : Nat) : Int) < ((p0.length : Nat) : Int))))] [] [] tv ?_))
 refine Cm (decide (((k1 : Nat) : Int) < ((p0.length : Nat) : Int))) ?_ ?_
 ·intro h7
  have hlt1 : k1 < p0.length := by have := of_decide_eq_true h7; omega
  have hm := hs1 hlt1
  unfold Aeq at hm
  refine Sk ?_
  refine Sq (Bk ?_)
  refine Sq (RD hnt (nn 6 []) [9] [(17,pB ((p0.getD k1 0) == p1))] [] [] (an (nn0 k1) (an (ltc hlt1) tv)) ?_)
  refine Ag hm ?_ ?_
  ·intro h8 hm
   refine Sq (RK hnt (.no :: []) [(4,pB true)] [] tv ?_)
   obtain rfl := sj hm
   exact DW.ret (Ak [] [] (pB true))
  ·intro h8 hm
   refine Sk ?_
   refine DW.done ?_
   show DW _ _ _ _ _
   refine RD hnt (nn 3 []) [17] [(5,pI (w64 (((k1 : Nat) : Int) + 1)))] [] [] tv ?_
   exact jD () ⟨hlt1,hm⟩ (Conv.tp [(5,pI (w64 (((k1 : Nat) : Int) + 1)))] [] (by kernel_rfl) (.cons rfl (.of_eq (congrArg pI (Br hlt1 hc1))) .nil) .nil)
 ·intro h7
  have hge1 : ¬ k1 < p0.length := by have := of_decide_eq_false h7; omega
  have hm := he1 hge1
  unfold Aey at hm
  refine DW.exit ?_
  refine Ar ?_
  refine Au ?_
  refine Ap ?_
  show DW _ _ _ _ _
  refine Sq (RK hnt (.no :: []) [(4,pB false)] [] tv ?_)
  obtain rfl := sj hm
  exact DW.ret (Ak [] [] (pB false))
abbrev o129 (ks : List Nat) (b : Bool) (RES : Bool) : Orc := .call 46 ks b (pB RES) [] []

theorem Tz (p0 : Aa) (p1 : Int) (RES : Int) (hm : Mg p0 p1 = some RES) : Spec Tryz.prog 32 [.p (.agg (Ab p0)),pI p1] [] (pI RES) [] [] := by
 unfold Mg at hm
 refine SO Tryz.func32 rfl rfl [(0,.p (.agg (Ab p0))),(1,pI p1)] [] ?_
 intro cx hnt
 refine Sq (RK hnt (nn 2 []) [(1,pI p1),(2,rr 1016)] [(1016,bx (pm (Ab p0)))] tv ?_)
 obtain ⟨r1,hr1,hm⟩ := bo hm
 refine Sq (Sq (RD hnt (.no :: o56 [] true r1 :: .no :: []) [] [(10,pB (!r1))] [] [] (an (Ei p0 r1 hr1) tv) ?_))
 refine Ag hm ?_ ?_
 ·intro h2 hm
  refine Sq (RK hnt (.no :: []) [(4,pI 0)] [] tv ?_)
  obtain rfl := sj hm
  exact DW.ret (Ak [] [] (pI 0))
 ·intro h2 hm
  refine Sk ?_
  refine Sq (RD hnt (.no :: []) [10] [(5,pI 0)] [] [] tv ?_)
  obtain ⟨r3,hr3,hm⟩ := bo hm
  refine Sq (RD hnt (nn 3 (o128 [] true r3 :: .no :: [])) [1] [(6,ow 1112 r3.length)] [] [(1112,ob0 (roI r3))] (an (Aec p0.tree p1 r3 hr3) tv) ?_)
  refine Sq (Sq (RD hnt (.no :: []) [] [(7,pI 0)] [] [] tv ?_))
  refine Bk ?_
  obtain ⟨hc1,hm⟩ := go1 hm
  refine DW.rangeO (fun (k1 : Nat) (s1 : Int) => Ao [(2,rr 1016),(5,pI s1),(6,ow 1112 r3.length),(7,pI ((k1 : Nat) : Int))] [(1016,bx (pm (Ab p0))),(1112,ob0 (roI r3))]) Ba hm Conv.eqK ?_
  intro k1 s1 n1 hk1 hs1 he1
  refine Sq (Sq (RD hnt (nn 5 []) [] [(19,pB (decide (((k1 : Nat) : Int) < ((p0.tasks.length : Nat) : Int))))] [] [] tv ?_))
  refine Cm (decide (((k1 : Nat) : Int) < ((p0.tasks.length : Nat) : Int))) ?_ ?_
  ·intro h12
   have hlt1 : k1 < p0.tasks.length := by have := of_decide_eq_true h12; omega
   have hm := hs1 hlt1
   unfold Yk at hm
   refine Sk ?_
   refine Sq ?_
   refine Jn (ι := Int) (fun (y3 : Int) => Ao [(2,rr 1016),(5,pI y3),(6,ow 1112 r3.length),(7,pI ((k1 : Nat) : Int))] [(1016,bx (pm (Ab p0))),(1112,ob0 (roI r3))]) (fun y3 => (Pi n1) y3 = some RES) ?_ ?_
   ·intro y3 hm
    unfold Pi at hm
    refine RD hnt (nn 3 []) [] [(7,pI (w64 (((k1 : Nat) : Int) + 1)))] [] [] tv ?_
    exact jD y3 ⟨hlt1,hm⟩ (Conv.tp [(7,pI (w64 (((k1 : Nat) : Int) + 1)))] [] (by kernel_rfl) (.cons rfl (.of_eq (congrArg pI (Br hlt1 hc1))) .nil) .nil)
   ·refine Bk ?_
    obtain ⟨r13,hr13,hm⟩ := bo hm
    refine Sq (RD hnt (nn 7 (o129 [] true r13 :: [])) [19] [(29,pB r13)] [] [] (an (nn0 k1) (an (ltc hlt1) (an (Aha r3 (p0.tasks.getD k1 (default : Aj)).group r13 hr13) tv))) ?_)
    refine Ag hm ?_ ?_
    ·intro h14 hm
     refine RD hnt (nn 3 []) [29] [(5,pI (w64 (s1 + 1)))] [] [] tv ?_
     exact bD (w64 (s1 + 1)) hm Conv.eqK
    ·intro h14 hm
     refine Sk ?_
     exact bD s1 hm Conv.t0
  ·intro h12
   have hge1 : ¬ k1 < p0.tasks.length := by have := of_decide_eq_false h12; omega
   have hm := he1 hge1
   unfold AcE at hm
   refine DW.exit ?_
   refine Ar ?_
   refine Au ?_
   refine Ap ?_
   show DW _ _ _ _ _
   refine Sq (RK hnt (nn 2 []) [(4,pI s1)] [] tv ?_)
   obtain rfl := sj hm
   exact DW.ret (Ak [] [] (pI s1))
abbrev o127 (ks : List Nat) (b : Bool) (RES : Int) : Orc := .call 32 ks b (pI RES) [] []

theorem Abm (p0 : Aa) (p1 : Int) (RES : Bool) (hm : Hq p0 p1 = some RES) : Spec Tryz.prog 33 [.p (.agg (Ab p0)),pI p1] [] (pB RES) [] [] := by
 unfold Hq at hm
 refine SO Tryz.func33 rfl rfl [(0,.p (.agg (Ab p0))),(1,pI p1)] [] ?_
 intro cx hnt
 refine Sq (RK hnt (nn 2 []) [(1,pI p1),(2,rr 1016)] [(1016,bx (pm (Ab p0)))] tv ?_)
 obtain ⟨r1,hr1,hm⟩ := bo hm
 refine Sq (RK hnt (nn 2 (o121 [] true r1 :: nn 2 [])) [(4,pB (decide (r1 > 0)))] [] (an (Rv p0 p1 r1 hr1) tv) ?_)
 obtain rfl := sj hm
 exact DW.ret (Ak [] [] (pB (decide (r1 > 0))))
abbrev o130 (ks : List Nat) (b : Bool) (RES : Bool) : Orc := .call 33 ks b (pB RES) [] []

theorem AbL (p0 : Aa) (p1 : Int) (RES : Bool) (hm : Je p0 p1 = some RES) : Spec Tryz.prog 34 [.p (.agg (Ab p0)),pI p1] [] (pB RES) [] [] := by
 unfold Je at hm
 refine SO Tryz.func34 rfl rfl [(0,.p (.agg (Ab p0))),(1,pI p1)] [] ?_
 intro cx hnt
 refine Sq (RK hnt (nn 2 []) [(1,pI p1),(2,rr 1016)] [(1016,bx (pm (Ab p0)))] tv ?_)
 obtain ⟨r1,hr1,hm⟩ := bo hm
 refine Sq (RK hnt (nn 2 (o127 [] true r1 :: nn 2 [])) [(4,pB (decide (r1 > 0)))] [] (an (Tz p0 p1 r1 hr1) tv) ?_)
 obtain rfl := sj hm
 exact DW.ret (Ak [] [] (pB (decide (r1 > 0))))
abbrev o131 (ks : List Nat) (b : Bool) (RES : Bool) : Orc := .call 34 ks b (pB RES) [] []

theorem Vr (p0 : Ae) (p1 : Ae) (RES : Bool) (hm : Vb p0 p1 = some RES) : Spec Tryz.prog 105 [.p (.agg (Aq p0)),.p (.agg (Aq p1))] [] (pB RES) [] [] := by
 unfold Vb at hm
 refine SO Tryz.func105 rfl rfl [(0,.p (.agg (Aq p0))),(1,.p (.agg (Aq p1)))] [] ?_
 intro cx hnt
 refine Sq (RK hnt (nn 3 []) [(2,rr 1016),(3,rr 1024)] [(1016,bx (pm (Aq p0))),(1024,bx (pm (Aq p1)))] tv ?_)
 refine Sq (Sq (DW.regJ (sl2 := [(2,rr 1016),(3,rr 1024),(19,pB ((((p0.nodes.length : Nat) : Int) != ((p1.nodes.length : Nat) : Int)) || (p0.next != p1.next)))]) (ob2 := [(1016,bx (pm (Aq p0))),(1024,bx (pm (Aq p1)))]) ?_ ?_))
 ·rcases bt (((p0.nodes.length : Nat) : Int) != ((p1.nodes.length : Nat) : Int)) with h1 | h1
  ·exact RT hnt (nn 8 (sk 5 (pT :: []))) [(19,pB true)] (an6 h1 tv) (by kernel_rfl) (.cons rfl (.of_eq (by rw [h1]; try rfl)) .nil)
  ·exact RT hnt (nn 13 (pF :: [])) [(19,pB (p0.next != p1.next))] (an6 h1 tv) (by kernel_rfl) (.cons rfl (.of_eq (by rw [h1]; try rfl)) .nil)
 ·refine Ag hm ?_ ?_
  ·intro h2 hm
   refine Sq (RK hnt (.no :: []) [(4,pB false)] [] tv ?_)
   obtain rfl := sj hm
   exact DW.ret (Ak [] [] (pB false))
  ·intro h2 hm
   refine Sk ?_
   refine Sq (Sq (RD hnt (.no :: []) [19] [(5,pI 0)] [] [] tv ?_))
   refine Bk ?_
   obtain ⟨hc1,hm⟩ := go1 hm
   refine DW.rangeO (fun (k1 : Nat) (s1 : Unit) => Ao [(2,rr 1016),(3,rr 1024),(5,pI ((k1 : Nat) : Int))] [(1016,bx (pm (Aq p0))),(1024,bx (pm (Aq p1)))]) Aw hm Conv.eqK ?_
   intro k1 s1 n1 hk1 hs1 he1
   refine Sq (Sq (RD hnt (nn 5 []) [] [(24,pB (decide (((k1 : Nat) : Int) < ((p0.nodes.length : Nat) : Int))))] [] [] tv ?_))
   refine Cm (decide (((k1 : Nat) : Int) < ((p0.nodes.length : Nat) : Int))) ?_ ?_
   ·intro h11
    have hlt1 : k1 < p0.nodes.length := by have := of_decide_eq_true h11; omega
    have hm := hs1 hlt1
    unfold Aaz at hm
    refine Sk ?_
    refine Sq (Bk ?_)
    obtain ⟨g12,hm⟩ := go1 hm
    refine Sq (RD hnt (nn 11 []) [24] [(37,pB (!(AeV (p0.nodes.getD k1 (default : Af)) (p1.nodes.getD k1 Aw))))] [] [] (an (nn0 k1) (an (ltc hlt1) (an (nn0 k1) (an (ltc g12) tv)))) ?_)
    refine Ag hm ?_ ?_
    ·intro h13 hm
     refine Sq (RK hnt (.no :: []) [(4,pB false)] [] tv ?_)
     obtain rfl := sj hm
     exact DW.ret (Ak [] [] (pB false))
    ·intro h13 hm
     refine Sk ?_
     refine DW.done ?_
     show DW _ _ _ _ _
     refine RD hnt (nn 3 []) [37] [(5,pI (w64 (((k1 : Nat) : Int) + 1)))] [] [] tv ?_
     exact jD () ⟨hlt1,hm⟩ (Conv.tp [(5,pI (w64 (((k1 : Nat) : Int) + 1)))] [] (by kernel_rfl) (.cons rfl (.of_eq (congrArg pI (Br hlt1 hc1))) .nil) .nil)
   ·intro h11
    have hge1 : ¬ k1 < p0.nodes.length := by have := of_decide_eq_false h11; omega
    have hm := he1 hge1
    unfold AdB at hm
    refine DW.exit ?_
    refine Ar ?_
    refine Au ?_
    refine Ap ?_
    show DW _ _ _ _ _
    refine Sq (RK hnt (.no :: []) [(4,pB true)] [] tv ?_)
    obtain rfl := sj hm
    exact DW.ret (Ak [] [] (pB true))
abbrev o133 (ks : List Nat) (b : Bool) (RES : Bool) : Orc := .call 105 ks b (pB RES) [] []

theorem AbB (p0 : Aa) (p1 : Aa) (RES : Bool) (hm : Vc p0 p1 = some RES) : Spec Tryz.prog 35 [.p (.agg (Ab p0)),.p (.agg (Ab p1))] [] (pB RES) [] [] := by
 unfold Vc at hm
 refine SO Tryz.func35 rfl rfl [(0,.p (.agg (Ab p0))),(1,.p (.agg (Ab p1)))] [] ?_
 intro cx hnt
 refine Sq (RK hnt (nn 3 []) [(2,rr 1016),(3,rr 1024)] [(1016,bx (pm (Ab p0))),(1024,bx (pm (Ab p1)))] tv ?_)
 obtain ⟨r1,hr1,hm⟩ := bo hm
 refine Sq (Sq ?_)
 refine Jn (ι := Bool) (fun (y1 : Bool) => Ao [(2,rr 1016),(3,rr 1024),(27,pB y1)] [(1016,bx (pm (Ab p0))),(1024,bx (pm (Ab p1)))]) (fun y1 => (Ou p0 p1) y1 = some RES) ?_ ?_
 ·intro y1 hm
  unfold Ou at hm
  refine Ag hm ?_ ?_
  ·intro h4 hm
   refine Sq (RK hnt (.no :: []) [(4,pB false)] [] tv ?_)
   obtain rfl := sj hm
   exact DW.ret (Ak [] [] (pB false))
  ·intro h4 hm
   refine Sk ?_
   refine Sq (Sq (RD hnt (.no :: []) [27] [(5,pI 0)] [] [] tv ?_))
   refine Bk ?_
   obtain ⟨hc1,hm⟩ := go1 hm
   refine DW.rangeO (fun (k1 : Nat) (s1 : Unit) => Ao [(2,rr 1016),(3,rr 1024),(5,pI ((k1 : Nat) : Int))] [(1016,bx (pm (Ab p0))),(1024,bx (pm (Ab p1)))]) Ba hm Conv.eqK ?_
   intro k1 s1 n1 hk1 hs1 he1
   refine Sq (Sq (RD hnt (nn 5 []) [] [(32,pB (decide (((k1 : Nat) : Int) < ((p0.tasks.length : Nat) : Int))))] [] [] tv ?_))
   refine Cm (decide (((k1 : Nat) : Int) < ((p0.tasks.length : Nat) : Int))) ?_ ?_
   ·intro h13
    have hlt1 : k1 < p0.tasks.length := by have := of_decide_eq_true h13; omega
    have hm := hs1 hlt1
    unfold Aac at hm
    refine Sk ?_
    refine Sq (Bk ?_)
    obtain ⟨g14,hm⟩ := go1 hm
    refine Sq (RD hnt (nn 11 []) [32] [(45,pB (!(AaP (p0.tasks.getD k1 (default : Aj)) (p1.tasks.getD k1 Ba))))] [] [] (an (nn0 k1) (an (ltc hlt1) (an (nn0 k1) (an (ltc g14) tv)))) ?_)
    refine Ag hm ?_ ?_
    ·intro h15 hm
     refine Sq (RK hnt (.no :: []) [(4,pB false)] [] tv ?_)
     obtain rfl := sj hm
     exact DW.ret (Ak [] [] (pB false))
    ·intro h15 hm
     refine Sk ?_
     refine DW.done ?_
     show DW _ _ _ _ _
     refine RD hnt (nn 3 []) [45] [(5,pI (w64 (((k1 : Nat) : Int) + 1)))] [] [] tv ?_
     exact jD () ⟨hlt1,hm⟩ (Conv.tp [(5,pI (w64 (((k1 : Nat) : Int) + 1)))] [] (by kernel_rfl) (.cons rfl (.of_eq (congrArg pI (Br hlt1 hc1))) .nil) .nil)
   ·intro h13
    have hge1 : ¬ k1 < p0.tasks.length := by have := of_decide_eq_false h13; omega
    have hm := he1 hge1
    unfold Ady at hm
    refine DW.exit ?_
    refine Ar ?_
    refine Au ?_
    refine Ap ?_
    show DW _ _ _ _ _
    refine Sq (RK hnt (.no :: []) [(4,pB true)] [] tv ?_)
    obtain rfl := sj hm
    exact DW.ret (Ak [] [] (pB true))
 ·rcases bt (!r1) with h2 | h2
  ·replace hm := Bg h2 hm
   refine RD hnt (nn 4 (o133 [] true r1 :: nn 2 (sk 7 (pT :: .no :: sk 5 (pT :: []))))) [] [(27,pB true)] [] [] (an (Vr p0.tree p1.tree r1 hr1) (an2 h2 (an6 h2 (an6 tt tv)))) ?_
   exact jD true hm Conv.eqK
  ·replace hm := Bh h2 hm
   rcases bt (((p0.tasks.length : Nat) : Int) != ((p1.tasks.length : Nat) : Int)) with h3 | h3
   ·replace hm := Bg h3 hm
    refine RD hnt (nn 4 (o133 [] true r1 :: nn 9 (pF :: .no :: sk 5 (pT :: [])))) [] [(27,pB true)] [] [] (an (Vr p0.tree p1.tree r1 hr1) (an2 h2 (an6 h2 (an6 h3 tv)))) ?_
    exact jD true hm Conv.eqK
   ·replace hm := Bh h3 hm
    refine RD hnt (nn 4 (o133 [] true r1 :: nn 9 (pF :: nn 6 (pF :: [])))) [] [(27,pB (p0.next != p1.next))] [] [] (an (Vr p0.tree p1.tree r1 hr1) (an2 h2 (an6 h2 (an6 h3 tv)))) ?_
    exact jD (p0.next != p1.next) hm Conv.eqK
abbrev o132 (ks : List Nat) (b : Bool) (RES : Bool) : Orc := .call 35 ks b (pB RES) [] []

abbrev c1e1 (r7 : Aa × Al) (r9 : Aa × Al) (p1 : Aa) (k1 : Nat) : Nat × Obj := (1080,bx (pm (Ab ([r7.1,r9.1,p1].getD k1 (default : Aa)))))
theorem Abd (p0 : List Int) (p1 : Aa) (p2 : Int) (RES : Bool) (hm : Lj p0 p1 p2 = some RES) : Spec Tryz.prog 3 [.p (slI p0),.p (.agg (Ab p1)),pI p2] [] (pB RES) [] [] := by
 unfold Lj at hm
 refine SO Tryz.func3 rfl rfl [(0,.p (slI p0)),(1,.p (.agg (Ab p1))),(2,pI p2)] [] ?_
 intro cx hnt
 refine Sq (RD hnt (nn 2 []) [1] [(4,rr 1032)] [] [(1032,bx (pm (Ab p1)))] tv ?_)
 obtain ⟨r1,hr1,hm⟩ := bo hm
 refine Sq (Sq ?_)
 refine Jn (ι := Bool) (fun (y1 : Bool) => Ao [(0,.p (slI p0)),(2,pI p2),(4,rr 1032),(32,pB y1)] [(1032,bx (pm (Ab p1)))]) (fun y1 => (Fs p0 p1 p2) y1 = some RES) ?_ ?_
 ·intro y1 hm
  unfold Fs at hm
  refine Ag hm ?_ ?_
  ·intro h4 hm
   obtain ⟨r5,hr5,hm⟩ := bo hm
   refine Sq (RK hnt (o3 [] true r5 :: .no :: []) [(6,pB r5)] [] (an (AbC r5 hr5) tv) ?_)
   obtain rfl := sj hm
   exact DW.ret (Ak [] [] (pB r5))
  ·intro h4 hm
   refine Sk ?_
   obtain ⟨r6,hr6,hm⟩ := bo hm
   refine Sq (RD hnt (.no :: o30 [] true r6 :: .no :: []) [0,32] [(7,rr 1280)] [] [(1280,bx (pm (Ah r6)))] (an (Agc p0 r6 hr6) tv) ?_)
   obtain ⟨r7,hr7,hm⟩ := bo hm
   refine Sq (RD hnt (.no :: o31 [1280] true r7 :: nn 2 []) [] [(8,rr 1064)] [] [(1064,bx (pm (Ab r7.1))),(1280,bx (pm (Ah r7.2)))] (an (Zc r6 6 8 r7 hr7) (an tv tv)) ?_)
   obtain ⟨r9,hr9,hm⟩ := bo hm
   refine Sq (Sq (RN hnt (nn 3 (o80 [1280] true r9 :: nn 4 [])) [(2,pI p2),(7,rr 1280),(43,ow 1344 [r7.1,r9.1,p1].length),(44,pI 3),(45,pI 0)] [(1280,bx (pm (Ah r9.2))),(1344,ob0 (Ra [r7.1,r9.1,p1]))] [(43,ow 1344 3)] [(1344,.row 4 3 (cut 4 [Cz r7.1.tree.nodes,vi r7.1.tree.next,Bt r7.1.tasks,vi r7.1.next,Cz r9.1.tree.nodes,vi r9.1.tree.next,Bt r9.1.tasks,vi r9.1.next,Cz p1.tree.nodes,vi p1.tree.next,Bt p1.tasks,vi p1.next]))] (an (Vf r7.2 r7.1 r9 hr9) (an tv tv)) (by kernel_rfl) (.cons rfl (MLe.ownLen (enc := Ab) (d := Wl) (f := (cut 4 [Cz r7.1.tree.nodes,vi r7.1.tree.next,Bt r7.1.tasks,vi r7.1.next,Cz r9.1.tree.nodes,vi r9.1.tree.next,Bt r9.1.tasks,vi r9.1.next,Cz p1.tree.nodes,vi p1.tree.next,Bt p1.tasks,vi p1.next])) (RowIs.lit (enc := Ab) (d := Wl) (n := 3) (f := (cut 4 [Cz r7.1.tree.nodes,vi r7.1.tree.next,Bt r7.1.tasks,vi r7.1.next,Cz r9.1.tree.nodes,vi r9.1.tree.next,Bt r9.1.tasks,vi r9.1.next,Cz p1.tree.nodes,vi p1.tree.next,Bt p1.tasks,vi p1.next])) [r7.1,r9.1,p1] rfl (fun | 0,_ => rfl | 1,_ => rfl | 2,_ => rfl | n + 3,h => absurd h (by omega)))) .nil) (.cons rfl (BLe.typed (RowIs.lit (enc := Ab) (d := Wl) (n := 3) (f := (cut 4 [Cz r7.1.tree.nodes,vi r7.1.tree.next,Bt r7.1.tasks,vi r7.1.next,Cz r9.1.tree.nodes,vi r9.1.tree.next,Bt r9.1.tasks,vi r9.1.next,Cz p1.tree.nodes,vi p1.tree.next,Bt p1.tasks,vi p1.next])) [r7.1,r9.1,p1] rfl (fun | 0,_ => rfl | 1,_ => rfl | 2,_ => rfl | n + 3,h => absurd h (by omega)))) .nil) ?_))
   refine Bk ?_
   obtain ⟨hc1,hm⟩ := go1 hm
   refine DW.rangeO (fun (k1 : Nat) (s1 : Al) => Ao [(2,pI p2),(7,rr 1280),(43,ow 1344 [r7.1,r9.1,p1].length),(44,pI 3),(45,pI ((k1 : Nat) : Int))] [(1280,bx (pm (Ah s1))),(1344,ob0 (Ra [r7.1,r9.1,p1]))]) Wl hm .refl ?_
   intro k1 s1 n1 hk1 hs1 he1
   refine Sq (RD hnt (.no :: []) [] [(46,pB (decide (((k1 : Nat) : Int) < 3)))] [] [] tv ?_)
   refine Sq (Cm (decide (((k1 : Nat) : Int) < 3)) ?_ ?_)
   ·intro h182
    have hlt1 : k1 < [r7.1,r9.1,p1].length := by have := of_decide_eq_true h182; have hL : [r7.1,r9.1,p1].length = 3 := rfl; omega
    have hm := hs1 hlt1
    unfold Pl at hm
    refine Sk ?_
    refine Sq (Bk ?_)
    refine Sq (RD hnt (nn 4 []) [46] [(10,rr 1080)] [] [(c1e1 r7 r9 p1 k1)] (an (nn0 k1) (an (ltc hlt1) (an (by omega : k1 < [r7.1,r9.1,p1].length) tv))) ?_)
    obtain ⟨r183,hr183,hm⟩ := bo hm
    obtain ⟨r184,hr184,hm⟩ := bo hm
    refine Sq (Sq (RD hnt (.no :: o7 [] true r183 :: .no :: o56 [] true r184 :: .no :: []) [] [(53,pB (r183 != r184))] [] [] (an (Hr ([r7.1,r9.1,p1].getD k1 (default : Aa)) r183 hr183) (an (Ei ([r7.1,r9.1,p1].getD k1 (default : Aa)) r184 hr184) tv)) ?_))
    refine Ag hm ?_ ?_
    ·intro h185 hm
     refine Sq (RK hnt (.no :: []) [(6,pB false)] [] tv ?_)
     obtain rfl := sj hm
     exact DW.ret (Ak [] [] (pB false))
    ·intro h185 hm
     refine Sk ?_
     obtain ⟨r186,hr186,hm⟩ := bo hm
     obtain ⟨r187,hr187,hm⟩ := bo hm
     refine Sq (RN hnt (nn 4 (o51 [1280] true r186 :: nn 2 (o72 [1280] true r187 :: nn 3 []))) [(2,pI p2),(7,rr 1280),(10,rr 1080),(43,ow 1344 [r7.1,r9.1,p1].length),(44,pI 3),(45,pI ((k1 : Nat) : Int)),(62,ow 1496 [p2,r186.1,r187.1,1].length),(63,pI 4),(64,pI 0)] [(c1e1 r7 r9 p1 k1),(1280,bx (pm (Ah r187.2))),(1344,ob0 (Ra [r7.1,r9.1,p1])),(1496,ob0 (roI [p2,r186.1,r187.1,1]))] [(62,ow 1496 4)] [(1496,.row 1 4 (cut 1 [vi p2,vi r186.1,vi r187.1,vi 1]))] (an (Lv s1 ([r7.1,r9.1,p1].getD k1 (default : Aa)).tree r186 hr186) (an tv (an (Mj r186.2 ([r7.1,r9.1,p1].getD k1 (default : Aa)) r187 hr187) (an tv tv)))) (by kernel_rfl) (.cons rfl (MLe.ownLen (enc := Bd) (d := 0) (f := (cut 1 [vi p2,vi r186.1,vi r187.1,vi 1])) (RowIs.lit (enc := Bd) (d := 0) (n := 4) (f := (cut 1 [vi p2,vi r186.1,vi r187.1,vi 1])) [p2,r186.1,r187.1,1] rfl (fun | 0,_ => rfl | 1,_ => rfl | 2,_ => rfl | 3,_ => rfl | n + 4,h => absurd h (by omega)))) .nil) (.cons rfl (BLe.typed (RowIs.lit (enc := Bd) (d := 0) (n := 4) (f := (cut 1 [vi p2,vi r186.1,vi r187.1,vi 1])) [p2,r186.1,r187.1,1] rfl (fun | 0,_ => rfl | 1,_ => rfl | 2,_ => rfl | 3,_ => rfl | n + 4,h => absurd h (by omega)))) .nil) ?_)
     refine Bk ?_
     obtain ⟨hc4,hm⟩ := go1 hm
     refine DW.rangeO (fun (k4 : Nat) (s4 : Unit) => Ao [(2,pI p2),(7,rr 1280),(10,rr 1080),(43,ow 1344 [r7.1,r9.1,p1].length),(44,pI 3),(45,pI ((k1 : Nat) : Int)),(62,ow 1496 [p2,r186.1,r187.1,1].length),(63,pI 4),(64,pI ((k4 : Nat) : Int))] [(c1e1 r7 r9 p1 k1),(1280,bx (pm (Ah r187.2))),(1344,ob0 (Ra [r7.1,r9.1,p1])),(1496,ob0 (roI [p2,r186.1,r187.1,1]))]) 0 hm .refl ?_
     intro k4 s4 n4 hk4 hs4 he4
     refine Sq (RD hnt (.no :: []) [] [(65,pB (decide (((k4 : Nat) : Int) < 4)))] [] [] tv ?_)
     refine Sq (Cm (decide (((k4 : Nat) : Int) < 4)) ?_ ?_)
     ·intro h238
      have hlt4 : k4 < [p2,r186.1,r187.1,1].length := by have := of_decide_eq_true h238; have hL : [p2,r186.1,r187.1,1].length = 4 := rfl; omega
      have hm := hs4 hlt4
      unfold Js at hm
      refine Sk ?_
      refine Sq (Bk ?_)
      refine Sq (RD hnt (nn 3 []) [65] [(12,pI ([p2,r186.1,r187.1,1].getD k4 0))] [] [] (an (nn0 k4) (an (ltc hlt4) (an (by omega : k4 < [p2,r186.1,r187.1,1].length) tv))) ?_)
      obtain ⟨r239,hr239,hm⟩ := bo hm
      refine Sq (RD hnt (nn 2 (o81 [] true r239 :: nn 6 [])) [] [(13,rr 1104),(14,pB r239.2)] [] [(1104,bx (pm (Am r239.1)))] (an (AeF ([r7.1,r9.1,p1].getD k1 (default : Aa)) ([p2,r186.1,r187.1,1].getD k4 0) r239 hr239) tv) ?_)
      obtain ⟨r240,hr240,hm⟩ := bo hm
      refine Sq (RD hnt (nn 2 (o61 [] true r240 :: nn 6 [])) [] [(15,rr 1120),(16,pB r240.2)] [] [(1120,bx (pm (Am r240.1)))] (an (Jz ([r7.1,r9.1,p1].getD k1 (default : Aa)) ([p2,r186.1,r187.1,1].getD k4 0) r240 hr240) tv) ?_)
      refine Sq ?_
      refine Jn (ι := Bool) (fun (y12 : Bool) => Ao [(2,pI p2),(7,rr 1280),(10,rr 1080),(43,ow 1344 [r7.1,r9.1,p1].length),(44,pI 3),(45,pI ((k1 : Nat) : Int)),(62,ow 1496 [p2,r186.1,r187.1,1].length),(63,pI 4),(64,pI ((k4 : Nat) : Int)),(135,pB y12)] [(c1e1 r7 r9 p1 k1),(1280,bx (pm (Ah r187.2))),(1344,ob0 (Ra [r7.1,r9.1,p1])),(1496,ob0 (roI [p2,r186.1,r187.1,1]))]) (fun y12 => (Di n4) y12 = some RES) ?_ ?_
      ·intro y12 hm
       unfold Di at hm
       refine Ag hm ?_ ?_
       ·intro h260 hm
        refine Sq (RK hnt (.no :: []) [(6,pB false)] [] tv ?_)
        obtain rfl := sj hm
        exact DW.ret (Ak [] [] (pB false))
       ·intro h260 hm
        refine Sk ?_
        refine DW.done ?_
        show DW _ _ _ _ _
        refine RD hnt (nn 2 []) [135] [(64,pI (w64 (((k4 : Nat) : Int) + 1)))] [] [] tv ?_
        exact jD () ⟨hlt4,hm⟩ (Conv.tp [(64,pI (w64 (((k4 : Nat) : Int) + 1)))] [] (by kernel_rfl) (.cons rfl (.of_eq (congrArg pI (Br hlt4 hc4))) .nil) .nil)
      ·rcases bt (!(AaP r239.1 r240.1)) with h241 | h241
       ·replace hm := Bg h241 hm
        refine RD hnt (nn 4 (sk 3 (pT :: .no :: sk 8 (pT :: .no :: sk 8 (pT :: .no :: sk 8 (pT :: .no :: sk 7 (pT :: .no :: sk 7 (pT :: [])))))))) [12,13,14,15,16] [(135,pB true)] [1104,1120] [] (an4 h241 (an tt (an6 tt (an6 tt (an6 tt (an6 tt (an6 tt (an6 tt (an6 tt tv))))))))) ?_
        exact jD true hm Conv.eqK
       ·replace hm := Bh h241 hm
        rcases bt (r239.2 != r240.2) with h242 | h242
        ·replace hm := Bg h242 hm
         refine RD hnt (nn 7 (pF :: .no :: sk 8 (pT :: .no :: sk 8 (pT :: .no :: sk 8 (pT :: .no :: sk 7 (pT :: .no :: sk 7 (pT :: []))))))) [12,13,14,15,16] [(135,pB true)] [1104,1120] [] (an4 h241 (an3 h242 (an6 h242 (an4 tt (an6 tt (an6 tt (an6 tt (an6 tt (an6 tt tv))))))))) ?_
         exact jD true hm Conv.eqK
        ·replace hm := Bh h242 hm
         obtain ⟨r243,hr243,hm⟩ := bo hm
         obtain ⟨r244,hr244,hm⟩ := bo hm
         obtain ⟨r245,hr245,hm⟩ := bo hm
         rcases bt (!r245) with h246 | h246
         ·replace hm := Bg h246 hm
          refine RD hnt (nn 7 (pF :: nn 3 (o83 [] true r243 :: nn 2 (o60 [] true r244 :: Vt [] true r245 :: .no :: pF :: .no :: sk 8 (pT :: .no :: sk 8 (pT :: .no :: sk 7 (pT :: .no :: sk 7 (pT :: [])))))))) [12,13,14,15,16] [(135,pB true)] [1104,1120] [] (an4 h241 (an3 h242 (an (Lf ([r7.1,r9.1,p1].getD k1 (default : Aa)) ([p2,r186.1,r187.1,1].getD k4 0) r243 hr243) (an3 h242 (an (Fg ([r7.1,r9.1,p1].getD k1 (default : Aa)) ([p2,r186.1,r187.1,1].getD k4 0) r244 hr244) (an h242 (an (Fa r243 r244 r245 hr245) (an2 h242 (an3 h246 (an6 h246 (an tt (an6 tt (an6 tt (an6 tt (an6 tt tv))))))))))))))) ?_
          exact jD true hm Conv.eqK
         ·replace hm := Bh h246 hm
          obtain ⟨r247,hr247,hm⟩ := bo hm
          obtain ⟨r248,hr248,hm⟩ := bo hm
          obtain ⟨r249,hr249,hm⟩ := bo hm
          rcases bt (!r249) with h250 | h250
          ·replace hm := Bg h250 hm
           refine RD hnt (nn 7 (pF :: nn 3 (o83 [] true r243 :: nn 2 (o60 [] true r244 :: Vt [] true r245 :: .no :: pF :: nn 3 (o110 [] true r247 :: nn 2 (o114 [] true r248 :: Vt [] true r249 :: .no :: pF :: .no :: sk 8 (pT :: .no :: sk 7 (pT :: .no :: sk 7 (pT :: []))))))))) [12,13,14,15,16] [(135,pB true)] [1104,1120] [] (an4 h241 (an3 h242 (an (Lf ([r7.1,r9.1,p1].getD k1 (default : Aa)) ([p2,r186.1,r187.1,1].getD k4 0) r243 hr243) (an3 h242 (an (Fg ([r7.1,r9.1,p1].getD k1 (default : Aa)) ([p2,r186.1,r187.1,1].getD k4 0) r244 hr244) (an h242 (an (Fa r243 r244 r245 hr245) (an2 h242 (an3 h246 (an (Kj ([r7.1,r9.1,p1].getD k1 (default : Aa)) ([p2,r186.1,r187.1,1].getD k4 0) r247 hr247) (an3 h246 (an (Mh ([r7.1,r9.1,p1].getD k1 (default : Aa)) ([p2,r186.1,r187.1,1].getD k4 0) r248 hr248) (an h246 (an (Fa r247 r248 r249 hr249) (an2 h246 (an3 h250 (an6 h250 (an4 tt (an6 tt (an6 tt tv)))))))))))))))))))) ?_
           exact jD true hm Conv.eqK
          ·replace hm := Bh h250 hm
           obtain ⟨r251,hr251,hm⟩ := bo hm
           obtain ⟨r252,hr252,hm⟩ := bo hm
           obtain ⟨r253,hr253,hm⟩ := bo hm
           rcases bt (!r253) with h254 | h254
           ·replace hm := Bg h254 hm
            refine RD hnt (nn 7 (pF :: nn 3 (o83 [] true r243 :: nn 2 (o60 [] true r244 :: Vt [] true r245 :: .no :: pF :: nn 3 (o110 [] true r247 :: nn 2 (o114 [] true r248 :: Vt [] true r249 :: .no :: pF :: nn 3 (o116 [] true r251 :: nn 2 (o120 [] true r252 :: Vt [] true r253 :: .no :: pF :: .no :: sk 7 (pT :: .no :: sk 7 (pT :: [])))))))))) [12,13,14,15,16] [(135,pB true)] [1104,1120] [] (an4 h241 (an3 h242 (an (Lf ([r7.1,r9.1,p1].getD k1 (default : Aa)) ([p2,r186.1,r187.1,1].getD k4 0) r243 hr243) (an3 h242 (an (Fg ([r7.1,r9.1,p1].getD k1 (default : Aa)) ([p2,r186.1,r187.1,1].getD k4 0) r244 hr244) (an h242 (an (Fa r243 r244 r245 hr245) (an2 h242 (an3 h246 (an (Kj ([r7.1,r9.1,p1].getD k1 (default : Aa)) ([p2,r186.1,r187.1,1].getD k4 0) r247 hr247) (an3 h246 (an (Mh ([r7.1,r9.1,p1].getD k1 (default : Aa)) ([p2,r186.1,r187.1,1].getD k4 0) r248 hr248) (an h246 (an (Fa r247 r248 r249 hr249) (an2 h246 (an3 h250 (an (Pq ([r7.1,r9.1,p1].getD k1 (default : Aa)) ([p2,r186.1,r187.1,1].getD k4 0) r251 hr251) (an3 h250 (an (Rx ([r7.1,r9.1,p1].getD k1 (default : Aa)) ([p2,r186.1,r187.1,1].getD k4 0) r252 hr252) (an h250 (an (Fa r251 r252 r253 hr253) (an2 h250 (an2 h254 (an6 h254 (an2 tt (an6 tt tv)))))))))))))))))))))))))) ?_
            exact jD true hm Conv.eqK
           ·replace hm := Bh h254 hm
            obtain ⟨r255,hr255,hm⟩ := bo hm
            obtain ⟨r256,hr256,hm⟩ := bo hm
            rcases bt (r255 != r256) with h257 | h257
            ·replace hm := Bg h257 hm
             refine RD hnt (nn 7 (pF :: nn 3 (o83 [] true r243 :: nn 2 (o60 [] true r244 :: Vt [] true r245 :: .no :: pF :: nn 3 (o110 [] true r247 :: nn 2 (o114 [] true r248 :: Vt [] true r249 :: .no :: pF :: nn 3 (o116 [] true r251 :: nn 2 (o120 [] true r252 :: Vt [] true r253 :: .no :: pF :: nn 3 (o121 [] true r255 :: nn 2 (o127 [] true r256 :: .no :: pF :: .no :: sk 7 (pT :: []))))))))))) [12,13,14,15,16] [(135,pB true)] [1104,1120] [] (an4 h241 (an3 h242 (an (Lf ([r7.1,r9.1,p1].getD k1 (default : Aa)) ([p2,r186.1,r187.1,1].getD k4 0) r243 hr243) (an3 h242 (an (Fg ([r7.1,r9.1,p1].getD k1 (default : Aa)) ([p2,r186.1,r187.1,1].getD k4 0) r244 hr244) (an h242 (an (Fa r243 r244 r245 hr245) (an2 h242 (an3 h246 (an (Kj ([r7.1,r9.1,p1].getD k1 (default : Aa)) ([p2,r186.1,r187.1,1].getD k4 0) r247 hr247) (an3 h246 (an (Mh ([r7.1,r9.1,p1].getD k1 (default : Aa)) ([p2,r186.1,r187.1,1].getD k4 0) r248 hr248) (an h246 (an (Fa r247 r248 r249 hr249) (an2 h246 (an3 h250 (an (Pq ([r7.1,r9.1,p1].getD k1 (default : Aa)) ([p2,r186.1,r187.1,1].getD k4 0) r251 hr251) (an3 h250 (an (Rx ([r7.1,r9.1,p1].getD k1 (default : Aa)) ([p2,r186.1,r187.1,1].getD k4 0) r252 hr252) (an h250 (an (Fa r251 r252 r253 hr253) (an2 h250 (an3 h254 (an (Rv ([r7.1,r9.1,p1].getD k1 (default : Aa)) ([p2,r186.1,r187.1,1].getD k4 0) r255 hr255) (an3 h254 (an (Tz ([r7.1,r9.1,p1].getD k1 (default : Aa)) ([p2,r186.1,r187.1,1].getD k4 0) r256 hr256) (an2 h254 (an2 h257 (an6 h257 tv))))))))))))))))))))))))))))) ?_
             exact jD true hm Conv.eqK
            ·replace hm := Bh h257 hm
             obtain ⟨r258,hr258,hm⟩ := bo hm
             obtain ⟨r259,hr259,hm⟩ := bo hm
             refine RD hnt (nn 7 (pF :: nn 3 (o83 [] true r243 :: nn 2 (o60 [] true r244 :: Vt [] true r245 :: .no :: pF :: nn 3 (o110 [] true r247 :: nn 2 (o114 [] true r248 :: Vt [] true r249 :: .no :: pF :: nn 3 (o116 [] true r251 :: nn 2 (o120 [] true r252 :: Vt [] true r253 :: .no :: pF :: nn 3 (o121 [] true r255 :: nn 2 (o127 [] true r256 :: .no :: pF :: nn 3 (o130 [] true r258 :: nn 2 (o131 [] true r259 :: .no :: pF :: [])))))))))))) [12,13,14,15,16] [(135,pB (r258 != r259))] [1104,1120] [] (an4 h241 (an3 h242 (an (Lf ([r7.1,r9.1,p1].getD k1 (default : Aa)) ([p2,r186.1,r187.1,1].getD k4 0) r243 hr243) (an3 h242 (an (Fg ([r7.1,r9.1,p1].getD k1 (default : Aa)) ([p2,r186.1,r187.1,1].getD k4 0) r244 hr244) (an h242 (an (Fa r243 r244 r245 hr245) (an2 h242 (an3 h246 (an (Kj ([r7.1,r9.1,p1].getD k1 (default : Aa)) ([p2,r186.1,r187.1,1].getD k4 0) r247 hr247) (an3 h246 (an (Mh ([r7.1,r9.1,p1].getD k1 (default : Aa)) ([p2,r186.1,r187.1,1].getD k4 0) r248 hr248) (an h246 (an (Fa r247 r248 r249 hr249) (an2 h246 (an3 h250 (an (Pq ([r7.1,r9.1,p1].getD k1 (default : Aa)) ([p2,r186.1,r187.1,1].getD k4 0) r251 hr251) (an3 h250 (an (Rx ([r7.1,r9.1,p1].getD k1 (default : Aa)) ([p2,r186.1,r187.1,1].getD k4 0) r252 hr252) (an h250 (an (Fa r251 r252 r253 hr253) (an2 h250 (an3 h254 (an (Rv ([r7.1,r9.1,p1].getD k1 (default : Aa)) ([p2,r186.1,r187.1,1].getD k4 0) r255 hr255) (an3 h254 (an (Tz ([r7.1,r9.1,p1].getD k1 (default : Aa)) ([p2,r186.1,r187.1,1].getD k4 0) r256 hr256) (an2 h254 (an3 h257 (an (Abm ([r7.1,r9.1,p1].getD k1 (default : Aa)) ([p2,r186.1,r187.1,1].getD k4 0) r258 hr258) (an3 h257 (an (AbL ([r7.1,r9.1,p1].getD k1 (default : Aa)) ([p2,r186.1,r187.1,1].getD k4 0) r259 hr259) (an2 h257 tv)))))))))))))))))))))))))))))))) ?_
             exact jD (r258 != r259) hm Conv.eqK
     ·intro h238
      have hge4 : ¬ k4 < [p2,r186.1,r187.1,1].length := by have := of_decide_eq_false h238; have hL : [p2,r186.1,r187.1,1].length = 4 := rfl; omega
      have hm := he4 hge4
      unfold Uv at hm
      refine DW.exit ?_
      refine Ar ?_
      refine Au ?_
      refine Ap ?_
      show DW _ _ _ _ _
      refine DW.done ?_
      show DW _ _ _ _ _
      refine RD hnt (nn 2 []) [10,62,63,64,65] [(45,pI (w64 (((k1 : Nat) : Int) + 1)))] [1080,1496] [] tv ?_
      exact jD r187.2 ⟨hlt1,hm⟩ (Conv.tp [(45,pI (w64 (((k1 : Nat) : Int) + 1)))] [] (by kernel_rfl) (.cons rfl (.of_eq (congrArg pI (Br hlt1 hc1))) .nil) .nil)
   ·intro h182
    have hge1 : ¬ k1 < [r7.1,r9.1,p1].length := by have := of_decide_eq_false h182; have hL : [r7.1,r9.1,p1].length = 3 := rfl; omega
    have hm := he1 hge1
    unfold Pt at hm
    refine DW.exit ?_
    refine Ar ?_
    refine Au ?_
    refine Ap ?_
    show DW _ _ _ _ _
    obtain ⟨r261,hr261,hm⟩ := bo hm
    obtain ⟨r262,hr262,hm⟩ := bo hm
    obtain ⟨r263,hr263,hm⟩ := bo hm
    refine Sq ?_
    refine Jn (ι := Bool) (fun (y13 : Bool) => Ao [(6,pB y13)] []) (fun y13 => Lu y13 = some RES) ?_ ?_
    ·intro y13 hm
     unfold Lu at hm
     obtain rfl := sj hm
     exact DW.ret (Ak [] [] (pB y13))
    ·rcases bt r263 with h264 | h264
     ·replace hm := Bg h264 hm
      obtain ⟨r265,hr265,hm⟩ := bo hm
      refine RK hnt (o4 [] true r261 :: o32 [] true r262 :: o132 [] true r263 :: .no :: o3 [] true r265 :: pT :: .no :: []) [(6,pB r265)] [] (an (To r261 hr261) (an (Xv r262 hr262) (an (AbB r261 r262 r263 hr263) (an h264 (an (AbC r265 hr265) (an h264 tv)))))) ?_
      exact jD r265 hm .refl
     ·replace hm := Bh h264 hm
      refine RK hnt (o4 [] true r261 :: o32 [] true r262 :: o132 [] true r263 :: .no :: .skip :: pF :: .no :: []) [(6,pB false)] [] (an (To r261 hr261) (an (Xv r262 hr262) (an (AbB r261 r262 r263 hr263) (an2 h264 tv)))) ?_
      exact jD false hm .refl
 ·rcases bt (!r1) with h2 | h2
  ·replace hm := Bg h2 hm
   refine RD hnt (.no :: o2 [] true r1 :: nn 2 (sk 4 (pT :: .no :: sk 5 (pT :: [])))) [] [(32,pB true)] [] [] (an (Ts p0 r1 hr1) (an5 h2 (an6 tt tv))) ?_
   exact jD true hm Conv.eqK
  ·replace hm := Bh h2 hm
   rcases bt (decide (((p1.tasks.length : Nat) : Int) > 130)) with h3 | h3
   ·replace hm := Bg h3 hm
    refine RD hnt (.no :: o2 [] true r1 :: nn 6 (pF :: .no :: sk 5 (pT :: []))) [] [(32,pB true)] [] [] (an (Ts p0 r1 hr1) (an5 h2 (an6 h3 tv))) ?_
    exact jD true hm Conv.eqK
   ·replace hm := Bh h3 hm
    refine RD hnt (.no :: o2 [] true r1 :: nn 6 (pF :: nn 6 (pF :: []))) [] [(32,pB (decide (((p1.tree.nodes.length : Nat) : Int) > 70)))] [] [] (an (Ts p0 r1 hr1) (an5 h2 (an6 h3 tv))) ?_
    exact jD (decide (((p1.tree.nodes.length : Nat) : Int) > 70)) hm Conv.eqK
abbrev o1 (ks : List Nat) (b : Bool) (RES : Bool) : Orc := .call 3 ks b (pB RES) [] []
end Go.Dm

