/- Texts of the proof of FreezeStops: the data machine, the models of the Go functions, their contracts. -/
import Derived.Test.YtonaidnipimjgaaGreatFreezeStopsA3
set_option linter.unusedVariables false
set_option linter.unusedSimpArgs false
/- Go functions compute their models, printed by a program. -/
namespace Go.Dm
open Go.Proofs
set_option linter.unusedVariables false
theorem Zm (p0 : freezer) (RES : freezer × Nat) (hm : Ia p0 = some RES) : Spec Tryz.prog 124 [rr 0] [.box [.p (Bb p0.h.tree.nodes),pI p0.h.tree.next,.p (Bg p0.h.tasks),pI p0.h.next,ow 1 p0.f.frosts.length,ow 2 p0.f.stopped.length],Am p0.f.frosts,roI p0.f.stopped] (.p (.tup [])) [.box [.p (Bb RES.1.h.tree.nodes),pI RES.1.h.tree.next,.p (Bg RES.1.h.tasks),pI RES.1.h.next,ow 1 RES.1.f.frosts.length,ow 2 RES.2],Am RES.1.f.frosts,roI RES.1.f.stopped] [] := by
 unfold Ia at hm
 refine SO Tryz.func124 rfl rfl [(0,rr 0)] [(0,bx [.p (Bb p0.h.tree.nodes),pI p0.h.tree.next,.p (Bg p0.h.tasks),pI p0.h.next,ow 1 p0.f.frosts.length,ow 2 p0.f.stopped.length]),(1,ob0 (Am p0.f.frosts)),(2,ob0 (roI p0.f.stopped))] ?_
 intro cx hnt
 refine Sq (RD hnt (.no :: []) [0] [(1,rr 1008)] [] [(1008,bx [rr 0])] tv ?_)
 obtain ⟨r1,hr1,hm⟩ := bo hm
 obtain ⟨g2,g3,g4,hm⟩ := go3 hm
 refine RK hnt (nn 7 (o39 [2,1008,0,1] true r1 [1008] :: nn 4 [])) [] [(0,bx [.p (Bb r1.2.2.h.tree.nodes),pI r1.2.2.h.tree.next,.p (Bg r1.2.2.h.tasks),pI r1.2.2.h.next,ow 1 r1.2.2.f.frosts.length,ow 2 r1.1]),(1,ob0 (Am r1.2.2.f.frosts)),(2,ob0 (roI r1.2.1))] (an (Le p0.f.stopped p0 r1 hr1) (an (⟨rfl,g2⟩ : Body.same (roI p0.f.stopped) (roI r1.2.1)) (an2 tv (an (⟨rfl,g3⟩ : Body.same (Am p0.f.frosts) (Am r1.2.2.f.frosts)) (an (Eq.refl (some (bx [rr 0] : Obj))) tv))))) ?_
 refine DW.done ?_
 obtain rfl := sj hm
 exact endK [.box [.p (Bb r1.2.2.h.tree.nodes),pI r1.2.2.h.tree.next,.p (Bg r1.2.2.h.tasks),pI r1.2.2.h.next,ow 1 r1.2.2.f.frosts.length,ow 2 r1.1],Am r1.2.2.f.frosts,roI r1.2.1] [] (.p (.tup []))
abbrev o38 (ks : List Nat) (b : Bool) (RES : freezer × Nat) (sm : List Nat := []) : Orc := .call 124 ks b (.p (.tup [])) [.box [.p (Bb RES.1.h.tree.nodes),pI RES.1.h.tree.next,.p (Bg RES.1.h.tasks),pI RES.1.h.next,ow 1 RES.1.f.frosts.length,ow 2 RES.2],Am RES.1.f.frosts,roI RES.1.f.stopped] [] sm

abbrev c42e1 (s1 : List Al) (k1 : Int) (r22 : Bool) := ({ group := ((s1.set (Int.toNat k1) ({ group := (s1.getD (Int.toNat k1) Bi).group,want := (s1.getD (Int.toNat k1) Bi).want,frozen := r22,changes := (s1.getD (Int.toNat k1) Bi).changes } : Al)).getD (Int.toNat k1) Bi).group,want := ((s1.set (Int.toNat k1) ({ group := (s1.getD (Int.toNat k1) Bi).group,want := (s1.getD (Int.toNat k1) Bi).want,frozen := r22,changes := (s1.getD (Int.toNat k1) Bi).changes } : Al)).getD (Int.toNat k1) Bi).want,frozen := ((s1.set (Int.toNat k1) ({ group := (s1.getD (Int.toNat k1) Bi).group,want := (s1.getD (Int.toNat k1) Bi).want,frozen := r22,changes := (s1.getD (Int.toNat k1) Bi).changes } : Al)).getD (Int.toNat k1) Bi).frozen,changes := (Rk (w64 ((s1.getD (Int.toNat k1) Bi).changes + 1)) 1099511627776) } : Al)
abbrev c42e2 (s1 : List Al) (k1 : Int) (r22 : Bool) := ({ group := (s1.getD (Int.toNat k1) Bi).group,want := (s1.getD (Int.toNat k1) Bi).want,frozen := r22,changes := (s1.getD (Int.toNat k1) Bi).changes } : Al)
abbrev c42e3 (s1 : List Al) (k1 : Int) (r22 : Bool) := (Cc (Lu s1) (Int.toNat k1) [vi (s1.getD (Int.toNat k1) Bi).group,vb (s1.getD (Int.toNat k1) Bi).want,vb r22,vi (s1.getD (Int.toNat k1) Bi).changes])
abbrev c42e4 : Nat × Obj := (1016,bx [.p (.sl .nil 0 0 (fun _ => [])),.p (.sl .nil 0 0 (fun _ => []))])
abbrev c42e5 (s1 : List Al) (k1 : Int) (r22 : Bool) := (Cc (c42e3 s1 k1 r22) (Int.toNat k1) (setRange ((c42e3 s1 k1 r22) (Int.toNat k1)) 3 [vi (Rk (w64 ((s1.getD (Int.toNat k1) Bi).changes + 1)) 1099511627776)]))
abbrev c42e6 (p0 : freezer) : Nat × MV := (11,pI ((p0.f.frosts.length : Nat) : Int))
abbrev c42e7 (s1 : List Al) (k1 : Int) (r22 : Bool) := ((s1.set (Int.toNat k1) (c42e2 s1 k1 r22)).set (Int.toNat k1) (c42e1 s1 k1 r22))
theorem Pr (p0 : freezer) (RES : Ac × freezer) (hm : Fa p0 = some RES) : Spec Tryz.prog 125 [rr 0] [.box [.p (Bb p0.h.tree.nodes),pI p0.h.tree.next,.p (Bg p0.h.tasks),pI p0.h.next,ow 1 p0.f.frosts.length,ow 2 p0.f.stopped.length],Am p0.f.frosts,roI p0.f.stopped] (.agg [ow 1 RES.2.f.frosts.length,ow 2 RES.2.f.stopped.length]) [.box [.p (Bb RES.2.h.tree.nodes),pI RES.2.h.tree.next,.p (Bg RES.2.h.tasks),pI RES.2.h.next,ow 1 RES.2.f.frosts.length,ow 2 RES.2.f.stopped.length],Am RES.2.f.frosts,roI RES.2.f.stopped] [] := by
 unfold Fa at hm
 refine SO Tryz.func125 rfl rfl [(0,rr 0)] [(0,bx [.p (Bb p0.h.tree.nodes),pI p0.h.tree.next,.p (Bg p0.h.tasks),pI p0.h.next,ow 1 p0.f.frosts.length,ow 2 p0.f.stopped.length]),(1,ob0 (Am p0.f.frosts)),(2,ob0 (roI p0.f.stopped))] ?_
 intro cx hnt
 refine Sq (RD hnt (.no :: []) [] [(2,rr 1016)] [] [(c42e4)] tv ?_)
 refine Sq (Sq (RD hnt (nn 7 []) [] [(c42e6 p0),(12,pI 0)] [] [] tv ?_))
 refine Bk ?_
 obtain ⟨hc1,hm⟩ := go1 hm
 refine DW.forO (fun (k1 : Int) (s1 : List Al) => Aj [(0,rr 0),(2,rr 1016),(c42e6 p0),(12,pI k1)] [(0,bx [.p (Bb p0.h.tree.nodes),pI p0.h.tree.next,.p (Bg p0.h.tasks),pI p0.h.next,ow 1 s1.length,ow 2 p0.f.stopped.length]),(1,ob0 (Am s1)),(2,ob0 (roI p0.f.stopped)),(c42e4)]) (lo := 0) (hi := ((p0.f.frosts.length : Nat) : Int)) hm Conv.eqK ?_
 intro k1 s1 n1 hk1 hs1 he1
 refine Sq (RD hnt (.no :: []) [] [(13,pB (decide (k1 < ((p0.f.frosts.length : Nat) : Int))))] [] [] tv ?_)
 refine Sq (Cb (decide (k1 < ((p0.f.frosts.length : Nat) : Int))) ?_ ?_)
 ·intro h19
  have hlt1 : k1 < ((p0.f.frosts.length : Nat) : Int) := by have := of_decide_eq_true h19; omega
  have hm := hs1 hlt1
  unfold Lr at hm
  refine Sk ?_
  refine Sq ?_
  refine Jn (ι := List Al) (fun (y3 : List Al) => Aj [(0,rr 0),(2,rr 1016),(c42e6 p0),(12,pI k1)] [(0,bx [.p (Bb p0.h.tree.nodes),pI p0.h.tree.next,.p (Bg p0.h.tasks),pI p0.h.next,ow 1 y3.length,ow 2 p0.f.stopped.length]),(1,ob0 (Am y3)),(2,ob0 (roI p0.f.stopped)),(c42e4)]) (fun y3 => (Gn n1) y3 = some RES) ?_ ?_
  ·intro y3 hm
   unfold Gn at hm
   refine RD hnt (nn 2 []) [] [(12,pI (w64 (k1 + 1)))] [] [] tv ?_
   exact jD y3 ⟨hlt1,hm⟩ (Conv.tp [(12,pI (w64 (k1 + 1)))] [] (by kernel_rfl) (.cons rfl (.of_eq (congrArg pI (Yf (lo := 0) (hi := ((p0.f.frosts.length : Nat) : Int)) (by omega) hk1 hlt1 (by omega)))) .nil) .nil)
  ·refine Bk ?_
   refine Sq (RD hnt (nn 2 []) [13] [(3,pI k1)] [] [] tv ?_)
   obtain ⟨g20,hm⟩ := go1 hm
   refine Sq (RD hnt (nn 8 []) [3] [(4,.eref 1 0 (Int.toNat k1) 0)] [] [] (an g20.1 (an g20.2 tv)) ?_)
   obtain ⟨g21,hm⟩ := go1 hm
   obtain ⟨r22,hr22,hm⟩ := bo hm
   refine Sq (RD hnt (nn 12 (o27 [] true r22 :: .no :: [])) [] [(5,pB r22)] [] [] (an g21 (an (Aam p0.h ({ frosts := s1,stopped := p0.f.stopped } : Ac) (s1.getD (Int.toNat k1) Bi).group r22 hr22) tv)) ?_)
   obtain ⟨g23,hm⟩ := go1 hm
   refine Sq (RD hnt (nn 6 []) [] [(40,pB (r22 != (s1.getD (Int.toNat k1) Bi).frozen))] [] [] (an g23 tv) ?_)
   refine Ae hm ?_ ?_
   ·intro h24 hm
    obtain ⟨g25,g26,g27,hm⟩ := go3 hm
    refine RN hnt (nn 15 []) [(0,rr 0),(2,rr 1016),(c42e6 p0),(12,pI k1)] [(0,bx [.p (Bb p0.h.tree.nodes),pI p0.h.tree.next,.p (Bg p0.h.tasks),pI p0.h.next,ow 1 (c42e7 s1 k1 r22).length,ow 2 p0.f.stopped.length]),(1,ob0 (Am (c42e7 s1 k1 r22))),(2,ob0 (roI p0.f.stopped)),(c42e4)] [] [(0,.box [.p (Bb p0.h.tree.nodes),pI p0.h.tree.next,.p (Bg p0.h.tasks),pI p0.h.next,ow 1 s1.length,ow 2 p0.f.stopped.length]),(1,.row 4 s1.length (c42e5 s1 k1 r22))] (an g25 (an g26 (an g27 tv))) (by kernel_rfl) .nil (.cons rfl (.box (.cons .rfl (.cons .rfl (.cons .rfl (.cons .rfl (.cons (MLe.ownLen (enc := Bh) (d := Bi) (f := (c42e5 s1 k1 r22)) (RowIs.updR (RowIs.upd RowIs.elems (c42e2 s1 k1 r22) rfl) (by omega) (c42e1 s1 k1 r22) rfl)) (.cons .rfl .nil))))))) (.cons rfl (BLe.typed (RowIs.updR (RowIs.upd RowIs.elems (c42e2 s1 k1 r22) rfl) (by omega) (c42e1 s1 k1 r22) rfl)) .nil)) ?_
    exact bD (c42e7 s1 k1 r22) hm .refl
   ·intro h24 hm
    refine Sk ?_
    exact bD s1 hm Conv.t0
 ·intro h19
  have hge1 : ¬ k1 < ((p0.f.frosts.length : Nat) : Int) := by have := of_decide_eq_false h19; omega
  have hm := he1 hge1
  unfold Ri at hm
  refine DW.exit ?_
  refine Ao ?_
  refine Aw ?_
  refine Ak ?_
  show DW _ _ _ _ _
  refine Sq (RD hnt (nn 5 []) [0,11,12,13] [] [] [(1016,bx [ow 1 s1.length,ow 2 p0.f.stopped.length])] tv ?_)
  obtain rfl := sj hm
  exact DW.ret (Ag [.box [.p (Bb p0.h.tree.nodes),pI p0.h.tree.next,.p (Bg p0.h.tasks),pI p0.h.next,ow 1 s1.length,ow 2 p0.f.stopped.length],Am s1,roI p0.f.stopped] [] (.agg [ow 1 s1.length,ow 2 p0.f.stopped.length]))
abbrev o42 (ks : List Nat) (b : Bool) (RES : Ac × freezer) (sm : List Nat := []) : Orc := .call 125 ks b (.agg [ow 1 RES.2.f.frosts.length,ow 2 RES.2.f.stopped.length]) [.box [.p (Bb RES.2.h.tree.nodes),pI RES.2.h.tree.next,.p (Bg RES.2.h.tasks),pI RES.2.h.next,ow 1 RES.2.f.frosts.length,ow 2 RES.2.f.stopped.length],Am RES.2.f.frosts,roI RES.2.f.stopped] [] sm

abbrev AdM (r6 : freezer) (r3 : Int) (p3 : Bool) := ({ group := (r6.f.frosts.getD (Int.toNat r3) Bi).group,want := p3,frozen := (r6.f.frosts.getD (Int.toNat r3) Bi).frozen,changes := (r6.f.frosts.getD (Int.toNat r3) Bi).changes } : Al)
abbrev c20e2 : Nat × Obj := (1064,bx [.p (.sl .nil 0 0 (fun _ => [])),.p (.sl .nil 0 0 (fun _ => []))])
abbrev c20e3 (r6 : freezer) (r3 : Int) (p3 : Bool) := (Cc (Lu r6.f.frosts) (Int.toNat r3) [vi (r6.f.frosts.getD (Int.toNat r3) Bi).group,vb p3,vb (r6.f.frosts.getD (Int.toNat r3) Bi).frozen,vi (r6.f.frosts.getD (Int.toNat r3) Bi).changes])
abbrev c20e4 (r9 : freezer × Nat) : Nat × Obj := (1232,bx [.p (Bb r9.1.h.tree.nodes),pI r9.1.h.tree.next,.p (Bg r9.1.h.tasks),pI r9.1.h.next,ow 1233 r9.1.f.frosts.length,ow 1234 r9.2])
abbrev c20e5 : Nat × Obj := (1064,bx [ow 100000 0,ow 100001 0])
theorem AaY (p0 : Aa) (p1 : Ac) (p2 : Int) (p3 : Bool) (RES : Ac × Int) (hm : Xm p0 p1 p2 p3 = some RES) : Spec Tryz.prog 52 [.p (.agg (Ab p0)),.p (.agg (Ai p1)),pI p2,pB p3] [] (.tup [.agg [ow 0 RES.1.frosts.length,ow 1 RES.1.stopped.length],pI RES.2]) [] [Am RES.1.frosts,roI RES.1.stopped] := by
 unfold Xm at hm
 refine SO Tryz.func52 rfl rfl [(0,.p (.agg (Ab p0))),(1,.p (.agg (Ai p1))),(2,pI p2),(3,pB p3)] [] ?_
 intro cx hnt
 refine Sq (RK hnt (nn 5 []) [(3,pB p3),(4,rr 1032),(5,rr 1040),(6,rr 1048),(8,rr 1064)] [(1032,bx (pm (Ab p0))),(1040,bx (pm (Ai p1))),(1048,bx [pI p2]),(c20e2)] tv ?_)
 obtain ⟨r1,hr1,hm⟩ := bo hm
 refine Sq (Sq (RD hnt (nn 2 (o21 [] true r1 :: .no :: [])) [] [(15,pB (!r1))] [] [] (an (Yn p0 p1 r1 hr1) tv) ?_))
 refine Ae hm ?_ ?_
 ·intro h2 hm
  refine Sq (RD hnt (nn 3 []) [3,4,5,6,15] [(9,pI 1)] [1032,1040,1048] [] tv ?_)
  refine DW.cv [] [] [] [(c20e5),(100000,ob0 (Am [])),(100001,ob0 (roI []))] (Conv.ads [(.o 1064 0,100000,4,elems Bh Bi []),(.o 1064 1,100001,1,elems Bn 0 [])]) ?_
  obtain rfl := sj hm
  exact DW.ret (Ag [Am [],roI []] [100000,100001] (.tup [.agg [ow 0 0,ow 1 0],pI 1]))
 ·intro h2 hm
  refine Sk ?_
  obtain ⟨r3,hr3,hm⟩ := bo hm
  refine Sq (RD hnt (nn 3 (.call 121 [1048] true (pI r3) [.box [pI p2]] [] [] :: .no :: [])) [15] [(10,pI r3)] [] [] (an (Om p1.frosts p2 r3 hr3) (an tv tv)) ?_)
  refine Sq (Sq (RD hnt (nn 2 []) [] [(22,pB (decide (r3 < 0)))] [] [] tv ?_))
  refine Ae hm ?_ ?_
  ·intro h4 hm
   refine Sq (RD hnt (nn 3 []) [3,4,5,6,10,22] [(9,pI 4)] [1032,1040,1048] [] tv ?_)
   refine DW.cv [] [] [] [(c20e5),(100000,ob0 (Am [])),(100001,ob0 (roI []))] (Conv.ads [(.o 1064 0,100000,4,elems Bh Bi []),(.o 1064 1,100001,1,elems Bn 0 [])]) ?_
   obtain rfl := sj hm
   exact DW.ret (Ag [Am [],roI []] [100000,100001] (.tup [.agg [ow 0 0,ow 1 0],pI 4]))
  ·intro h4 hm
   refine Sk ?_
   refine Sq (Sq (RD hnt (nn 2 []) [6,22] [(25,pB (p2 == 1))] [1048] [] tv ?_))
   refine Ae hm ?_ ?_
   ·intro h5 hm
    refine Sq (RD hnt (nn 3 []) [3,4,5,10,25] [(9,pI 9)] [1032,1040] [] tv ?_)
    refine DW.cv [] [] [] [(c20e5),(100000,ob0 (Am [])),(100001,ob0 (roI []))] (Conv.ads [(.o 1064 0,100000,4,elems Bh Bi []),(.o 1064 1,100001,1,elems Bn 0 [])]) ?_
    obtain rfl := sj hm
    exact DW.ret (Ag [Am [],roI []] [100000,100001] (.tup [.agg [ow 0 0,ow 1 0],pI 9]))
   ·intro h5 hm
    refine Sk ?_
    obtain ⟨r6,hr6,hm⟩ := bo hm
    refine Sq (RD hnt (nn 2 (o35 [] true r6 :: .no :: [])) [4,5,25] [(11,rr 1232)] [1032,1040] [(1232,bx [.p (Bb r6.h.tree.nodes),pI r6.h.tree.next,.p (Bg r6.h.tasks),pI r6.h.next,ow 1233 r6.f.frosts.length,ow 1234 r6.f.stopped.length]),(1233,ob0 (Am r6.f.frosts)),(1234,ob0 (roI r6.f.stopped))] (an (Aap p0 p1 r6 hr6) tv) ?_)
    obtain ⟨g7,g8,hm⟩ := go2 hm
    refine Sq (RN hnt (nn 10 []) [(8,rr 1064),(11,rr 1232)] [(c20e2),(1232,bx [.p (Bb r6.h.tree.nodes),pI r6.h.tree.next,.p (Bg r6.h.tasks),pI r6.h.next,ow 1233 (r6.f.frosts.set (Int.toNat r3) (AdM r6 r3 p3)).length,ow 1234 r6.f.stopped.length]),(1233,ob0 (Am (r6.f.frosts.set (Int.toNat r3) (AdM r6 r3 p3)))),(1234,ob0 (roI r6.f.stopped))] [] [(1232,.box [.p (Bb r6.h.tree.nodes),pI r6.h.tree.next,.p (Bg r6.h.tasks),pI r6.h.next,ow 1233 r6.f.frosts.length,ow 1234 r6.f.stopped.length]),(1233,.row 4 r6.f.frosts.length (c20e3 r6 r3 p3))] (an g7.1 (an g7.2 (an g8 tv))) (by kernel_rfl) .nil (.cons rfl (.box (.cons .rfl (.cons .rfl (.cons .rfl (.cons .rfl (.cons (MLe.ownLen (enc := Bh) (d := Bi) (f := (c20e3 r6 r3 p3)) (RowIs.upd RowIs.elems (AdM r6 r3 p3) rfl)) (.cons .rfl .nil))))))) (.cons rfl (BLe.typed (RowIs.upd RowIs.elems (AdM r6 r3 p3) rfl)) .nil)) ?_)
    obtain ⟨r9,hr9,hm⟩ := bo hm
    obtain ⟨g10,g11,g12,hm⟩ := go3 hm
    refine Sq (RD hnt (.no :: o38 [1232,1233,1234] true r9 :: []) [] [] [] [(c20e4 r9),(1233,ob0 (Am r9.1.f.frosts)),(1234,ob0 (roI r9.1.f.stopped))] (an (Zm ({ h := r6.h,f := ({ frosts := (r6.f.frosts.set (Int.toNat r3) (AdM r6 r3 p3)),stopped := r6.f.stopped } : Ac) } : freezer) r9 hr9) (an tv (an (⟨rfl,g10⟩ : Body.same (Am (r6.f.frosts.set (Int.toNat r3) (AdM r6 r3 p3))) (Am r9.1.f.frosts)) (an (⟨rfl,g11⟩ : Body.same (roI r6.f.stopped) (roI r9.1.f.stopped)) tv)))) ?_)
    refine Sq (DW.conv (τ := Aj [(8,rr 1064),(11,rr 1232)] [(c20e2),(1232,bx [.p (Bb r9.1.h.tree.nodes),pI r9.1.h.tree.next,.p (Bg r9.1.h.tasks),pI r9.1.h.next,ow 1233 r9.1.f.frosts.length,ow 1234 (r9.1.f.stopped.take r9.2).length]),(1233,ob0 (Am r9.1.f.frosts)),(1234,ob0 (roI (r9.1.f.stopped.take r9.2)))]) (Conv.trans (τ := Aj [(8,rr 1064),(11,rr 1232)] [(c20e2),(c20e4 r9),(1233,ob0 (Am r9.1.f.frosts)),(1234,ob0 (.row 1 r9.2 (elI r9.1.f.stopped)))]) (Conv.cut 1234 r9.2 (And.intro (show r9.2 ≤ r9.1.f.stopped.length by omega) (an (Nat.le_of_eq (Nat.zero_add r9.2)) tv))) (Conv.tp [] [(1232,.box [.p (Bb r9.1.h.tree.nodes),pI r9.1.h.tree.next,.p (Bg r9.1.h.tasks),pI r9.1.h.next,ow 1233 r9.1.f.frosts.length,ow 1234 r9.2]),(1234,.row 1 r9.2 (elI r9.1.f.stopped))] (by kernel_rfl) .nil (.cons rfl (.box (.cons .rfl (.cons .rfl (.cons .rfl (.cons .rfl (.cons .rfl (.cons (MLe.ownLen (enc := Bn) (d := 0) (f := (elI r9.1.f.stopped)) (RowIs.elems.take (by omega))) .nil))))))) (.cons rfl (BLe.typed (RowIs.elems.take (by omega))) .nil)))) ?_)
    obtain ⟨r13,hr13,hm⟩ := bo hm
    obtain ⟨g14,g15,hm⟩ := go2 hm
    refine RK hnt (.no :: o42 [1232,1233,1234] true r13 :: nn 2 []) [(8,rr 1064),(9,pI 0)] [(1064,bx [ow 1233 r13.2.f.frosts.length,ow 1234 r13.2.f.stopped.length]),(1233,ob0 (Am r13.2.f.frosts)),(1234,ob0 (roI r13.2.f.stopped))] (an (Pr ({ h := r9.1.h,f := ({ frosts := r9.1.f.frosts,stopped := (r9.1.f.stopped.take r9.2) } : Ac) } : freezer) r13 hr13) (an tv (an (⟨rfl,g14⟩ : Body.same (Am r9.1.f.frosts) (Am r13.2.f.frosts)) (an (⟨rfl,g15⟩ : Body.same (roI (r9.1.f.stopped.take r9.2)) (roI r13.2.f.stopped)) tv)))) ?_
    obtain rfl := sj hm
    exact DW.ret (Ag [Am r13.2.f.frosts,roI r13.2.f.stopped] [1233,1234] (.tup [.agg [ow 0 r13.2.f.frosts.length,ow 1 r13.2.f.stopped.length],pI 0]))
abbrev o20 (ks : List Nat) (b : Bool) (RES : Ac × Int) (sm : List Nat := []) : Orc := .call 52 ks b (.tup [.agg [ow 0 RES.1.frosts.length,ow 1 RES.1.stopped.length],pI RES.2]) [] [Am RES.1.frosts,roI RES.1.stopped] sm

abbrev c46e1 (y3 : Int × Int) := (w64 (y3.2 + (w64 (((Bo (bs [0,1,2,2,3,3,3,3,4,4,4,4,4,4,4,4,5,5,5,5,5,5,5,5,5,5,5,5,5,5,5,5,6,6,6,6,6,6,6,6,6,6,6,6,6,6,6,6,6,6,6,6,6,6,6,6,6,6,6,6,6,6,6,6,7,7,7,7,7,7,7,7,7,7,7,7,7,7,7,7,7,7,7,7,7,7,7,7,7,7,7,7,7,7,7,7,7,7,7,7,7,7,7,7,7,7,7,7,7,7,7,7,7,7,7,7,7,7,7,7,7,7,7,7,7,7,7,7,8,8,8,8,8,8,8,8,8,8,8,8,8,8,8,8,8,8,8,8,8,8,8,8,8,8,8,8,8,8,8,8,8,8,8,8,8,8,8,8,8,8,8,8,8,8,8,8,8,8,8,8,8,8,8,8,8,8,8,8,8,8,8,8,8,8,8,8,8,8,8,8,8,8,8,8,8,8,8,8,8,8,8,8,8,8,8,8,8,8,8,8,8,8,8,8,8,8,8,8,8,8,8,8,8,8,8,8,8,8,8,8,8,8,8,8,8,8,8,8,8,8,8,8,8,8,8,8]) (Int.toNat (IntKind.u8.wrap y3.1))) : Nat) : Int))))
theorem AfQ (p0 : Int) (RES : Int) (hm : Aby p0 = some RES) : Spec Tryz.prog 225 [.p (vk .u64 p0)] [] (pI RES) [] [] := by
 unfold Aby at hm
 refine SO Tryz.func225 rfl rfl [(0,.p (vk .u64 p0))] [] ?_
 intro cx hnt
 refine Sq (RD hnt (.no :: []) [] [(2,pI 0)] [] [] tv ?_)
 refine Sq (Sq (RD hnt (nn 2 []) [] [(4,pB (decide (p0 ≥ 4294967296)))] [] [] tv ?_))
 refine Jn (ι := Int × Int) (fun (y1 : Int × Int) => Aj [(0,.p (vk .u64 y1.1)),(2,pI y1.2)] []) (fun y1 => Un y1 = some RES) ?_ ?_
 ·intro y1 hm
  unfold Un at hm
  refine Sq (Sq (RD hnt (nn 2 []) [] [(8,pB (decide (y1.1 ≥ 65536)))] [] [] tv ?_))
  refine Jn (ι := Int × Int) (fun (y2 : Int × Int) => Aj [(0,.p (vk .u64 y2.1)),(2,pI y2.2)] []) (fun y2 => Tr y2 = some RES) ?_ ?_
  ·intro y2 hm
   unfold Tr at hm
   refine Sq (Sq (RD hnt (nn 2 []) [] [(14,pB (decide (y2.1 ≥ 256)))] [] [] tv ?_))
   refine Jn (ι := Int × Int) (fun (y3 : Int × Int) => Aj [(0,.p (vk .u64 y3.1)),(2,pI y3.2)] []) (fun y3 => Tz y3 = some RES) ?_ ?_
   ·intro y3 hm
    unfold Tz at hm
    obtain ⟨g4,hm⟩ := go1 hm
    refine Sq (RK hnt (nn 7 []) [(2,pI (c46e1 y3))] [] (an g4.1 (an g4.2 tv)) ?_)
    obtain rfl := sj hm
    exact DW.ret (Ag [] [] (pI (c46e1 y3)))
   ·refine Ae hm ?_ ?_
    ·intro h3 hm
     refine Sq (RK hnt (nn 3 []) [(0,.p (vk .u64 (kshr .u64 y2.1 8))),(2,pI y2.2)] [] (an (by decide : (0 : Int) ≤ 8) tv) ?_)
     refine RD hnt (nn 3 []) [] [(2,pI (w64 (y2.2 + 8)))] [] [] tv ?_
     exact jD ((kshr .u64 y2.1 8),(w64 (y2.2 + 8))) hm Conv.eqK
    ·intro h3 hm
     refine Sk ?_
     exact jD (y2.1,y2.2) hm Conv.t0
  ·refine Ae hm ?_ ?_
   ·intro h2 hm
    refine Sq (RK hnt (nn 3 []) [(0,.p (vk .u64 (kshr .u64 y1.1 16))),(2,pI y1.2)] [] (an (by decide : (0 : Int) ≤ 16) tv) ?_)
    refine RD hnt (nn 3 []) [] [(2,pI (w64 (y1.2 + 16)))] [] [] tv ?_
    exact jD ((kshr .u64 y1.1 16),(w64 (y1.2 + 16))) hm Conv.eqK
   ·intro h2 hm
    refine Sk ?_
    exact jD (y1.1,y1.2) hm Conv.t0
 ·refine Ae hm ?_ ?_
  ·intro h1 hm
   refine Sq (RK hnt (nn 3 []) [(0,.p (vk .u64 (kshr .u64 p0 32)))] [] (an (by decide : (0 : Int) ≤ 32) tv) ?_)
   refine RD hnt (.no :: []) [] [(2,pI 32)] [] [] tv ?_
   exact jD ((kshr .u64 p0 32),32) hm Conv.eqK
  ·intro h1 hm
   refine Sk ?_
   exact jD (p0,0) hm Conv.t0
abbrev o46 (ks : List Nat) (b : Bool) (RES : Int) (sm : List Nat := []) : Orc := .call 225 ks b (pI RES) [] [] sm

theorem AcD (p0 : Int) (RES : Int) (hm : Su p0 = some RES) : Spec Tryz.prog 182 [.p (vk .u64 p0)] [] (pI RES) [] [] := by
 unfold Su at hm
 refine SO Tryz.func182 rfl rfl [(0,.p (vk .u64 p0))] [] ?_
 intro cx hnt
 refine Sq (RD hnt (.no :: []) [] [] [] [] tv ?_)
 refine Sq (condF ff ?_)
 refine Sk ?_
 obtain ⟨r1,hr1,hm⟩ := bo hm
 refine Sq (RK hnt (.no :: o46 [] true r1 :: .no :: []) [(2,pI r1)] [] (an (AfQ p0 r1 hr1) tv) ?_)
 obtain rfl := sj hm
 exact DW.ret (Ag [] [] (pI r1))
abbrev o45 (ks : List Nat) (b : Bool) (RES : Int) (sm : List Nat := []) : Orc := .call 182 ks b (pI RES) [] [] sm

theorem Kh (p0 : Int) (RES : Bool) (hm : Ot p0 = some RES) : Spec Tryz.prog 247 [pI p0] [] (pB RES) [] [] := by
 unfold Ot at hm
 refine SO Tryz.func247 rfl rfl [(0,pI p0)] [] ?_
 intro cx hnt
 refine Sq (RK hnt (.no :: []) [(0,pI p0)] [] tv ?_)
 refine Sq (RK hnt (nn 4 []) [(2,pB (p0 != p0))] [] tv ?_)
 obtain rfl := sj hm
 exact DW.ret (Ag [] [] (pB (p0 != p0)))
abbrev o50 (ks : List Nat) (b : Bool) (RES : Bool) (sm : List Nat := []) : Orc := .call 247 ks b (pB RES) [] [] sm

theorem Cn (p0 : Int) (p1 : Int) (RES : Bool) (hm : Cs p0 p1 = some RES) : Spec Tryz.prog 221 [pI p0,pI p1] [] (pB RES) [] [] := by
 unfold Cs at hm
 refine SO Tryz.func221 rfl rfl [(0,pI p0),(1,pI p1)] [] ?_
 intro cx hnt
 refine Sq (RD hnt (.no :: []) [] [] [] [] tv ?_)
 obtain ⟨r1,hr1,hm⟩ := bo hm
 refine Sq ?_
 refine Jn (ι := Bool) (fun (y1 : Bool) => Aj [(4,pB y1)] []) (fun y1 => Ky y1 = some RES) ?_ ?_
 ·intro y1 hm
  unfold Ky at hm
  obtain rfl := sj hm
  exact DW.ret (Ag [] [] (pB y1))
 ·rcases bt r1 with h2 | h2
  ·replace hm := Bd h2 hm
   obtain ⟨r3,hr3,hm⟩ := bo hm
   rcases bt (!r3) with h4 | h4
   ·replace hm := Bd h4 hm
    refine RK hnt (.no :: o50 [] true r1 :: nn 2 (o50 [] true r3 :: .no :: pT :: .no :: sk 3 (pT :: .no :: []))) [(4,pB true)] [] (an (Kh p0 r1 hr1) (an2 h2 (an (Kh p1 r3 hr3) (an2 h2 (an4 h4 tv))))) ?_
    exact jD true hm .refl
   ·replace hm := Bc h4 hm
    refine RK hnt (.no :: o50 [] true r1 :: nn 2 (o50 [] true r3 :: .no :: pT :: nn 4 (pF :: .no :: []))) [(4,pB (decide (p0 < p1)))] [] (an (Kh p0 r1 hr1) (an2 h2 (an (Kh p1 r3 hr3) (an2 h2 (an4 h4 tv))))) ?_
    exact jD (decide (p0 < p1)) hm .refl
  ·replace hm := Bc h2 hm
   refine RK hnt (.no :: o50 [] true r1 :: .no :: sk 3 (pF :: nn 4 (pF :: .no :: []))) [(4,pB (decide (p0 < p1)))] [] (an (Kh p0 r1 hr1) (an4 h2 (an4 ff tv))) ?_
   exact jD (decide (p0 < p1)) hm .refl
abbrev o49 (ks : List Nat) (b : Bool) (RES : Bool) (sm : List Nat := []) : Orc := .call 221 ks b (pB RES) [] [] sm

abbrev AdQ (s4 : (List Int) × Int) := (s4.1.getD (Int.toNat (w64 (s4.2 - 1))) 0)
abbrev c48e2 (s4 : (List Int) × Int) := (Cc (Cc (elI s4.1) (Int.toNat s4.2) [vi (AdQ s4)]) (Int.toNat (w64 (s4.2 - 1))) (setRange ((Cc (elI s4.1) (Int.toNat s4.2) [vi (AdQ s4)]) (Int.toNat (w64 (s4.2 - 1)))) 0 [vi (s4.1.getD (Int.toNat s4.2) 0)]))
abbrev c48e3 (s4 : (List Int) × Int) := ((s4.1.set (Int.toNat s4.2) (AdQ s4)).set (Int.toNat (w64 (s4.2 - 1))) (s4.1.getD (Int.toNat s4.2) 0))
theorem Rg (p0 : List Int) (p1 : Int) (p2 : Int) (RES : List Int) (hm : Dx p0 p1 p2 = some RES) : Spec Tryz.prog 215 [ow 0 p0.length,pI p1,pI p2] [roI p0] (.p (.tup [])) [roI RES] [] := by
 unfold Dx at hm
 refine SO Tryz.func215 rfl rfl [(0,ow 0 p0.length),(1,pI p1),(2,pI p2)] [(0,ob0 (roI p0))] ?_
 intro cx hnt
 refine Sq (RD hnt (nn 3 []) [] [(6,pI (w64 (p1 + 1)))] [] [] tv ?_)
 refine Bk ?_
 obtain ⟨hc1,hm⟩ := go1 hm
 refine DW.forO (fun (k1 : Int) (s1 : List Int) => Aj [(0,ow 0 s1.length),(1,pI p1),(2,pI p2),(6,pI k1)] [(0,ob0 (roI s1))]) (lo := (w64 (p1 + 1))) (hi := p2) hm Conv.eqK ?_
 intro k1 s1 n1 hk1 hs1 he1
 refine Sq (Sq (RD hnt (nn 3 []) [] [(12,pB (decide (k1 < p2)))] [] [] tv ?_))
 refine Cb (decide (k1 < p2)) ?_ ?_
 ·intro h75
  have hlt1 : k1 < p2 := by have := of_decide_eq_true h75; omega
  have hm := hs1 hlt1
  unfold Hb at hm
  refine Sk ?_
  refine Sq (Bk ?_)
  refine Sq (RD hnt (nn 2 []) [12] [(7,pI k1)] [] [] tv ?_)
  refine Bk ?_
  refine DW.whileO (fun (s4 : (List Int) × Int) => Aj [(0,ow 0 s4.1.length),(1,pI p1),(2,pI p2),(6,pI k1),(7,pI s4.2)] [(0,ob0 (roI s4.1))]) hm Conv.eqK ?_
  intro s4 n4 hm
  unfold Gy at hm
  refine Sq (Sq ?_)
  refine Jn (ι := Bool) (fun (y6 : Bool) => Aj [(0,ow 0 s4.1.length),(1,pI p1),(2,pI p2),(6,pI k1),(7,pI s4.2),(30,pB y6)] [(0,ob0 (roI s4.1))]) (fun y6 => (Dh n1 s4 n4) y6 = some RES) ?_ ?_
  ·intro y6 hm
   unfold Dh at hm
   refine Ae hm ?_ ?_
   ·intro h97 hm
    refine Sk ?_
    refine Sq (Bk ?_)
    obtain ⟨g98,g99,g100,g101,hm⟩ := go4 hm
    obtain ⟨g102,g103,g104,g105,hm⟩ := go4 hm
    refine RN hnt (nn 18 []) [(0,ow 0 (c48e3 s4).length),(1,pI p1),(2,pI p2),(6,pI k1),(7,pI s4.2)] [(0,ob0 (roI (c48e3 s4)))] [(0,ow 0 s4.1.length)] [(0,.row 1 s4.1.length (c48e2 s4))] (an g98.1 (an g98.2 (an g99 (an g100.1 (an g100.2 (an g101 (an g102.1 (an g102.2 (an g103 (an g104.1 (an g104.2 (an g105 tv)))))))))))) (by kernel_rfl) (.cons rfl (MLe.ownLen (enc := Bn) (d := 0) (f := (c48e2 s4)) (RowIs.updR (RowIs.upd RowIs.elems (AdQ s4) rfl) (by omega) (s4.1.getD (Int.toNat s4.2) 0) rfl)) .nil) (.cons rfl (BLe.typed (RowIs.updR (RowIs.upd RowIs.elems (AdQ s4) rfl) (by omega) (s4.1.getD (Int.toNat s4.2) 0) rfl)) .nil) ?_
    refine DW.done ?_
    show DW _ _ _ _ _
    refine RD hnt (nn 3 []) [] [(7,pI (w64 (s4.2 - 1)))] [] [] tv ?_
    exact jD ((c48e3 s4),(w64 (s4.2 - 1))) hm Conv.eqK
   ·intro h97 hm
    refine DW.exit ?_
    refine Ao ?_
    refine Aw ?_
    refine Ak ?_
    show DW _ _ _ _ _
    refine DW.done ?_
    show DW _ _ _ _ _
    refine RD hnt (nn 3 []) [7,30] [(6,pI (w64 (k1 + 1)))] [] [] tv ?_
    exact jD s4.1 ⟨hlt1,hm⟩ (Conv.tp [(6,pI (w64 (k1 + 1)))] [] (by kernel_rfl) (.cons rfl (.of_eq (congrArg pI (Yf (lo := (w64 (p1 + 1))) (hi := p2) (by omega) hk1 hlt1 (by omega)))) .nil) .nil)
  ·rcases bt (decide (s4.2 > p1)) with h91 | h91
   ·replace hm := Bd h91 hm
    obtain ⟨g92,g93,g94,g95,hm⟩ := go4 hm
    obtain ⟨r96,hr96,hm⟩ := bo hm
    refine RD hnt (nn 13 (o49 [] true r96 :: pT :: [])) [] [(30,pB r96)] [] [] (an3 h91 (an g92.1 (an g92.2 (an h91 (an g93 (an4 h91 (an g94.1 (an g94.2 (an h91 (an g95 (an h91 (an (Cn (s4.1.getD (Int.toNat s4.2) 0) (AdQ s4) r96 hr96) (an h91 tv))))))))))))) ?_
    exact jD r96 hm Conv.eqK
   ·replace hm := Bc h91 hm
    refine RD hnt (nn 4 (sk 10 (pF :: []))) [] [(30,pB false)] [] [] (an5 h91 (an6 h91 tv)) ?_
    exact jD false hm Conv.eqK
 ·intro h75
  have hge1 : ¬ k1 < p2 := by have := of_decide_eq_false h75; omega
  have hm := he1 hge1
  unfold Kt at hm
  refine DW.exit ?_
  refine Ao ?_
  refine Aw ?_
  refine Ak ?_
  show DW _ _ _ _ _
  refine DW.done ?_
  obtain rfl := sj hm
  exact endK [roI s1] [] (.p (.tup []))
abbrev o48 (ks : List Nat) (b : Bool) (RES : List Int) (sm : List Nat := []) : Orc := .call 215 ks b (.p (.tup [])) [roI RES] [] sm

abbrev c52e1 (s1 : (List Int) × Int) (p3 : Int) (y4 : Int) := (Cc (Cc (elI s1.1) (Int.toNat (w64 (p3 + s1.2))) [vi (s1.1.getD (Int.toNat (w64 (p3 + y4))) 0)]) (Int.toNat (w64 (p3 + y4))) (setRange ((Cc (elI s1.1) (Int.toNat (w64 (p3 + s1.2))) [vi (s1.1.getD (Int.toNat (w64 (p3 + y4))) 0)]) (Int.toNat (w64 (p3 + y4)))) 0 [vi (s1.1.getD (Int.toNat (w64 (p3 + s1.2))) 0)]))
abbrev c52e2 (s1 : (List Int) × Int) (p3 : Int) (y4 : Int) := ((s1.1.set (Int.toNat (w64 (p3 + s1.2))) (s1.1.getD (Int.toNat (w64 (p3 + y4))) 0)).set (Int.toNat (w64 (p3 + y4))) (s1.1.getD (Int.toNat (w64 (p3 + s1.2))) 0))
abbrev Xw (s1 : (List Int) × Int) := (w64 ((w64 (2 * s1.2)) + 1))
theorem Mi (p0 : List Int) (p1 : Int) (p2 : Int) (p3 : Int) (RES : List Int) (hm : Ec p0 p1 p2 p3 = some RES) : Spec Tryz.prog 242 [ow 0 p0.length,pI p1,pI p2,pI p3] [roI p0] (.p (.tup [])) [roI RES] [] := by
 unfold Ec at hm
 refine SO Tryz.func242 rfl rfl [(0,ow 0 p0.length),(1,pI p1),(2,pI p2),(3,pI p3)] [(0,ob0 (roI p0))] ?_
 intro cx hnt
 refine Sq (RD hnt (nn 2 []) [1] [(8,pI p1)] [] [] tv ?_)
 refine Bk ?_
 refine DW.whileO (fun (s1 : (List Int) × Int) => Aj [(0,ow 0 s1.1.length),(2,pI p2),(3,pI p3),(8,pI s1.2)] [(0,ob0 (roI s1.1))]) hm Conv.eqK ?_
 intro s1 n1 hm
 unfold Iv at hm
 refine Bk ?_
 refine Sq (RD hnt (nn 4 []) [] [(9,pI (Xw s1))] [] [] tv ?_)
 refine Sq (Sq (RD hnt (nn 3 []) [] [(16,pB (decide ((Xw s1) ≥ p2)))] [] [] tv ?_))
 refine Ae hm ?_ ?_
 ·intro h23 hm
  refine DW.exit ?_
  refine Nk (by decide) ?_
  refine Aw ?_
  refine Ao ?_
  refine Aw ?_
  refine Ak ?_
  show DW _ _ _ _ _
  refine DW.done ?_
  obtain rfl := sj hm
  exact endK [roI s1.1] [] (.p (.tup []))
 ·intro h23 hm
  refine Sk ?_
  refine Sq (Sq ?_)
  refine Jn (ι := Bool) (fun (y3 : Bool) => Aj [(0,ow 0 s1.1.length),(2,pI p2),(3,pI p3),(8,pI s1.2),(9,pI (Xw s1)),(36,pB y3)] [(0,ob0 (roI s1.1))]) (fun y3 => (Ew p3 s1 n1) y3 = some RES) ?_ ?_
  ·intro y3 hm
   unfold Ew at hm
   refine Jn (ι := Int) (fun (y4 : Int) => Aj [(0,ow 0 s1.1.length),(2,pI p2),(3,pI p3),(8,pI s1.2),(9,pI y4)] [(0,ob0 (roI s1.1))]) (fun y4 => (Di p3 s1 n1) y4 = some RES) ?_ ?_
   ·intro y4 hm
    unfold Di at hm
    obtain ⟨g31,g32,g33,g34,hm⟩ := go4 hm
    obtain ⟨r35,hr35,hm⟩ := bo hm
    refine Sq (Sq (RD hnt (nn 12 (o49 [] true r35 :: .no :: [])) [] [(52,pB (!r35))] [] [] (an g31.1 (an g31.2 (an g32 (an g33.1 (an g33.2 (an g34 (an (Cn (s1.1.getD (Int.toNat (w64 (p3 + s1.2))) 0) (s1.1.getD (Int.toNat (w64 (p3 + y4))) 0) r35 hr35) tv))))))) ?_))
    refine Ae hm ?_ ?_
    ·intro h36 hm
     obtain rfl := sj hm
     exact DW.ret (Ag [roI s1.1] [] (.p (.tup [])))
    ·intro h36 hm
     refine Sk ?_
     obtain ⟨g37,g38,g39,g40,hm⟩ := go4 hm
     obtain ⟨g41,g42,g43,g44,hm⟩ := go4 hm
     refine Sq (RN hnt (nn 24 []) [(0,ow 0 (c52e2 s1 p3 y4).length),(2,pI p2),(3,pI p3),(9,pI y4)] [(0,ob0 (roI (c52e2 s1 p3 y4)))] [(0,ow 0 s1.1.length)] [(0,.row 1 s1.1.length (c52e1 s1 p3 y4))] (an g37.1 (an g37.2 (an g38 (an g39.1 (an g39.2 (an g40 (an g41.1 (an g41.2 (an g42 (an g43.1 (an g43.2 (an g44 tv)))))))))))) (by kernel_rfl) (.cons rfl (MLe.ownLen (enc := Bn) (d := 0) (f := (c52e1 s1 p3 y4)) (RowIs.updR (RowIs.upd RowIs.elems (s1.1.getD (Int.toNat (w64 (p3 + y4))) 0) rfl) (by omega) (s1.1.getD (Int.toNat (w64 (p3 + s1.2))) 0) rfl)) .nil) (.cons rfl (BLe.typed (RowIs.updR (RowIs.upd RowIs.elems (s1.1.getD (Int.toNat (w64 (p3 + y4))) 0) rfl) (by omega) (s1.1.getD (Int.toNat (w64 (p3 + s1.2))) 0) rfl)) .nil) ?_)
     refine RD hnt (nn 2 []) [9] [(8,pI y4)] [] [] tv ?_
     refine DW.done ?_
     show DW _ _ _ _ _
     exact jD ((c52e2 s1 p3 y4),y4) hm Conv.eqK
   ·refine Ae hm ?_ ?_
    ·intro h30 hm
     refine RD hnt (nn 3 []) [36] [(9,pI (w64 ((Xw s1) + 1)))] [] [] tv ?_
     exact jD (w64 ((Xw s1) + 1)) hm Conv.eqK
    ·intro h30 hm
     refine Sk ?_
     exact jD (Xw s1) hm Conv.t0
  ·rcases bt (decide ((w64 ((Xw s1) + 1)) < p2)) with h24 | h24
   ·replace hm := Bd h24 hm
    obtain ⟨g25,g26,g27,g28,hm⟩ := go4 hm
    obtain ⟨r29,hr29,hm⟩ := bo hm
    refine RD hnt (nn 18 (o49 [] true r29 :: pT :: [])) [16] [(36,pB r29)] [] [] (an5 h24 (an g25.1 (an g25.2 (an h24 (an g26 (an6 h24 (an g27.1 (an g27.2 (an h24 (an g28 (an h24 (an (Cn (s1.1.getD (Int.toNat (w64 (p3 + (Xw s1)))) 0) (s1.1.getD (Int.toNat (w64 ((w64 (p3 + (Xw s1))) + 1))) 0) r29 hr29) (an h24 tv))))))))))))) ?_
    exact jD r29 hm Conv.eqK
   ·replace hm := Bc h24 hm
    refine RD hnt (nn 5 (sk 14 (pF :: []))) [16] [(36,pB false)] [] [] (an3 h24 (an6 h24 (an6 h24 tv))) ?_
    exact jD false hm Conv.eqK
abbrev o52 (ks : List Nat) (b : Bool) (RES : List Int) (sm : List Nat := []) : Orc := .call 242 ks b (.p (.tup [])) [roI RES] [] sm

abbrev c51e1 (s3 : (List Int) × Int) (p1 : Int) := ((s3.1.set (Int.toNat p1) (s3.1.getD (Int.toNat (w64 (p1 + s3.2))) 0)).set (Int.toNat (w64 (p1 + s3.2))) (s3.1.getD (Int.toNat p1) 0))
abbrev c51e2 (s3 : (List Int) × Int) (p1 : Int) := (Cc (Cc (elI s3.1) (Int.toNat p1) [vi (s3.1.getD (Int.toNat (w64 (p1 + s3.2))) 0)]) (Int.toNat (w64 (p1 + s3.2))) (setRange ((Cc (elI s3.1) (Int.toNat p1) [vi (s3.1.getD (Int.toNat (w64 (p1 + s3.2))) 0)]) (Int.toNat (w64 (p1 + s3.2)))) 0 [vi (s3.1.getD (Int.toNat p1) 0)]))
theorem Tu (p0 : List Int) (p1 : Int) (p2 : Int) (RES : List Int) (hm : Fp p0 p1 p2 = some RES) : Spec Tryz.prog 216 [ow 0 p0.length,pI p1,pI p2] [roI p0] (.p (.tup [])) [roI RES] [] := by
 unfold Fp at hm
 refine SO Tryz.func216 rfl rfl [(0,ow 0 p0.length),(1,pI p1),(2,pI p2)] [(0,ob0 (roI p0))] ?_
 intro cx hnt
 refine Sq (RD hnt (nn 2 []) [] [(6,pI p1)] [] [] tv ?_)
 refine Sq (RD hnt (.no :: []) [] [(7,pI 0)] [] [] tv ?_)
 refine Sq (RD hnt (nn 4 []) [1,2] [(8,pI (w64 (p2 - p1)))] [] [] tv ?_)
 refine Sq (Sq (RD hnt (nn 4 []) [] [(9,pI (w64 (Int.tdiv (w64 ((w64 (p2 - p1)) - 1)) 2)))] [] [] (an (by decide : (2 : Int) ≠ 0) tv) ?_))
 refine Bk ?_
 refine DW.whileO (fun (s1 : (List Int) × Int) => Aj [(0,ow 0 s1.1.length),(6,pI p1),(7,pI 0),(8,pI (w64 (p2 - p1))),(9,pI s1.2)] [(0,ob0 (roI s1.1))]) hm Conv.eqK ?_
 intro s1 n1 hm
 unfold It at hm
 refine Sq (Sq (RD hnt (nn 2 []) [] [(19,pB (decide (s1.2 ≥ 0)))] [] [] tv ?_))
 refine Ae hm ?_ ?_
 ·intro h26 hm
  refine Sk ?_
  refine Sq (Bk ?_)
  obtain ⟨r27,hr27,hm⟩ := bo hm
  obtain ⟨g28,hm⟩ := go1 hm
  refine RN hnt (nn 4 (o52 [0] true r27 :: [])) [(0,ow 0 r27.length),(6,pI p1),(7,pI 0),(8,pI (w64 (p2 - p1))),(9,pI s1.2)] [(0,ob0 (roI r27))] [(0,ow 0 s1.1.length)] [] (an (Mi s1.1 s1.2 (w64 (p2 - p1)) p1 r27 hr27) (an (⟨rfl,g28⟩ : Body.same (roI s1.1) (roI r27)) tv)) (by kernel_rfl) (.cons rfl (MLe.of_eq (congrArg (MV.own 0 0 0) g28)) .nil) .nil ?_
  refine DW.done ?_
  show DW _ _ _ _ _
  refine RD hnt (nn 3 []) [] [(9,pI (w64 (s1.2 - 1)))] [] [] tv ?_
  exact jD (r27,(w64 (s1.2 - 1))) hm Conv.eqK
 ·intro h26 hm
  refine DW.exit ?_
  refine Ao ?_
  refine Aw ?_
  refine Ak ?_
  show DW _ _ _ _ _
  refine Sq (RD hnt (nn 3 []) [8,9,19] [(10,pI (w64 ((w64 (p2 - p1)) - 1)))] [] [] tv ?_)
  refine Bk ?_
  refine DW.whileO (fun (s3 : (List Int) × Int) => Aj [(0,ow 0 s3.1.length),(6,pI p1),(7,pI 0),(10,pI s3.2)] [(0,ob0 (roI s3.1))]) hm Conv.eqK ?_
  intro s3 n3 hm
  unfold Iw at hm
  refine Sq (Sq (RD hnt (nn 2 []) [] [(30,pB (decide (s3.2 ≥ 0)))] [] [] tv ?_))
  refine Ae hm ?_ ?_
  ·intro h40 hm
   refine Sk ?_
   refine Sq (Bk ?_)
   obtain ⟨g41,g42,g43,g44,hm⟩ := go4 hm
   obtain ⟨g45,g46,g47,g48,hm⟩ := go4 hm
   refine Sq (RN hnt (nn 20 []) [(0,ow 0 (c51e1 s3 p1).length),(6,pI p1),(7,pI 0),(10,pI s3.2)] [(0,ob0 (roI (c51e1 s3 p1)))] [(0,ow 0 s3.1.length)] [(0,.row 1 s3.1.length (c51e2 s3 p1))] (an g41.1 (an g41.2 (an g42 (an g43.1 (an g43.2 (an g44 (an g45.1 (an g45.2 (an g46 (an g47.1 (an g47.2 (an g48 tv)))))))))))) (by kernel_rfl) (.cons rfl (MLe.ownLen (enc := Bn) (d := 0) (f := (c51e2 s3 p1)) (RowIs.updR (RowIs.upd RowIs.elems (s3.1.getD (Int.toNat (w64 (p1 + s3.2))) 0) rfl) (by omega) (s3.1.getD (Int.toNat p1) 0) rfl)) .nil) (.cons rfl (BLe.typed (RowIs.updR (RowIs.upd RowIs.elems (s3.1.getD (Int.toNat (w64 (p1 + s3.2))) 0) rfl) (by omega) (s3.1.getD (Int.toNat p1) 0) rfl)) .nil) ?_)
   obtain ⟨r49,hr49,hm⟩ := bo hm
   obtain ⟨g50,hm⟩ := go1 hm
   refine RN hnt (nn 4 (o52 [0] true r49 :: [])) [(0,ow 0 r49.length),(6,pI p1),(7,pI 0),(10,pI s3.2)] [(0,ob0 (roI r49))] [(0,ow 0 (c51e1 s3 p1).length)] [] (an (Mi (c51e1 s3 p1) 0 s3.2 p1 r49 hr49) (an (⟨rfl,g50⟩ : Body.same (roI (c51e1 s3 p1)) (roI r49)) tv)) (by kernel_rfl) (.cons rfl (MLe.of_eq (congrArg (MV.own 0 0 0) g50)) .nil) .nil ?_
   refine DW.done ?_
   show DW _ _ _ _ _
   refine RD hnt (nn 3 []) [] [(10,pI (w64 (s3.2 - 1)))] [] [] tv ?_
   exact jD (r49,(w64 (s3.2 - 1))) hm Conv.eqK
  ·intro h40 hm
   refine DW.exit ?_
   refine Ao ?_
   refine Aw ?_
   refine Ak ?_
   show DW _ _ _ _ _
   refine DW.done ?_
   obtain rfl := sj hm
   exact endK [roI s3.1] [] (.p (.tup []))
abbrev o51 (ks : List Nat) (b : Bool) (RES : List Int) (sm : List Nat := []) : Orc := .call 216 ks b (.p (.tup [])) [roI RES] [] sm

theorem Jb (p0 : List Int) (p1 : Int) (p2 : Int) (p3 : Int) (RES : Int × Int × Int) (hm : Dq p0 p1 p2 p3 = some RES) : Spec Tryz.prog 251 [.p (slI p0),pI p1,pI p2,rr 0] [.box [pI p3]] (.p (.tup [vi RES.1,vi RES.2.1])) [.box [pI RES.2.2]] [] := by
 unfold Dq at hm
 refine SO Tryz.func251 rfl rfl [(0,.p (slI p0)),(1,pI p1),(2,pI p2),(3,rr 0)] [(0,bx [pI p3])] ?_
 intro cx hnt
 refine Sq (RD hnt (nn 2 []) [] [] [] [] tv ?_)
 obtain ⟨g1,g2,hm⟩ := go2 hm
 obtain ⟨r3,hr3,hm⟩ := bo hm
 refine Sq (Sq (RD hnt (nn 8 (o49 [] true r3 :: [])) [0] [(18,pB r3)] [] [] (an g1.1 (an g1.2 (an g2.1 (an g2.2 (an (Cn (p0.getD (Int.toNat p2) 0) (p0.getD (Int.toNat p1) 0) r3 hr3) tv))))) ?_))
 refine Ae hm ?_ ?_
 ·intro h4 hm
  refine Sq (RD hnt (nn 6 []) [3,18] [] [] [(0,bx [pI (w64 (p3 + 1))])] tv ?_)
  refine Sq (RD hnt (nn 4 []) [1,2] [(8,pI p2),(9,pI p1)] [] [] tv ?_)
  obtain rfl := sj hm
  exact DW.ret (Ag [.box [pI (w64 (p3 + 1))]] [] (.p (.tup [vi p2,vi p1])))
 ·intro h4 hm
  refine Sk ?_
  refine Sq (RK hnt (nn 4 []) [(8,pI p1),(9,pI p2)] [(0,bx [pI p3])] tv ?_)
  obtain rfl := sj hm
  exact DW.ret (Ag [.box [pI p3]] [] (.p (.tup [vi p1,vi p2])))
abbrev o56 (ks : List Nat) (b : Bool) (RES : Int × Int × Int) (sm : List Nat := []) : Orc := .call 251 ks b (.p (.tup [vi RES.1,vi RES.2.1])) [.box [pI RES.2.2]] [] sm

theorem My (p0 : List Int) (p1 : Int) (p2 : Int) (p3 : Int) (p4 : Int) (RES : Int × Int) (hm : Ey p0 p1 p2 p3 p4 = some RES) : Spec Tryz.prog 246 [.p (slI p0),pI p1,pI p2,pI p3,rr 0] [.box [pI p4]] (pI RES.1) [.box [pI RES.2]] [] := by
 unfold Ey at hm
 refine SO Tryz.func246 rfl rfl [(0,.p (slI p0)),(1,pI p1),(2,pI p2),(3,pI p3),(4,rr 0)] [(0,bx [pI p4])] ?_
 intro cx hnt
 refine Sq (RD hnt (.no :: []) [] [] [] [] tv ?_)
 obtain ⟨r1,hr1,hm⟩ := bo hm
 refine Sq (RD hnt (nn 4 (o56 [0] true r1 :: nn 5 [])) [] [(1,pI r1.1),(2,pI r1.2.1)] [] [(0,bx [pI r1.2.2])] (an (Jb p0 p1 p2 p4 r1 hr1) (an tv tv)) ?_)
 obtain ⟨r2,hr2,hm⟩ := bo hm
 refine Sq (RD hnt (nn 4 (o56 [0] true r2 :: nn 5 [])) [3] [(2,pI r2.1)] [] [(0,bx [pI r2.2.2])] (an (Jb p0 r1.2.1 p3 r1.2.2 r2 hr2) (an tv tv)) ?_)
 obtain ⟨r3,hr3,hm⟩ := bo hm
 refine Sq (RK hnt (nn 4 (o56 [0] true r3 :: nn 5 [])) [(2,pI r3.2.1)] [(0,bx [pI r3.2.2])] (an (Jb p0 r1.1 r2.1 r2.2.2 r3 hr3) (an tv tv)) ?_)
 refine Sq (RD hnt (nn 2 []) [2] [(10,pI r3.2.1)] [] [] tv ?_)
 obtain rfl := sj hm
 exact DW.ret (Ag [.box [pI r3.2.2]] [] (pI r3.2.1))
abbrev o55 (ks : List Nat) (b : Bool) (RES : Int × Int) (sm : List Nat := []) : Orc := .call 246 ks b (pI RES.1) [.box [pI RES.2]] [] sm

theorem Gh (p0 : List Int) (p1 : Int) (p2 : Int) (RES : Int × Int) (hm : Cj p0 p1 p2 = some RES) : Spec Tryz.prog 245 [.p (slI p0),pI p1,rr 0] [.box [pI p2]] (pI RES.1) [.box [pI RES.2]] [] := by
 unfold Cj at hm
 refine SO Tryz.func245 rfl rfl [(0,.p (slI p0)),(1,pI p1),(2,rr 0)] [(0,bx [pI p2])] ?_
 intro cx hnt
 refine Sq (RD hnt (.no :: []) [] [] [] [] tv ?_)
 obtain ⟨r1,hr1,hm⟩ := bo hm
 refine Sq (RK hnt (nn 7 (o55 [0] true r1 :: .no :: [])) [(6,pI r1.1)] [(0,bx [pI r1.2])] (an (My p0 (w64 (p1 - 1)) p1 (w64 (p1 + 1)) p2 r1 hr1) (an tv tv)) ?_)
 obtain rfl := sj hm
 exact DW.ret (Ag [.box [pI r1.2]] [] (pI r1.1))
abbrev o54 (ks : List Nat) (b : Bool) (RES : Int × Int) (sm : List Nat := []) : Orc := .call 245 ks b (pI RES.1) [.box [pI RES.2]] [] sm

abbrev Aas (p2 : Int) (p1 : Int) := (w64 (Int.tdiv (w64 (p2 - p1)) 4))
abbrev c53e2 (p1 : Int) (p2 : Int) := (w64 (p1 + (w64 ((Aas p2 p1) * 2))))
theorem Se (p0 : List Int) (p1 : Int) (p2 : Int) (RES : Int × Int) (hm : Ep p0 p1 p2 = some RES) : Spec Tryz.prog 218 [.p (slI p0),pI p1,pI p2] [] (.p (.tup [vi RES.1,vi RES.2])) [] [] := by
 unfold Ep at hm
 refine SO Tryz.func218 rfl rfl [(0,.p (slI p0)),(1,pI p1),(2,pI p2)] [] ?_
 intro cx hnt
 refine Sq (RD hnt (nn 2 []) [] [] [] [] tv ?_)
 refine Sq (RD hnt (nn 4 []) [2] [(8,pI (w64 (p2 - p1)))] [] [] tv ?_)
 refine Sq (RD hnt (.no :: []) [] [(9,rr 1072)] [] [(1072,bx [pI 0])] tv ?_)
 refine Sq (RD hnt (nn 6 []) [] [(10,pI (w64 (p1 + (w64 ((Aas p2 p1) * 1)))))] [] [] (an (by decide : (4 : Int) ≠ 0) tv) ?_)
 refine Sq (RD hnt (nn 6 []) [] [(11,pI (c53e2 p1 p2))] [] [] (an (by decide : (4 : Int) ≠ 0) tv) ?_)
 refine Sq (RD hnt (nn 6 []) [1] [(12,pI (w64 (p1 + (w64 ((Aas p2 p1) * 3)))))] [] [] (an (by decide : (4 : Int) ≠ 0) tv) ?_)
 refine Sq (Sq (RD hnt (nn 2 []) [] [(32,pB (decide ((w64 (p2 - p1)) ≥ 8)))] [] [] tv ?_))
 refine Jn (ι := Int × Int) (fun (y1 : Int × Int) => Aj [(9,rr 1072),(11,pI y1.2)] [(1072,bx [pI y1.1])]) (fun y1 => Cy y1 = some RES) ?_ ?_
 ·intro y1 hm
  unfold Cy at hm
  refine Sq (RK hnt (.no :: []) [(11,pI y1.2),(49,pI y1.1)] [] tv ?_)
  refine Bk ?_
  refine Sq (RD hnt (nn 2 []) [] [(51,pB (y1.1 == 0))] [] [] tv ?_)
  refine Ae hm ?_ ?_
  ·intro h7 hm
   refine Sq (RK hnt (nn 3 []) [(6,pI y1.2),(7,pI 1)] [] tv ?_)
   obtain rfl := sj hm
   exact DW.ret (Ag [] [] (.p (.tup [vi y1.2,vi 1])))
  ·intro h7 hm
   refine Sq (RK hnt (nn 2 []) [(11,pI y1.2),(54,pB (y1.1 == 12))] [] tv ?_)
   refine Ae hm ?_ ?_
   ·intro h8 hm
    refine Sq (RK hnt (nn 3 []) [(6,pI y1.2),(7,pI 2)] [] tv ?_)
    obtain rfl := sj hm
    exact DW.ret (Ag [] [] (.p (.tup [vi y1.2,vi 2])))
   ·intro h8 hm
    refine Sq (RK hnt (nn 3 []) [(6,pI y1.2),(7,pI 0)] [] tv ?_)
    obtain rfl := sj hm
    exact DW.ret (Ag [] [] (.p (.tup [vi y1.2,vi 0])))
 ·refine Ae hm ?_ ?_
  ·intro h1 hm
   refine Sq (Sq (RD hnt (nn 2 []) [8,32] [(34,pB (decide ((w64 (p2 - p1)) ≥ 50)))] [] [] tv ?_))
   refine Jn (ι := Int × Int × Int × Int) (fun (y2 : Int × Int × Int × Int) => Aj [(0,.p (slI p0)),(9,rr 1072),(10,pI y2.2.1),(11,pI y2.2.2.1),(12,pI y2.2.2.2)] [(1072,bx [pI y2.1])]) (fun y2 => (Cz p0) y2 = some RES) ?_ ?_
   ·intro y2 hm
    unfold Cz at hm
    obtain ⟨r6,hr6,hm⟩ := bo hm
    refine RK hnt (nn 4 (o55 [1072] true r6 :: .no :: [])) [(9,rr 1072),(11,pI r6.1)] [(1072,bx [pI r6.2])] (an (My p0 y2.2.1 y2.2.2.1 y2.2.2.2 y2.1 r6 hr6) (an tv tv)) ?_
    exact jD (r6.2,r6.1) hm .refl
   ·refine Ae hm ?_ ?_
    ·intro h2 hm
     obtain ⟨r3,hr3,hm⟩ := bo hm
     refine Sq (RK hnt (nn 2 (o54 [1072] true r3 :: .no :: [])) [(0,.p (slI p0)),(9,rr 1072),(10,pI r3.1),(11,pI (c53e2 p1 p2)),(12,pI (w64 (p1 + (w64 ((Aas p2 p1) * 3)))))] [(1072,bx [pI r3.2])] (an (Gh p0 (w64 (p1 + (w64 ((Aas p2 p1) * 1)))) 0 r3 hr3) (an tv tv)) ?_)
     obtain ⟨r4,hr4,hm⟩ := bo hm
     refine Sq (RD hnt (nn 2 (o54 [1072] true r4 :: .no :: [])) [] [(11,pI r4.1)] [] [(1072,bx [pI r4.2])] (an (Gh p0 (c53e2 p1 p2) r3.2 r4 hr4) (an tv tv)) ?_)
     obtain ⟨r5,hr5,hm⟩ := bo hm
     refine RD hnt (nn 2 (o54 [1072] true r5 :: .no :: [])) [] [(12,pI r5.1)] [] [(1072,bx [pI r5.2])] (an (Gh p0 (w64 (p1 + (w64 ((Aas p2 p1) * 3)))) r4.2 r5 hr5) (an tv tv)) ?_
     exact jD (r5.2,r3.1,r4.1,r5.1) hm Conv.eqK
    ·intro h2 hm
     refine Sk ?_
     exact jD (0,(w64 (p1 + (w64 ((Aas p2 p1) * 1)))),(c53e2 p1 p2),(w64 (p1 + (w64 ((Aas p2 p1) * 3))))) hm Conv.t0
  ·intro h1 hm
   refine Sk ?_
   exact jD (0,(c53e2 p1 p2)) hm Conv.t0
abbrev o53 (ks : List Nat) (b : Bool) (RES : Int × Int) (sm : List Nat := []) : Orc := .call 218 ks b (.p (.tup [vi RES.1,vi RES.2])) [] [] sm

abbrev c57e1 (s1 : (List Int) × Int × Int) := (Cc (Cc (elI s1.1) (Int.toNat s1.2.1) [vi (s1.1.getD (Int.toNat s1.2.2) 0)]) (Int.toNat s1.2.2) (setRange ((Cc (elI s1.1) (Int.toNat s1.2.1) [vi (s1.1.getD (Int.toNat s1.2.2) 0)]) (Int.toNat s1.2.2)) 0 [vi (s1.1.getD (Int.toNat s1.2.1) 0)]))
abbrev c57e2 (s1 : (List Int) × Int × Int) := ((s1.1.set (Int.toNat s1.2.1) (s1.1.getD (Int.toNat s1.2.2) 0)).set (Int.toNat s1.2.2) (s1.1.getD (Int.toNat s1.2.1) 0))
theorem Rm (p0 : List Int) (p1 : Int) (p2 : Int) (RES : List Int) (hm : Eg p0 p1 p2 = some RES) : Spec Tryz.prog 219 [ow 0 p0.length,pI p1,pI p2] [roI p0] (.p (.tup [])) [roI RES] [] := by
 unfold Eg at hm
 refine SO Tryz.func219 rfl rfl [(0,ow 0 p0.length),(1,pI p1),(2,pI p2)] [(0,ob0 (roI p0))] ?_
 intro cx hnt
 refine Sq (RD hnt (nn 2 []) [1] [(6,pI p1)] [] [] tv ?_)
 refine Sq (RD hnt (nn 3 []) [2] [(7,pI (w64 (p2 - 1)))] [] [] tv ?_)
 refine Bk ?_
 refine DW.whileO (fun (s1 : (List Int) × Int × Int) => Aj [(0,ow 0 s1.1.length),(6,pI s1.2.1),(7,pI s1.2.2)] [(0,ob0 (roI s1.1))]) hm Conv.eqK ?_
 intro s1 n1 hm
 unfold Hk at hm
 refine Sq (Sq (RD hnt (nn 3 []) [] [(13,pB (decide (s1.2.1 < s1.2.2)))] [] [] tv ?_))
 refine Ae hm ?_ ?_
 ·intro h10 hm
  refine Sk ?_
  refine Bk ?_
  obtain ⟨g11,g12,g13,g14,hm⟩ := go4 hm
  obtain ⟨g15,g16,g17,g18,hm⟩ := go4 hm
  refine Sq (RN hnt (nn 16 []) [(0,ow 0 (c57e2 s1).length),(6,pI s1.2.1),(7,pI s1.2.2)] [(0,ob0 (roI (c57e2 s1)))] [(0,ow 0 s1.1.length)] [(0,.row 1 s1.1.length (c57e1 s1))] (an g11.1 (an g11.2 (an g12 (an g13.1 (an g13.2 (an g14 (an g15.1 (an g15.2 (an g16 (an g17.1 (an g17.2 (an g18 tv)))))))))))) (by kernel_rfl) (.cons rfl (MLe.ownLen (enc := Bn) (d := 0) (f := (c57e1 s1)) (RowIs.updR (RowIs.upd RowIs.elems (s1.1.getD (Int.toNat s1.2.2) 0) rfl) (by omega) (s1.1.getD (Int.toNat s1.2.1) 0) rfl)) .nil) (.cons rfl (BLe.typed (RowIs.updR (RowIs.upd RowIs.elems (s1.1.getD (Int.toNat s1.2.2) 0) rfl) (by omega) (s1.1.getD (Int.toNat s1.2.1) 0) rfl)) .nil) ?_)
  refine Sq (RD hnt (nn 3 []) [] [(6,pI (w64 (s1.2.1 + 1)))] [] [] tv ?_)
  refine RD hnt (nn 3 []) [] [(7,pI (w64 (s1.2.2 - 1)))] [] [] tv ?_
  refine DW.done ?_
  show DW _ _ _ _ _
  exact jD ((c57e2 s1),(w64 (s1.2.1 + 1)),(w64 (s1.2.2 - 1))) hm Conv.eqK
 ·intro h10 hm
  refine DW.exit ?_
  refine Ao ?_
  refine Aw ?_
  refine Ak ?_
  show DW _ _ _ _ _
  refine DW.done ?_
  obtain rfl := sj hm
  exact endK [roI s1.1] [] (.p (.tup []))
abbrev o57 (ks : List Nat) (b : Bool) (RES : List Int) (sm : List Nat := []) : Orc := .call 219 ks b (.p (.tup [])) [roI RES] [] sm

abbrev AdV (s15 : (List Int) × Int) := (s15.1.getD (Int.toNat (w64 (s15.2 - 1))) 0)
abbrev c58e2 (s1 : (List Int) × Int) (s12 : Int) := (Cc (Cc (elI s1.1) (Int.toNat s12) [vi (s1.1.getD (Int.toNat (w64 (s12 - 1))) 0)]) (Int.toNat (w64 (s12 - 1))) (setRange ((Cc (elI s1.1) (Int.toNat s12) [vi (s1.1.getD (Int.toNat (w64 (s12 - 1))) 0)]) (Int.toNat (w64 (s12 - 1)))) 0 [vi (s1.1.getD (Int.toNat s12) 0)]))
abbrev c58e3 (s16 : List Int) (k16 : Int) := (Cc (Cc (elI s16) (Int.toNat k16) [vi (s16.getD (Int.toNat (w64 (k16 - 1))) 0)]) (Int.toNat (w64 (k16 - 1))) (setRange ((Cc (elI s16) (Int.toNat k16) [vi (s16.getD (Int.toNat (w64 (k16 - 1))) 0)]) (Int.toNat (w64 (k16 - 1)))) 0 [vi (s16.getD (Int.toNat k16) 0)]))
abbrev c58e4 (s1 : (List Int) × Int) (s12 : Int) := ((s1.1.set (Int.toNat s12) (s1.1.getD (Int.toNat (w64 (s12 - 1))) 0)).set (Int.toNat (w64 (s12 - 1))) (s1.1.getD (Int.toNat s12) 0))
abbrev c58e5 (s16 : List Int) (k16 : Int) := ((s16.set (Int.toNat k16) (s16.getD (Int.toNat (w64 (k16 - 1))) 0)).set (Int.toNat (w64 (k16 - 1))) (s16.getD (Int.toNat k16) 0))
abbrev c58e6 (s15 : (List Int) × Int) := (Cc (Cc (elI s15.1) (Int.toNat s15.2) [vi (AdV s15)]) (Int.toNat (w64 (s15.2 - 1))) (setRange ((Cc (elI s15.1) (Int.toNat s15.2) [vi (AdV s15)]) (Int.toNat (w64 (s15.2 - 1)))) 0 [vi (s15.1.getD (Int.toNat s15.2) 0)]))
abbrev c58e7 (s15 : (List Int) × Int) := ((s15.1.set (Int.toNat s15.2) (AdV s15)).set (Int.toNat (w64 (s15.2 - 1))) (s15.1.getD (Int.toNat s15.2) 0))
theorem Mz (p0 : List Int) (p1 : Int) (p2 : Int) (RES : Bool × (List Int)) (hm : Ct p0 p1 p2 = some RES) : Spec Tryz.prog 220 [ow 0 p0.length,pI p1,pI p2] [roI p0] (pB RES.1) [roI RES.2] [] := by
 unfold Ct at hm
 refine SO Tryz.func220 rfl rfl [(0,ow 0 p0.length),(1,pI p1),(2,pI p2)] [(0,ob0 (roI p0))] ?_
 intro cx hnt
 refine Sq (RD hnt (.no :: []) [] [] [] [] tv ?_)
 refine Sq (RD hnt (nn 3 []) [] [(7,pI (w64 (p1 + 1)))] [] [] tv ?_)
 refine Sq (Sq (RD hnt (.no :: []) [] [(8,pI 0)] [] [] tv ?_))
 refine Bk ?_
 refine DW.forO (fun (k1 : Int) (s1 : (List Int) × Int) => Aj [(0,ow 0 s1.1.length),(1,pI p1),(2,pI p2),(7,pI s1.2),(8,pI k1)] [(0,ob0 (roI s1.1))]) (lo := 0) (hi := 5) hm Conv.eqK ?_
 intro k1 s1 n1 hk1 hs1 he1
 refine Sq (Sq (RD hnt (nn 2 []) [] [(14,pB (decide (k1 < 5)))] [] [] tv ?_))
 refine Cb (decide (k1 < 5)) ?_ ?_
 ·intro h391
  have hlt1 : k1 < 5 := by have := of_decide_eq_true h391; omega
  have hm := hs1 hlt1
  unfold Fk at hm
  refine Sk ?_
  refine Sq ?_
  refine Jn (ι := (List Int) × Int) (fun (y11 : (List Int) × Int) => Aj [(0,ow 0 y11.1.length),(1,pI p1),(2,pI p2),(7,pI y11.2),(8,pI k1)] [(0,ob0 (roI y11.1))]) (fun y11 => (Bw n1) y11 = some RES) ?_ ?_
  ·intro y11 hm
   unfold Bw at hm
   refine RD hnt (nn 3 []) [] [(8,pI (w64 (k1 + 1)))] [] [] tv ?_
   exact jD (y11.1,y11.2) ⟨hlt1,hm⟩ (Conv.tp [(8,pI (w64 (k1 + 1)))] [] (by kernel_rfl) (.cons rfl (.of_eq (congrArg pI (Yf (lo := 0) (hi := 5) (by omega) hk1 hlt1 (by omega)))) .nil) .nil)
  ·refine Bk ?_
   refine Sq (Bk ?_)
   refine DW.whileO (fun (s12 : Int) => Aj [(0,ow 0 s1.1.length),(1,pI p1),(2,pI p2),(7,pI s12),(8,pI k1)] [(0,ob0 (roI s1.1))]) hm Conv.t0 ?_
   intro s12 n12 hm
   unfold Ff at hm
   refine Sq (Sq ?_)
   refine Jn (ι := Bool) (fun (y14 : Bool) => Aj [(0,ow 0 s1.1.length),(1,pI p1),(2,pI p2),(7,pI s12),(8,pI k1),(32,pB y14)] [(0,ob0 (roI s1.1))]) (fun y14 => (Bv p1 p2 s1 n1 s12 n12) y14 = some RES) ?_ ?_
   ·intro y14 hm
    unfold Bv at hm
    refine Ae hm ?_ ?_
    ·intro h492 hm
     refine Sk ?_
     refine Bk ?_
     refine RD hnt (nn 3 []) [32] [(7,pI (w64 (s12 + 1)))] [] [] tv ?_
     refine DW.done ?_
     show DW _ _ _ _ _
     exact jD (w64 (s12 + 1)) hm Conv.eqK
    ·intro h492 hm
     refine DW.exit ?_
     refine Ao ?_
     refine Aw ?_
     refine Ak ?_
     show DW _ _ _ _ _
     refine Sq (Sq (RD hnt (nn 3 []) [32] [(37,pB (s12 == p2))] [] [] tv ?_))
     refine Ae hm ?_ ?_
     ·intro h493 hm
      refine Sq (RK hnt (.no :: []) [(6,pB true)] [(0,ob0 (roI s1.1))] tv ?_)
      obtain rfl := sj hm
      exact DW.ret (Ag [roI s1.1] [] (pB true))
     ·intro h493 hm
      refine Sk ?_
      refine Sq (Sq (RD hnt (nn 4 []) [37] [(41,pB (decide ((w64 (p2 - p1)) < 50)))] [] [] tv ?_))
      refine Ae hm ?_ ?_
      ·intro h494 hm
       refine Sq (RK hnt (.no :: []) [(6,pB false)] [(0,ob0 (roI s1.1))] tv ?_)
       obtain rfl := sj hm
       exact DW.ret (Ag [roI s1.1] [] (pB false))
      ·intro h494 hm
       refine Sk ?_
       obtain ⟨g495,g496,g497,g498,hm⟩ := go4 hm
       obtain ⟨g499,g500,g501,g502,hm⟩ := go4 hm
       refine Sq (RN hnt (nn 18 []) [(0,ow 0 (c58e4 s1 s12).length),(1,pI p1),(2,pI p2),(7,pI s12),(8,pI k1)] [(0,ob0 (roI (c58e4 s1 s12)))] [(0,ow 0 s1.1.length)] [(0,.row 1 s1.1.length (c58e2 s1 s12))] (an g495.1 (an g495.2 (an g496 (an g497.1 (an g497.2 (an g498 (an g499.1 (an g499.2 (an g500 (an g501.1 (an g501.2 (an g502 tv)))))))))))) (by kernel_rfl) (.cons rfl (MLe.ownLen (enc := Bn) (d := 0) (f := (c58e2 s1 s12)) (RowIs.updR (RowIs.upd RowIs.elems (s1.1.getD (Int.toNat (w64 (s12 - 1))) 0) rfl) (by omega) (s1.1.getD (Int.toNat s12) 0) rfl)) .nil) (.cons rfl (BLe.typed (RowIs.updR (RowIs.upd RowIs.elems (s1.1.getD (Int.toNat (w64 (s12 - 1))) 0) rfl) (by omega) (s1.1.getD (Int.toNat s12) 0) rfl)) .nil) ?_)
       refine Sq (Sq (RD hnt (nn 4 []) [] [(61,pB (decide ((w64 (s12 - p1)) ≥ 2)))] [] [] tv ?_))
       refine Jn (ι := List Int) (fun (y15 : List Int) => Aj [(0,ow 0 y15.length),(1,pI p1),(2,pI p2),(7,pI s12),(8,pI k1)] [(0,ob0 (roI y15))]) (fun y15 => (Bq p2 n1 s12) y15 = some RES) ?_ ?_
       ·intro y15 hm
        unfold Bq at hm
        refine Sq (RD hnt (nn 4 []) [] [(98,pB (decide ((w64 (p2 - s12)) ≥ 2)))] [] [] tv ?_)
        refine Ae hm ?_ ?_
        ·intro h534 hm
         refine Sq (RD hnt (nn 3 []) [98] [(10,pI (w64 (s12 + 1)))] [] [] tv ?_)
         refine Bk ?_
         obtain ⟨hc16,hm⟩ := go1 hm
         refine DW.forO (fun (k16 : Int) (s16 : List Int) => Aj [(0,ow 0 s16.length),(1,pI p1),(2,pI p2),(7,pI s12),(8,pI k1),(10,pI k16)] [(0,ob0 (roI s16))]) (lo := (w64 (s12 + 1))) (hi := p2) hm Conv.eqK ?_
         intro k16 s16 n16 hk16 hs16 he16
         refine Sq (Sq (RD hnt (nn 3 []) [] [(103,pB (decide (k16 < p2)))] [] [] tv ?_))
         refine Cb (decide (k16 < p2)) ?_ ?_
         ·intro h565
          have hlt16 : k16 < p2 := by have := of_decide_eq_true h565; omega
          have hm := hs16 hlt16
          unfold Fg at hm
          refine Sk ?_
          refine Sq (Bk ?_)
          obtain ⟨g566,g567,g568,g569,hm⟩ := go4 hm
          obtain ⟨r570,hr570,hm⟩ := bo hm
          refine Sq (Sq (RD hnt (nn 9 (o49 [] true r570 :: .no :: [])) [103] [(116,pB (!r570))] [] [] (an g566.1 (an g566.2 (an g567 (an g568.1 (an g568.2 (an g569 (an (Cn (s16.getD (Int.toNat k16) 0) (s16.getD (Int.toNat (w64 (k16 - 1))) 0) r570 hr570) tv))))))) ?_))
          refine Ae hm ?_ ?_
          ·intro h571 hm
           refine DW.exit ?_
           refine Nk (by decide) ?_
           refine Aw ?_
           refine Ao ?_
           refine Aw ?_
           refine Ak ?_
           show DW _ _ _ _ _
           exact bD (s16,s12) hm Conv.t0
          ·intro h571 hm
           refine Sk ?_
           obtain ⟨g572,g573,g574,g575,hm⟩ := go4 hm
           obtain ⟨g576,g577,g578,g579,hm⟩ := go4 hm
           refine RN hnt (nn 18 []) [(0,ow 0 (c58e5 s16 k16).length),(1,pI p1),(2,pI p2),(7,pI s12),(8,pI k1),(10,pI k16)] [(0,ob0 (roI (c58e5 s16 k16)))] [(0,ow 0 s16.length)] [(0,.row 1 s16.length (c58e3 s16 k16))] (an g572.1 (an g572.2 (an g573 (an g574.1 (an g574.2 (an g575 (an g576.1 (an g576.2 (an g577 (an g578.1 (an g578.2 (an g579 tv)))))))))))) (by kernel_rfl) (.cons rfl (MLe.ownLen (enc := Bn) (d := 0) (f := (c58e3 s16 k16)) (RowIs.updR (RowIs.upd RowIs.elems (s16.getD (Int.toNat (w64 (k16 - 1))) 0) rfl) (by omega) (s16.getD (Int.toNat k16) 0) rfl)) .nil) (.cons rfl (BLe.typed (RowIs.updR (RowIs.upd RowIs.elems (s16.getD (Int.toNat (w64 (k16 - 1))) 0) rfl) (by omega) (s16.getD (Int.toNat k16) 0) rfl)) .nil) ?_
           refine DW.done ?_
           show DW _ _ _ _ _
           refine RD hnt (nn 3 []) [] [(10,pI (w64 (k16 + 1)))] [] [] tv ?_
           exact jD (c58e5 s16 k16) ⟨hlt16,hm⟩ (Conv.tp [(10,pI (w64 (k16 + 1)))] [] (by kernel_rfl) (.cons rfl (.of_eq (congrArg pI (Yf (lo := (w64 (s12 + 1))) (hi := p2) (by omega) hk16 hlt16 (by omega)))) .nil) .nil)
         ·intro h565
          have hge16 : ¬ k16 < p2 := by have := of_decide_eq_false h565; omega
          have hm := he16 hge16
          unfold Hp at hm
          refine DW.exit ?_
          refine Ao ?_
          refine Aw ?_
          refine Ak ?_
          show DW _ _ _ _ _
          exact bD (s16,s12) hm Conv.t0
        ·intro h534 hm
         refine Sk ?_
         exact bD (y15,s12) hm Conv.t0
       ·refine Ae hm ?_ ?_
        ·intro h503 hm
         refine Sq (RD hnt (nn 3 []) [61] [(9,pI (w64 (s12 - 1)))] [] [] tv ?_)
         refine Bk ?_
         refine DW.whileO (fun (s15 : (List Int) × Int) => Aj [(0,ow 0 s15.1.length),(1,pI p1),(2,pI p2),(7,pI s12),(8,pI k1),(9,pI s15.2)] [(0,ob0 (roI s15.1))]) hm Conv.eqK ?_
         intro s15 n15 hm
         unfold Fe at hm
         refine Sq (Sq (RD hnt (nn 2 []) [] [(65,pB (decide (s15.2 ≥ 1)))] [] [] tv ?_))
         refine Ae hm ?_ ?_
         ·intro h519 hm
          refine Sk ?_
          refine Sq (Bk ?_)
          obtain ⟨g520,g521,g522,g523,hm⟩ := go4 hm
          obtain ⟨r524,hr524,hm⟩ := bo hm
          refine Sq (Sq (RD hnt (nn 9 (o49 [] true r524 :: .no :: [])) [65] [(78,pB (!r524))] [] [] (an g520.1 (an g520.2 (an g521 (an g522.1 (an g522.2 (an g523 (an (Cn (s15.1.getD (Int.toNat s15.2) 0) (AdV s15) r524 hr524) tv))))))) ?_))
          refine Ae hm ?_ ?_
          ·intro h525 hm
           refine DW.exit ?_
           refine Nk (by decide) ?_
           refine Aw ?_
           refine Ao ?_
           refine Aw ?_
           refine Ak ?_
           show DW _ _ _ _ _
           exact jD s15.1 hm Conv.t0
          ·intro h525 hm
           refine Sk ?_
           obtain ⟨g526,g527,g528,g529,hm⟩ := go4 hm
           obtain ⟨g530,g531,g532,g533,hm⟩ := go4 hm
           refine RN hnt (nn 18 []) [(0,ow 0 (c58e7 s15).length),(1,pI p1),(2,pI p2),(7,pI s12),(8,pI k1),(9,pI s15.2)] [(0,ob0 (roI (c58e7 s15)))] [(0,ow 0 s15.1.length)] [(0,.row 1 s15.1.length (c58e6 s15))] (an g526.1 (an g526.2 (an g527 (an g528.1 (an g528.2 (an g529 (an g530.1 (an g530.2 (an g531 (an g532.1 (an g532.2 (an g533 tv)))))))))))) (by kernel_rfl) (.cons rfl (MLe.ownLen (enc := Bn) (d := 0) (f := (c58e6 s15)) (RowIs.updR (RowIs.upd RowIs.elems (AdV s15) rfl) (by omega) (s15.1.getD (Int.toNat s15.2) 0) rfl)) .nil) (.cons rfl (BLe.typed (RowIs.updR (RowIs.upd RowIs.elems (AdV s15) rfl) (by omega) (s15.1.getD (Int.toNat s15.2) 0) rfl)) .nil) ?_
           refine DW.done ?_
           show DW _ _ _ _ _
           refine RD hnt (nn 3 []) [] [(9,pI (w64 (s15.2 - 1)))] [] [] tv ?_
           exact jD ((c58e7 s15),(w64 (s15.2 - 1))) hm Conv.eqK
         ·intro h519 hm
          refine DW.exit ?_
          refine Ao ?_
          refine Aw ?_
          refine Ak ?_
          show DW _ _ _ _ _
          exact jD s15.1 hm Conv.t0
        ·intro h503 hm
         refine Sk ?_
         exact jD (c58e4 s1 s12) hm Conv.t0
   ·rcases bt (decide (s12 < p2)) with h486 | h486
    ·replace hm := Bd h486 hm
     obtain ⟨g487,g488,g489,g490,hm⟩ := go4 hm
     obtain ⟨r491,hr491,hm⟩ := bo hm
     refine RD hnt (nn 13 (o49 [] true r491 :: .no :: pT :: [])) [] [(32,pB (!r491))] [] [] (an3 h486 (an g487.1 (an g487.2 (an h486 (an g488 (an4 h486 (an g489.1 (an g489.2 (an h486 (an g490 (an h486 (an (Cn (s1.1.getD (Int.toNat s12) 0) (s1.1.getD (Int.toNat (w64 (s12 - 1))) 0) r491 hr491) (an2 h486 tv))))))))))))) ?_
     exact jD (!r491) hm Conv.eqK
    ·replace hm := Bc h486 hm
     refine RD hnt (nn 4 (sk 11 (pF :: []))) [] [(32,pB false)] [] [] (an6 h486 (an6 h486 tv)) ?_
     exact jD false hm Conv.eqK
 ·intro h391
  have hge1 : ¬ k1 < 5 := by have := of_decide_eq_false h391; omega
  have hm := he1 hge1
  unfold Hz at hm
  refine DW.exit ?_
  refine Ao ?_
  refine Aw ?_
  refine Ak ?_
  show DW _ _ _ _ _
  refine Sq (RK hnt (.no :: []) [(6,pB false)] [(0,ob0 (roI s1.1))] tv ?_)
  obtain rfl := sj hm
  exact DW.ret (Ag [roI s1.1] [] (pB false))
abbrev o58 (ks : List Nat) (b : Bool) (RES : Bool × (List Int)) (sm : List Nat := []) : Orc := .call 220 ks b (pB RES.1) [roI RES.2] [] sm

abbrev c59e1 (p0 : List Int) (p1 : Int) (p3 : Int) := (Cc (Cc (elI p0) (Int.toNat p1) [vi (p0.getD (Int.toNat p3) 0)]) (Int.toNat p3) (setRange ((Cc (elI p0) (Int.toNat p1) [vi (p0.getD (Int.toNat p3) 0)]) (Int.toNat p3)) 0 [vi (p0.getD (Int.toNat p1) 0)]))
abbrev c59e2 (s1 : (List Int) × Int × Int) (s5 : Int) (s7 : Int) := (Cc (Cc (elI s1.1) (Int.toNat s5) [vi (s1.1.getD (Int.toNat s7) 0)]) (Int.toNat s7) (setRange ((Cc (elI s1.1) (Int.toNat s5) [vi (s1.1.getD (Int.toNat s7) 0)]) (Int.toNat s7)) 0 [vi (s1.1.getD (Int.toNat s5) 0)]))
abbrev c59e3 (s1 : (List Int) × Int × Int) (s5 : Int) (s7 : Int) := ((s1.1.set (Int.toNat s5) (s1.1.getD (Int.toNat s7) 0)).set (Int.toNat s7) (s1.1.getD (Int.toNat s5) 0))
theorem Qg (p0 : List Int) (p1 : Int) (p2 : Int) (p3 : Int) (RES : Int × (List Int)) (hm : Dp p0 p1 p2 p3 = some RES) : Spec Tryz.prog 222 [ow 0 p0.length,pI p1,pI p2,pI p3] [roI p0] (pI RES.1) [roI RES.2] [] := by
 unfold Dp at hm
 refine SO Tryz.func222 rfl rfl [(0,ow 0 p0.length),(1,pI p1),(2,pI p2),(3,pI p3)] [(0,ob0 (roI p0))] ?_
 intro cx hnt
 refine Sq (RD hnt (.no :: []) [] [] [] [] tv ?_)
 obtain ⟨g1,g2,g3,g4,hm⟩ := go4 hm
 obtain ⟨g5,g6,g7,g8,hm⟩ := go4 hm
 refine Sq (RN hnt (nn 16 []) [(0,ow 0 ((p0.set (Int.toNat p1) (p0.getD (Int.toNat p3) 0)).set (Int.toNat p3) (p0.getD (Int.toNat p1) 0)).length),(1,pI p1),(2,pI p2)] [(0,ob0 (roI ((p0.set (Int.toNat p1) (p0.getD (Int.toNat p3) 0)).set (Int.toNat p3) (p0.getD (Int.toNat p1) 0))))] [(0,ow 0 p0.length)] [(0,.row 1 p0.length (c59e1 p0 p1 p3))] (an g1.1 (an g1.2 (an g2 (an g3.1 (an g3.2 (an g4 (an g5.1 (an g5.2 (an g6 (an g7.1 (an g7.2 (an g8 tv)))))))))))) (by kernel_rfl) (.cons rfl (MLe.ownLen (enc := Bn) (d := 0) (f := (c59e1 p0 p1 p3)) (RowIs.updR (RowIs.upd RowIs.elems (p0.getD (Int.toNat p3) 0) rfl) (by omega) (p0.getD (Int.toNat p1) 0) rfl)) .nil) (.cons rfl (BLe.typed (RowIs.updR (RowIs.upd RowIs.elems (p0.getD (Int.toNat p3) 0) rfl) (by omega) (p0.getD (Int.toNat p1) 0) rfl)) .nil) ?_)
 refine Sq (RD hnt (nn 6 []) [2] [(9,pI (w64 (p1 + 1))),(10,pI (w64 (p2 - 1)))] [] [] tv ?_)
 refine Sq (Bk ?_)
 refine DW.whileO (fun (s1 : (List Int) × Int × Int) => Aj [(0,ow 0 s1.1.length),(1,pI p1),(9,pI s1.2.2),(10,pI s1.2.1)] [(0,ob0 (roI s1.1))]) hm Conv.eqK ?_
 intro s1 n1 hm
 unfold Gq at hm
 refine Bk ?_
 refine Sq (Bk ?_)
 refine DW.whileO (fun (s5 : Int) => Aj [(0,ow 0 s1.1.length),(1,pI p1),(9,pI s5),(10,pI s1.2.1)] [(0,ob0 (roI s1.1))]) hm .refl ?_
 intro s5 n5 hm
 unfold Gr at hm
 refine Sq (Sq ?_)
 refine Jn (ι := Bool) (fun (y10 : Bool) => Aj [(0,ow 0 s1.1.length),(1,pI p1),(9,pI s5),(10,pI s1.2.1),(43,pB y10)] [(0,ob0 (roI s1.1))]) (fun y10 => (Dc p1 s1 n1 s5 n5) y10 = some RES) ?_ ?_
 ·intro y10 hm
  unfold Dc at hm
  refine Ae hm ?_ ?_
  ·intro h156 hm
   refine Sk ?_
   refine Bk ?_
   refine RD hnt (nn 3 []) [43] [(9,pI (w64 (s5 + 1)))] [] [] tv ?_
   refine DW.done ?_
   show DW _ _ _ _ _
   exact jD (w64 (s5 + 1)) hm Conv.eqK
  ·intro h156 hm
   refine DW.exit ?_
   refine Ao ?_
   refine Aw ?_
   refine Ak ?_
   show DW _ _ _ _ _
   refine Sq (Bk ?_)
   refine DW.whileO (fun (s7 : Int) => Aj [(0,ow 0 s1.1.length),(1,pI p1),(9,pI s5),(10,pI s7)] [(0,ob0 (roI s1.1))]) hm Conv.t0 ?_
   intro s7 n7 hm
   unfold Et at hm
   refine Sq (Sq ?_)
   refine Jn (ι := Bool) (fun (y12 : Bool) => Aj [(0,ow 0 s1.1.length),(1,pI p1),(9,pI s5),(10,pI s7),(59,pB y12)] [(0,ob0 (roI s1.1))]) (fun y12 => (Dd s1 n1 s5 s7 n7) y12 = some RES) ?_ ?_
   ·intro y12 hm
    unfold Dd at hm
    refine Ae hm ?_ ?_
    ·intro h179 hm
     refine Sk ?_
     refine Bk ?_
     refine RD hnt (nn 3 []) [59] [(10,pI (w64 (s7 - 1)))] [] [] tv ?_
     refine DW.done ?_
     show DW _ _ _ _ _
     exact jD (w64 (s7 - 1)) hm Conv.eqK
    ·intro h179 hm
     refine DW.exit ?_
     refine Ao ?_
     refine Aw ?_
     refine Ak ?_
     show DW _ _ _ _ _
     refine Sq (Sq (RD hnt (nn 3 []) [59] [(64,pB (decide (s5 > s7)))] [] [] tv ?_))
     refine Ae hm ?_ ?_
     ·intro h180 hm
      refine DW.exit ?_
      refine Nk (by decide) ?_
      refine Aw ?_
      refine Ao ?_
      refine Aw ?_
      refine Ak ?_
      show DW _ _ _ _ _
      refine Sq (RK hnt (nn 2 []) [(8,pI s5)] [(0,ob0 (roI s1.1))] tv ?_)
      obtain rfl := sj hm
      exact DW.ret (Ag [roI s1.1] [] (pI s5))
     ·intro h180 hm
      refine Sk ?_
      obtain ⟨g181,g182,g183,g184,hm⟩ := go4 hm
      obtain ⟨g185,g186,g187,g188,hm⟩ := go4 hm
      refine Sq (RN hnt (nn 16 []) [(0,ow 0 (c59e3 s1 s5 s7).length),(1,pI p1),(9,pI s5),(10,pI s7)] [(0,ob0 (roI (c59e3 s1 s5 s7)))] [(0,ow 0 s1.1.length)] [(0,.row 1 s1.1.length (c59e2 s1 s5 s7))] (an g181.1 (an g181.2 (an g182 (an g183.1 (an g183.2 (an g184 (an g185.1 (an g185.2 (an g186 (an g187.1 (an g187.2 (an g188 tv)))))))))))) (by kernel_rfl) (.cons rfl (MLe.ownLen (enc := Bn) (d := 0) (f := (c59e2 s1 s5 s7)) (RowIs.updR (RowIs.upd RowIs.elems (s1.1.getD (Int.toNat s7) 0) rfl) (by omega) (s1.1.getD (Int.toNat s5) 0) rfl)) .nil) (.cons rfl (BLe.typed (RowIs.updR (RowIs.upd RowIs.elems (s1.1.getD (Int.toNat s7) 0) rfl) (by omega) (s1.1.getD (Int.toNat s5) 0) rfl)) .nil) ?_)
      refine Sq (RD hnt (nn 3 []) [] [(9,pI (w64 (s5 + 1)))] [] [] tv ?_)
      refine RD hnt (nn 3 []) [] [(10,pI (w64 (s7 - 1)))] [] [] tv ?_
      refine DW.done ?_
      show DW _ _ _ _ _
      exact jD ((c59e3 s1 s5 s7),(w64 (s7 - 1)),(w64 (s5 + 1))) hm Conv.eqK
   ·rcases bt (decide (s5 ≤ s7)) with h173 | h173
    ·replace hm := Bd h173 hm
     obtain ⟨g174,g175,g176,g177,hm⟩ := go4 hm
     obtain ⟨r178,hr178,hm⟩ := bo hm
     refine RD hnt (nn 12 (o49 [] true r178 :: pT :: [])) [] [(59,pB r178)] [] [] (an3 h173 (an g174.1 (an g174.2 (an h173 (an g175 (an3 h173 (an g176.1 (an g176.2 (an h173 (an g177 (an h173 (an (Cn (s1.1.getD (Int.toNat p1) 0) (s1.1.getD (Int.toNat s7) 0) r178 hr178) (an h173 tv))))))))))))) ?_
     exact jD r178 hm Conv.eqK
    ·replace hm := Bc h173 hm
     refine RD hnt (nn 4 (sk 9 (pF :: []))) [] [(59,pB false)] [] [] (an4 h173 (an6 h173 tv)) ?_
     exact jD false hm Conv.eqK
 ·rcases bt (decide (s5 ≤ s1.2.1)) with h150 | h150
  ·replace hm := Bd h150 hm
   obtain ⟨g151,g152,g153,g154,hm⟩ := go4 hm
   obtain ⟨r155,hr155,hm⟩ := bo hm
   refine RD hnt (nn 12 (o49 [] true r155 :: .no :: pT :: [])) [] [(43,pB (!r155))] [] [] (an3 h150 (an g151.1 (an g151.2 (an h150 (an g152 (an3 h150 (an g153.1 (an g153.2 (an h150 (an g154 (an h150 (an (Cn (s1.1.getD (Int.toNat p1) 0) (s1.1.getD (Int.toNat s5) 0) r155 hr155) (an2 h150 tv))))))))))))) ?_
   exact jD (!r155) hm Conv.eqK
  ·replace hm := Bc h150 hm
   refine RD hnt (nn 4 (sk 10 (pF :: []))) [] [(43,pB false)] [] [] (an5 h150 (an6 h150 tv)) ?_
   exact jD false hm Conv.eqK
abbrev o59 (ks : List Nat) (b : Bool) (RES : Int × (List Int)) (sm : List Nat := []) : Orc := .call 222 ks b (pI RES.1) [roI RES.2] [] sm

abbrev Cq (p0 : List Int) (p1 : Int) (p3 : Int) := ((p0.set (Int.toNat p1) (p0.getD (Int.toNat p3) 0)).set (Int.toNat p3) (p0.getD (Int.toNat p1) 0))
abbrev c60e2 (p0 : List Int) (p1 : Int) (p3 : Int) (s1 : Int) (s17 : Int) := (Cc (Cc (elI (Cq p0 p1 p3)) (Int.toNat s1) [vi ((Cq p0 p1 p3).getD (Int.toNat s17) 0)]) (Int.toNat s17) (setRange ((Cc (elI (Cq p0 p1 p3)) (Int.toNat s1) [vi ((Cq p0 p1 p3).getD (Int.toNat s17) 0)]) (Int.toNat s17)) 0 [vi ((Cq p0 p1 p3).getD (Int.toNat s1) 0)]))
abbrev c60e3 (p0 : List Int) (p1 : Int) (p3 : Int) := (Cc (Cc (elI p0) (Int.toNat p1) [vi (p0.getD (Int.toNat p3) 0)]) (Int.toNat p3) (setRange ((Cc (elI p0) (Int.toNat p1) [vi (p0.getD (Int.toNat p3) 0)]) (Int.toNat p3)) 0 [vi (p0.getD (Int.toNat p1) 0)]))
abbrev c60e4 (s25 : (List Int) × Int × Int) (s29 : Int) (s31 : Int) := (Cc (Cc (elI s25.1) (Int.toNat s29) [vi (s25.1.getD (Int.toNat s31) 0)]) (Int.toNat s31) (setRange ((Cc (elI s25.1) (Int.toNat s29) [vi (s25.1.getD (Int.toNat s31) 0)]) (Int.toNat s31)) 0 [vi (s25.1.getD (Int.toNat s29) 0)]))
abbrev c60e5 (s25 : (List Int) × Int × Int) (s29 : Int) (s31 : Int) := ((s25.1.set (Int.toNat s29) (s25.1.getD (Int.toNat s31) 0)).set (Int.toNat s31) (s25.1.getD (Int.toNat s29) 0))
theorem Tf (p0 : List Int) (p1 : Int) (p2 : Int) (p3 : Int) (RES : Int × Bool × (List Int)) (hm : Fh p0 p1 p2 p3 = some RES) : Spec Tryz.prog 223 [ow 0 p0.length,pI p1,pI p2,pI p3] [roI p0] (.p (.tup [vi RES.1,vb RES.2.1])) [roI RES.2.2] [] := by
 unfold Fh at hm
 refine SO Tryz.func223 rfl rfl [(0,ow 0 p0.length),(1,pI p1),(2,pI p2),(3,pI p3)] [(0,ob0 (roI p0))] ?_
 intro cx hnt
 refine Sq (RD hnt (nn 2 []) [] [] [] [] tv ?_)
 obtain ⟨g1,g2,g3,g4,hm⟩ := go4 hm
 obtain ⟨g5,g6,g7,g8,hm⟩ := go4 hm
 refine Sq (RN hnt (nn 16 []) [(0,ow 0 (Cq p0 p1 p3).length),(1,pI p1),(2,pI p2)] [(0,ob0 (roI (Cq p0 p1 p3)))] [(0,ow 0 p0.length)] [(0,.row 1 p0.length (c60e3 p0 p1 p3))] (an g1.1 (an g1.2 (an g2 (an g3.1 (an g3.2 (an g4 (an g5.1 (an g5.2 (an g6 (an g7.1 (an g7.2 (an g8 tv)))))))))))) (by kernel_rfl) (.cons rfl (MLe.ownLen (enc := Bn) (d := 0) (f := (c60e3 p0 p1 p3)) (RowIs.updR (RowIs.upd RowIs.elems (p0.getD (Int.toNat p3) 0) rfl) (by omega) (p0.getD (Int.toNat p1) 0) rfl)) .nil) (.cons rfl (BLe.typed (RowIs.updR (RowIs.upd RowIs.elems (p0.getD (Int.toNat p3) 0) rfl) (by omega) (p0.getD (Int.toNat p1) 0) rfl)) .nil) ?_)
 refine Sq (RD hnt (nn 6 []) [2] [(10,pI (w64 (p1 + 1))),(11,pI (w64 (p2 - 1)))] [] [] tv ?_)
 refine Sq (Bk ?_)
 refine DW.whileO (fun (s1 : Int) => Aj [(0,ow 0 (Cq p0 p1 p3).length),(1,pI p1),(10,pI s1),(11,pI (w64 (p2 - 1)))] [(0,ob0 (roI (Cq p0 p1 p3)))]) hm Conv.eqK ?_
 intro s1 n1 hm
 unfold Il at hm
 refine Sq (Sq ?_)
 refine Jn (ι := Bool) (fun (y28 : Bool) => Aj [(0,ow 0 (Cq p0 p1 p3).length),(1,pI p1),(10,pI s1),(11,pI (w64 (p2 - 1))),(43,pB y28)] [(0,ob0 (roI (Cq p0 p1 p3)))]) (fun y28 => (El p0 p1 p2 p3 s1 n1) y28 = some RES) ?_ ?_
 ·intro y28 hm
  unfold El at hm
  refine Ae hm ?_ ?_
  ·intro h588 hm
   refine Sk ?_
   refine Bk ?_
   refine RD hnt (nn 3 []) [43] [(10,pI (w64 (s1 + 1)))] [] [] tv ?_
   refine DW.done ?_
   show DW _ _ _ _ _
   exact jD (w64 (s1 + 1)) hm Conv.eqK
  ·intro h588 hm
   refine DW.exit ?_
   refine Ao ?_
   refine Aw ?_
   refine Ak ?_
   show DW _ _ _ _ _
   refine Sq (Bk ?_)
   refine DW.whileO (fun (s17 : Int) => Aj [(0,ow 0 (Cq p0 p1 p3).length),(1,pI p1),(10,pI s1),(11,pI s17)] [(0,ob0 (roI (Cq p0 p1 p3)))]) hm Conv.t0 ?_
   intro s17 n17 hm
   unfold Fz at hm
   refine Sq (Sq ?_)
   refine Jn (ι := Bool) (fun (y42 : Bool) => Aj [(0,ow 0 (Cq p0 p1 p3).length),(1,pI p1),(10,pI s1),(11,pI s17),(60,pB y42)] [(0,ob0 (roI (Cq p0 p1 p3)))]) (fun y42 => (Eh p0 p1 p3 s1 s17 n17) y42 = some RES) ?_ ?_
   ·intro y42 hm
    unfold Eh at hm
    refine Ae hm ?_ ?_
    ·intro h875 hm
     refine Sk ?_
     refine Bk ?_
     refine RD hnt (nn 3 []) [60] [(11,pI (w64 (s17 - 1)))] [] [] tv ?_
     refine DW.done ?_
     show DW _ _ _ _ _
     exact jD (w64 (s17 - 1)) hm Conv.eqK
    ·intro h875 hm
     refine DW.exit ?_
     refine Ao ?_
     refine Aw ?_
     refine Ak ?_
     show DW _ _ _ _ _
     refine Sq (Sq (RD hnt (nn 3 []) [60] [(65,pB (decide (s1 > s17)))] [] [] tv ?_))
     refine Ae hm ?_ ?_
     ·intro h876 hm
      obtain ⟨g877,g878,g879,g880,hm⟩ := go4 hm
      obtain ⟨g881,g882,g883,g884,hm⟩ := go4 hm
      refine Sq (RN hnt (nn 16 []) [(11,pI s17)] [(0,ob0 (roI (((Cq p0 p1 p3).set (Int.toNat s17) ((Cq p0 p1 p3).getD (Int.toNat p1) 0)).set (Int.toNat p1) ((Cq p0 p1 p3).getD (Int.toNat s17) 0))))] [] [(0,.row 1 (Cq p0 p1 p3).length (Cc (Cc (elI (Cq p0 p1 p3)) (Int.toNat s17) [vi ((Cq p0 p1 p3).getD (Int.toNat p1) 0)]) (Int.toNat p1) (setRange ((Cc (elI (Cq p0 p1 p3)) (Int.toNat s17) [vi ((Cq p0 p1 p3).getD (Int.toNat p1) 0)]) (Int.toNat p1)) 0 [vi ((Cq p0 p1 p3).getD (Int.toNat s17) 0)])))] (an g877.1 (an g877.2 (an g878 (an g879.1 (an g879.2 (an g880 (an g881.1 (an g881.2 (an g882 (an g883.1 (an g883.2 (an g884 tv)))))))))))) (by kernel_rfl) .nil (.cons rfl (BLe.typed (RowIs.updR (RowIs.upd RowIs.elems ((Cq p0 p1 p3).getD (Int.toNat p1) 0) rfl) (by omega) ((Cq p0 p1 p3).getD (Int.toNat s17) 0) rfl)) .nil) ?_)
      refine Sq (RD hnt (nn 3 []) [11] [(8,pI s17),(9,pB true)] [] [] tv ?_)
      obtain rfl := sj hm
      exact DW.ret (Ag [roI (((Cq p0 p1 p3).set (Int.toNat s17) ((Cq p0 p1 p3).getD (Int.toNat p1) 0)).set (Int.toNat p1) ((Cq p0 p1 p3).getD (Int.toNat s17) 0))] [] (.p (.tup [vi s17,vb true])))
     ·intro h876 hm
      refine Sk ?_
      obtain ⟨g885,g886,g887,g888,hm⟩ := go4 hm
      obtain ⟨g889,g890,g891,g892,hm⟩ := go4 hm
      refine Sq (RN hnt (nn 16 []) [(0,ow 0 (((Cq p0 p1 p3).set (Int.toNat s1) ((Cq p0 p1 p3).getD (Int.toNat s17) 0)).set (Int.toNat s17) ((Cq p0 p1 p3).getD (Int.toNat s1) 0)).length),(1,pI p1),(10,pI s1),(11,pI s17)] [(0,ob0 (roI (((Cq p0 p1 p3).set (Int.toNat s1) ((Cq p0 p1 p3).getD (Int.toNat s17) 0)).set (Int.toNat s17) ((Cq p0 p1 p3).getD (Int.toNat s1) 0))))] [(0,ow 0 (Cq p0 p1 p3).length)] [(0,.row 1 (Cq p0 p1 p3).length (c60e2 p0 p1 p3 s1 s17))] (an g885.1 (an g885.2 (an g886 (an g887.1 (an g887.2 (an g888 (an g889.1 (an g889.2 (an g890 (an g891.1 (an g891.2 (an g892 tv)))))))))))) (by kernel_rfl) (.cons rfl (MLe.ownLen (enc := Bn) (d := 0) (f := (c60e2 p0 p1 p3 s1 s17)) (RowIs.updR (RowIs.upd RowIs.elems ((Cq p0 p1 p3).getD (Int.toNat s17) 0) rfl) (by omega) ((Cq p0 p1 p3).getD (Int.toNat s1) 0) rfl)) .nil) (.cons rfl (BLe.typed (RowIs.updR (RowIs.upd RowIs.elems ((Cq p0 p1 p3).getD (Int.toNat s17) 0) rfl) (by omega) ((Cq p0 p1 p3).getD (Int.toNat s1) 0) rfl)) .nil) ?_)
      refine Sq (RD hnt (nn 3 []) [] [(10,pI (w64 (s1 + 1)))] [] [] tv ?_)
      refine Sq (RD hnt (nn 3 []) [] [(11,pI (w64 (s17 - 1)))] [] [] tv ?_)
      refine Sq (Bk ?_)
      refine DW.whileO (fun (s25 : (List Int) × Int × Int) => Aj [(0,ow 0 s25.1.length),(1,pI p1),(10,pI s25.2.1),(11,pI s25.2.2)] [(0,ob0 (roI s25.1))]) hm Conv.eqK ?_
      intro s25 n25 hm
      unfold Gc at hm
      refine Bk ?_
      refine Sq (Bk ?_)
      refine DW.whileO (fun (s29 : Int) => Aj [(0,ow 0 s25.1.length),(1,pI p1),(10,pI s29),(11,pI s25.2.2)] [(0,ob0 (roI s25.1))]) hm .refl ?_
      intro s29 n29 hm
      unfold Hr at hm
      refine Sq (Sq ?_)
      refine Jn (ι := Bool) (fun (y52 : Bool) => Aj [(0,ow 0 s25.1.length),(1,pI p1),(10,pI s29),(11,pI s25.2.2),(112,pB y52)] [(0,ob0 (roI s25.1))]) (fun y52 => (Em p1 s25 n25 s29 n29) y52 = some RES) ?_ ?_
      ·intro y52 hm
       unfold Em at hm
       refine Ae hm ?_ ?_
       ·intro h1088 hm
        refine Sk ?_
        refine Bk ?_
        refine RD hnt (nn 3 []) [112] [(10,pI (w64 (s29 + 1)))] [] [] tv ?_
        refine DW.done ?_
        show DW _ _ _ _ _
        exact jD (w64 (s29 + 1)) hm Conv.eqK
       ·intro h1088 hm
        refine DW.exit ?_
        refine Ao ?_
        refine Aw ?_
        refine Ak ?_
        show DW _ _ _ _ _
        refine Sq (Bk ?_)
        refine DW.whileO (fun (s31 : Int) => Aj [(0,ow 0 s25.1.length),(1,pI p1),(10,pI s29),(11,pI s31)] [(0,ob0 (roI s25.1))]) hm Conv.t0 ?_
        intro s31 n31 hm
        unfold Ga at hm
        refine Sq (Sq ?_)
        refine Jn (ι := Bool) (fun (y54 : Bool) => Aj [(0,ow 0 s25.1.length),(1,pI p1),(10,pI s29),(11,pI s31),(129,pB y54)] [(0,ob0 (roI s25.1))]) (fun y54 => (Ek p1 s25 n25 s29 s31 n31) y54 = some RES) ?_ ?_
        ·intro y54 hm
         unfold Ek at hm
         refine Ae hm ?_ ?_
         ·intro h1119 hm
          refine Sk ?_
          refine Bk ?_
          refine RD hnt (nn 3 []) [129] [(11,pI (w64 (s31 - 1)))] [] [] tv ?_
          refine DW.done ?_
          show DW _ _ _ _ _
          exact jD (w64 (s31 - 1)) hm Conv.eqK
         ·intro h1119 hm
          refine DW.exit ?_
          refine Ao ?_
          refine Aw ?_
          refine Ak ?_
          show DW _ _ _ _ _
          refine Sq (Sq (RD hnt (nn 3 []) [129] [(134,pB (decide (s29 > s31)))] [] [] tv ?_))
          refine Ae hm ?_ ?_
          ·intro h1120 hm
           refine DW.exit ?_
           refine Nk (by decide) ?_
           refine Aw ?_
           refine Ao ?_
           refine Aw ?_
           refine Ak ?_
           show DW _ _ _ _ _
           obtain ⟨g1121,g1122,g1123,g1124,hm⟩ := go4 hm
           obtain ⟨g1125,g1126,g1127,g1128,hm⟩ := go4 hm
           refine Sq (RN hnt (nn 16 []) [(11,pI s31)] [(0,ob0 (roI ((s25.1.set (Int.toNat s31) (s25.1.getD (Int.toNat p1) 0)).set (Int.toNat p1) (s25.1.getD (Int.toNat s31) 0))))] [] [(0,.row 1 s25.1.length (Cc (Cc (elI s25.1) (Int.toNat s31) [vi (s25.1.getD (Int.toNat p1) 0)]) (Int.toNat p1) (setRange ((Cc (elI s25.1) (Int.toNat s31) [vi (s25.1.getD (Int.toNat p1) 0)]) (Int.toNat p1)) 0 [vi (s25.1.getD (Int.toNat s31) 0)])))] (an g1121.1 (an g1121.2 (an g1122 (an g1123.1 (an g1123.2 (an g1124 (an g1125.1 (an g1125.2 (an g1126 (an g1127.1 (an g1127.2 (an g1128 tv)))))))))))) (by kernel_rfl) .nil (.cons rfl (BLe.typed (RowIs.updR (RowIs.upd RowIs.elems (s25.1.getD (Int.toNat p1) 0) rfl) (by omega) (s25.1.getD (Int.toNat s31) 0) rfl)) .nil) ?_)
           refine Sq (RD hnt (nn 3 []) [11] [(8,pI s31),(9,pB false)] [] [] tv ?_)
           obtain rfl := sj hm
           exact DW.ret (Ag [roI ((s25.1.set (Int.toNat s31) (s25.1.getD (Int.toNat p1) 0)).set (Int.toNat p1) (s25.1.getD (Int.toNat s31) 0))] [] (.p (.tup [vi s31,vb false])))
          ·intro h1120 hm
           refine Sk ?_
           obtain ⟨g1129,g1130,g1131,g1132,hm⟩ := go4 hm
           obtain ⟨g1133,g1134,g1135,g1136,hm⟩ := go4 hm
           refine Sq (RN hnt (nn 16 []) [(0,ow 0 (c60e5 s25 s29 s31).length),(1,pI p1),(10,pI s29),(11,pI s31)] [(0,ob0 (roI (c60e5 s25 s29 s31)))] [(0,ow 0 s25.1.length)] [(0,.row 1 s25.1.length (c60e4 s25 s29 s31))] (an g1129.1 (an g1129.2 (an g1130 (an g1131.1 (an g1131.2 (an g1132 (an g1133.1 (an g1133.2 (an g1134 (an g1135.1 (an g1135.2 (an g1136 tv)))))))))))) (by kernel_rfl) (.cons rfl (MLe.ownLen (enc := Bn) (d := 0) (f := (c60e4 s25 s29 s31)) (RowIs.updR (RowIs.upd RowIs.elems (s25.1.getD (Int.toNat s31) 0) rfl) (by omega) (s25.1.getD (Int.toNat s29) 0) rfl)) .nil) (.cons rfl (BLe.typed (RowIs.updR (RowIs.upd RowIs.elems (s25.1.getD (Int.toNat s31) 0) rfl) (by omega) (s25.1.getD (Int.toNat s29) 0) rfl)) .nil) ?_)
           refine Sq (RD hnt (nn 3 []) [] [(10,pI (w64 (s29 + 1)))] [] [] tv ?_)
           refine RD hnt (nn 3 []) [] [(11,pI (w64 (s31 - 1)))] [] [] tv ?_
           refine DW.done ?_
           show DW _ _ _ _ _
           exact jD ((c60e5 s25 s29 s31),(w64 (s29 + 1)),(w64 (s31 - 1))) hm Conv.eqK
        ·rcases bt (decide (s29 ≤ s31)) with h1113 | h1113
         ·replace hm := Bd h1113 hm
          obtain ⟨g1114,g1115,g1116,g1117,hm⟩ := go4 hm
          obtain ⟨r1118,hr1118,hm⟩ := bo hm
          refine RD hnt (nn 12 (o49 [] true r1118 :: .no :: pT :: [])) [] [(129,pB (!r1118))] [] [] (an3 h1113 (an g1114.1 (an g1114.2 (an h1113 (an g1115 (an3 h1113 (an g1116.1 (an g1116.2 (an h1113 (an g1117 (an h1113 (an (Cn (s25.1.getD (Int.toNat s31) 0) (s25.1.getD (Int.toNat p1) 0) r1118 hr1118) (an2 h1113 tv))))))))))))) ?_
          exact jD (!r1118) hm Conv.eqK
         ·replace hm := Bc h1113 hm
          refine RD hnt (nn 4 (sk 10 (pF :: []))) [] [(129,pB false)] [] [] (an5 h1113 (an6 h1113 tv)) ?_
          exact jD false hm Conv.eqK
      ·rcases bt (decide (s29 ≤ s25.2.2)) with h1082 | h1082
       ·replace hm := Bd h1082 hm
        obtain ⟨g1083,g1084,g1085,g1086,hm⟩ := go4 hm
        obtain ⟨r1087,hr1087,hm⟩ := bo hm
        refine RD hnt (nn 12 (o49 [] true r1087 :: pT :: [])) [] [(112,pB r1087)] [] [] (an3 h1082 (an g1083.1 (an g1083.2 (an h1082 (an g1084 (an3 h1082 (an g1085.1 (an g1085.2 (an h1082 (an g1086 (an h1082 (an (Cn (s25.1.getD (Int.toNat s29) 0) (s25.1.getD (Int.toNat p1) 0) r1087 hr1087) (an h1082 tv))))))))))))) ?_
        exact jD r1087 hm Conv.eqK
       ·replace hm := Bc h1082 hm
        refine RD hnt (nn 4 (sk 9 (pF :: []))) [] [(112,pB false)] [] [] (an4 h1082 (an6 h1082 tv)) ?_
        exact jD false hm Conv.eqK
   ·rcases bt (decide (s1 ≤ s17)) with h869 | h869
    ·replace hm := Bd h869 hm
     obtain ⟨g870,g871,g872,g873,hm⟩ := go4 hm
     obtain ⟨r874,hr874,hm⟩ := bo hm
     refine RD hnt (nn 12 (o49 [] true r874 :: .no :: pT :: [])) [] [(60,pB (!r874))] [] [] (an3 h869 (an g870.1 (an g870.2 (an h869 (an g871 (an3 h869 (an g872.1 (an g872.2 (an h869 (an g873 (an h869 (an (Cn ((Cq p0 p1 p3).getD (Int.toNat s17) 0) ((Cq p0 p1 p3).getD (Int.toNat p1) 0) r874 hr874) (an2 h869 tv))))))))))))) ?_
     exact jD (!r874) hm Conv.eqK
    ·replace hm := Bc h869 hm
     refine RD hnt (nn 4 (sk 10 (pF :: []))) [] [(60,pB false)] [] [] (an5 h869 (an6 h869 tv)) ?_
     exact jD false hm Conv.eqK
 ·rcases bt (decide (s1 ≤ (w64 (p2 - 1)))) with h582 | h582
  ·replace hm := Bd h582 hm
   obtain ⟨g583,g584,g585,g586,hm⟩ := go4 hm
   obtain ⟨r587,hr587,hm⟩ := bo hm
   refine RD hnt (nn 12 (o49 [] true r587 :: pT :: [])) [] [(43,pB r587)] [] [] (an3 h582 (an g583.1 (an g583.2 (an h582 (an g584 (an3 h582 (an g585.1 (an g585.2 (an h582 (an g586 (an h582 (an (Cn ((Cq p0 p1 p3).getD (Int.toNat s1) 0) ((Cq p0 p1 p3).getD (Int.toNat p1) 0) r587 hr587) (an h582 tv))))))))))))) ?_
   exact jD r587 hm Conv.eqK
  ·replace hm := Bc h582 hm
   refine RD hnt (nn 4 (sk 9 (pF :: []))) [] [(43,pB false)] [] [] (an4 h582 (an6 h582 tv)) ?_
   exact jD false hm Conv.eqK
abbrev o60 (ks : List Nat) (b : Bool) (RES : Int × Bool × (List Int)) (sm : List Nat := []) : Orc := .call 223 ks b (.p (.tup [vi RES.1,vb RES.2.1])) [roI RES.2.2] [] sm

theorem Xj (p0 : Int) (RES : Int) (hm : Gd p0 = some RES) : Spec Tryz.prog 243 [pI p0] [] (.p (vk .u64 RES)) [] [] := by
 unfold Gd at hm
 refine SO Tryz.func243 rfl rfl [(0,pI p0)] [] ?_
 intro cx hnt
 refine Sq (RK hnt (.no :: []) [(0,pI p0)] [] tv ?_)
 obtain ⟨r1,hr1,hm⟩ := bo hm
 obtain ⟨g2,hm⟩ := go1 hm
 refine Sq (RK hnt (nn 2 (o45 [] true r1 :: nn 2 [])) [(2,.p (vk .u64 (kshl .u64 1 r1)))] [] (an (AcD (IntKind.u64.wrap p0) r1 hr1) (an g2 tv)) ?_)
 obtain rfl := sj hm
 exact DW.ret (Ag [] [] (.p (vk .u64 (kshl .u64 1 r1))))
abbrev o62 (ks : List Nat) (b : Bool) (RES : Int) (sm : List Nat := []) : Orc := .call 243 ks b (.p (vk .u64 RES)) [] [] sm

theorem Ze (p0 : Int) (RES : Int × Int) (hm : Ko p0 = some RES) : Spec Tryz.prog 244 [rr 0] [.box [.p (vk .u64 p0)]] (.p (vk .u64 RES.1)) [.box [.p (vk .u64 RES.2)]] [] := by
 unfold Ko at hm
 refine SO Tryz.func244 rfl rfl [(0,rr 0)] [(0,bx [.p (vk .u64 p0)])] ?_
 intro cx hnt
 refine Sq (RD hnt (.no :: []) [] [] [] [] tv ?_)
 refine Sq (RK hnt (nn 10 []) [(0,rr 0)] [(0,bx [.p (vk .u64 (kxor .u64 p0 (kshl .u64 p0 13)))])] (an (by decide : (0 : Int) ≤ 13) tv) ?_)
 refine Sq (RK hnt (nn 10 []) [(0,rr 0)] [(0,bx [.p (vk .u64 (kxor .u64 (kxor .u64 p0 (kshl .u64 p0 13)) (kshr .u64 (kxor .u64 p0 (kshl .u64 p0 13)) 7)))])] (an (by decide : (0 : Int) ≤ 7) tv) ?_)
 refine Sq (RK hnt (nn 10 []) [(0,rr 0)] [(0,bx [.p (vk .u64 (kxor .u64 (kxor .u64 (kxor .u64 p0 (kshl .u64 p0 13)) (kshr .u64 (kxor .u64 p0 (kshl .u64 p0 13)) 7)) (kshl .u64 (kxor .u64 (kxor .u64 p0 (kshl .u64 p0 13)) (kshr .u64 (kxor .u64 p0 (kshl .u64 p0 13)) 7)) 17)))])] (an (by decide : (0 : Int) ≤ 17) tv) ?_)
 refine Sq (RD hnt (nn 4 []) [0] [(2,.p (vk .u64 (kxor .u64 (kxor .u64 (kxor .u64 p0 (kshl .u64 p0 13)) (kshr .u64 (kxor .u64 p0 (kshl .u64 p0 13)) 7)) (kshl .u64 (kxor .u64 (kxor .u64 p0 (kshl .u64 p0 13)) (kshr .u64 (kxor .u64 p0 (kshl .u64 p0 13)) 7)) 17))))] [] [] tv ?_)
 obtain rfl := sj hm
 exact DW.ret (Ag [.box [.p (vk .u64 (kxor .u64 (kxor .u64 (kxor .u64 p0 (kshl .u64 p0 13)) (kshr .u64 (kxor .u64 p0 (kshl .u64 p0 13)) 7)) (kshl .u64 (kxor .u64 (kxor .u64 p0 (kshl .u64 p0 13)) (kshr .u64 (kxor .u64 p0 (kshl .u64 p0 13)) 7)) 17)))]] [] (.p (vk .u64 (kxor .u64 (kxor .u64 (kxor .u64 p0 (kshl .u64 p0 13)) (kshr .u64 (kxor .u64 p0 (kshl .u64 p0 13)) 7)) (kshl .u64 (kxor .u64 (kxor .u64 p0 (kshl .u64 p0 13)) (kshr .u64 (kxor .u64 p0 (kshl .u64 p0 13)) 7)) 17)))))
abbrev o63 (ks : List Nat) (b : Bool) (RES : Int × Int) (sm : List Nat := []) : Orc := .call 244 ks b (.p (vk .u64 RES.1)) [.box [.p (vk .u64 RES.2)]] [] sm

abbrev c61e1 (s1 : (List Int) × Int × Int) (p1 : Int) (y2 : Int) := (Cc (Cc (elI s1.1) (Int.toNat s1.2.2) [vi (s1.1.getD (Int.toNat (w64 (p1 + y2))) 0)]) (Int.toNat (w64 (p1 + y2))) (setRange ((Cc (elI s1.1) (Int.toNat s1.2.2) [vi (s1.1.getD (Int.toNat (w64 (p1 + y2))) 0)]) (Int.toNat (w64 (p1 + y2)))) 0 [vi (s1.1.getD (Int.toNat s1.2.2) 0)]))
abbrev c61e2 (s1 : (List Int) × Int × Int) (p1 : Int) (y2 : Int) := ((s1.1.set (Int.toNat s1.2.2) (s1.1.getD (Int.toNat (w64 (p1 + y2))) 0)).set (Int.toNat (w64 (p1 + y2))) (s1.1.getD (Int.toNat s1.2.2) 0))
abbrev c61e3 (r15 : Int × Int) (r2 : Int) := (w64 (kand .u64 r15.1 (IntKind.u64.wrap (r2 - 1))))
theorem Qu (p0 : List Int) (p1 : Int) (p2 : Int) (RES : List Int) (hm : Dw p0 p1 p2 = some RES) : Spec Tryz.prog 217 [ow 0 p0.length,pI p1,pI p2] [roI p0] (.p (.tup [])) [roI RES] [] := by
 unfold Dw at hm
 refine SO Tryz.func217 rfl rfl [(0,ow 0 p0.length),(1,pI p1),(2,pI p2)] [(0,ob0 (roI p0))] ?_
 intro cx hnt
 refine Sq (RD hnt (nn 4 []) [2] [(6,pI (w64 (p2 - p1)))] [] [] tv ?_)
 refine Sq (RD hnt (nn 2 []) [] [(15,pB (decide ((w64 (p2 - p1)) ≥ 8)))] [] [] tv ?_)
 refine Ae hm ?_ ?_
 ·intro h1 hm
  refine Sq (RD hnt (nn 4 []) [15] [(7,rr 1056)] [] [(1056,bx [.p (vk .u64 (IntKind.u64.wrap (w64 (p2 - p1))))])] tv ?_)
  obtain ⟨r2,hr2,hm⟩ := bo hm
  refine Sq (RD hnt (.no :: o62 [] true r2 :: .no :: []) [] [(8,.p (vk .u64 r2))] [] [] (an (Xj (w64 (p2 - p1)) r2 hr2) tv) ?_)
  refine Sq (RD hnt (nn 7 []) [] [(9,pI (w64 ((w64 (p1 + (w64 ((w64 (Int.tdiv (w64 (p2 - p1)) 4)) * 2)))) - 1)))] [] [] (an (by decide : (4 : Int) ≠ 0) tv) ?_)
  refine Bk ?_
  refine DW.whileO (fun (s1 : (List Int) × Int × Int) => Aj [(0,ow 0 s1.1.length),(1,pI p1),(6,pI (w64 (p2 - p1))),(7,rr 1056),(8,.p (vk .u64 r2)),(9,pI s1.2.2)] [(0,ob0 (roI s1.1)),(1056,bx [.p (vk .u64 s1.2.1)])]) hm Conv.eqK ?_
  intro s1 n1 hm
  unfold Ha at hm
  refine Sq (Sq (RD hnt (nn 8 []) [] [(33,pB (decide (s1.2.2 ≤ (w64 ((w64 (p1 + (w64 ((w64 (Int.tdiv (w64 (p2 - p1)) 4)) * 2)))) + 1)))))] [] [] (an (by decide : (4 : Int) ≠ 0) tv) ?_))
  refine Ae hm ?_ ?_
  ·intro h14 hm
   refine Sk ?_
   refine Sq (Bk ?_)
   obtain ⟨r15,hr15,hm⟩ := bo hm
   refine Sq (RD hnt (o63 [1056] true r15 :: nn 5 []) [33] [(10,pI (c61e3 r15 r2))] [] [(1056,bx [.p (vk .u64 r15.2)])] (an (Ze s1.2.1 r15 hr15) (an tv tv)) ?_)
   refine Sq (Sq (RD hnt (nn 3 []) [] [(43,pB (decide ((c61e3 r15 r2) ≥ (w64 (p2 - p1)))))] [] [] tv ?_))
   refine Jn (ι := Int) (fun (y2 : Int) => Aj [(0,ow 0 s1.1.length),(1,pI p1),(6,pI (w64 (p2 - p1))),(7,rr 1056),(8,.p (vk .u64 r2)),(9,pI s1.2.2),(10,pI y2)] [(0,ob0 (roI s1.1)),(1056,bx [.p (vk .u64 r15.2)])]) (fun y2 => (Cp p1 s1 n1 r15) y2 = some RES) ?_ ?_
   ·intro y2 hm
    unfold Cp at hm
    obtain ⟨g17,g18,g19,g20,hm⟩ := go4 hm
    obtain ⟨g21,g22,g23,g24,hm⟩ := go4 hm
    refine RN hnt (nn 20 []) [(0,ow 0 (c61e2 s1 p1 y2).length),(1,pI p1),(6,pI (w64 (p2 - p1))),(7,rr 1056),(8,.p (vk .u64 r2)),(9,pI s1.2.2)] [(0,ob0 (roI (c61e2 s1 p1 y2))),(1056,bx [.p (vk .u64 r15.2)])] [(0,ow 0 s1.1.length)] [(0,.row 1 s1.1.length (c61e1 s1 p1 y2))] (an g17.1 (an g17.2 (an g18 (an g19.1 (an g19.2 (an g20 (an g21.1 (an g21.2 (an g22 (an g23.1 (an g23.2 (an g24 tv)))))))))))) (by kernel_rfl) (.cons rfl (MLe.ownLen (enc := Bn) (d := 0) (f := (c61e1 s1 p1 y2)) (RowIs.updR (RowIs.upd RowIs.elems (s1.1.getD (Int.toNat (w64 (p1 + y2))) 0) rfl) (by omega) (s1.1.getD (Int.toNat s1.2.2) 0) rfl)) .nil) (.cons rfl (BLe.typed (RowIs.updR (RowIs.upd RowIs.elems (s1.1.getD (Int.toNat (w64 (p1 + y2))) 0) rfl) (by omega) (s1.1.getD (Int.toNat s1.2.2) 0) rfl)) .nil) ?_
    refine DW.done ?_
    show DW _ _ _ _ _
    refine RD hnt (nn 3 []) [] [(9,pI (w64 (s1.2.2 + 1)))] [] [] tv ?_
    exact jD ((c61e2 s1 p1 y2),r15.2,(w64 (s1.2.2 + 1))) hm Conv.eqK
   ·refine Ae hm ?_ ?_
    ·intro h16 hm
     refine RD hnt (nn 4 []) [43] [(10,pI (w64 ((c61e3 r15 r2) - (w64 (p2 - p1)))))] [] [] tv ?_
     exact jD (w64 ((c61e3 r15 r2) - (w64 (p2 - p1)))) hm Conv.eqK
    ·intro h16 hm
     refine Sk ?_
     exact jD (c61e3 r15 r2) hm Conv.t0
  ·intro h14 hm
   refine DW.exit ?_
   refine Ao ?_
   refine Aw ?_
   refine Ak ?_
   show DW _ _ _ _ _
   refine DW.done ?_
   obtain rfl := sj hm
   exact endK [roI s1.1] [] (.p (.tup []))
 ·intro h1 hm
  refine Sk ?_
  refine DW.done ?_
  obtain rfl := sj hm
  exact endK [roI p0] [] (.p (.tup []))
abbrev o61 (ks : List Nat) (b : Bool) (RES : List Int) (sm : List Nat := []) : Orc := .call 217 ks b (.p (.tup [])) [roI RES] [] sm

abbrev Vn (s1 : (List Int) × Int × Int × Int × Bool × Bool) : Nat × MV := (10,pI (w64 (s1.2.2.1 - s1.2.1)))
abbrev AbA (s1 : (List Int) × Int × Int × Int × Bool × Bool) := (w64 (Int.tdiv (w64 (s1.2.2.1 - s1.2.1)) 8))
theorem Uh (rec : (List Int) → Int → Int → Int → Option (List Int)) (ih : ∀ (p0 : List Int) (p1 : Int) (p2 : Int) (p3 : Int) (RES : List Int),rec p0 p1 p2 p3 = some RES → Spec Tryz.prog 181 [ow 0 p0.length,pI p1,pI p2,pI p3] [roI p0] (.p (.tup [])) [roI RES] []) (p0 : List Int) (p1 : Int) (p2 : Int) (p3 : Int) (RES : List Int) (hm : Hd rec p0 p1 p2 p3 = some RES) : Spec Tryz.prog 181 [ow 0 p0.length,pI p1,pI p2,pI p3] [roI p0] (.p (.tup [])) [roI RES] [] := by
 unfold Hd at hm
 refine SO Tryz.func181 rfl rfl [(0,ow 0 p0.length),(1,pI p1),(2,pI p2),(3,pI p3)] [(0,ob0 (roI p0))] ?_
 intro cx hnt
 refine Sq (RD hnt (.no :: []) [] [(8,pB true)] [] [] tv ?_)
 refine Sq (RD hnt (.no :: []) [] [(9,pB true)] [] [] tv ?_)
 refine Bk ?_
 refine DW.whileO (fun (s1 : (List Int) × Int × Int × Int × Bool × Bool) => Aj [(0,ow 0 s1.1.length),(1,pI s1.2.1),(2,pI s1.2.2.1),(3,pI s1.2.2.2.1),(8,pB s1.2.2.2.2.1),(9,pB s1.2.2.2.2.2)] [(0,ob0 (roI s1.1))]) hm Conv.eqK ?_
 intro s1 n1 hm
 unfold Js at hm
 refine Bk ?_
 refine Sq (RD hnt (nn 4 []) [] [(Vn s1)] [] [] tv ?_)
 refine Sq (Sq (RD hnt (nn 2 []) [] [(23,pB (decide ((w64 (s1.2.2.1 - s1.2.1)) ≤ 12)))] [] [] tv ?_))
 refine Ae hm ?_ ?_
 ·intro h66 hm
  obtain ⟨r67,hr67,hm⟩ := bo hm
  obtain ⟨g68,hm⟩ := go1 hm
  refine Sq (RK hnt (nn 3 (o48 [0] true r67 :: [])) [] [(0,ob0 (roI r67))] (an (Rg s1.1 s1.2.1 s1.2.2.1 r67 hr67) (an (⟨rfl,g68⟩ : Body.same (roI s1.1) (roI r67)) tv)) ?_)
  obtain rfl := sj hm
  exact DW.ret (Ag [roI r67] [] (.p (.tup [])))
 ·intro h66 hm
  refine Sk ?_
  refine Sq (Sq (RD hnt (nn 2 []) [23] [(29,pB (s1.2.2.2.1 == 0))] [] [] tv ?_))
  refine Ae hm ?_ ?_
  ·intro h69 hm
   obtain ⟨r70,hr70,hm⟩ := bo hm
   obtain ⟨g71,hm⟩ := go1 hm
   refine Sq (RK hnt (nn 3 (o51 [0] true r70 :: [])) [] [(0,ob0 (roI r70))] (an (Tu s1.1 s1.2.1 s1.2.2.1 r70 hr70) (an (⟨rfl,g71⟩ : Body.same (roI s1.1) (roI r70)) tv)) ?_)
   obtain rfl := sj hm
   exact DW.ret (Ag [roI r70] [] (.p (.tup [])))
  ·intro h69 hm
   refine Sk ?_
   refine Sq (Sq (RD hnt (nn 2 []) [29] [(35,pB (!s1.2.2.2.2.1))] [] [] tv ?_))
   refine Jn (ι := (List Int) × Int) (fun (y8 : (List Int) × Int) => Aj [(0,ow 0 y8.1.length),(1,pI s1.2.1),(2,pI s1.2.2.1),(3,pI y8.2),(8,pB s1.2.2.2.2.1),(9,pB s1.2.2.2.2.2),(Vn s1)] [(0,ob0 (roI y8.1))]) (fun y8 => (Dv rec s1 n1) y8 = some RES) ?_ ?_
   ·intro y8 hm
    unfold Dv at hm
    obtain ⟨r75,hr75,hm⟩ := bo hm
    refine Sq (RD hnt (nn 3 (o53 [] true r75 :: nn 5 [])) [] [(11,pI r75.1),(12,pI r75.2)] [] [] (an (Se y8.1 s1.2.1 s1.2.2.1 r75 hr75) tv) ?_)
    refine Sq (Sq (RD hnt (nn 2 []) [] [(50,pB (r75.2 == 2))] [] [] tv ?_))
    refine Jn (ι := (List Int) × Int × Int) (fun (y9 : (List Int) × Int × Int) => Aj [(0,ow 0 y9.1.length),(1,pI s1.2.1),(2,pI s1.2.2.1),(3,pI y8.2),(8,pB s1.2.2.2.2.1),(9,pB s1.2.2.2.2.2),(Vn s1),(11,pI y9.2.1),(12,pI y9.2.2)] [(0,ob0 (roI y9.1))]) (fun y9 => (Dt rec s1 n1 y8) y9 = some RES) ?_ ?_
    ·intro y9 hm
     unfold Dt at hm
     refine Sq (Sq (DW.regJ (sl2 := [(0,ow 0 y9.1.length),(1,pI s1.2.1),(2,pI s1.2.2.1),(3,pI y8.2),(8,pB s1.2.2.2.2.1),(9,pB s1.2.2.2.2.2),(Vn s1),(11,pI y9.2.1),(68,pB ((s1.2.2.2.2.1 && s1.2.2.2.2.2) && (y9.2.2 == 1)))]) (ob2 := [(0,ob0 (roI y9.1))]) ?_ ?_))
     ·rcases bt s1.2.2.2.2.1 with h79 | h79
      ·rcases bt s1.2.2.2.2.2 with h80 | h80
       ·exact RT hnt (nn 3 (pT :: nn 3 (pT :: []))) [(68,pB (y9.2.2 == 1))] (an2 h79 (an3 h80 tv)) (by kernel_rfl) (.cons rfl (.of_eq (by rw [h79,h80]; try rfl)) .nil)
       ·exact RT hnt (nn 3 (pT :: .no :: sk 2 (pF :: []))) [(68,pB false)] (an2 h79 (an3 h80 tv)) (by kernel_rfl) (.cons rfl (.of_eq (by rw [h79,h80]; try rfl)) .nil)
      ·exact RT hnt (nn 2 (.skip :: pF :: .no :: sk 2 (pF :: []))) [(68,pB false)] (an2 h79 (an3 ff tv)) (by kernel_rfl) (.cons rfl (.of_eq (by rw [h79]; try rfl)) .nil)
     ·refine Jn (ι := List Int) (fun (y10 : List Int) => Aj [(0,ow 0 y10.length),(1,pI s1.2.1),(2,pI s1.2.2.1),(3,pI y8.2),(8,pB s1.2.2.2.2.1),(9,pB s1.2.2.2.2.2),(Vn s1),(11,pI y9.2.1)] [(0,ob0 (roI y10))]) (fun y10 => (Dj rec s1 n1 y8 y9) y10 = some RES) ?_ ?_
      ·intro y10 hm
       unfold Dj at hm
       refine Sq (Sq ?_)
       refine Jn (ι := Bool) (fun (y11 : Bool) => Aj [(0,ow 0 y10.length),(1,pI s1.2.1),(2,pI s1.2.2.1),(3,pI y8.2),(8,pB s1.2.2.2.2.1),(9,pB s1.2.2.2.2.2),(Vn s1),(11,pI y9.2.1),(87,pB y11)] [(0,ob0 (roI y10))]) (fun y11 => (Dk rec s1 n1 y8 y9 y10) y11 = some RES) ?_ ?_
       ·intro y11 hm
        unfold Dk at hm
        refine Ae hm ?_ ?_
        ·intro h91 hm
         obtain ⟨r92,hr92,hm⟩ := bo hm
         obtain ⟨g93,hm⟩ := go1 hm
         refine Sq (RN hnt (nn 4 (o59 [0] true r92 :: .no :: [])) [(0,ow 0 r92.2.length),(2,pI s1.2.2.1),(3,pI y8.2),(8,pB s1.2.2.2.2.1),(9,pB s1.2.2.2.2.2),(13,pI r92.1)] [(0,ob0 (roI r92.2))] [(0,ow 0 y10.length)] [] (an (Qg y10 s1.2.1 s1.2.2.1 y9.2.1 r92 hr92) (an (⟨rfl,g93⟩ : Body.same (roI y10) (roI r92.2)) tv)) (by kernel_rfl) (.cons rfl (MLe.of_eq (congrArg (MV.own 0 0 0) g93)) .nil) .nil ?_)
         refine Sq (RD hnt (nn 2 []) [13] [(1,pI r92.1)] [] [] tv ?_)
         refine DW.exit ?_
         refine Ak ?_
         show DW _ _ _ _ _
         exact jD (r92.2,r92.1,s1.2.2.1,y8.2,s1.2.2.2.2.1,s1.2.2.2.2.2) hm Conv.eqK
        ·intro h91 hm
         refine Sk ?_
         obtain ⟨r94,hr94,hm⟩ := bo hm
         obtain ⟨g95,hm⟩ := go1 hm
         refine Sq (RN hnt (nn 4 (o60 [0] true r94 :: nn 5 [])) [(0,ow 0 r94.2.2.length),(1,pI s1.2.1),(2,pI s1.2.2.1),(3,pI y8.2),(Vn s1),(14,pI r94.1),(15,pB r94.2.1)] [(0,ob0 (roI r94.2.2))] [(0,ow 0 y10.length)] [] (an (Tf y10 s1.2.1 s1.2.2.1 y9.2.1 r94 hr94) (an (⟨rfl,g95⟩ : Body.same (roI y10) (roI r94.2.2)) tv)) (by kernel_rfl) (.cons rfl (MLe.of_eq (congrArg (MV.own 0 0 0) g95)) .nil) .nil ?_)
         refine Sq (RD hnt (nn 2 []) [15] [(9,pB r94.2.1)] [] [] tv ?_)
         refine Sq (RD hnt (nn 8 []) [] [(16,pI (w64 (r94.1 - s1.2.1))),(17,pI (w64 (s1.2.2.1 - r94.1)))] [] [] tv ?_)
         refine Sq (RD hnt (nn 3 []) [10] [(18,pI (AbA s1))] [] [] (an (by decide : (8 : Int) ≠ 0) tv) ?_)
         refine Sq (RD hnt (nn 3 []) [] [(113,pB (decide ((w64 (r94.1 - s1.2.1)) < (w64 (s1.2.2.1 - r94.1)))))] [] [] tv ?_)
         refine Ae hm ?_ ?_
         ·intro h96 hm
          refine Sq (RD hnt (nn 4 []) [16,17,18,113] [(8,pB (decide ((w64 (r94.1 - s1.2.1)) ≥ (AbA s1))))] [] [] tv ?_)
          obtain ⟨r97,hr97,hm⟩ := bo hm
          obtain ⟨g98,hm⟩ := go1 hm
          refine Sq (RN hnt (nn 4 (.call 181 [0] true (.p (.tup [])) [roI r97] [] [] :: [])) [(0,ow 0 r97.length),(2,pI s1.2.2.1),(3,pI y8.2),(8,pB (decide ((w64 (r94.1 - s1.2.1)) ≥ (AbA s1)))),(9,pB r94.2.1),(14,pI r94.1)] [(0,ob0 (roI r97))] [(0,ow 0 r94.2.2.length)] [] (an (ih r94.2.2 s1.2.1 r94.1 y8.2 r97 hr97) (an (⟨rfl,g98⟩ : Body.same (roI r94.2.2) (roI r97)) tv)) (by kernel_rfl) (.cons rfl (MLe.of_eq (congrArg (MV.own 0 0 0) g98)) .nil) .nil ?_)
          refine RD hnt (nn 3 []) [14] [(1,pI (w64 (r94.1 + 1)))] [] [] tv ?_
          refine DW.done ?_
          show DW _ _ _ _ _
          exact jD (r97,(w64 (r94.1 + 1)),s1.2.2.1,y8.2,(decide ((w64 (r94.1 - s1.2.1)) ≥ (AbA s1))),r94.2.1) hm Conv.eqK
         ·intro h96 hm
          refine Sq (RD hnt (nn 4 []) [16,17,18,113] [(8,pB (decide ((w64 (s1.2.2.1 - r94.1)) ≥ (AbA s1))))] [] [] tv ?_)
          obtain ⟨r99,hr99,hm⟩ := bo hm
          obtain ⟨g100,hm⟩ := go1 hm
          refine Sq (RN hnt (nn 5 (.call 181 [0] true (.p (.tup [])) [roI r99] [] [] :: [])) [(0,ow 0 r99.length),(1,pI s1.2.1),(3,pI y8.2),(8,pB (decide ((w64 (s1.2.2.1 - r94.1)) ≥ (AbA s1)))),(9,pB r94.2.1),(14,pI r94.1)] [(0,ob0 (roI r99))] [(0,ow 0 r94.2.2.length)] [] (an (ih r94.2.2 (w64 (r94.1 + 1)) s1.2.2.1 y8.2 r99 hr99) (an (⟨rfl,g100⟩ : Body.same (roI r94.2.2) (roI r99)) tv)) (by kernel_rfl) (.cons rfl (MLe.of_eq (congrArg (MV.own 0 0 0) g100)) .nil) .nil ?_)
          refine RD hnt (nn 2 []) [14] [(2,pI r94.1)] [] [] tv ?_
          refine DW.done ?_
          show DW _ _ _ _ _
          exact jD (r99,s1.2.1,r94.1,y8.2,(decide ((w64 (s1.2.2.1 - r94.1)) ≥ (AbA s1))),r94.2.1) hm Conv.eqK
       ·rcases bt (decide (s1.2.1 > 0)) with h85 | h85
        ·replace hm := Bd h85 hm
         obtain ⟨g86,g87,g88,g89,hm⟩ := go4 hm
         obtain ⟨r90,hr90,hm⟩ := bo hm
         refine RD hnt (nn 12 (o49 [] true r90 :: .no :: pT :: [])) [] [(87,pB (!r90))] [] [] (an4 h85 (an g86.1 (an g86.2 (an h85 (an g87 (an3 h85 (an g88.1 (an g88.2 (an h85 (an g89 (an h85 (an (Cn (y10.getD (Int.toNat (w64 (s1.2.1 - 1))) 0) (y10.getD (Int.toNat y9.2.1) 0) r90 hr90) (an2 h85 tv))))))))))))) ?_
         exact jD (!r90) hm Conv.eqK
        ·replace hm := Bc h85 hm
         refine RD hnt (nn 3 (sk 11 (pF :: []))) [] [(87,pB false)] [] [] (an6 h85 (an6 h85 tv)) ?_
         exact jD false hm Conv.eqK
      ·refine Ae hm ?_ ?_
       ·intro h81 hm
        obtain ⟨r82,hr82,hm⟩ := bo hm
        obtain ⟨g83,hm⟩ := go1 hm
        refine Sq (RN hnt (nn 3 (o58 [0] true r82 :: [])) [(0,ow 0 r82.2.length),(1,pI s1.2.1),(2,pI s1.2.2.1),(3,pI y8.2),(8,pB s1.2.2.2.2.1),(9,pB s1.2.2.2.2.2),(Vn s1),(11,pI y9.2.1),(72,pB r82.1)] [(0,ob0 (roI r82.2))] [(0,ow 0 y9.1.length)] [] (an (Mz y9.1 s1.2.1 s1.2.2.1 r82 hr82) (an (⟨rfl,g83⟩ : Body.same (roI y9.1) (roI r82.2)) tv)) (by kernel_rfl) (.cons rfl (MLe.of_eq (congrArg (MV.own 0 0 0) g83)) .nil) .nil ?_)
        refine Ae hm ?_ ?_
        ·intro h84 hm
         obtain rfl := sj hm
         exact DW.ret (Ag [roI r82.2] [] (.p (.tup [])))
        ·intro h84 hm
         refine Sk ?_
         exact jD r82.2 hm Conv.t0
       ·intro h81 hm
        refine Sk ?_
        exact jD y9.1 hm Conv.t0
    ·refine Ae hm ?_ ?_
     ·intro h76 hm
      obtain ⟨r77,hr77,hm⟩ := bo hm
      obtain ⟨g78,hm⟩ := go1 hm
      refine Sq (RN hnt (nn 3 (o57 [0] true r77 :: [])) [(0,ow 0 r77.length),(1,pI s1.2.1),(2,pI s1.2.2.1),(3,pI y8.2),(8,pB s1.2.2.2.2.1),(9,pB s1.2.2.2.2.2),(Vn s1),(11,pI r75.1)] [(0,ob0 (roI r77))] [(0,ow 0 y8.1.length)] [] (an (Rm y8.1 s1.2.1 s1.2.2.1 r77 hr77) (an (⟨rfl,g78⟩ : Body.same (roI y8.1) (roI r77)) tv)) (by kernel_rfl) (.cons rfl (MLe.of_eq (congrArg (MV.own 0 0 0) g78)) .nil) .nil ?_)
      refine Sq (RD hnt (nn 7 []) [] [(11,pI (w64 ((w64 (s1.2.2.1 - 1)) - (w64 (r75.1 - s1.2.1)))))] [] [] tv ?_)
      refine RD hnt (.no :: []) [] [(12,pI 1)] [] [] tv ?_
      exact jD (r77,(w64 ((w64 (s1.2.2.1 - 1)) - (w64 (r75.1 - s1.2.1)))),1) hm Conv.eqK
     ·intro h76 hm
      refine Sk ?_
      exact jD (y8.1,r75.1,r75.2) hm Conv.t0
   ·refine Ae hm ?_ ?_
    ·intro h72 hm
     obtain ⟨r73,hr73,hm⟩ := bo hm
     obtain ⟨g74,hm⟩ := go1 hm
     refine Sq (RN hnt (nn 3 (o61 [0] true r73 :: [])) [(0,ow 0 r73.length),(1,pI s1.2.1),(2,pI s1.2.2.1),(3,pI s1.2.2.2.1),(8,pB s1.2.2.2.2.1),(9,pB s1.2.2.2.2.2),(Vn s1)] [(0,ob0 (roI r73))] [(0,ow 0 s1.1.length)] [] (an (Qu s1.1 s1.2.1 s1.2.2.1 r73 hr73) (an (⟨rfl,g74⟩ : Body.same (roI s1.1) (roI r73)) tv)) (by kernel_rfl) (.cons rfl (MLe.of_eq (congrArg (MV.own 0 0 0) g74)) .nil) .nil ?_)
     refine RD hnt (nn 3 []) [] [(3,pI (w64 (s1.2.2.2.1 - 1)))] [] [] tv ?_
     exact jD (r73,(w64 (s1.2.2.2.1 - 1))) hm Conv.eqK
    ·intro h72 hm
     refine Sk ?_
     exact jD (s1.1,s1.2.2.2.1) hm Conv.t0
theorem Mc : ∀ (n : Nat) (p0 : List Int) (p1 : Int) (p2 : Int) (p3 : Int) (RES : List Int),Ca n p0 p1 p2 p3 = some RES → Spec Tryz.prog 181 [ow 0 p0.length,pI p1,pI p2,pI p3] [roI p0] (.p (.tup [])) [roI RES] []
  | 0,p0,p1,p2,p3,RES,hm => by simp [Ca] at hm
  | n + 1,p0,p1,p2,p3,RES,hm => Uh (Ca n) (Mc n) p0 p1 p2 p3 RES hm
theorem Uo (p0 : List Int) (p1 : Int) (p2 : Int) (p3 : Int) (RES : List Int) (hm : Kp p0 p1 p2 p3 = some RES) : Spec Tryz.prog 181 [ow 0 p0.length,pI p1,pI p2,pI p3] [roI p0] (.p (.tup [])) [roI RES] [] := Mc Dz p0 p1 p2 p3 RES hm
abbrev o47 (ks : List Nat) (b : Bool) (RES : List Int) (sm : List Nat := []) : Orc := .call 181 ks b (.p (.tup [])) [roI RES] [] sm

theorem Acn (p0 : List Int) (RES : List Int) (hm : Mh p0 = some RES) : Spec Tryz.prog 116 [ow 0 p0.length] [roI p0] (.p (.tup [])) [roI RES] [] := by
 unfold Mh at hm
 refine SO Tryz.func116 rfl rfl [(0,ow 0 p0.length)] [(0,ob0 (roI p0))] ?_
 intro cx hnt
 refine Sq (RD hnt (nn 3 []) [] [(2,pI ((p0.length : Nat) : Int))] [] [] tv ?_)
 obtain ⟨r1,hr1,hm⟩ := bo hm
 obtain ⟨r2,hr2,hm⟩ := bo hm
 obtain ⟨g3,hm⟩ := go1 hm
 refine RK hnt (nn 4 (o45 [] true r1 :: o47 [0] true r2 :: [])) [] [(0,ob0 (roI r2))] (an (AcD (IntKind.u64.wrap ((p0.length : Nat) : Int)) r1 hr1) (an (Uo p0 0 ((p0.length : Nat) : Int) r1 r2 hr2) (an (⟨rfl,g3⟩ : Body.same (roI p0) (roI r2)) tv))) ?_
 refine DW.done ?_
 obtain rfl := sj hm
 exact endK [roI r2] [] (.p (.tup []))
abbrev o44 (ks : List Nat) (b : Bool) (RES : List Int) (sm : List Nat := []) : Orc := .call 116 ks b (.p (.tup [])) [roI RES] [] sm

abbrev AdY : Nat × Obj := (1048,bx [.p (.sl .nil 0 0 (fun _ => [])),.p (.sl .nil 0 0 (fun _ => []))])
abbrev Ln (p0 : Aa) (k1 : Nat) := (p0.tasks.getD k1 (default : Au))
abbrev c43e3 (p0 : Aa) : Nat × MV := (21,pI ((p0.tasks.length : Nat) : Int))
abbrev AdE (r3 : freezer) : Nat × Obj := (1145,ob0 (Am r3.f.frosts))
abbrev c43e5 (r3 : freezer) (s1 : List Int) : Nat × Obj := (1144,bx [.p (Bb r3.h.tree.nodes),pI r3.h.tree.next,.p (Bg r3.h.tasks),pI r3.h.next,ow 1145 r3.f.frosts.length,ow 1146 s1.length])
abbrev c43e6 (p0 : Aa) : Nat × Obj := (1024,bx (pm (Ab p0)))
abbrev c43e7 (p1 : Ac) : Nat × Obj := (1032,bx (pm (Ai p1)))
theorem Mg (p0 : Aa) (p1 : Ac) (p2 : List Int) (RES : Ac × Int) (hm : Jl p0 p1 p2 = some RES) : Spec Tryz.prog 53 [.p (.agg (Ab p0)),.p (.agg (Ai p1)),.p (slI p2)] [] (.tup [.agg [ow 0 RES.1.frosts.length,ow 1 RES.1.stopped.length],pI RES.2]) [] [Am RES.1.frosts,roI RES.1.stopped] := by
 unfold Jl at hm
 refine SO Tryz.func53 rfl rfl [(0,.p (.agg (Ab p0))),(1,.p (.agg (Ai p1))),(2,.p (slI p2))] [] ?_
 intro cx hnt
 refine Sq (RK hnt (nn 4 []) [(2,.p (slI p2)),(3,rr 1024),(4,rr 1032),(6,rr 1048)] [(c43e6 p0),(c43e7 p1),(AdY)] tv ?_)
 obtain ⟨r1,hr1,hm⟩ := bo hm
 refine Sq (Sq (RD hnt (nn 2 (o21 [] true r1 :: .no :: [])) [] [(14,pB (!r1))] [] [] (an (Yn p0 p1 r1 hr1) tv) ?_))
 refine Ae hm ?_ ?_
 ·intro h2 hm
  refine Sq (RD hnt (nn 3 []) [2,3,4,14] [(7,pI 1)] [1024,1032] [] tv ?_)
  refine DW.cv [] [] [] [(1048,bx [ow 100000 0,ow 100001 0]),(100000,ob0 (Am [])),(100001,ob0 (roI []))] (Conv.ads [(.o 1048 0,100000,4,elems Bh Bi []),(.o 1048 1,100001,1,elems Bn 0 [])]) ?_
  obtain rfl := sj hm
  exact DW.ret (Ag [Am [],roI []] [100000,100001] (.tup [.agg [ow 0 0,ow 1 0],pI 1]))
 ·intro h2 hm
  refine Sk ?_
  obtain ⟨r3,hr3,hm⟩ := bo hm
  refine Sq (RD hnt (nn 2 (o35 [] true r3 :: .no :: [])) [14] [(8,rr 1144)] [] [(1144,bx [.p (Bb r3.h.tree.nodes),pI r3.h.tree.next,.p (Bg r3.h.tasks),pI r3.h.next,ow 1145 r3.f.frosts.length,ow 1146 r3.f.stopped.length]),(AdE r3),(1146,ob0 (roI r3.f.stopped))] (an (Aap p0 p1 r3 hr3) tv) ?_)
  refine Sq (Sq (RD hnt (nn 4 []) [] [(20,.p (Bg p0.tasks)),(c43e3 p0),(22,pI 0)] [] [] tv ?_))
  refine Bk ?_
  obtain ⟨hc1,hm⟩ := go1 hm
  refine DW.rangeO (fun (k1 : Nat) (s1 : List Int) => Aj [(2,.p (slI p2)),(3,rr 1024),(4,rr 1032),(6,rr 1048),(8,rr 1144),(20,.p (Bg p0.tasks)),(c43e3 p0),(22,pI ((k1 : Nat) : Int))] [(c43e6 p0),(c43e7 p1),(AdY),(c43e5 r3 s1),(AdE r3),(1146,ob0 (roI s1))]) Br hm Conv.eqK ?_
  intro k1 s1 n1 hk1 hs1 he1
  refine Sq (RD hnt (.no :: []) [] [(23,pB (decide (((k1 : Nat) : Int) < ((p0.tasks.length : Nat) : Int))))] [] [] tv ?_)
  refine Sq (Cb (decide (((k1 : Nat) : Int) < ((p0.tasks.length : Nat) : Int))) ?_ ?_)
  ·intro h32
   have hlt1 : k1 < p0.tasks.length := by have := of_decide_eq_true h32; omega
   have hm := hs1 hlt1
   unfold Wv at hm
   refine Sk ?_
   refine Sq ?_
   refine Jn (ι := List Int) (fun (y5 : List Int) => Aj [(2,.p (slI p2)),(3,rr 1024),(4,rr 1032),(6,rr 1048),(8,rr 1144),(20,.p (Bg p0.tasks)),(c43e3 p0),(22,pI ((k1 : Nat) : Int))] [(c43e6 p0),(c43e7 p1),(AdY),(1144,bx [.p (Bb r3.h.tree.nodes),pI r3.h.tree.next,.p (Bg r3.h.tasks),pI r3.h.next,ow 1145 r3.f.frosts.length,ow 1146 y5.length]),(AdE r3),(1146,ob0 (roI y5))]) (fun y5 => (Ol n1) y5 = some RES) ?_ ?_
   ·intro y5 hm
    unfold Ol at hm
    refine RD hnt (nn 2 []) [] [(22,pI (w64 (((k1 : Nat) : Int) + 1)))] [] [] tv ?_
    exact jD y5 ⟨hlt1,hm⟩ (Conv.tp [(22,pI (w64 (((k1 : Nat) : Int) + 1)))] [] (by kernel_rfl) (.cons rfl (.of_eq (congrArg pI (Bl hlt1 hc1))) .nil) .nil)
   ·refine Bk ?_
    refine Sq (RD hnt (nn 4 []) [23] [(10,rr 1080)] [] [(1080,bx (pm (Ax (Ln p0 k1))))] (an (nn0 k1) (an (ltc hlt1) tv)) ?_)
    obtain ⟨r33,hr33,hm⟩ := bo hm
    refine Sq ?_
    refine Jn (ι := Bool) (fun (y6 : Bool) => Aj [(2,.p (slI p2)),(3,rr 1024),(4,rr 1032),(6,rr 1048),(8,rr 1144),(10,rr 1080),(20,.p (Bg p0.tasks)),(c43e3 p0),(22,pI ((k1 : Nat) : Int)),(48,pB y6)] [(c43e6 p0),(c43e7 p1),(AdY),(1080,bx (pm (Ax (Ln p0 k1)))),(c43e5 r3 s1),(AdE r3),(1146,ob0 (roI s1))]) (fun y6 => (Lx (Ln p0 k1) s1 n1) y6 = some RES) ?_ ?_
    ·intro y6 hm
     unfold Lx at hm
     refine Ae hm ?_ ?_
     ·intro h38 hm
      obtain ⟨g39,hm⟩ := go1 hm
      refine RN hnt (nn 14 []) [(2,.p (slI p2)),(3,rr 1024),(4,rr 1032),(6,rr 1048),(8,rr 1144),(20,.p (Bg p0.tasks)),(c43e3 p0),(22,pI ((k1 : Nat) : Int))] [(c43e6 p0),(c43e7 p1),(AdY),(1144,bx [.p (Bb r3.h.tree.nodes),pI r3.h.tree.next,.p (Bg r3.h.tasks),pI r3.h.next,ow 1145 r3.f.frosts.length,ow 1146 (s1 ++ [(Ln p0 k1).id]).length]),(AdE r3),(1146,ob0 (roI (s1 ++ [(Ln p0 k1).id])))] [] [(1144,.box [.p (Bb r3.h.tree.nodes),pI r3.h.tree.next,.p (Bg r3.h.tasks),pI r3.h.next,ow 1145 r3.f.frosts.length,ow 1146 (s1.length + 1)]),(1146,.row 1 (s1.length + 1) (Cw s1.length (elI s1) (cut 1 [vi (Ln p0 k1).id])))] (an (by omega : (s1.length + 1) * 8 ≤ 140737488355328) tv) (by kernel_rfl) .nil (.cons rfl (.box (.cons .rfl (.cons .rfl (.cons .rfl (.cons .rfl (.cons .rfl (.cons (MLe.ownLen (enc := Bn) (d := 0) (f := (Cw s1.length (elI s1) (cut 1 [vi (Ln p0 k1).id]))) (RowIs.cat RowIs.elems (RowIs.lit (enc := Bn) (d := 0) (n := 1) (f := (cut 1 [vi (Ln p0 k1).id])) [(Ln p0 k1).id] rfl (fun | 0,_ => rfl | n + 1,h => absurd h (by omega))))) .nil))))))) (.cons rfl (BLe.typed (RowIs.cat RowIs.elems (RowIs.lit (enc := Bn) (d := 0) (n := 1) (f := (cut 1 [vi (Ln p0 k1).id])) [(Ln p0 k1).id] rfl (fun | 0,_ => rfl | n + 1,h => absurd h (by omega))))) .nil)) ?_
      exact bD (s1 ++ [(Ln p0 k1).id]) hm .refl
     ·intro h38 hm
      refine Sk ?_
      exact bD s1 hm Conv.t0
    ·rcases bt r33 with h34 | h34
     ·replace hm := Bd h34 hm
      obtain ⟨r35,hr35,hm⟩ := bo hm
      rcases bt (!r35) with h36 | h36
      ·replace hm := Bd h36 hm
       obtain ⟨r37,hr37,hm⟩ := bo hm
       refine RD hnt (nn 5 (o23 [] true r33 :: nn 4 (o30 [] true r35 :: .no :: pT :: nn 7 (o32 [] true r37 :: .no :: pT :: [])))) [] [(48,pB (!r37))] [] [] (an (Iy p0.tree p1 (Ln p0 k1).group r33 hr33) (an4 h34 (an (Gp p2 (Ln p0 k1).id r35 hr35) (an2 h34 (an h36 (an6 h36 (an (Ed ({ frosts := r3.f.frosts,stopped := s1 } : Ac) (Ln p0 k1).id r37 hr37) (an2 h36 tv)))))))) ?_
       exact jD (!r37) hm Conv.eqK
      ·replace hm := Bc h36 hm
       refine RD hnt (nn 5 (o23 [] true r33 :: nn 4 (o30 [] true r35 :: .no :: pT :: .no :: sk 8 (pF :: [])))) [] [(48,pB false)] [] [] (an (Iy p0.tree p1 (Ln p0 k1).group r33 hr33) (an4 h34 (an (Gp p2 (Ln p0 k1).id r35 hr35) (an2 h34 (an3 h36 (an6 h36 tv)))))) ?_
       exact jD false hm Conv.eqK
     ·replace hm := Bc h34 hm
      refine RD hnt (nn 5 (o23 [] true r33 :: .no :: sk 5 (pF :: .no :: sk 8 (pF :: [])))) [] [(48,pB false)] [] [] (an (Iy p0.tree p1 (Ln p0 k1).group r33 hr33) (an6 h34 (an3 ff (an6 ff tv)))) ?_
      exact jD false hm Conv.eqK
  ·intro h32
   have hge1 : ¬ k1 < p0.tasks.length := by have := of_decide_eq_false h32; omega
   have hm := he1 hge1
   unfold Ws at hm
   refine DW.exit ?_
   refine Ao ?_
   refine Aw ?_
   refine Ak ?_
   show DW _ _ _ _ _
   obtain ⟨r40,hr40,hm⟩ := bo hm
   obtain ⟨g41,hm⟩ := go1 hm
   refine Sq (RN hnt (nn 5 (o44 [1146] true r40 :: [])) [(6,rr 1048),(8,rr 1144)] [(AdY),(1144,bx [.p (Bb r3.h.tree.nodes),pI r3.h.tree.next,.p (Bg r3.h.tasks),pI r3.h.next,ow 1145 r3.f.frosts.length,ow 1146 r40.length]),(AdE r3),(1146,ob0 (roI r40))] [] [(1144,.box [.p (Bb r3.h.tree.nodes),pI r3.h.tree.next,.p (Bg r3.h.tasks),pI r3.h.next,ow 1145 r3.f.frosts.length,ow 1146 s1.length])] (an (Acn s1 r40 hr40) (an (⟨rfl,g41⟩ : Body.same (roI s1) (roI r40)) tv)) (by kernel_rfl) .nil (.cons rfl (.box (.cons .rfl (.cons .rfl (.cons .rfl (.cons .rfl (.cons .rfl (.cons (MLe.of_eq (congrArg (MV.own 1146 0 0) g41)) .nil))))))) .nil) ?_)
   obtain ⟨r42,hr42,hm⟩ := bo hm
   obtain ⟨g43,g44,hm⟩ := go2 hm
   refine Sq (RK hnt (.no :: o42 [1144,1145,1146] true r42 :: nn 2 []) [(6,rr 1048),(7,pI 0)] [(1048,bx [ow 1145 r42.2.f.frosts.length,ow 1146 r42.2.f.stopped.length]),(1145,ob0 (Am r42.2.f.frosts)),(1146,ob0 (roI r42.2.f.stopped))] (an (Pr ({ h := r3.h,f := ({ frosts := r3.f.frosts,stopped := r40 } : Ac) } : freezer) r42 hr42) (an tv (an (⟨rfl,g43⟩ : Body.same (Am r3.f.frosts) (Am r42.2.f.frosts)) (an (⟨rfl,g44⟩ : Body.same (roI r40) (roI r42.2.f.stopped)) tv)))) ?_)
   obtain rfl := sj hm
   exact DW.ret (Ag [Am r42.2.f.frosts,roI r42.2.f.stopped] [1145,1146] (.tup [.agg [ow 0 r42.2.f.frosts.length,ow 1 r42.2.f.stopped.length],pI 0]))
abbrev o43 (ks : List Nat) (b : Bool) (RES : Ac × Int) (sm : List Nat := []) : Orc := .call 53 ks b (.tup [.agg [ow 0 RES.1.frosts.length,ow 1 RES.1.stopped.length],pI RES.2]) [] [Am RES.1.frosts,roI RES.1.stopped] sm
end Go.Dm


/- Go functions compute their models, printed by a program. -/
namespace Go.Dm
open Go.Proofs
set_option linter.unusedVariables false
theorem Acj (p0 : List Al) (p1 : List Al) (RES : Bool) (hm : Wj p0 p1 = some RES) : Spec Tryz.prog 132 [.p (Du p0),.p (Du p1)] [] (pB RES) [] [] := by
 unfold Wj at hm
 refine SO Tryz.func132 rfl rfl [(0,.p (Du p0)),(1,.p (Du p1))] [] ?_
 intro cx hnt
 refine Sq (RD hnt (.no :: []) [] [] [] [] tv ?_)
 refine Sq (Sq (RD hnt (nn 5 []) [] [(10,pB (((p0.length : Nat) : Int) != ((p1.length : Nat) : Int)))] [] [] tv ?_))
 refine Ae hm ?_ ?_
 ·intro h1 hm
  refine Sq (RK hnt (.no :: []) [(4,pB false)] [] tv ?_)
  obtain rfl := sj hm
  exact DW.ret (Ag [] [] (pB false))
 ·intro h1 hm
  refine Sk ?_
  refine Sq (Sq (RD hnt (.no :: []) [10] [(5,pI 0)] [] [] tv ?_))
  refine Bk ?_
  obtain ⟨hc1,hm⟩ := go1 hm
  refine DW.rangeO (fun (k1 : Nat) (s1 : Unit) => Aj [(0,.p (Du p0)),(1,.p (Du p1)),(5,pI ((k1 : Nat) : Int))] []) Bi hm Conv.eqK ?_
  intro k1 s1 n1 hk1 hs1 he1
  refine Sq (Sq (RD hnt (nn 4 []) [] [(14,pB (decide (((k1 : Nat) : Int) < ((p0.length : Nat) : Int))))] [] [] tv ?_))
  refine Cb (decide (((k1 : Nat) : Int) < ((p0.length : Nat) : Int))) ?_ ?_
  ·intro h10
   have hlt1 : k1 < p0.length := by have := of_decide_eq_true h10; omega
   have hm := hs1 hlt1
   unfold Aaz at hm
   refine Sk ?_
   refine Sq (Bk ?_)
   obtain ⟨g11,hm⟩ := go1 hm
   refine Sq (RD hnt (nn 9 []) [14] [(25,pB (!(AdD (p0.getD k1 (default : Al)) (p1.getD k1 Bi))))] [] [] (an (nn0 k1) (an (ltc hlt1) (an (nn0 k1) (an (ltc g11) tv)))) ?_)
   refine Ae hm ?_ ?_
   ·intro h12 hm
    refine Sq (RK hnt (.no :: []) [(4,pB false)] [] tv ?_)
    obtain rfl := sj hm
    exact DW.ret (Ag [] [] (pB false))
   ·intro h12 hm
    refine Sk ?_
    refine DW.done ?_
    show DW _ _ _ _ _
    refine RD hnt (nn 3 []) [25] [(5,pI (w64 (((k1 : Nat) : Int) + 1)))] [] [] tv ?_
    exact jD () ⟨hlt1,hm⟩ (Conv.tp [(5,pI (w64 (((k1 : Nat) : Int) + 1)))] [] (by kernel_rfl) (.cons rfl (.of_eq (congrArg pI (Bl hlt1 hc1))) .nil) .nil)
  ·intro h10
   have hge1 : ¬ k1 < p0.length := by have := of_decide_eq_false h10; omega
   have hm := he1 hge1
   unfold Aed at hm
   refine DW.exit ?_
   refine Ao ?_
   refine Aw ?_
   refine Ak ?_
   show DW _ _ _ _ _
   refine Sq (RK hnt (.no :: []) [(4,pB true)] [] tv ?_)
   obtain rfl := sj hm
   exact DW.ret (Ag [] [] (pB true))
abbrev o65 (ks : List Nat) (b : Bool) (RES : Bool) (sm : List Nat := []) : Orc := .call 132 ks b (pB RES) [] [] sm

theorem AeP (p0 : List Int) (p1 : List Int) (RES : Bool) (hm : Qe p0 p1 = some RES) : Spec Tryz.prog 133 [.p (slI p0),.p (slI p1)] [] (pB RES) [] [] := by
 unfold Qe at hm
 refine SO Tryz.func133 rfl rfl [(0,.p (slI p0)),(1,.p (slI p1))] [] ?_
 intro cx hnt
 refine Sq (RD hnt (.no :: []) [] [] [] [] tv ?_)
 refine Sq (Sq (RD hnt (nn 5 []) [] [(10,pB (((p0.length : Nat) : Int) != ((p1.length : Nat) : Int)))] [] [] tv ?_))
 refine Ae hm ?_ ?_
 ·intro h1 hm
  refine Sq (RK hnt (.no :: []) [(4,pB false)] [] tv ?_)
  obtain rfl := sj hm
  exact DW.ret (Ag [] [] (pB false))
 ·intro h1 hm
  refine Sk ?_
  refine Sq (Sq (RD hnt (.no :: []) [10] [(5,pI 0)] [] [] tv ?_))
  refine Bk ?_
  obtain ⟨hc1,hm⟩ := go1 hm
  refine DW.rangeO (fun (k1 : Nat) (s1 : Unit) => Aj [(0,.p (slI p0)),(1,.p (slI p1)),(5,pI ((k1 : Nat) : Int))] []) 0 hm Conv.eqK ?_
  intro k1 s1 n1 hk1 hs1 he1
  refine Sq (Sq (RD hnt (nn 4 []) [] [(14,pB (decide (((k1 : Nat) : Int) < ((p0.length : Nat) : Int))))] [] [] tv ?_))
  refine Cb (decide (((k1 : Nat) : Int) < ((p0.length : Nat) : Int))) ?_ ?_
  ·intro h10
   have hlt1 : k1 < p0.length := by have := of_decide_eq_true h10; omega
   have hm := hs1 hlt1
   unfold Uv at hm
   refine Sk ?_
   refine Sq (Bk ?_)
   obtain ⟨g11,hm⟩ := go1 hm
   refine Sq (RD hnt (nn 9 []) [14] [(25,pB ((p0.getD k1 0) != (p1.getD k1 0)))] [] [] (an (nn0 k1) (an (ltc hlt1) (an (nn0 k1) (an (ltc g11) tv)))) ?_)
   refine Ae hm ?_ ?_
   ·intro h12 hm
    refine Sq (RK hnt (.no :: []) [(4,pB false)] [] tv ?_)
    obtain rfl := sj hm
    exact DW.ret (Ag [] [] (pB false))
   ·intro h12 hm
    refine Sk ?_
    refine DW.done ?_
    show DW _ _ _ _ _
    refine RD hnt (nn 3 []) [25] [(5,pI (w64 (((k1 : Nat) : Int) + 1)))] [] [] tv ?_
    exact jD () ⟨hlt1,hm⟩ (Conv.tp [(5,pI (w64 (((k1 : Nat) : Int) + 1)))] [] (by kernel_rfl) (.cons rfl (.of_eq (congrArg pI (Bl hlt1 hc1))) .nil) .nil)
  ·intro h10
   have hge1 : ¬ k1 < p0.length := by have := of_decide_eq_false h10; omega
   have hm := he1 hge1
   unfold Abe at hm
   refine DW.exit ?_
   refine Ao ?_
   refine Aw ?_
   refine Ak ?_
   show DW _ _ _ _ _
   refine Sq (RK hnt (.no :: []) [(4,pB true)] [] tv ?_)
   obtain rfl := sj hm
   exact DW.ret (Ag [] [] (pB true))
abbrev o66 (ks : List Nat) (b : Bool) (RES : Bool) (sm : List Nat := []) : Orc := .call 133 ks b (pB RES) [] [] sm

theorem Cm (p0 : Ac) (p1 : Ac) (RES : Bool) (hm : Jc p0 p1 = some RES) : Spec Tryz.prog 61 [.p (.agg (Ai p0)),.p (.agg (Ai p1))] [] (pB RES) [] [] := by
 unfold Jc at hm
 refine SO Tryz.func61 rfl rfl [(0,.p (.agg (Ai p0))),(1,.p (.agg (Ai p1)))] [] ?_
 intro cx hnt
 refine Sq (RK hnt (nn 3 []) [(2,rr 1016),(3,rr 1024)] [(1016,bx (pm (Ai p0))),(1024,bx (pm (Ai p1)))] tv ?_)
 obtain ⟨r1,hr1,hm⟩ := bo hm
 refine Sq ?_
 refine Jn (ι := Bool) (fun (y1 : Bool) => Aj [(4,pB y1)] []) (fun y1 => Ma y1 = some RES) ?_ ?_
 ·intro y1 hm
  unfold Ma at hm
  obtain rfl := sj hm
  exact DW.ret (Ag [] [] (pB y1))
 ·rcases bt r1 with h2 | h2
  ·replace hm := Bd h2 hm
   obtain ⟨r3,hr3,hm⟩ := bo hm
   refine RK hnt (nn 4 (o65 [] true r1 :: nn 5 (o66 [] true r3 :: pT :: .no :: []))) [(4,pB r3)] [] (an (Acj p0.frosts p1.frosts r1 hr1) (an5 h2 (an (AeP p0.stopped p1.stopped r3 hr3) (an h2 tv)))) ?_
   exact jD r3 hm .refl
  ·replace hm := Bc h2 hm
   refine RK hnt (nn 4 (o65 [] true r1 :: .no :: sk 5 (pF :: .no :: []))) [(4,pB false)] [] (an (Acj p0.frosts p1.frosts r1 hr1) (an6 h2 tv)) ?_
   exact jD false hm .refl
abbrev o64 (ks : List Nat) (b : Bool) (RES : Bool) (sm : List Nat := []) : Orc := .call 61 ks b (pB RES) [] [] sm

theorem Abq (RES : Bool) (hm : Ra = some RES) : Spec Tryz.prog 49 [] [] (pB RES) [] [] := by
 unfold Ra at hm
 refine SO Tryz.func49 rfl rfl [] [] ?_
 intro cx hnt
 refine Sq (RK hnt (.no :: []) [] [] tv ?_)
 obtain ⟨r1,hr1,hm⟩ := bo hm
 refine Sq (RK hnt (o4 [] true r1 :: nn 2 []) [(1,rr 1008)] [(1008,bx [ow 1080 r1.tree.nodes.length,pI r1.tree.next,ow 1081 r1.tasks.length,pI r1.next]),(1080,ob0 (Ah r1.tree.nodes)),(1081,ob0 (At r1.tasks))] (an (AfP r1 hr1) tv) ?_)
 refine Sq (DW.cv [] [] [1080] [(1008,bx [.p (Bb r1.tree.nodes),pI r1.tree.next,ow 1081 r1.tasks.length,pI r1.next])] (Conv.frz [1080]) ?_)
 refine DW.cv [] [] [1081] [(1008,bx (pm (Ab r1)))] (Conv.frz [1081]) ?_
 obtain ⟨r4,hr4,hm⟩ := bo hm
 obtain ⟨r5,hr5,hm⟩ := bo hm
 refine RD hnt (nn 2 (o5 [] true r4 :: o20 [] false r5 :: nn 6 [])) [] [(2,rr 1016),(3,pI r5.2)] [] [(1016,bx [ow 1120 r5.1.frosts.length,ow 1121 r5.1.stopped.length]),(1120,ob0 (Am r5.1.frosts)),(1121,ob0 (roI r5.1.stopped))] (an (AaW r1 r4 hr4) (an (AaY r1 r4 2 true r5 hr5) tv)) ?_
 refine Sq (DW.cv [] [] [1120] [(1016,bx [.p (Du r5.1.frosts),ow 1121 r5.1.stopped.length])] (Conv.frz [1120]) ?_)
 refine DW.cv [] [] [1121] [(1016,bx (pm (Ai r5.1)))] (Conv.frz [1121]) ?_
 obtain ⟨r8,hr8,hm⟩ := bo hm
 refine RD hnt (nn 3 (o43 [] false r8 :: nn 6 [])) [] [(4,rr 1032),(5,pI r8.2)] [] [(1032,bx [ow 1176 r8.1.frosts.length,ow 1177 r8.1.stopped.length]),(1176,ob0 (Am r8.1.frosts)),(1177,ob0 (roI r8.1.stopped))] (an (Spec.args (xs := [.p (.agg (Ab r1)),.p (.agg (Ai r5.1)),.p (.sl .unk 1 1 (cut 1 [vi 1]))]) (Mg r1 r5.1 [1] r8 hr8) (.cons .rfl (.cons .rfl (.cons (.p (PLe.typed (RowIs.lit (enc := Bn) (d := 0) (n := 1) (f := (cut 1 [vi 1])) [1] rfl (fun | 0,_ => rfl | n + 1,h => absurd h (by omega))))) .nil)))) tv) ?_
 refine Sq (DW.cv [] [] [1176] [(1032,bx [.p (Du r8.1.frosts),ow 1177 r8.1.stopped.length])] (Conv.frz [1176]) ?_)
 refine DW.cv [] [] [1177] [(1032,bx (pm (Ai r8.1)))] (Conv.frz [1177]) ?_
 obtain ⟨r11,hr11,hm⟩ := bo hm
 refine RK hnt (nn 2 (o43 [] true r11 :: nn 6 [])) [(1,rr 1008),(2,rr 1016),(3,pI r5.2),(4,rr 1032),(5,pI r8.2),(6,rr 1048),(7,pI r11.2)] [(1008,bx (pm (Ab r1))),(1016,bx (pm (Ai r5.1))),(1032,bx (pm (Ai r8.1))),(1048,bx [ow 1224 r11.1.frosts.length,ow 1225 r11.1.stopped.length]),(1224,ob0 (Am r11.1.frosts)),(1225,ob0 (roI r11.1.stopped))] (an (Spec.args (xs := [.p (.agg (Ab r1)),.p (.agg (Ai r8.1)),.p (.sl .nil 0 0 (fun _ => []))]) (Mg r1 r8.1 [] r11 hr11) (.cons .rfl (.cons .rfl (.cons (.p PLe.nilL) .nil)))) tv) ?_
 refine Sq (RD hnt (nn 2 []) [] [] [] [(1008,bx [.p (Bb r1.tree.nodes),pI r1.tree.next,.p (.sl .nil 0 0 (fun _ => [])),pI r1.next])] tv ?_)
 obtain ⟨r12,hr12,hm⟩ := bo hm
 obtain ⟨r13,hr13,hm⟩ := bo hm
 refine Sq (RD hnt (nn 2 (o5 [] true r12 :: o20 [] false r13 :: nn 6 [])) [1] [(8,rr 1064),(9,pI r13.2)] [1008] [(1064,bx [ow 1288 r13.1.frosts.length,ow 1289 r13.1.stopped.length]),(1288,ob0 (Am r13.1.frosts)),(1289,ob0 (roI r13.1.stopped))] (an (Spec.args (xs := [.p (.agg [Bb r1.tree.nodes,vi r1.tree.next,.sl .nil 0 0 (fun _ => []),vi r1.next])]) (AaW ({ tree := r1.tree,tasks := [],next := r1.next } : Aa) r12 hr12) (.cons (.p (.agg (.cons .rfl (.cons .rfl (.cons PLe.nilL (.cons .rfl .nil)))))) .nil)) (an (Spec.args (xs := [.p (.agg [Bb r1.tree.nodes,vi r1.tree.next,.sl .nil 0 0 (fun _ => []),vi r1.next]),.p (.agg (Ai r12)),pI 3,pB true]) (AaY ({ tree := r1.tree,tasks := [],next := r1.next } : Aa) r12 3 true r13 hr13) (.cons (.p (.agg (.cons .rfl (.cons .rfl (.cons PLe.nilL (.cons .rfl .nil)))))) (.cons .rfl (.cons .rfl (.cons .rfl .nil))))) tv)) ?_)
 refine Sq ?_
 refine Jn (ι := Bool) (fun (y1 : Bool) => Aj [(0,pB y1)] []) (fun y1 => Ee y1 = some RES) ?_ ?_
 ·intro y1 hm
  unfold Ee at hm
  obtain rfl := sj hm
  exact DW.ret (Ag [] [] (pB y1))
 ·rcases bt (r5.2 == 0) with h14 | h14
  ·replace hm := Bd h14 hm
   obtain ⟨r15,hr15,hm⟩ := bo hm
   rcases bt (!r15.frozen) with h16 | h16
   ·replace hm := Bd h16 hm
    rcases bt (r8.2 == 0) with h17 | h17
    ·replace hm := Bd h17 hm
     obtain ⟨r18,hr18,hm⟩ := bo hm
     rcases bt r18 with h19 | h19
     ·replace hm := Bd h19 hm
      rcases bt (r11.2 == 0) with h20 | h20
      ·replace hm := Bd h20 hm
       obtain ⟨r21,hr21,hm⟩ := bo hm
       rcases bt r21.frozen with h22 | h22
       ·replace hm := Bd h22 hm
        obtain ⟨r23,hr23,hm⟩ := bo hm
        rcases bt r23.frozen with h24 | h24
        ·replace hm := Bd h24 hm
         obtain ⟨r25,hr25,hm⟩ := bo hm
         rcases bt (r25.changes == 1) with h26 | h26
         ·replace hm := Bd h26 hm
          obtain ⟨r27,hr27,hm⟩ := bo hm
          rcases bt (!r27.frozen) with h28 | h28
          ·replace hm := Bd h28 hm
           obtain ⟨r29,hr29,hm⟩ := bo hm
           rcases bt r29 with h30 | h30
           ·replace hm := Bd h30 hm
            rcases bt (r13.2 == 0) with h31 | h31
            ·replace hm := Bd h31 hm
             obtain ⟨r32,hr32,hm⟩ := bo hm
             refine RK hnt (nn 4 (o26 [] true r15 :: nn 2 (pT :: nn 3 (pT :: nn 3 (o64 [] true r18 :: pT :: nn 3 (pT :: nn 2 (o26 [] true r21 :: .no :: pT :: nn 2 (o26 [] true r23 :: .no :: pT :: nn 2 (o26 [] true r25 :: nn 2 (pT :: nn 2 (o26 [] true r27 :: nn 2 (pT :: nn 2 (o32 [] true r29 :: pT :: nn 3 (pT :: nn 2 (o26 [] true r32 :: .no :: pT :: .no :: []))))))))))))))) [(0,pB r32.frozen)] [] (an2 h14 (an (Ba r5.1 2 r15 hr15) (an3 h14 (an3 h16 (an3 h17 (an (Cm r5.1 r8.1 r18 hr18) (an h17 (an3 h19 (an2 h20 (an (Ba r11.1 2 r21 hr21) (an2 h20 (an2 h22 (an (Ba r11.1 3 r23 hr23) (an2 h22 (an2 h24 (an (Ba r11.1 3 r25 hr25) (an3 h24 (an2 h26 (an (Ba r11.1 1 r27 hr27) (an3 h26 (an2 h28 (an (Ed r11.1 1 r29 hr29) (an h28 (an3 h30 (an2 h31 (an (Ba r13.1 3 r32 hr32) (an2 h31 tv))))))))))))))))))))))))))) ?_
             exact jD r32.frozen hm .refl
            ·replace hm := Bc h31 hm
             refine RK hnt (nn 4 (o26 [] true r15 :: nn 2 (pT :: nn 3 (pT :: nn 3 (o64 [] true r18 :: pT :: nn 3 (pT :: nn 2 (o26 [] true r21 :: .no :: pT :: nn 2 (o26 [] true r23 :: .no :: pT :: nn 2 (o26 [] true r25 :: nn 2 (pT :: nn 2 (o26 [] true r27 :: nn 2 (pT :: nn 2 (o32 [] true r29 :: pT :: nn 3 (pT :: .no :: sk 3 (pF :: .no :: []))))))))))))))) [(0,pB false)] [] (an2 h14 (an (Ba r5.1 2 r15 hr15) (an3 h14 (an3 h16 (an3 h17 (an (Cm r5.1 r8.1 r18 hr18) (an h17 (an3 h19 (an2 h20 (an (Ba r11.1 2 r21 hr21) (an2 h20 (an2 h22 (an (Ba r11.1 3 r23 hr23) (an2 h22 (an2 h24 (an (Ba r11.1 3 r25 hr25) (an3 h24 (an2 h26 (an (Ba r11.1 1 r27 hr27) (an3 h26 (an2 h28 (an (Ed r11.1 1 r29 hr29) (an h28 (an3 h30 (an4 h31 tv))))))))))))))))))))))))) ?_
             exact jD false hm .refl
           ·replace hm := Bc h30 hm
            refine RK hnt (nn 4 (o26 [] true r15 :: nn 2 (pT :: nn 3 (pT :: nn 3 (o64 [] true r18 :: pT :: nn 3 (pT :: nn 2 (o26 [] true r21 :: .no :: pT :: nn 2 (o26 [] true r23 :: .no :: pT :: nn 2 (o26 [] true r25 :: nn 2 (pT :: nn 2 (o26 [] true r27 :: nn 2 (pT :: nn 2 (o32 [] true r29 :: pT :: .no :: sk 2 (pF :: .no :: sk 3 (pF :: .no :: []))))))))))))))) [(0,pB false)] [] (an2 h14 (an (Ba r5.1 2 r15 hr15) (an3 h14 (an3 h16 (an3 h17 (an (Cm r5.1 r8.1 r18 hr18) (an h17 (an3 h19 (an2 h20 (an (Ba r11.1 2 r21 hr21) (an2 h20 (an2 h22 (an (Ba r11.1 3 r23 hr23) (an2 h22 (an2 h24 (an (Ba r11.1 3 r25 hr25) (an3 h24 (an2 h26 (an (Ba r11.1 1 r27 hr27) (an3 h26 (an2 h28 (an (Ed r11.1 1 r29 hr29) (an h28 (an3 h30 (an4 ff tv))))))))))))))))))))))))) ?_
            exact jD false hm .refl
          ·replace hm := Bc h28 hm
           refine RK hnt (nn 4 (o26 [] true r15 :: nn 2 (pT :: nn 3 (pT :: nn 3 (o64 [] true r18 :: pT :: nn 3 (pT :: nn 2 (o26 [] true r21 :: .no :: pT :: nn 2 (o26 [] true r23 :: .no :: pT :: nn 2 (o26 [] true r25 :: nn 2 (pT :: nn 2 (o26 [] true r27 :: nn 2 (pT :: .no :: sk 2 (pF :: .no :: sk 2 (pF :: .no :: sk 3 (pF :: .no :: []))))))))))))))) [(0,pB false)] [] (an2 h14 (an (Ba r5.1 2 r15 hr15) (an3 h14 (an3 h16 (an3 h17 (an (Cm r5.1 r8.1 r18 hr18) (an h17 (an3 h19 (an2 h20 (an (Ba r11.1 2 r21 hr21) (an2 h20 (an2 h22 (an (Ba r11.1 3 r23 hr23) (an2 h22 (an2 h24 (an (Ba r11.1 3 r25 hr25) (an3 h24 (an2 h26 (an (Ba r11.1 1 r27 hr27) (an3 h26 (an3 h28 (an ff (an6 ff tv))))))))))))))))))))))) ?_
           exact jD false hm .refl
         ·replace hm := Bc h26 hm
          refine RK hnt (nn 4 (o26 [] true r15 :: nn 2 (pT :: nn 3 (pT :: nn 3 (o64 [] true r18 :: pT :: nn 3 (pT :: nn 2 (o26 [] true r21 :: .no :: pT :: nn 2 (o26 [] true r23 :: .no :: pT :: nn 2 (o26 [] true r25 :: nn 2 (pT :: .no :: sk 4 (pF :: .no :: sk 2 (pF :: .no :: sk 2 (pF :: .no :: sk 3 (pF :: .no :: [])))))))))))))) [(0,pB false)] [] (an2 h14 (an (Ba r5.1 2 r15 hr15) (an3 h14 (an3 h16 (an3 h17 (an (Cm r5.1 r8.1 r18 hr18) (an h17 (an3 h19 (an2 h20 (an (Ba r11.1 2 r21 hr21) (an2 h20 (an2 h22 (an (Ba r11.1 3 r23 hr23) (an2 h22 (an2 h24 (an (Ba r11.1 3 r25 hr25) (an3 h24 (an5 h26 (an4 ff (an6 ff tv)))))))))))))))))))) ?_
          exact jD false hm .refl
        ·replace hm := Bc h24 hm
         refine RK hnt (nn 4 (o26 [] true r15 :: nn 2 (pT :: nn 3 (pT :: nn 3 (o64 [] true r18 :: pT :: nn 3 (pT :: nn 2 (o26 [] true r21 :: .no :: pT :: nn 2 (o26 [] true r23 :: .no :: pT :: .no :: sk 4 (pF :: .no :: sk 4 (pF :: .no :: sk 2 (pF :: .no :: sk 2 (pF :: .no :: sk 3 (pF :: .no :: []))))))))))))) [(0,pB false)] [] (an2 h14 (an (Ba r5.1 2 r15 hr15) (an3 h14 (an3 h16 (an3 h17 (an (Cm r5.1 r8.1 r18 hr18) (an h17 (an3 h19 (an2 h20 (an (Ba r11.1 2 r21 hr21) (an2 h20 (an2 h22 (an (Ba r11.1 3 r23 hr23) (an2 h22 (an5 h24 (an3 ff (an6 ff (an6 ff tv)))))))))))))))))) ?_
         exact jD false hm .refl
       ·replace hm := Bc h22 hm
        refine RK hnt (nn 4 (o26 [] true r15 :: nn 2 (pT :: nn 3 (pT :: nn 3 (o64 [] true r18 :: pT :: nn 3 (pT :: nn 2 (o26 [] true r21 :: .no :: pT :: .no :: sk 3 (pF :: .no :: sk 4 (pF :: .no :: sk 4 (pF :: .no :: sk 2 (pF :: .no :: sk 2 (pF :: .no :: sk 3 (pF :: .no :: []))))))))))))) [(0,pB false)] [] (an2 h14 (an (Ba r5.1 2 r15 hr15) (an3 h14 (an3 h16 (an3 h17 (an (Cm r5.1 r8.1 r18 hr18) (an h17 (an3 h19 (an2 h20 (an (Ba r11.1 2 r21 hr21) (an2 h20 (an4 h22 (an2 ff (an6 ff (an6 ff (an6 ff tv)))))))))))))))) ?_
        exact jD false hm .refl
      ·replace hm := Bc h20 hm
       refine RK hnt (nn 4 (o26 [] true r15 :: nn 2 (pT :: nn 3 (pT :: nn 3 (o64 [] true r18 :: pT :: nn 3 (pT :: .no :: sk 3 (pF :: .no :: sk 3 (pF :: .no :: sk 4 (pF :: .no :: sk 4 (pF :: .no :: sk 2 (pF :: .no :: sk 2 (pF :: .no :: sk 3 (pF :: .no :: []))))))))))))) [(0,pB false)] [] (an2 h14 (an (Ba r5.1 2 r15 hr15) (an3 h14 (an3 h16 (an3 h17 (an (Cm r5.1 r8.1 r18 hr18) (an h17 (an3 h19 (an4 h20 (an6 ff (an6 ff (an6 ff (an6 ff tv))))))))))))) ?_
       exact jD false hm .refl
     ·replace hm := Bc h19 hm
      refine RK hnt (nn 4 (o26 [] true r15 :: nn 2 (pT :: nn 3 (pT :: nn 3 (o64 [] true r18 :: pT :: .no :: sk 2 (pF :: .no :: sk 3 (pF :: .no :: sk 3 (pF :: .no :: sk 4 (pF :: .no :: sk 4 (pF :: .no :: sk 2 (pF :: .no :: sk 2 (pF :: .no :: sk 3 (pF :: .no :: []))))))))))))) [(0,pB false)] [] (an2 h14 (an (Ba r5.1 2 r15 hr15) (an3 h14 (an3 h16 (an3 h17 (an (Cm r5.1 r8.1 r18 hr18) (an h17 (an3 h19 (an4 ff (an6 ff (an6 ff (an6 ff (an6 ff tv))))))))))))) ?_
      exact jD false hm .refl
    ·replace hm := Bc h17 hm
     refine RK hnt (nn 4 (o26 [] true r15 :: nn 2 (pT :: nn 3 (pT :: .no :: sk 3 (pF :: .no :: sk 2 (pF :: .no :: sk 3 (pF :: .no :: sk 3 (pF :: .no :: sk 4 (pF :: .no :: sk 4 (pF :: .no :: sk 2 (pF :: .no :: sk 2 (pF :: .no :: sk 3 (pF :: .no :: []))))))))))))) [(0,pB false)] [] (an2 h14 (an (Ba r5.1 2 r15 hr15) (an3 h14 (an3 h16 (an4 h17 (an ff (an6 ff (an6 ff (an6 ff (an6 ff (an6 ff tv))))))))))) ?_
     exact jD false hm .refl
   ·replace hm := Bc h16 hm
    refine RK hnt (nn 4 (o26 [] true r15 :: nn 2 (pT :: .no :: sk 2 (pF :: .no :: sk 3 (pF :: .no :: sk 2 (pF :: .no :: sk 3 (pF :: .no :: sk 3 (pF :: .no :: sk 4 (pF :: .no :: sk 4 (pF :: .no :: sk 2 (pF :: .no :: sk 2 (pF :: .no :: sk 3 (pF :: .no :: []))))))))))))) [(0,pB false)] [] (an2 h14 (an (Ba r5.1 2 r15 hr15) (an3 h14 (an3 h16 (an5 ff (an6 ff (an6 ff (an6 ff (an6 ff (an6 ff tv)))))))))) ?_
    exact jD false hm .refl
  ·replace hm := Bc h14 hm
   refine RK hnt (nn 3 (sk 4 (pF :: .no :: sk 2 (pF :: .no :: sk 3 (pF :: .no :: sk 2 (pF :: .no :: sk 3 (pF :: .no :: sk 3 (pF :: .no :: sk 4 (pF :: .no :: sk 4 (pF :: .no :: sk 2 (pF :: .no :: sk 2 (pF :: .no :: sk 3 (pF :: .no :: []))))))))))))) [(0,pB false)] [] (an5 h14 (an2 ff (an6 ff (an6 ff (an6 ff (an6 ff (an6 ff (an6 ff tv)))))))) ?_
   exact jD false hm .refl
abbrev o3 (ks : List Nat) (b : Bool) (RES : Bool) (sm : List Nat := []) : Orc := .call 49 ks b (pB RES) [] [] sm

theorem AgU (p0 : List Int) (RES : Aq) (hm : Acy p0 = some RES) : Spec Tryz.prog 15 [.p (slI p0)] [] (rr 0) [] [.box (pm (Ap RES))] := by
 unfold Acy at hm
 refine SO Tryz.func15 rfl rfl [(0,.p (slI p0))] [] ?_
 intro cx hnt
 refine Sq (RK hnt (.no :: []) [(0,.p (slI p0))] [] tv ?_)
 refine Sq (RK hnt (nn 4 []) [(2,rr 1040)] [(1040,bx [.p (slI p0),pI 0])] tv ?_)
 obtain rfl := sj hm
 exact DW.ret (Ag [.box [.p (slI p0),pI 0]] [1040] (rr 0))
abbrev o67 (ks : List Nat) (b : Bool) (RES : Aq) (sm : List Nat := []) : Orc := .call 15 ks b (rr 0) [] [.box (pm (Ap RES))] sm

abbrev AdA := ({ id := 1,parent := 0,name := ByteArray.empty,control := 0,kind := 0,owner := 0 } : An)
theorem Acr (RES : Af) (hm : Zk = some RES) : Spec Tryz.prog 107 [] [] (.agg [ow 0 RES.nodes.length,pI RES.next]) [] [Ah RES.nodes] := by
 unfold Zk at hm
 refine SO Tryz.func107 rfl rfl [] [] ?_
 intro cx hnt
 refine Sq (RK hnt (.no :: []) [(0,rr 1000)] [(1000,bx [.p (.sl .nil 0 0 (fun _ => [])),pI 0])] tv ?_)
 refine Sq (RN hnt (nn 4 []) [(0,rr 1000)] [(1000,bx [ow 1016 [(AdA)].length,pI 2]),(1016,ob0 (Ah [(AdA)]))] [] [(1000,.box [ow 1016 1,pI 2]),(1016,.row 6 1 (cut 6 [vi 1,vi 0,vs ByteArray.empty,vi 0,vi 0,vi 0]))] tv (by kernel_rfl) .nil (.cons rfl (.box (.cons (MLe.ownLen (enc := Ar) (d := Bj) (f := (cut 6 [vi 1,vi 0,vs ByteArray.empty,vi 0,vi 0,vi 0])) (RowIs.lit (enc := Ar) (d := Bj) (n := 1) (f := (cut 6 [vi 1,vi 0,vs ByteArray.empty,vi 0,vi 0,vi 0])) [(AdA)] rfl (fun | 0,_ => rfl | n + 1,h => absurd h (by omega)))) (.cons .rfl .nil))) (.cons rfl (BLe.typed (RowIs.lit (enc := Ar) (d := Bj) (n := 1) (f := (cut 6 [vi 1,vi 0,vs ByteArray.empty,vi 0,vi 0,vi 0])) [(AdA)] rfl (fun | 0,_ => rfl | n + 1,h => absurd h (by omega)))) .nil)) ?_)
 obtain rfl := sj hm
 exact DW.ret (Ag [Ah [(AdA)]] [1016] (.agg [ow 0 [(AdA)].length,pI 2]))
abbrev o70 (ks : List Nat) (b : Bool) (RES : Af) (sm : List Nat := []) : Orc := .call 107 ks b (.agg [ow 0 RES.nodes.length,pI RES.next]) [] [Ah RES.nodes] sm

theorem AhI (RES : Aa) (hm : AeE = some RES) : Spec Tryz.prog 37 [] [] (.agg [ow 0 RES.tree.nodes.length,pI RES.tree.next,ow 1 RES.tasks.length,pI RES.next]) [] [Ah RES.tree.nodes,At RES.tasks] := by
 unfold AeE at hm
 refine SO Tryz.func37 rfl rfl [] [] ?_
 intro cx hnt
 refine Sq (RK hnt (.no :: []) [(0,rr 1000)] [(1000,bx [.p (.sl .nil 0 0 (fun _ => [])),pI 0,.p (.sl .nil 0 0 (fun _ => [])),pI 0])] tv ?_)
 obtain ⟨r1,hr1,hm⟩ := bo hm
 refine Sq (RK hnt (o70 [] true r1 :: nn 2 []) [(0,rr 1000)] [(1000,bx [ow 1008 r1.nodes.length,pI r1.next,.p (.sl .nil 0 0 (fun _ => [])),pI 1]),(1008,ob0 (Ah r1.nodes))] (an (Acr r1 hr1) tv) ?_)
 refine DW.cv [] [] [] [(1000,bx [ow 1008 r1.nodes.length,pI r1.next,ow 100000 0,pI 1]),(100000,ob0 (At []))] (Conv.ads [(.o 1000 2,100000,4,elems Ax Br [])]) ?_
 obtain rfl := sj hm
 exact DW.ret (Ag [Ah r1.nodes,At []] [1008,100000] (.agg [ow 0 r1.nodes.length,pI r1.next,ow 1 0,pI 1]))
abbrev o69 (ks : List Nat) (b : Bool) (RES : Aa) (sm : List Nat := []) : Orc := .call 37 ks b (.agg [ow 0 RES.tree.nodes.length,pI RES.tree.next,ow 1 RES.tasks.length,pI RES.next]) [] [Ah RES.tree.nodes,At RES.tasks] sm

abbrev c72e1 (p0 : Aq) := (p0.l.getD (Int.toNat (w64 ((w64 (p0.atF + 1)) - 1))) 0)
theorem Bs (p0 : Aq) (p1 : Int) (RES : Int × Aq) (hm : Bu p0 p1 = some RES) : Spec Tryz.prog 50 [rr 0,pI p1] [.box (pm (Ap p0))] (pI RES.1) [.box (pm (Ap RES.2))] [] := by
 unfold Bu at hm
 refine SO Tryz.func50 rfl rfl [(0,rr 0),(1,pI p1)] [(0,bx (pm (Ap p0)))] ?_
 intro cx hnt
 refine Sq (RD hnt (.no :: []) [] [] [] [] tv ?_)
 refine Sq (Sq (DW.regJ (sl2 := [(0,rr 0),(1,pI p1),(19,pB ((decide (p0.atF ≥ ((p0.l.length : Nat) : Int))) || (decide (p1 < 1))))]) (ob2 := [(0,bx (pm (Ap p0)))]) ?_ ?_))
 ·rcases bt (decide (p0.atF ≥ ((p0.l.length : Nat) : Int))) with h1 | h1
  ·exact RT hnt (nn 11 (sk 2 (pT :: []))) [(19,pB true)] (an3 h1 tv) (by kernel_rfl) (.cons rfl (.of_eq (by rw [h1]; try rfl)) .nil)
  ·exact RT hnt (nn 13 (pF :: [])) [(19,pB (decide (p1 < 1)))] (an3 h1 tv) (by kernel_rfl) (.cons rfl (.of_eq (by rw [h1]; try rfl)) .nil)
 ·refine Ae hm ?_ ?_
  ·intro h2 hm
   refine Sq (RD hnt (.no :: []) [0,1,19] [(4,pI 0)] [] [] tv ?_)
   obtain rfl := sj hm
   exact DW.ret (Ag [.box (pm (Ap p0))] [] (pI 0))
  ·intro h2 hm
   refine Sk ?_
   refine Sq (RD hnt (nn 8 []) [19] [] [] [(0,bx [.p (slI p0.l),pI (w64 (p0.atF + 1))])] tv ?_)
   obtain ⟨g3,g4,hm⟩ := go2 hm
   refine Sq (RD hnt (nn 14 []) [0] [(5,pI (Int.tmod (c72e1 p0) p1))] [] [] (an g3.1 (an g3.2 (an g4 tv))) ?_)
   refine Sq (Sq (RD hnt (nn 2 []) [] [(41,pB (decide ((Int.tmod (c72e1 p0) p1) < 0)))] [] [] tv ?_))
   refine Jn (ι := Int) (fun (y1 : Int) => Aj [(5,pI y1)] [(0,bx [.p (slI p0.l),pI (w64 (p0.atF + 1))])]) (fun y1 => (Ld p0) y1 = some RES) ?_ ?_
   ·intro y1 hm
    unfold Ld at hm
    refine Sq (RD hnt (nn 2 []) [5] [(4,pI y1)] [] [] tv ?_)
    obtain rfl := sj hm
    exact DW.ret (Ag [.box [.p (slI p0.l),pI (w64 (p0.atF + 1))]] [] (pI y1))
   ·refine Ae hm ?_ ?_
    ·intro h5 hm
     refine RD hnt (nn 4 []) [1,41] [(5,pI (w64 ((Int.tmod (c72e1 p0) p1) + p1)))] [] [] tv ?_
     exact jD (w64 ((Int.tmod (c72e1 p0) p1) + p1)) hm Conv.eqK
    ·intro h5 hm
     refine Sk ?_
     exact jD (Int.tmod (c72e1 p0) p1) hm Conv.t0
abbrev o72 (ks : List Nat) (b : Bool) (RES : Int × Aq) (sm : List Nat := []) : Orc := .call 50 ks b (pI RES.1) [.box (pm (Ap RES.2))] [] sm

theorem Adk (p0 : Aq) (RES : ByteArray × Aq) (hm : No p0 = some RES) : Spec Tryz.prog 110 [rr 0] [.box (pm (Ap p0))] (pS RES.1) [.box (pm (Ap RES.2))] [] := by
 unfold No at hm
 refine SO Tryz.func110 rfl rfl [(0,rr 0)] [(0,bx (pm (Ap p0)))] ?_
 intro cx hnt
 refine Sq (RD hnt (.no :: []) [] [] [] [] tv ?_)
 obtain ⟨r3,hr3,hm⟩ := bo hm
 obtain ⟨g4,g5,hm⟩ := go2 hm
 refine Sq (RK hnt (.asR (ow 1024 [(bs [97]),(bs [98]),(bs [99]),(bs [119,101,98]),(bs [100,98,45,49]),(bs [88,95,57])].length) [(bs [97]),(bs [98]),(bs [99]),(bs [119,101,98]),(bs [100,98,45,49]),(bs [88,95,57])].length (elems encS ByteArray.empty [(bs [97]),(bs [98]),(bs [99]),(bs [119,101,98]),(bs [100,98,45,49]),(bs [88,95,57])]) :: .no :: o72 [0] true r3 :: nn 3 []) [(2,pS ([(bs [97]),(bs [98]),(bs [99]),(bs [119,101,98]),(bs [100,98,45,49]),(bs [88,95,57])].getD (Int.toNat r3.1) ByteArray.empty))] [(0,bx (pm (Ap r3.2)))] (an (congrArg (MV.own 1024 0 0) (RowIs.asP (enc := encS) (d := ByteArray.empty) (L := [(bs [97]),(bs [98]),(bs [99]),(bs [119,101,98]),(bs [100,98,45,49]),(bs [88,95,57])]) (RowIs.lit (enc := encS) (d := ByteArray.empty) (n := 6) (f := (cut 1 [vs (bs [97]),vs (bs [98]),vs (bs [99]),vs (bs [119,101,98]),vs (bs [100,98,45,49]),vs (bs [88,95,57])])) [(bs [97]),(bs [98]),(bs [99]),(bs [119,101,98]),(bs [100,98,45,49]),(bs [88,95,57])] rfl (fun | 0,_ => rfl | 1,_ => rfl | 2,_ => rfl | 3,_ => rfl | 4,_ => rfl | 5,_ => rfl | n + 6,h => absurd h (by omega)))).1) (an (RowIs.asP (enc := encS) (d := ByteArray.empty) (L := [(bs [97]),(bs [98]),(bs [99]),(bs [119,101,98]),(bs [100,98,45,49]),(bs [88,95,57])]) (RowIs.lit (enc := encS) (d := ByteArray.empty) (n := 6) (f := (cut 1 [vs (bs [97]),vs (bs [98]),vs (bs [99]),vs (bs [119,101,98]),vs (bs [100,98,45,49]),vs (bs [88,95,57])])) [(bs [97]),(bs [98]),(bs [99]),(bs [119,101,98]),(bs [100,98,45,49]),(bs [88,95,57])] rfl (fun | 0,_ => rfl | 1,_ => rfl | 2,_ => rfl | 3,_ => rfl | 4,_ => rfl | 5,_ => rfl | n + 6,h => absurd h (by omega)))) (an (Bs p0 6 r3 hr3) (an tv (an g4.1 (an g4.2 (an g5 tv))))))) ?_)
 obtain rfl := sj hm
 exact DW.ret (Ag [.box (pm (Ap r3.2))] [] (pS ([(bs [97]),(bs [98]),(bs [99]),(bs [119,101,98]),(bs [100,98,45,49]),(bs [88,95,57])].getD (Int.toNat r3.1) ByteArray.empty)))
abbrev o73 (ks : List Nat) (b : Bool) (RES : ByteArray × Aq) (sm : List Nat := []) : Orc := .call 110 ks b (pS RES.1) [.box (pm (Ap RES.2))] [] sm

abbrev Aav (p0 : ByteArray) (k1 : Int) : Nat × MV := (57,pB (!((((Bo p0 (Int.toNat k1)) : Nat) : Int) == 45)))
theorem Abg (p0 : ByteArray) (RES : Bool) (hm : Qz p0 = some RES) : Spec Tryz.prog 174 [pS p0] [] (pB RES) [] [] := by
 unfold Qz at hm
 refine SO Tryz.func174 rfl rfl [(0,pS p0)] [] ?_
 intro cx hnt
 refine Sq (RK hnt (.no :: []) [(0,pS p0)] [] tv ?_)
 refine Sq (Sq ?_)
 refine Jn (ι := Bool) (fun (y1 : Bool) => Aj [(0,pS p0),(17,pB y1)] []) (fun y1 => (Nm p0) y1 = some RES) ?_ ?_
 ·intro y1 hm
  unfold Nm at hm
  refine Ae hm ?_ ?_
  ·intro h4 hm
   refine Sq (RK hnt (.no :: []) [(2,pB false)] [] tv ?_)
   obtain rfl := sj hm
   exact DW.ret (Ag [] [] (pB false))
  ·intro h4 hm
   refine Sk ?_
   refine Sq (Sq (RK hnt (.no :: []) [(0,pS p0),(3,pI 0)] [] tv ?_))
   refine Bk ?_
   obtain ⟨hc1,hm⟩ := go1 hm
   refine DW.forO (fun (k1 : Int) (s1 : Unit) => Aj [(0,pS p0),(3,pI k1)] []) (lo := 0) (hi := ((p0.size : Nat) : Int)) hm .refl ?_
   intro k1 s1 n1 hk1 hs1 he1
   refine Sq (Sq (RD hnt (nn 4 []) [] [(21,pB (decide (k1 < ((p0.size : Nat) : Int))))] [] [] tv ?_))
   refine Cb (decide (k1 < ((p0.size : Nat) : Int))) ?_ ?_
   ·intro h55
    have hlt1 : k1 < ((p0.size : Nat) : Int) := by have := of_decide_eq_true h55; omega
    have hm := hs1 hlt1
    unfold Zf at hm
    refine Sk ?_
    refine Sq (Bk ?_)
    obtain ⟨g56,hm⟩ := go1 hm
    refine Sq (RD hnt (nn 4 []) [21] [(4,.p (vk .u8 (((Bo p0 (Int.toNat k1)) : Nat) : Int)))] [] [] (an g56.1 (an g56.2 tv)) ?_)
    refine Sq (DW.regJ (sl2 := [(0,pS p0),(3,pI k1),(57,pB (!((((((decide ((((Bo p0 (Int.toNat k1)) : Nat) : Int) ≥ 97)) && (decide ((((Bo p0 (Int.toNat k1)) : Nat) : Int) ≤ 122))) || ((decide ((((Bo p0 (Int.toNat k1)) : Nat) : Int) ≥ 65)) && (decide ((((Bo p0 (Int.toNat k1)) : Nat) : Int) ≤ 90)))) || ((decide ((((Bo p0 (Int.toNat k1)) : Nat) : Int) ≥ 48)) && (decide ((((Bo p0 (Int.toNat k1)) : Nat) : Int) ≤ 57)))) || ((((Bo p0 (Int.toNat k1)) : Nat) : Int) == 95)) || ((((Bo p0 (Int.toNat k1)) : Nat) : Int) == 45))))]) (ob2 := []) ?_ ?_)
    ·rcases bt (decide ((((Bo p0 (Int.toNat k1)) : Nat) : Int) ≥ 97)) with h57 | h57
     ·rcases bt (decide ((((Bo p0 (Int.toNat k1)) : Nat) : Int) ≤ 122)) with h58 | h58
      ·exact RT hnt (nn 5 (pT :: .no :: sk 6 (pT :: .no :: sk 6 (pT :: .no :: sk 2 (pT :: .no :: sk 2 (pT :: .no :: [])))))) [(57,pB false)] (an3 h57 (an5 h58 (an5 tt (an6 tt tv)))) (by kernel_rfl) (.cons rfl (.of_eq (by rw [h57,h58]; try rfl)) .nil)
      ·rcases bt (decide ((((Bo p0 (Int.toNat k1)) : Nat) : Int) ≥ 65)) with h59 | h59
       ·rcases bt (decide ((((Bo p0 (Int.toNat k1)) : Nat) : Int) ≤ 90)) with h60 | h60
        ·exact RT hnt (nn 5 (pT :: nn 6 (pT :: pF :: .no :: sk 6 (pT :: .no :: sk 2 (pT :: .no :: sk 2 (pT :: .no :: [])))))) [(57,pB false)] (an3 h57 (an3 h58 (an2 h59 (an h58 (an h59 (an h58 (an5 h60 (an6 tt tv)))))))) (by kernel_rfl) (.cons rfl (.of_eq (by rw [h57,h58,h59,h60]; try rfl)) .nil)
        ·rcases bt (decide ((((Bo p0 (Int.toNat k1)) : Nat) : Int) ≥ 48)) with h61 | h61
         ·rcases bt (decide ((((Bo p0 (Int.toNat k1)) : Nat) : Int) ≤ 57)) with h62 | h62
          ·exact RT hnt (nn 5 (pT :: nn 6 (pT :: pF :: nn 6 (pT :: pF :: .no :: sk 2 (pT :: .no :: sk 2 (pT :: .no :: [])))))) [(57,pB false)] (an3 h57 (an3 h58 (an2 h59 (an h58 (an h59 (an h58 (an3 h60 (an2 h61 (an h60 (an h61 (an h60 (an3 h62 (an3 tt tv))))))))))))) (by kernel_rfl) (.cons rfl (.of_eq (by rw [h57,h58,h59,h60,h61,h62]; try rfl)) .nil)
          ·rcases bt ((((Bo p0 (Int.toNat k1)) : Nat) : Int) == 95) with h63 | h63
           ·exact RT hnt (nn 5 (pT :: nn 6 (pT :: pF :: nn 6 (pT :: pF :: nn 3 (pF :: .no :: sk 2 (pT :: .no :: [])))))) [(57,pB false)] (an3 h57 (an3 h58 (an2 h59 (an h58 (an h59 (an h58 (an3 h60 (an2 h61 (an h60 (an h61 (an h60 (an3 h62 (an3 h63 tv))))))))))))) (by kernel_rfl) (.cons rfl (.of_eq (by rw [h57,h58,h59,h60,h61,h62,h63]; try rfl)) .nil)
           ·exact RT hnt (nn 5 (pT :: nn 6 (pT :: pF :: nn 6 (pT :: pF :: nn 3 (pF :: nn 3 (pF :: .no :: [])))))) [(Aav p0 k1)] (an3 h57 (an3 h58 (an2 h59 (an h58 (an h59 (an h58 (an3 h60 (an2 h61 (an h60 (an h61 (an h60 (an3 h62 (an3 h63 tv))))))))))))) (by kernel_rfl) (.cons rfl (.of_eq (by rw [h57,h58,h59,h60,h61,h62,h63]; try rfl)) .nil)
         ·rcases bt ((((Bo p0 (Int.toNat k1)) : Nat) : Int) == 95) with h64 | h64
          ·exact RT hnt (nn 5 (pT :: nn 6 (pT :: pF :: nn 4 (sk 2 (pF :: pF :: nn 3 (pF :: .no :: sk 2 (pT :: .no :: []))))))) [(57,pB false)] (an3 h57 (an3 h58 (an2 h59 (an h58 (an h59 (an h58 (an3 h60 (an2 h61 (an h60 (an h61 (an h60 (an3 ff (an3 h64 tv))))))))))))) (by kernel_rfl) (.cons rfl (.of_eq (by rw [h57,h58,h59,h60,h61,h64]; try rfl)) .nil)
          ·exact RT hnt (nn 5 (pT :: nn 6 (pT :: pF :: nn 4 (sk 2 (pF :: pF :: nn 3 (pF :: nn 3 (pF :: .no :: []))))))) [(Aav p0 k1)] (an3 h57 (an3 h58 (an2 h59 (an h58 (an h59 (an h58 (an3 h60 (an2 h61 (an h60 (an h61 (an h60 (an3 ff (an3 h64 tv))))))))))))) (by kernel_rfl) (.cons rfl (.of_eq (by rw [h57,h58,h59,h60,h61,h64]; try rfl)) .nil)
       ·rcases bt (decide ((((Bo p0 (Int.toNat k1)) : Nat) : Int) ≥ 48)) with h65 | h65
        ·rcases bt (decide ((((Bo p0 (Int.toNat k1)) : Nat) : Int) ≤ 57)) with h66 | h66
         ·exact RT hnt (nn 5 (pT :: nn 4 (sk 2 (pF :: pF :: nn 6 (pT :: pF :: .no :: sk 2 (pT :: .no :: sk 2 (pT :: .no :: []))))))) [(57,pB false)] (an3 h57 (an3 h58 (an2 h59 (an h58 (an h59 (an h58 (an3 ff (an2 h65 (an ff (an h65 (an ff (an3 h66 (an3 tt tv))))))))))))) (by kernel_rfl) (.cons rfl (.of_eq (by rw [h57,h58,h59,h65,h66]; try rfl)) .nil)
         ·rcases bt ((((Bo p0 (Int.toNat k1)) : Nat) : Int) == 95) with h67 | h67
          ·exact RT hnt (nn 5 (pT :: nn 4 (sk 2 (pF :: pF :: nn 6 (pT :: pF :: nn 3 (pF :: .no :: sk 2 (pT :: .no :: []))))))) [(57,pB false)] (an3 h57 (an3 h58 (an2 h59 (an h58 (an h59 (an h58 (an3 ff (an2 h65 (an ff (an h65 (an ff (an3 h66 (an3 h67 tv))))))))))))) (by kernel_rfl) (.cons rfl (.of_eq (by rw [h57,h58,h59,h65,h66,h67]; try rfl)) .nil)
          ·exact RT hnt (nn 5 (pT :: nn 4 (sk 2 (pF :: pF :: nn 6 (pT :: pF :: nn 3 (pF :: nn 3 (pF :: .no :: []))))))) [(Aav p0 k1)] (an3 h57 (an3 h58 (an2 h59 (an h58 (an h59 (an h58 (an3 ff (an2 h65 (an ff (an h65 (an ff (an3 h66 (an3 h67 tv))))))))))))) (by kernel_rfl) (.cons rfl (.of_eq (by rw [h57,h58,h59,h65,h66,h67]; try rfl)) .nil)
        ·rcases bt ((((Bo p0 (Int.toNat k1)) : Nat) : Int) == 95) with h68 | h68
         ·exact RT hnt (nn 5 (pT :: nn 4 (sk 2 (pF :: pF :: nn 4 (sk 2 (pF :: pF :: nn 3 (pF :: .no :: sk 2 (pT :: .no :: [])))))))) [(57,pB false)] (an3 h57 (an3 h58 (an2 h59 (an h58 (an h59 (an h58 (an3 ff (an2 h65 (an ff (an h65 (an4 ff (an3 h68 tv)))))))))))) (by kernel_rfl) (.cons rfl (.of_eq (by rw [h57,h58,h59,h65,h68]; try rfl)) .nil)
         ·exact RT hnt (nn 5 (pT :: nn 4 (sk 2 (pF :: pF :: nn 4 (sk 2 (pF :: pF :: nn 3 (pF :: nn 3 (pF :: .no :: [])))))))) [(Aav p0 k1)] (an3 h57 (an3 h58 (an2 h59 (an h58 (an h59 (an h58 (an3 ff (an2 h65 (an ff (an h65 (an4 ff (an3 h68 tv)))))))))))) (by kernel_rfl) (.cons rfl (.of_eq (by rw [h57,h58,h59,h65,h68]; try rfl)) .nil)
     ·rcases bt (decide ((((Bo p0 (Int.toNat k1)) : Nat) : Int) ≥ 65)) with h69 | h69
      ·rcases bt (decide ((((Bo p0 (Int.toNat k1)) : Nat) : Int) ≤ 90)) with h70 | h70
       ·exact RT hnt (nn 3 (sk 2 (pF :: nn 6 (pT :: pF :: .no :: sk 6 (pT :: .no :: sk 2 (pT :: .no :: sk 2 (pT :: .no :: []))))))) [(57,pB false)] (an3 h57 (an3 ff (an2 h69 (an ff (an h69 (an ff (an5 h70 (an6 tt tv)))))))) (by kernel_rfl) (.cons rfl (.of_eq (by rw [h57,h69,h70]; try rfl)) .nil)
       ·rcases bt (decide ((((Bo p0 (Int.toNat k1)) : Nat) : Int) ≥ 48)) with h71 | h71
        ·rcases bt (decide ((((Bo p0 (Int.toNat k1)) : Nat) : Int) ≤ 57)) with h72 | h72
         ·exact RT hnt (nn 3 (sk 2 (pF :: nn 6 (pT :: pF :: nn 6 (pT :: pF :: .no :: sk 2 (pT :: .no :: sk 2 (pT :: .no :: []))))))) [(57,pB false)] (an3 h57 (an3 ff (an2 h69 (an ff (an h69 (an ff (an3 h70 (an2 h71 (an h70 (an h71 (an h70 (an3 h72 (an3 tt tv))))))))))))) (by kernel_rfl) (.cons rfl (.of_eq (by rw [h57,h69,h70,h71,h72]; try rfl)) .nil)
         ·rcases bt ((((Bo p0 (Int.toNat k1)) : Nat) : Int) == 95) with h73 | h73
          ·exact RT hnt (nn 3 (sk 2 (pF :: nn 6 (pT :: pF :: nn 6 (pT :: pF :: nn 3 (pF :: .no :: sk 2 (pT :: .no :: []))))))) [(57,pB false)] (an3 h57 (an3 ff (an2 h69 (an ff (an h69 (an ff (an3 h70 (an2 h71 (an h70 (an h71 (an h70 (an3 h72 (an3 h73 tv))))))))))))) (by kernel_rfl) (.cons rfl (.of_eq (by rw [h57,h69,h70,h71,h72,h73]; try rfl)) .nil)
          ·exact RT hnt (nn 3 (sk 2 (pF :: nn 6 (pT :: pF :: nn 6 (pT :: pF :: nn 3 (pF :: nn 3 (pF :: .no :: []))))))) [(Aav p0 k1)] (an3 h57 (an3 ff (an2 h69 (an ff (an h69 (an ff (an3 h70 (an2 h71 (an h70 (an h71 (an h70 (an3 h72 (an3 h73 tv))))))))))))) (by kernel_rfl) (.cons rfl (.of_eq (by rw [h57,h69,h70,h71,h72,h73]; try rfl)) .nil)
        ·rcases bt ((((Bo p0 (Int.toNat k1)) : Nat) : Int) == 95) with h74 | h74
         ·exact RT hnt (nn 3 (sk 2 (pF :: nn 6 (pT :: pF :: nn 4 (sk 2 (pF :: pF :: nn 3 (pF :: .no :: sk 2 (pT :: .no :: [])))))))) [(57,pB false)] (an3 h57 (an3 ff (an2 h69 (an ff (an h69 (an ff (an3 h70 (an2 h71 (an h70 (an h71 (an h70 (an3 ff (an3 h74 tv))))))))))))) (by kernel_rfl) (.cons rfl (.of_eq (by rw [h57,h69,h70,h71,h74]; try rfl)) .nil)
         ·exact RT hnt (nn 3 (sk 2 (pF :: nn 6 (pT :: pF :: nn 4 (sk 2 (pF :: pF :: nn 3 (pF :: nn 3 (pF :: .no :: [])))))))) [(Aav p0 k1)] (an3 h57 (an3 ff (an2 h69 (an ff (an h69 (an ff (an3 h70 (an2 h71 (an h70 (an h71 (an h70 (an3 ff (an3 h74 tv))))))))))))) (by kernel_rfl) (.cons rfl (.of_eq (by rw [h57,h69,h70,h71,h74]; try rfl)) .nil)
      ·rcases bt (decide ((((Bo p0 (Int.toNat k1)) : Nat) : Int) ≥ 48)) with h75 | h75
       ·rcases bt (decide ((((Bo p0 (Int.toNat k1)) : Nat) : Int) ≤ 57)) with h76 | h76
        ·exact RT hnt (nn 3 (sk 2 (pF :: nn 4 (sk 2 (pF :: pF :: nn 6 (pT :: pF :: .no :: sk 2 (pT :: .no :: sk 2 (pT :: .no :: [])))))))) [(57,pB false)] (an3 h57 (an3 ff (an2 h69 (an ff (an h69 (an4 ff (an2 h75 (an ff (an h75 (an ff (an3 h76 (an3 tt tv)))))))))))) (by kernel_rfl) (.cons rfl (.of_eq (by rw [h57,h69,h75,h76]; try rfl)) .nil)
        ·rcases bt ((((Bo p0 (Int.toNat k1)) : Nat) : Int) == 95) with h77 | h77
         ·exact RT hnt (nn 3 (sk 2 (pF :: nn 4 (sk 2 (pF :: pF :: nn 6 (pT :: pF :: nn 3 (pF :: .no :: sk 2 (pT :: .no :: [])))))))) [(57,pB false)] (an3 h57 (an3 ff (an2 h69 (an ff (an h69 (an4 ff (an2 h75 (an ff (an h75 (an ff (an3 h76 (an3 h77 tv)))))))))))) (by kernel_rfl) (.cons rfl (.of_eq (by rw [h57,h69,h75,h76,h77]; try rfl)) .nil)
         ·exact RT hnt (nn 3 (sk 2 (pF :: nn 4 (sk 2 (pF :: pF :: nn 6 (pT :: pF :: nn 3 (pF :: nn 3 (pF :: .no :: [])))))))) [(Aav p0 k1)] (an3 h57 (an3 ff (an2 h69 (an ff (an h69 (an4 ff (an2 h75 (an ff (an h75 (an ff (an3 h76 (an3 h77 tv)))))))))))) (by kernel_rfl) (.cons rfl (.of_eq (by rw [h57,h69,h75,h76,h77]; try rfl)) .nil)
       ·rcases bt ((((Bo p0 (Int.toNat k1)) : Nat) : Int) == 95) with h78 | h78
        ·exact RT hnt (nn 3 (sk 2 (pF :: nn 4 (sk 2 (pF :: pF :: nn 4 (sk 2 (pF :: pF :: nn 3 (pF :: .no :: sk 2 (pT :: .no :: []))))))))) [(57,pB false)] (an3 h57 (an3 ff (an2 h69 (an ff (an h69 (an4 ff (an2 h75 (an ff (an h75 (an4 ff (an3 h78 tv))))))))))) (by kernel_rfl) (.cons rfl (.of_eq (by rw [h57,h69,h75,h78]; try rfl)) .nil)
        ·exact RT hnt (nn 3 (sk 2 (pF :: nn 4 (sk 2 (pF :: pF :: nn 4 (sk 2 (pF :: pF :: nn 3 (pF :: nn 3 (pF :: .no :: []))))))))) [(Aav p0 k1)] (an3 h57 (an3 ff (an2 h69 (an ff (an h69 (an4 ff (an2 h75 (an ff (an h75 (an4 ff (an3 h78 tv))))))))))) (by kernel_rfl) (.cons rfl (.of_eq (by rw [h57,h69,h75,h78]; try rfl)) .nil)
    ·refine Ae hm ?_ ?_
     ·intro h79 hm
      refine Sq (RK hnt (.no :: []) [(2,pB false)] [] tv ?_)
      obtain rfl := sj hm
      exact DW.ret (Ag [] [] (pB false))
     ·intro h79 hm
      refine Sk ?_
      refine DW.done ?_
      show DW _ _ _ _ _
      refine RK hnt (nn 3 []) [(0,pS p0),(3,pI (w64 (k1 + 1)))] [] tv ?_
      exact jD () ⟨hlt1,hm⟩ (Conv.tp [(3,pI (w64 (k1 + 1)))] [] (by kernel_rfl) (.cons rfl (.of_eq (congrArg pI (Yf (lo := 0) (hi := ((p0.size : Nat) : Int)) (by omega) hk1 hlt1 (by omega)))) .nil) .nil)
   ·intro h55
    have hge1 : ¬ k1 < ((p0.size : Nat) : Int) := by have := of_decide_eq_false h55; omega
    have hm := he1 hge1
    unfold AcG at hm
    refine DW.exit ?_
    refine Ao ?_
    refine Aw ?_
    refine Ak ?_
    show DW _ _ _ _ _
    refine Sq (RK hnt (.no :: []) [(2,pB true)] [] tv ?_)
    obtain rfl := sj hm
    exact DW.ret (Ag [] [] (pB true))
 ·rcases bt (((p0.size : Nat) : Int) == 0) with h1 | h1
  ·replace hm := Bd h1 hm
   refine RK hnt (nn 4 (sk 3 (pT :: .no :: sk 3 (pT :: [])))) [(0,pS p0),(17,pB true)] [] (an4 h1 (an4 tt tv)) ?_
   exact jD true hm .refl
  ·replace hm := Bc h1 hm
   rcases bt (decide (((p0.size : Nat) : Int) > 32)) with h2 | h2
   ·replace hm := Bd h2 hm
    refine RK hnt (nn 7 (pF :: .no :: sk 3 (pT :: []))) [(0,pS p0),(17,pB true)] [] (an4 h1 (an4 h2 tv)) ?_
    exact jD true hm .refl
   ·replace hm := Bc h2 hm
    obtain ⟨g3,hm⟩ := go1 hm
    refine RK hnt (nn 7 (pF :: nn 4 (pF :: []))) [(0,pS p0),(17,pB ((((Bo p0 0) : Nat) : Int) == 45))] [] (an4 h1 (an2 h2 (an (nn0 0) (an (ltc g3) (an2 h2 tv))))) ?_
    exact jD ((((Bo p0 0) : Nat) : Int) == 45) hm .refl
abbrev o77 (ks : List Nat) (b : Bool) (RES : Bool) (sm : List Nat := []) : Orc := .call 174 ks b (pB RES) [] [] sm

abbrev Dy (p0 : Af) (p1 : Int) := (p0.nodes.getD (Int.toNat p1) Bj)
abbrev AdW (p0 : Af) (p1 : Int) : Nat × Obj := (1040,bx (pm (Ar (Dy p0 p1))))
abbrev AdT (p0 : Af) : Nat × Obj := (1016,bx (pm (As p0)))
abbrev c76e4 (p0 : Af) (k1 : Int) := (p0.nodes.getD (Int.toNat k1) Bj)
theorem AgR (p0 : Af) (p1 : Int) (RES : Bool) (hm : Vy p0 p1 = some RES) : Spec Tryz.prog 169 [.p (.agg (As p0)),pI p1] [] (pB RES) [] [] := by
 unfold Vy at hm
 refine SO Tryz.func169 rfl rfl [(0,.p (.agg (As p0))),(1,pI p1)] [] ?_
 intro cx hnt
 refine Sq (RK hnt (nn 2 []) [(1,pI p1),(2,rr 1016)] [(AdT p0)] tv ?_)
 obtain ⟨g1,hm⟩ := go1 hm
 refine Sq (RD hnt (nn 7 []) [] [(5,rr 1040)] [] [(AdW p0 p1)] (an g1.1 (an g1.2 tv)) ?_)
 refine Sq (Sq (DW.regJ (sl2 := [(1,pI p1),(2,rr 1016),(5,rr 1040),(40,pB (((((((Dy p0 p1).kind != 0) && ((Dy p0 p1).kind != 1)) || (decide ((Dy p0 p1).control < 0))) || (decide ((Dy p0 p1).control > 31))) || (decide ((Dy p0 p1).owner < 0))) || (decide ((Dy p0 p1).owner > 1048576))))]) (ob2 := [(AdT p0),(AdW p0 p1)]) ?_ ?_))
 ·rcases bt ((Dy p0 p1).kind != 0) with h2 | h2
  ·rcases bt ((Dy p0 p1).kind != 1) with h3 | h3
   ·exact RT hnt (nn 7 (pT :: .no :: sk 3 (pT :: .no :: sk 3 (pT :: .no :: sk 3 (pT :: .no :: sk 3 (pT :: [])))))) [(40,pB true)] (an4 h2 (an4 h3 (an6 tt (an6 tt tv)))) (by kernel_rfl) (.cons rfl (.of_eq (by rw [h2,h3]; try rfl)) .nil)
   ·rcases bt (decide ((Dy p0 p1).control < 0)) with h4 | h4
    ·exact RT hnt (nn 7 (pT :: nn 4 (pF :: .no :: sk 3 (pT :: .no :: sk 3 (pT :: .no :: sk 3 (pT :: [])))))) [(40,pB true)] (an4 h2 (an4 h3 (an4 h4 (an2 tt (an6 tt tv))))) (by kernel_rfl) (.cons rfl (.of_eq (by rw [h2,h3,h4]; try rfl)) .nil)
    ·rcases bt (decide ((Dy p0 p1).control > 31)) with h5 | h5
     ·exact RT hnt (nn 7 (pT :: nn 4 (pF :: nn 4 (pF :: .no :: sk 3 (pT :: .no :: sk 3 (pT :: [])))))) [(40,pB true)] (an4 h2 (an4 h3 (an4 h4 (an4 h5 (an4 tt tv))))) (by kernel_rfl) (.cons rfl (.of_eq (by rw [h2,h3,h4,h5]; try rfl)) .nil)
     ·rcases bt (decide ((Dy p0 p1).owner < 0)) with h6 | h6
      ·exact RT hnt (nn 7 (pT :: nn 4 (pF :: nn 4 (pF :: nn 4 (pF :: .no :: sk 3 (pT :: [])))))) [(40,pB true)] (an4 h2 (an4 h3 (an4 h4 (an4 h5 (an4 h6 tv))))) (by kernel_rfl) (.cons rfl (.of_eq (by rw [h2,h3,h4,h5,h6]; try rfl)) .nil)
      ·exact RT hnt (nn 7 (pT :: nn 4 (pF :: nn 4 (pF :: nn 4 (pF :: nn 4 (pF :: [])))))) [(40,pB (decide ((Dy p0 p1).owner > 1048576)))] (an4 h2 (an4 h3 (an4 h4 (an4 h5 (an4 h6 tv))))) (by kernel_rfl) (.cons rfl (.of_eq (by rw [h2,h3,h4,h5,h6]; try rfl)) .nil)
  ·rcases bt (decide ((Dy p0 p1).control < 0)) with h7 | h7
   ·exact RT hnt (nn 4 (sk 3 (pF :: nn 4 (pF :: .no :: sk 3 (pT :: .no :: sk 3 (pT :: .no :: sk 3 (pT :: []))))))) [(40,pB true)] (an4 h2 (an4 ff (an4 h7 (an2 tt (an6 tt tv))))) (by kernel_rfl) (.cons rfl (.of_eq (by rw [h2,h7]; try rfl)) .nil)
   ·rcases bt (decide ((Dy p0 p1).control > 31)) with h8 | h8
    ·exact RT hnt (nn 4 (sk 3 (pF :: nn 4 (pF :: nn 4 (pF :: .no :: sk 3 (pT :: .no :: sk 3 (pT :: []))))))) [(40,pB true)] (an4 h2 (an4 ff (an4 h7 (an4 h8 (an4 tt tv))))) (by kernel_rfl) (.cons rfl (.of_eq (by rw [h2,h7,h8]; try rfl)) .nil)
    ·rcases bt (decide ((Dy p0 p1).owner < 0)) with h9 | h9
     ·exact RT hnt (nn 4 (sk 3 (pF :: nn 4 (pF :: nn 4 (pF :: nn 4 (pF :: .no :: sk 3 (pT :: []))))))) [(40,pB true)] (an4 h2 (an4 ff (an4 h7 (an4 h8 (an4 h9 tv))))) (by kernel_rfl) (.cons rfl (.of_eq (by rw [h2,h7,h8,h9]; try rfl)) .nil)
     ·exact RT hnt (nn 4 (sk 3 (pF :: nn 4 (pF :: nn 4 (pF :: nn 4 (pF :: nn 4 (pF :: []))))))) [(40,pB (decide ((Dy p0 p1).owner > 1048576)))] (an4 h2 (an4 ff (an4 h7 (an4 h8 (an4 h9 tv))))) (by kernel_rfl) (.cons rfl (.of_eq (by rw [h2,h7,h8,h9]; try rfl)) .nil)
 ·refine Ae hm ?_ ?_
  ·intro h10 hm
   refine Sq (RK hnt (.no :: []) [(4,pB false)] [] tv ?_)
   obtain rfl := sj hm
   exact DW.ret (Ag [] [] (pB false))
  ·intro h10 hm
   refine Sk ?_
   refine Sq (Sq (RD hnt (nn 2 []) [40] [(42,pB (p1 == 0))] [] [] tv ?_))
   refine Ae hm ?_ ?_
   ·intro h11 hm
    refine Sq (DW.regJ (sl2 := [(4,pB (((((Dy p0 p1).id == 1) && ((Dy p0 p1).parent == 0)) && (Dr (Dy p0 p1).name ByteArray.empty)) && ((Dy p0 p1).kind == 0)))]) (ob2 := []) ?_ ?_)
    ·rcases bt ((Dy p0 p1).id == 1) with h12 | h12
     ·rcases bt ((Dy p0 p1).parent == 0) with h13 | h13
      ·rcases bt (Dr (Dy p0 p1).name ByteArray.empty) with h14 | h14
       ·exact RT hnt (nn 7 (pT :: nn 4 (pT :: nn 4 (pT :: .no :: [])))) [(4,pB ((Dy p0 p1).kind == 0))] (an4 h12 (an4 h13 (an4 h14 tv))) (by kernel_rfl) (.cons rfl (.of_eq (by rw [h12,h13,h14]; try rfl)) .nil)
       ·exact RT hnt (nn 7 (pT :: nn 4 (pT :: .no :: sk 3 (pF :: .no :: [])))) [(4,pB false)] (an4 h12 (an4 h13 (an4 h14 tv))) (by kernel_rfl) (.cons rfl (.of_eq (by rw [h12,h13,h14]; try rfl)) .nil)
      ·exact RT hnt (nn 7 (pT :: .no :: sk 3 (pF :: .no :: sk 3 (pF :: .no :: [])))) [(4,pB false)] (an4 h12 (an4 h13 (an4 ff tv))) (by kernel_rfl) (.cons rfl (.of_eq (by rw [h12,h13]; try rfl)) .nil)
     ·exact RT hnt (nn 4 (sk 3 (pF :: .no :: sk 3 (pF :: .no :: sk 3 (pF :: .no :: []))))) [(4,pB false)] (an4 h12 (an2 ff (an6 ff tv))) (by kernel_rfl) (.cons rfl (.of_eq (by rw [h12]; try rfl)) .nil)
    ·refine DW.ret ?_
     obtain rfl := sj hm
     exact Ag [] [] (pB (((((Dy p0 p1).id == 1) && ((Dy p0 p1).parent == 0)) && (Dr (Dy p0 p1).name ByteArray.empty)) && ((Dy p0 p1).kind == 0)))
   ·intro h11 hm
    refine Sk ?_
    obtain ⟨g15,hm⟩ := go1 hm
    refine Sq (Sq ?_)
    refine Jn (ι := Bool) (fun (y1 : Bool) => Aj [(1,pI p1),(2,rr 1016),(5,rr 1040),(76,pB y1)] [(AdT p0),(AdW p0 p1)]) (fun y1 => (Si p0 p1) y1 = some RES) ?_ ?_
    ·intro y1 hm
     unfold Si at hm
     refine Ae hm ?_ ?_
     ·intro h18 hm
      refine Sq (RK hnt (.no :: []) [(4,pB false)] [] tv ?_)
      obtain rfl := sj hm
      exact DW.ret (Ag [] [] (pB false))
     ·intro h18 hm
      refine Sk ?_
      refine Sq (RD hnt (.no :: []) [76] [(6,pB false)] [] [] tv ?_)
      refine Sq (Sq (RD hnt (.no :: []) [] [(7,pI 0)] [] [] tv ?_))
      refine Bk ?_
      obtain ⟨hc1,hm⟩ := go1 hm
      refine DW.forO (fun (k1 : Int) (s1 : Bool) => Aj [(1,pI p1),(2,rr 1016),(5,rr 1040),(6,pB s1),(7,pI k1)] [(AdT p0),(AdW p0 p1)]) (lo := 0) (hi := p1) hm Conv.eqK ?_
      intro k1 s1 n1 hk1 hs1 he1
      refine Sq (Sq (RD hnt (nn 3 []) [] [(79,pB (decide (k1 < p1)))] [] [] tv ?_))
      refine Cb (decide (k1 < p1)) ?_ ?_
      ·intro h32
       have hlt1 : k1 < p1 := by have := of_decide_eq_true h32; omega
       have hm := hs1 hlt1
       unfold AaJ at hm
       refine Sk ?_
       refine Sq (Bk ?_)
       refine Sq ?_
       refine Jn (ι := Bool) (fun (y5 : Bool) => Aj [(1,pI p1),(2,rr 1016),(5,rr 1040),(6,pB y5),(7,pI k1)] [(AdT p0),(AdW p0 p1)]) (fun y5 => (Pd p0 p1 k1 n1) y5 = some RES) ?_ ?_
       ·intro y5 hm
        unfold Pd at hm
        obtain ⟨g35,hm⟩ := go1 hm
        refine Sq ?_
        refine Jn (ι := Bool) (fun (y6 : Bool) => Aj [(1,pI p1),(2,rr 1016),(5,rr 1040),(6,pB y5),(7,pI k1),(113,pB y6)] [(AdT p0),(AdW p0 p1)]) (fun y6 => (Pb n1 y5) y6 = some RES) ?_ ?_
        ·intro y6 hm
         unfold Pb at hm
         refine Ae hm ?_ ?_
         ·intro h38 hm
          refine Sq (RK hnt (.no :: []) [(4,pB false)] [] tv ?_)
          obtain rfl := sj hm
          exact DW.ret (Ag [] [] (pB false))
         ·intro h38 hm
          refine Sk ?_
          refine DW.done ?_
          show DW _ _ _ _ _
          refine RD hnt (nn 3 []) [113] [(7,pI (w64 (k1 + 1)))] [] [] tv ?_
          exact jD y5 ⟨hlt1,hm⟩ (Conv.tp [(7,pI (w64 (k1 + 1)))] [] (by kernel_rfl) (.cons rfl (.of_eq (congrArg pI (Yf (lo := 0) (hi := p1) (by omega) hk1 hlt1 (by omega)))) .nil) .nil)
        ·rcases bt ((c76e4 p0 k1).parent == (Dy p0 p1).parent) with h36 | h36
         ·replace hm := Bd h36 hm
          obtain ⟨g37,hm⟩ := go1 hm
          refine RD hnt (nn 19 (pT :: [])) [] [(113,pB (Dr (c76e4 p0 k1).name (Dy p0 p1).name))] [] [] (an g35.1 (an g35.2 (an4 h36 (an g37.1 (an g37.2 (an6 h36 tv)))))) ?_
          exact jD (Dr (c76e4 p0 k1).name (Dy p0 p1).name) hm Conv.eqK
         ·replace hm := Bc h36 hm
          refine RD hnt (nn 10 (sk 9 (pF :: []))) [] [(113,pB false)] [] [] (an g35.1 (an g35.2 (an4 h36 (an6 h36 tv)))) ?_
          exact jD false hm Conv.eqK
       ·rcases bt s1 with h33 | h33
        ·replace hm := Bd h33 hm
         refine RD hnt (nn 2 (sk 9 (pT :: .no :: []))) [79] [(6,pB true)] [] [] (an4 h33 (an6 h33 tv)) ?_
         exact jD true hm Conv.eqK
        ·replace hm := Bc h33 hm
         obtain ⟨g34,hm⟩ := go1 hm
         refine RD hnt (nn 11 (pF :: .no :: [])) [79] [(6,pB ((c76e4 p0 k1).id == (Dy p0 p1).parent))] [] [] (an4 h33 (an g34.1 (an g34.2 (an6 h33 tv)))) ?_
         exact jD ((c76e4 p0 k1).id == (Dy p0 p1).parent) hm Conv.eqK
      ·intro h32
       have hge1 : ¬ k1 < p1 := by have := of_decide_eq_false h32; omega
       have hm := he1 hge1
       unfold Aer at hm
       refine DW.exit ?_
       refine Ao ?_
       refine Aw ?_
       refine Ak ?_
       show DW _ _ _ _ _
       refine Sq (RK hnt (nn 2 []) [(4,pB s1)] [] tv ?_)
       obtain rfl := sj hm
       exact DW.ret (Ag [] [] (pB s1))
    ·rcases bt (decide ((Dy p0 p1).id ≤ (p0.nodes.getD (Int.toNat (w64 (p1 - 1))) Bj).id)) with h16 | h16
     ·replace hm := Bd h16 hm
      refine RD hnt (nn 11 (sk 4 (pT :: []))) [42] [(76,pB true)] [] [] (an g15.1 (an g15.2 (an5 h16 tv))) ?_
      exact jD true hm Conv.eqK
     ·replace hm := Bc h16 hm
      obtain ⟨r17,hr17,hm⟩ := bo hm
      refine RD hnt (nn 13 (o77 [] true r17 :: .no :: pF :: [])) [42] [(76,pB (!r17))] [] [] (an g15.1 (an g15.2 (an3 h16 (an (Abg (Dy p0 p1).name r17 hr17) (an2 h16 tv))))) ?_
      exact jD (!r17) hm Conv.eqK
abbrev o76 (ks : List Nat) (b : Bool) (RES : Bool) (sm : List Nat := []) : Orc := .call 169 ks b (pB RES) [] [] sm

theorem Aeg (p0 : Af) (p1 : Int) (RES : List Int) (hm : Yg p0 p1 = some RES) : Spec Tryz.prog 128 [.p (.agg (As p0)),pI p1] [] (ow 0 RES.length) [] [roI RES] := by
 unfold Yg at hm
 refine SO Tryz.func128 rfl rfl [(0,.p (.agg (As p0))),(1,pI p1)] [] ?_
 intro cx hnt
 refine Sq (RK hnt (nn 2 []) [(1,pI p1),(2,rr 1016)] [(1016,bx (pm (As p0)))] tv ?_)
 refine Sq (RD hnt (.no :: []) [] [(5,.p (.sl .nil 0 0 (fun _ => [])))] [] [] tv ?_)
 refine Sq (Sq (RD hnt (nn 5 []) [] [(6,pI (w64 (((p0.nodes.length : Nat) : Int) - 1)))] [] [] tv ?_))
 refine Bk ?_
 refine DW.whileO (fun (s1 : (List Int) × Int × Int) => Aj [(1,pI s1.2.1),(2,rr 1016),(5,ow 1208 s1.1.length),(6,pI s1.2.2)] [(1016,bx (pm (As p0))),(1208,ob0 (roI s1.1))]) hm (Conv.ads [(.s 5,1208,1,elems Bn 0 [])]) ?_
 intro s1 n1 hm
 unfold Adb at hm
 refine Sq (Sq (RD hnt (nn 2 []) [] [(12,pB (decide (s1.2.2 ≥ 0)))] [] [] tv ?_))
 refine Ae hm ?_ ?_
 ·intro h5 hm
  refine Sk ?_
  refine Sq ?_
  refine Jn (ι := (List Int) × Int) (fun (y2 : (List Int) × Int) => Aj [(1,pI y2.2),(2,rr 1016),(5,ow 1208 y2.1.length),(6,pI s1.2.2)] [(1016,bx (pm (As p0))),(1208,ob0 (roI y2.1))]) (fun y2 => (Td s1 n1) y2 = some RES) ?_ ?_
  ·intro y2 hm
   unfold Td at hm
   refine RD hnt (nn 3 []) [] [(6,pI (w64 (s1.2.2 - 1)))] [] [] tv ?_
   exact jD (y2.1,y2.2,(w64 (s1.2.2 - 1))) hm Conv.eqK
  ·refine Bk ?_
   obtain ⟨g6,hm⟩ := go1 hm
   refine Sq (RD hnt (nn 8 []) [12] [(22,pB ((p0.nodes.getD (Int.toNat s1.2.2) Bj).id == s1.2.1))] [] [] (an g6.1 (an g6.2 tv)) ?_)
   refine Ae hm ?_ ?_
   ·intro h7 hm
    obtain ⟨g8,hm⟩ := go1 hm
    refine Sq (RN hnt (nn 5 []) [(2,rr 1016),(5,ow 1208 (s1.1 ++ [s1.2.1]).length),(6,pI s1.2.2)] [(1016,bx (pm (As p0))),(1208,ob0 (roI (s1.1 ++ [s1.2.1])))] [(5,ow 1208 (s1.1.length + 1))] [(1208,.row 1 (s1.1.length + 1) (Cw s1.1.length (elI s1.1) (cut 1 [vi s1.2.1])))] (an (by omega : (s1.1.length + 1) * 8 ≤ 140737488355328) tv) (by kernel_rfl) (.cons rfl (MLe.ownLen (enc := Bn) (d := 0) (f := (Cw s1.1.length (elI s1.1) (cut 1 [vi s1.2.1]))) (RowIs.cat RowIs.elems (RowIs.lit (enc := Bn) (d := 0) (n := 1) (f := (cut 1 [vi s1.2.1])) [s1.2.1] rfl (fun | 0,_ => rfl | n + 1,h => absurd h (by omega))))) .nil) (.cons rfl (BLe.typed (RowIs.cat RowIs.elems (RowIs.lit (enc := Bn) (d := 0) (n := 1) (f := (cut 1 [vi s1.2.1])) [s1.2.1] rfl (fun | 0,_ => rfl | n + 1,h => absurd h (by omega))))) .nil) ?_)
    obtain ⟨g9,hm⟩ := go1 hm
    refine RD hnt (nn 7 []) [] [(1,pI (p0.nodes.getD (Int.toNat s1.2.2) Bj).parent)] [] [] (an g9.1 (an g9.2 tv)) ?_
    exact bD ((s1.1 ++ [s1.2.1]),(p0.nodes.getD (Int.toNat s1.2.2) Bj).parent) hm Conv.eqK
   ·intro h7 hm
    refine Sk ?_
    exact bD (s1.1,s1.2.1) hm Conv.t0
 ·intro h5 hm
  refine DW.exit ?_
  refine Ao ?_
  refine Aw ?_
  refine Ak ?_
  show DW _ _ _ _ _
  refine Sq (RK hnt (nn 2 []) [(4,ow 1208 s1.1.length)] [(1208,ob0 (roI s1.1))] tv ?_)
  obtain rfl := sj hm
  exact DW.ret (Ag [roI s1.1] [1208] (ow 0 s1.1.length))
abbrev o78 (ks : List Nat) (b : Bool) (RES : List Int) (sm : List Nat := []) : Orc := .call 128 ks b (ow 0 RES.length) [] [roI RES] sm

abbrev c75e1 (p0 : Af) : Nat × MV := (3,pI ((p0.nodes.length : Nat) : Int))
theorem Ft (p0 : Af) (RES : Bool) (hm : Jj p0 = some RES) : Spec Tryz.prog 94 [.p (.agg (As p0))] [] (pB RES) [] [] := by
 unfold Jj at hm
 refine SO Tryz.func94 rfl rfl [(0,.p (.agg (As p0)))] [] ?_
 intro cx hnt
 refine Sq (RK hnt (nn 2 []) [(1,rr 1008)] [(1008,bx (pm (As p0)))] tv ?_)
 refine Sq (RD hnt (nn 4 []) [] [(c75e1 p0)] [] [] tv ?_)
 refine Sq (Sq (DW.regJ (sl2 := [(1,rr 1008),(c75e1 p0),(14,pB ((decide (((p0.nodes.length : Nat) : Int) < 1)) || (decide (((p0.nodes.length : Nat) : Int) > 64))))]) (ob2 := [(1008,bx (pm (As p0)))]) ?_ ?_))
 ·rcases bt (decide (((p0.nodes.length : Nat) : Int) < 1)) with h1 | h1
  ·exact RT hnt (nn 3 (sk 2 (pT :: []))) [(14,pB true)] (an3 h1 tv) (by kernel_rfl) (.cons rfl (.of_eq (by rw [h1]; try rfl)) .nil)
  ·exact RT hnt (nn 5 (pF :: [])) [(14,pB (decide (((p0.nodes.length : Nat) : Int) > 64)))] (an3 h1 tv) (by kernel_rfl) (.cons rfl (.of_eq (by rw [h1]; try rfl)) .nil)
 ·refine Ae hm ?_ ?_
  ·intro h2 hm
   refine Sq (RK hnt (.no :: []) [(2,pB false)] [] tv ?_)
   obtain rfl := sj hm
   exact DW.ret (Ag [] [] (pB false))
  ·intro h2 hm
   refine Sk ?_
   refine Sq (Sq (RD hnt (.no :: []) [14] [(4,pI 0)] [] [] tv ?_))
   refine Bk ?_
   obtain ⟨hc1,hm⟩ := go1 hm
   refine DW.rangeO (fun (k1 : Nat) (s1 : Unit) => Aj [(1,rr 1008),(c75e1 p0),(4,pI ((k1 : Nat) : Int))] [(1008,bx (pm (As p0)))]) Bj hm Conv.eqK ?_
   intro k1 s1 n1 hk1 hs1 he1
   refine Sq (Sq (RD hnt (nn 3 []) [] [(17,pB (decide (((k1 : Nat) : Int) < ((p0.nodes.length : Nat) : Int))))] [] [] tv ?_))
   refine Cb (decide (((k1 : Nat) : Int) < ((p0.nodes.length : Nat) : Int))) ?_ ?_
   ·intro h32
    have hlt1 : k1 < p0.nodes.length := by have := of_decide_eq_true h32; omega
    have hm := hs1 hlt1
    unfold Yh at hm
    refine Sk ?_
    refine Sq (Bk ?_)
    obtain ⟨r33,hr33,hm⟩ := bo hm
    refine Sq (RD hnt (nn 2 (o76 [] true r33 :: .no :: [])) [17] [(23,pB (!r33))] [] [] (an (AgR p0 ((k1 : Nat) : Int) r33 hr33) tv) ?_)
    refine Ae hm ?_ ?_
    ·intro h34 hm
     refine Sq (RK hnt (.no :: []) [(2,pB false)] [] tv ?_)
     obtain rfl := sj hm
     exact DW.ret (Ag [] [] (pB false))
    ·intro h34 hm
     refine Sk ?_
     refine DW.done ?_
     show DW _ _ _ _ _
     refine RD hnt (nn 3 []) [23] [(4,pI (w64 (((k1 : Nat) : Int) + 1)))] [] [] tv ?_
     exact jD () ⟨hlt1,hm⟩ (Conv.tp [(4,pI (w64 (((k1 : Nat) : Int) + 1)))] [] (by kernel_rfl) (.cons rfl (.of_eq (congrArg pI (Bl hlt1 hc1))) .nil) .nil)
   ·intro h32
    have hge1 : ¬ k1 < p0.nodes.length := by have := of_decide_eq_false h32; omega
    have hm := he1 hge1
    unfold Zn at hm
    refine DW.exit ?_
    refine Ao ?_
    refine Aw ?_
    refine Ak ?_
    show DW _ _ _ _ _
    refine Sq (Sq (RD hnt (.no :: []) [4,17] [(5,pI 0)] [] [] tv ?_))
    refine Bk ?_
    obtain ⟨hc4,hm⟩ := go1 hm
    refine DW.rangeO (fun (k4 : Nat) (s4 : Unit) => Aj [(1,rr 1008),(c75e1 p0),(5,pI ((k4 : Nat) : Int))] [(1008,bx (pm (As p0)))]) Bj hm Conv.eqK ?_
    intro k4 s4 n4 hk4 hs4 he4
    refine Sq (Sq (RD hnt (nn 3 []) [] [(26,pB (decide (((k4 : Nat) : Int) < ((p0.nodes.length : Nat) : Int))))] [] [] tv ?_))
    refine Cb (decide (((k4 : Nat) : Int) < ((p0.nodes.length : Nat) : Int))) ?_ ?_
    ·intro h49
     have hlt4 : k4 < p0.nodes.length := by have := of_decide_eq_true h49; omega
     have hm := hs4 hlt4
     unfold Zj at hm
     refine Sk ?_
     refine Sq (Bk ?_)
     obtain ⟨r50,hr50,hm⟩ := bo hm
     refine Sq (RD hnt (nn 7 (o78 [] true r50 :: nn 2 [])) [26] [(38,pB (decide (((r50.length : Nat) : Int) > 9)))] [] [] (an (nn0 k4) (an (ltc hlt4) (an (Aeg p0 (p0.nodes.getD k4 (default : An)).id r50 hr50) tv))) ?_)
     refine Ae hm ?_ ?_
     ·intro h51 hm
      refine Sq (RK hnt (.no :: []) [(2,pB false)] [] tv ?_)
      obtain rfl := sj hm
      exact DW.ret (Ag [] [] (pB false))
     ·intro h51 hm
      refine Sk ?_
      refine DW.done ?_
      show DW _ _ _ _ _
      refine RD hnt (nn 3 []) [38] [(5,pI (w64 (((k4 : Nat) : Int) + 1)))] [] [] tv ?_
      exact jD () ⟨hlt4,hm⟩ (Conv.tp [(5,pI (w64 (((k4 : Nat) : Int) + 1)))] [] (by kernel_rfl) (.cons rfl (.of_eq (congrArg pI (Bl hlt4 hc4))) .nil) .nil)
    ·intro h49
     have hge4 : ¬ k4 < p0.nodes.length := by have := of_decide_eq_false h49; omega
     have hm := he4 hge4
     unfold Yq at hm
     refine DW.exit ?_
     refine Ao ?_
     refine Aw ?_
     refine Ak ?_
     show DW _ _ _ _ _
     obtain ⟨g52,hm⟩ := go1 hm
     refine Sq ?_
     refine Jn (ι := Bool) (fun (y7 : Bool) => Aj [(2,pB y7)] []) (fun y7 => Qc y7 = some RES) ?_ ?_
     ·intro y7 hm
      unfold Qc at hm
      obtain rfl := sj hm
      exact DW.ret (Ag [] [] (pB y7))
     ·rcases bt (decide (p0.next > (p0.nodes.getD (Int.toNat (w64 (((p0.nodes.length : Nat) : Int) - 1))) Bj).id)) with h53 | h53
      ·replace hm := Bd h53 hm
       refine RK hnt (nn 14 (pT :: .no :: [])) [(2,pB (decide (p0.next ≤ 2147483648)))] [] (an g52.1 (an g52.2 (an4 h53 tv))) ?_
       exact jD (decide (p0.next ≤ 2147483648)) hm .refl
      ·replace hm := Bc h53 hm
       refine RK hnt (nn 11 (sk 3 (pF :: .no :: []))) [(2,pB false)] [] (an g52.1 (an g52.2 (an4 h53 tv))) ?_
       exact jD false hm .refl
abbrev o75 (ks : List Nat) (b : Bool) (RES : Bool) (sm : List Nat := []) : Orc := .call 94 ks b (pB RES) [] [] sm

theorem De (p0 : Af) (p1 : Int) (RES : An × Bool) (hm : Df p0 p1 = some RES) : Spec Tryz.prog 44 [.p (.agg (As p0)),pI p1] [] (.p (.tup [.agg (Ar RES.1),vb RES.2])) [] [] := by
 unfold Df at hm
 refine SO Tryz.func44 rfl rfl [(0,.p (.agg (As p0))),(1,pI p1)] [] ?_
 intro cx hnt
 refine Sq (RK hnt (nn 3 []) [(1,pI p1),(2,rr 1016),(4,rr 1032)] [(1016,bx (pm (As p0))),(1032,bx [pI 0,pI 0,pS ByteArray.empty,pI 0,pI 0,pI 0])] tv ?_)
 obtain ⟨r1,hr1,hm⟩ := bo hm
 refine Sq (Sq (RD hnt (.no :: o75 [] true r1 :: .no :: []) [] [(9,pB (!r1))] [] [] (an (Ft p0 r1 hr1) tv) ?_))
 refine Ae hm ?_ ?_
 ·intro h2 hm
  refine Sq (RD hnt (nn 3 []) [1,2,9] [(5,pB false)] [1016] [] tv ?_)
  obtain rfl := sj hm
  exact DW.ret (Ag [] [] (.p (.tup [.agg [vi 0,vi 0,vs ByteArray.empty,vi 0,vi 0,vi 0],vb false])))
 ·intro h2 hm
  refine Sk ?_
  refine Sq (Sq (RD hnt (.no :: []) [9] [(6,pI 0)] [] [] tv ?_))
  refine Bk ?_
  obtain ⟨hc1,hm⟩ := go1 hm
  refine DW.rangeO (fun (k1 : Nat) (s1 : Unit) => Aj [(1,pI p1),(2,rr 1016),(4,rr 1032),(6,pI ((k1 : Nat) : Int))] [(1016,bx (pm (As p0))),(1032,bx [pI 0,pI 0,pS ByteArray.empty,pI 0,pI 0,pI 0])]) Bj hm Conv.eqK ?_
  intro k1 s1 n1 hk1 hs1 he1
  refine Sq (Sq (RD hnt (nn 5 []) [] [(15,pB (decide (((k1 : Nat) : Int) < ((p0.nodes.length : Nat) : Int))))] [] [] tv ?_))
  refine Cb (decide (((k1 : Nat) : Int) < ((p0.nodes.length : Nat) : Int))) ?_ ?_
  ·intro h11
   have hlt1 : k1 < p0.nodes.length := by have := of_decide_eq_true h11; omega
   have hm := hs1 hlt1
   unfold Aee at hm
   refine Sk ?_
   refine Sq (Bk ?_)
   refine Sq (RD hnt (nn 8 []) [15] [(25,pB ((p0.nodes.getD k1 (default : An)).id == p1))] [] [] (an (nn0 k1) (an (ltc hlt1) tv)) ?_)
   refine Ae hm ?_ ?_
   ·intro h12 hm
    refine Sq (RK hnt (nn 7 []) [(4,rr 1032),(5,pB true)] [(1032,bx (pm (Ar (p0.nodes.getD k1 (default : An)))))] (an (nn0 k1) (an (ltc hlt1) tv)) ?_)
    obtain rfl := sj hm
    exact DW.ret (Ag [] [] (.p (.tup [.agg (Ar (p0.nodes.getD k1 (default : An))),vb true])))
   ·intro h12 hm
    refine Sk ?_
    refine DW.done ?_
    show DW _ _ _ _ _
    refine RD hnt (nn 3 []) [25] [(6,pI (w64 (((k1 : Nat) : Int) + 1)))] [] [] tv ?_
    exact jD () ⟨hlt1,hm⟩ (Conv.tp [(6,pI (w64 (((k1 : Nat) : Int) + 1)))] [] (by kernel_rfl) (.cons rfl (.of_eq (congrArg pI (Bl hlt1 hc1))) .nil) .nil)
  ·intro h11
   have hge1 : ¬ k1 < p0.nodes.length := by have := of_decide_eq_false h11; omega
   have hm := he1 hge1
   unfold Aew at hm
   refine DW.exit ?_
   refine Ao ?_
   refine Aw ?_
   refine Ak ?_
   show DW _ _ _ _ _
   refine Sq (RD hnt (nn 3 []) [1,2,6,15] [(5,pB false)] [1016] [] tv ?_)
   obtain rfl := sj hm
   exact DW.ret (Ag [] [] (.p (.tup [.agg [vi 0,vi 0,vs ByteArray.empty,vi 0,vi 0,vi 0],vb false])))
abbrev o80 (ks : List Nat) (b : Bool) (RES : An × Bool) (sm : List Nat := []) : Orc := .call 44 ks b (.p (.tup [.agg (Ar RES.1),vb RES.2])) [] [] sm

theorem Cu (p0 : Af) (p1 : Int) (RES : Bool) (hm : Fo p0 p1 = some RES) : Spec Tryz.prog 96 [.p (.agg (As p0)),pI p1] [] (pB RES) [] [] := by
 unfold Fo at hm
 refine SO Tryz.func96 rfl rfl [(0,.p (.agg (As p0))),(1,pI p1)] [] ?_
 intro cx hnt
 refine Sq (RK hnt (nn 2 []) [(1,pI p1),(2,rr 1016)] [(1016,bx (pm (As p0)))] tv ?_)
 obtain ⟨r1,hr1,hm⟩ := bo hm
 refine Sq (RK hnt (nn 2 (o80 [] true r1 :: nn 6 [])) [(6,pB r1.2)] [] (an (De p0 p1 r1 hr1) tv) ?_)
 refine Sq (RK hnt (nn 2 []) [(4,pB r1.2)] [] tv ?_)
 obtain rfl := sj hm
 exact DW.ret (Ag [] [] (pB r1.2))
abbrev o79 (ks : List Nat) (b : Bool) (RES : Bool) (sm : List Nat := []) : Orc := .call 96 ks b (pB RES) [] [] sm

theorem Jq (p0 : Af) (p1 : Int) (RES : List Int) (hm : Fv p0 p1 = some RES) : Spec Tryz.prog 54 [.p (.agg (As p0)),pI p1] [] (ow 0 RES.length) [] [roI RES] := by
 unfold Fv at hm
 refine SO Tryz.func54 rfl rfl [(0,.p (.agg (As p0))),(1,pI p1)] [] ?_
 intro cx hnt
 refine Sq (RK hnt (nn 2 []) [(1,pI p1),(2,rr 1016)] [(1016,bx (pm (As p0)))] tv ?_)
 obtain ⟨r1,hr1,hm⟩ := bo hm
 refine Sq (Sq (RD hnt (nn 2 (o79 [] true r1 :: .no :: [])) [] [(8,pB (!r1))] [] [] (an (Cu p0 p1 r1 hr1) tv) ?_))
 refine Ae hm ?_ ?_
 ·intro h2 hm
  refine Sq (RK hnt (.no :: []) [(4,.p (.sl .nil 0 0 (fun _ => [])))] [] tv ?_)
  refine DW.cv [] [(4,ow 100000 0)] [] [(100000,ob0 (roI []))] (Conv.ads [(.s 4,100000,1,elems Bn 0 [])]) ?_
  obtain rfl := sj hm
  exact DW.ret (Ag [roI []] [100000] (ow 0 0))
 ·intro h2 hm
  refine Sk ?_
  obtain ⟨r3,hr3,hm⟩ := bo hm
  refine Sq (RK hnt (nn 2 (o78 [] true r3 :: .no :: [])) [(4,ow 1088 r3.length)] [(1088,ob0 (roI r3))] (an (Aeg p0 p1 r3 hr3) tv) ?_)
  obtain rfl := sj hm
  exact DW.ret (Ag [roI r3] [1088] (ow 0 r3.length))
abbrev o82 (ks : List Nat) (b : Bool) (RES : List Int) (sm : List Nat := []) : Orc := .call 54 ks b (ow 0 RES.length) [] [roI RES] sm

theorem Ur (p0 : Af) (p1 : Int) (RES : Int) (hm : Ua p0 p1 = some RES) : Spec Tryz.prog 175 [.p (.agg (As p0)),pI p1] [] (pI RES) [] [] := by
 unfold Ua at hm
 refine SO Tryz.func175 rfl rfl [(0,.p (.agg (As p0))),(1,pI p1)] [] ?_
 intro cx hnt
 refine Sq (RK hnt (nn 2 []) [(1,pI p1),(2,rr 1016)] [(1016,bx (pm (As p0)))] tv ?_)
 obtain ⟨r1,hr1,hm⟩ := bo hm
 refine Sq (RK hnt (nn 2 (o82 [] true r1 :: nn 3 [])) [(4,pI (w64 (((r1.length : Nat) : Int) - 1)))] [] (an (Jq p0 p1 r1 hr1) tv) ?_)
 obtain rfl := sj hm
 exact DW.ret (Ag [] [] (pI (w64 (((r1.length : Nat) : Int) - 1))))
abbrev o81 (ks : List Nat) (b : Bool) (RES : Int) (sm : List Nat := []) : Orc := .call 175 ks b (pI RES) [] [] sm

theorem Sp (p0 : Af) (RES : Af) (hm : Nx p0 = some RES) : Spec Tryz.prog 166 [.p (.agg (As p0))] [] (.agg [ow 0 RES.nodes.length,pI RES.next]) [] [Ah RES.nodes] := by
 unfold Nx at hm
 refine SO Tryz.func166 rfl rfl [(0,.p (.agg (As p0)))] [] ?_
 intro cx hnt
 refine Sq (RK hnt (nn 2 []) [(1,rr 1008),(2,rr 1016)] [(1008,bx (pm (As p0))),(1016,bx [.p (.sl .nil 0 0 (fun _ => [])),pI 0])] tv ?_)
 obtain ⟨g1,hm⟩ := go1 hm
 refine Sq (RN hnt (nn 7 []) [(2,rr 1016)] [(1016,bx [ow 1040 p0.nodes.length,pI p0.next]),(1040,ob0 (Ah p0.nodes))] [] [(1040,.row 6 p0.nodes.length (We p0.nodes))] (an (by omega : p0.nodes.length * 56 ≤ 140737488355328) tv) (by kernel_rfl) .nil (.cons rfl (BLe.typed RowIs.elems) .nil) ?_)
 obtain rfl := sj hm
 exact DW.ret (Ag [Ah p0.nodes] [1040] (.agg [ow 0 p0.nodes.length,pI p0.next]))
abbrev o83 (ks : List Nat) (b : Bool) (RES : Af) (sm : List Nat := []) : Orc := .call 166 ks b (.agg [ow 0 RES.nodes.length,pI RES.next]) [] [Ah RES.nodes] sm

abbrev Aae (p0 : Af) (p1 : Int) (p2 : ByteArray) := ({ id := p0.next,parent := p1,name := p2,control := 0,kind := 0,owner := 0 } : An)
abbrev AdF : Nat × Obj := (1048,bx [.p (.sl .nil 0 0 (fun _ => [])),pI 0])
abbrev AdX (p0 : Af) : Nat × Obj := (1024,bx (pm (As p0)))
abbrev c74e4 : Nat × Obj := (1048,bx [ow 100000 0,pI 0])
theorem Ahp (p0 : Af) (p1 : Int) (p2 : ByteArray) (RES : Af × Int × Int) (hm : Yl p0 p1 p2 = some RES) : Spec Tryz.prog 108 [.p (.agg (As p0)),pI p1,pS p2] [] (.tup [.agg [ow 0 RES.1.nodes.length,pI RES.1.next],pI RES.2.1,pI RES.2.2]) [] [Ah RES.1.nodes] := by
 unfold Yl at hm
 refine SO Tryz.func108 rfl rfl [(0,.p (.agg (As p0))),(1,pI p1),(2,pS p2)] [] ?_
 intro cx hnt
 refine Sq (RD hnt (nn 4 []) [0] [(3,rr 1024),(6,rr 1048)] [] [(AdX p0),(AdF)] tv ?_)
 obtain ⟨r1,hr1,hm⟩ := bo hm
 refine Sq (Sq ?_)
 refine Jn (ι := Bool) (fun (y1 : Bool) => Aj [(1,pI p1),(2,pS p2),(3,rr 1024),(6,rr 1048),(18,pB y1)] [(AdX p0),(AdF)]) (fun y1 => (Tx p0 p1 p2) y1 = some RES) ?_ ?_
 ·intro y1 hm
  unfold Tx at hm
  refine Ae hm ?_ ?_
  ·intro h4 hm
   refine Sq (RD hnt (nn 4 []) [1,2,3,18] [(7,pI 0),(8,pI 1)] [1024] [] tv ?_)
   refine DW.cv [] [] [] [(c74e4),(100000,ob0 (Ah []))] (Conv.ads [(.o 1048 0,100000,6,elems Ar Bj [])]) ?_
   obtain rfl := sj hm
   exact DW.ret (Ag [Ah []] [100000] (.tup [.agg [ow 0 0,pI 0],pI 0,pI 1]))
  ·intro h4 hm
   refine Sk ?_
   obtain ⟨r5,hr5,hm⟩ := bo hm
   refine Sq (Sq (RD hnt (nn 2 (o79 [] true r5 :: .no :: [])) [18] [(23,pB (!r5))] [] [] (an (Cu p0 p1 r5 hr5) tv) ?_))
   refine Ae hm ?_ ?_
   ·intro h6 hm
    refine Sq (RD hnt (nn 4 []) [1,2,3,23] [(7,pI 0),(8,pI 4)] [1024] [] tv ?_)
    refine DW.cv [] [] [] [(c74e4),(100000,ob0 (Ah []))] (Conv.ads [(.o 1048 0,100000,6,elems Ar Bj [])]) ?_
    obtain rfl := sj hm
    exact DW.ret (Ag [Ah []] [100000] (.tup [.agg [ow 0 0,pI 0],pI 0,pI 4]))
   ·intro h6 hm
    refine Sk ?_
    refine Sq (Sq (RD hnt (.no :: []) [23] [(9,pI 0)] [] [] tv ?_))
    refine Bk ?_
    obtain ⟨hc1,hm⟩ := go1 hm
    refine DW.rangeO (fun (k1 : Nat) (s1 : Unit) => Aj [(1,pI p1),(2,pS p2),(3,rr 1024),(6,rr 1048),(9,pI ((k1 : Nat) : Int))] [(AdX p0),(AdF)]) Bj hm Conv.eqK ?_
    intro k1 s1 n1 hk1 hs1 he1
    refine Sq (Sq (RD hnt (nn 5 []) [] [(29,pB (decide (((k1 : Nat) : Int) < ((p0.nodes.length : Nat) : Int))))] [] [] tv ?_))
    refine Cb (decide (((k1 : Nat) : Int) < ((p0.nodes.length : Nat) : Int))) ?_ ?_
    ·intro h29
     have hlt1 : k1 < p0.nodes.length := by have := of_decide_eq_true h29; omega
     have hm := hs1 hlt1
     unfold Abz at hm
     refine Sk ?_
     refine Sq (Bk ?_)
     refine Sq (DW.regJ (sl2 := [(1,pI p1),(2,pS p2),(3,rr 1024),(6,rr 1048),(9,pI ((k1 : Nat) : Int)),(49,pB (((p0.nodes.getD k1 (default : An)).parent == p1) && (Dr (p0.nodes.getD k1 (default : An)).name p2)))]) (ob2 := [(AdX p0),(AdF)]) ?_ ?_)
     ·rcases bt ((p0.nodes.getD k1 (default : An)).parent == p1) with h30 | h30
      ·exact RT hnt (nn 17 (pT :: [])) [(49,pB (Dr (p0.nodes.getD k1 (default : An)).name p2))] (an (nn0 k1) (an (ltc hlt1) (an4 h30 (an (nn0 k1) (an (ltc hlt1) (an5 h30 tv)))))) (by kernel_rfl) (.cons rfl (.of_eq (by rw [h30]; try rfl)) .nil)
      ·exact RT hnt (nn 9 (sk 8 (pF :: []))) [(49,pB false)] (an (nn0 k1) (an (ltc hlt1) (an3 h30 (an6 h30 tv)))) (by kernel_rfl) (.cons rfl (.of_eq (by rw [h30]; try rfl)) .nil)
     ·refine Ae hm ?_ ?_
      ·intro h31 hm
       refine Sq (RD hnt (nn 4 []) [1,2,3,9,49] [(7,pI 0),(8,pI 5)] [1024] [] tv ?_)
       refine DW.cv [] [] [] [(c74e4),(100000,ob0 (Ah []))] (Conv.ads [(.o 1048 0,100000,6,elems Ar Bj [])]) ?_
       obtain rfl := sj hm
       exact DW.ret (Ag [Ah []] [100000] (.tup [.agg [ow 0 0,pI 0],pI 0,pI 5]))
      ·intro h31 hm
       refine Sk ?_
       refine DW.done ?_
       show DW _ _ _ _ _
       refine RD hnt (nn 3 []) [49] [(9,pI (w64 (((k1 : Nat) : Int) + 1)))] [] [] tv ?_
       exact jD () ⟨hlt1,hm⟩ (Conv.tp [(9,pI (w64 (((k1 : Nat) : Int) + 1)))] [] (by kernel_rfl) (.cons rfl (.of_eq (congrArg pI (Bl hlt1 hc1))) .nil) .nil)
    ·intro h29
     have hge1 : ¬ k1 < p0.nodes.length := by have := of_decide_eq_false h29; omega
     have hm := he1 hge1
     unfold Abu at hm
     refine DW.exit ?_
     refine Ao ?_
     refine Aw ?_
     refine Ak ?_
     show DW _ _ _ _ _
     obtain ⟨r32,hr32,hm⟩ := bo hm
     refine Sq (Sq ?_)
     refine Jn (ι := Bool) (fun (y6 : Bool) => Aj [(1,pI p1),(2,pS p2),(3,rr 1024),(6,rr 1048),(65,pB y6)] [(AdX p0),(AdF)]) (fun y6 => (Ob p0 p1 p2) y6 = some RES) ?_ ?_
     ·intro y6 hm
      unfold Ob at hm
      refine Ae hm ?_ ?_
      ·intro h35 hm
       refine Sq (RD hnt (nn 4 []) [1,2,3,65] [(7,pI 0),(8,pI 7)] [1024] [] tv ?_)
       refine DW.cv [] [] [] [(c74e4),(100000,ob0 (Ah []))] (Conv.ads [(.o 1048 0,100000,6,elems Ar Bj [])]) ?_
       obtain rfl := sj hm
       exact DW.ret (Ag [Ah []] [100000] (.tup [.agg [ow 0 0,pI 0],pI 0,pI 7]))
      ·intro h35 hm
       refine Sk ?_
       obtain ⟨r36,hr36,hm⟩ := bo hm
       refine Sq (RD hnt (.no :: o83 [] true r36 :: nn 2 []) [65] [(10,rr 1080)] [] [(1080,bx [ow 1544 r36.nodes.length,pI r36.next]),(1544,ob0 (Ah r36.nodes))] (an (Sp p0 r36 hr36) tv) ?_)
       obtain ⟨g37,hm⟩ := go1 hm
       refine Sq (RN hnt (nn 11 []) [(3,rr 1024),(6,rr 1048),(10,rr 1080)] [(AdX p0),(AdF),(1080,bx [ow 1544 (r36.nodes ++ [(Aae p0 p1 p2)]).length,pI r36.next]),(1544,ob0 (Ah (r36.nodes ++ [(Aae p0 p1 p2)])))] [] [(1080,.box [ow 1544 (r36.nodes.length + 1),pI r36.next]),(1544,.row 6 (r36.nodes.length + 1) (Cw r36.nodes.length (We r36.nodes) (cut 6 [vi p0.next,vi p1,vs p2,vi 0,vi 0,vi 0])))] (an (by omega : (r36.nodes.length + 1) * 56 ≤ 140737488355328) tv) (by kernel_rfl) .nil (.cons rfl (.box (.cons (MLe.ownLen (enc := Ar) (d := Bj) (f := (Cw r36.nodes.length (We r36.nodes) (cut 6 [vi p0.next,vi p1,vs p2,vi 0,vi 0,vi 0]))) (RowIs.cat RowIs.elems (RowIs.lit (enc := Ar) (d := Bj) (n := 1) (f := (cut 6 [vi p0.next,vi p1,vs p2,vi 0,vi 0,vi 0])) [(Aae p0 p1 p2)] rfl (fun | 0,_ => rfl | n + 1,h => absurd h (by omega))))) (.cons .rfl .nil))) (.cons rfl (BLe.typed (RowIs.cat RowIs.elems (RowIs.lit (enc := Ar) (d := Bj) (n := 1) (f := (cut 6 [vi p0.next,vi p1,vs p2,vi 0,vi 0,vi 0])) [(Aae p0 p1 p2)] rfl (fun | 0,_ => rfl | n + 1,h => absurd h (by omega))))) .nil)) ?_)
       refine Sq (RD hnt (nn 5 []) [] [] [] [(1080,bx [ow 1544 (r36.nodes ++ [(Aae p0 p1 p2)]).length,pI (w64 (r36.next + 1))])] tv ?_)
       refine Sq (RD hnt (nn 6 []) [3,10] [(7,pI p0.next),(8,pI 0)] [1024,1080] [(1048,bx [ow 1544 (r36.nodes ++ [(Aae p0 p1 p2)]).length,pI (w64 (r36.next + 1))])] tv ?_)
       obtain rfl := sj hm
       exact DW.ret (Ag [Ah (r36.nodes ++ [(Aae p0 p1 p2)])] [1544] (.tup [.agg [ow 0 (r36.nodes ++ [(Aae p0 p1 p2)]).length,pI (w64 (r36.next + 1))],pI p0.next,pI 0]))
     ·rcases bt (decide (r32 ≥ 8)) with h33 | h33
      ·replace hm := Bd h33 hm
       refine RD hnt (nn 2 (o81 [] true r32 :: nn 2 (sk 4 (pT :: .no :: sk 3 (pT :: []))))) [9,29] [(65,pB true)] [] [] (an (Ur p0 p1 r32 hr32) (an5 h33 (an4 tt tv))) ?_
       exact jD true hm Conv.eqK
      ·replace hm := Bc h33 hm
       rcases bt (decide (((p0.nodes.length : Nat) : Int) ≥ 64)) with h34 | h34
       ·replace hm := Bd h34 hm
        refine RD hnt (nn 2 (o81 [] true r32 :: nn 6 (pF :: .no :: sk 3 (pT :: [])))) [9,29] [(65,pB true)] [] [] (an (Ur p0 p1 r32 hr32) (an5 h33 (an4 h34 tv))) ?_
        exact jD true hm Conv.eqK
       ·replace hm := Bc h34 hm
        refine RD hnt (nn 2 (o81 [] true r32 :: nn 6 (pF :: nn 4 (pF :: [])))) [9,29] [(65,pB (decide (p0.next > 2147483647)))] [] [] (an (Ur p0 p1 r32 hr32) (an5 h33 (an4 h34 tv))) ?_
        exact jD (decide (p0.next > 2147483647)) hm Conv.eqK
 ·rcases bt (!r1) with h2 | h2
  ·replace hm := Bd h2 hm
   refine RD hnt (.no :: o75 [] true r1 :: nn 2 (sk 3 (pT :: []))) [] [(18,pB true)] [] [] (an (Ft p0 r1 hr1) (an4 h2 tv)) ?_
   exact jD true hm Conv.eqK
  ·replace hm := Bc h2 hm
   obtain ⟨r3,hr3,hm⟩ := bo hm
   refine RD hnt (.no :: o75 [] true r1 :: nn 3 (o77 [] true r3 :: .no :: pF :: [])) [] [(18,pB (!r3))] [] [] (an (Ft p0 r1 hr1) (an2 h2 (an (Abg p2 r3 hr3) (an2 h2 tv)))) ?_
   exact jD (!r3) hm Conv.eqK
abbrev o74 (ks : List Nat) (b : Bool) (RES : Af × Int × Int) (sm : List Nat := []) : Orc := .call 108 ks b (.tup [.agg [ow 0 RES.1.nodes.length,pI RES.1.next],pI RES.2.1,pI RES.2.2]) [] [Ah RES.1.nodes] sm

theorem Ej (p0 : Aq) (p1 : Int) (RES : Bool × Aq) (hm : Ez p0 p1 = some RES) : Spec Tryz.prog 57 [rr 0,pI p1] [.box (pm (Ap p0))] (pB RES.1) [.box (pm (Ap RES.2))] [] := by
 unfold Ez at hm
 refine SO Tryz.func57 rfl rfl [(0,rr 0),(1,pI p1)] [(0,bx (pm (Ap p0)))] ?_
 intro cx hnt
 refine Sq (RD hnt (.no :: []) [] [] [] [] tv ?_)
 obtain ⟨r1,hr1,hm⟩ := bo hm
 refine Sq (RK hnt (nn 2 (o72 [0] true r1 :: nn 4 [])) [(4,pB (r1.1 == (w64 (p1 - 1))))] [(0,bx (pm (Ap r1.2)))] (an (Bs p0 p1 r1 hr1) (an tv tv)) ?_)
 obtain rfl := sj hm
 exact DW.ret (Ag [.box (pm (Ap r1.2))] [] (pB (r1.1 == (w64 (p1 - 1)))))
abbrev o84 (ks : List Nat) (b : Bool) (RES : Bool × Aq) (sm : List Nat := []) : Orc := .call 57 ks b (pB RES.1) [.box (pm (Ap RES.2))] [] sm

abbrev Vp (p0 : Af) (k1 : Nat) := (p0.nodes.getD k1 (default : An))
theorem Ro (p0 : Af) (p1 : Int) (RES : List Int) (hm : Hh p0 p1 = some RES) : Spec Tryz.prog 146 [.p (.agg (As p0)),pI p1] [] (ow 0 RES.length) [] [roI RES] := by
 unfold Hh at hm
 refine SO Tryz.func146 rfl rfl [(0,.p (.agg (As p0))),(1,pI p1)] [] ?_
 intro cx hnt
 refine Sq (RK hnt (nn 2 []) [(1,pI p1),(2,rr 1016)] [(1016,bx (pm (As p0)))] tv ?_)
 obtain ⟨r1,hr1,hm⟩ := bo hm
 refine Sq (Sq (RD hnt (nn 2 (o79 [] true r1 :: .no :: [])) [] [(10,pB (!r1))] [] [] (an (Cu p0 p1 r1 hr1) tv) ?_))
 refine Ae hm ?_ ?_
 ·intro h2 hm
  refine Sq (RK hnt (.no :: []) [(4,.p (.sl .nil 0 0 (fun _ => [])))] [] tv ?_)
  refine DW.cv [] [(4,ow 100000 0)] [] [(100000,ob0 (roI []))] (Conv.ads [(.s 4,100000,1,elems Bn 0 [])]) ?_
  obtain rfl := sj hm
  exact DW.ret (Ag [roI []] [100000] (ow 0 0))
 ·intro h2 hm
  refine Sk ?_
  refine Sq (RD hnt (.no :: []) [10] [(5,.p (.sl .nil 0 0 (fun _ => [])))] [] [] tv ?_)
  refine Sq (Sq (RD hnt (.no :: []) [] [(6,pI 0)] [] [] tv ?_))
  refine Bk ?_
  obtain ⟨hc1,hm⟩ := go1 hm
  refine DW.rangeO (fun (k1 : Nat) (s1 : List Int) => Aj [(1,pI p1),(2,rr 1016),(5,ow 1272 s1.length),(6,pI ((k1 : Nat) : Int))] [(1016,bx (pm (As p0))),(1272,ob0 (roI s1))]) Bj hm (Conv.ads [(.s 5,1272,1,elems Bn 0 [])]) ?_
  intro k1 s1 n1 hk1 hs1 he1
  refine Sq (Sq (RD hnt (nn 5 []) [] [(15,pB (decide (((k1 : Nat) : Int) < ((p0.nodes.length : Nat) : Int))))] [] [] tv ?_))
  refine Cb (decide (((k1 : Nat) : Int) < ((p0.nodes.length : Nat) : Int))) ?_ ?_
  ·intro h12
   have hlt1 : k1 < p0.nodes.length := by have := of_decide_eq_true h12; omega
   have hm := hs1 hlt1
   unfold Ts at hm
   refine Sk ?_
   refine Sq ?_
   refine Jn (ι := List Int) (fun (y3 : List Int) => Aj [(1,pI p1),(2,rr 1016),(5,ow 1272 y3.length),(6,pI ((k1 : Nat) : Int))] [(1016,bx (pm (As p0))),(1272,ob0 (roI y3))]) (fun y3 => (Md n1) y3 = some RES) ?_ ?_
   ·intro y3 hm
    unfold Md at hm
    refine RD hnt (nn 3 []) [] [(6,pI (w64 (((k1 : Nat) : Int) + 1)))] [] [] tv ?_
    exact jD y3 ⟨hlt1,hm⟩ (Conv.tp [(6,pI (w64 (((k1 : Nat) : Int) + 1)))] [] (by kernel_rfl) (.cons rfl (.of_eq (congrArg pI (Bl hlt1 hc1))) .nil) .nil)
   ·refine Bk ?_
    refine Sq (RD hnt (nn 8 []) [15] [(25,pB ((Vp p0 k1).parent == p1))] [] [] (an (nn0 k1) (an (ltc hlt1) tv)) ?_)
    refine Ae hm ?_ ?_
    ·intro h13 hm
     obtain ⟨g14,hm⟩ := go1 hm
     refine RN hnt (nn 10 []) [(1,pI p1),(2,rr 1016),(5,ow 1272 (s1 ++ [(Vp p0 k1).id]).length),(6,pI ((k1 : Nat) : Int))] [(1016,bx (pm (As p0))),(1272,ob0 (roI (s1 ++ [(Vp p0 k1).id])))] [(5,ow 1272 (s1.length + 1))] [(1272,.row 1 (s1.length + 1) (Cw s1.length (elI s1) (cut 1 [vi (Vp p0 k1).id])))] (an (nn0 k1) (an (ltc hlt1) (an (by omega : (s1.length + 1) * 8 ≤ 140737488355328) tv))) (by kernel_rfl) (.cons rfl (MLe.ownLen (enc := Bn) (d := 0) (f := (Cw s1.length (elI s1) (cut 1 [vi (Vp p0 k1).id]))) (RowIs.cat RowIs.elems (RowIs.lit (enc := Bn) (d := 0) (n := 1) (f := (cut 1 [vi (Vp p0 k1).id])) [(Vp p0 k1).id] rfl (fun | 0,_ => rfl | n + 1,h => absurd h (by omega))))) .nil) (.cons rfl (BLe.typed (RowIs.cat RowIs.elems (RowIs.lit (enc := Bn) (d := 0) (n := 1) (f := (cut 1 [vi (Vp p0 k1).id])) [(Vp p0 k1).id] rfl (fun | 0,_ => rfl | n + 1,h => absurd h (by omega))))) .nil) ?_
     exact bD (s1 ++ [(Vp p0 k1).id]) hm .refl
    ·intro h13 hm
     refine Sk ?_
     exact bD s1 hm Conv.t0
  ·intro h12
   have hge1 : ¬ k1 < p0.nodes.length := by have := of_decide_eq_false h12; omega
   have hm := he1 hge1
   unfold Aag at hm
   refine DW.exit ?_
   refine Ao ?_
   refine Aw ?_
   refine Ak ?_
   show DW _ _ _ _ _
   refine Sq (RK hnt (nn 2 []) [(4,ow 1272 s1.length)] [(1272,ob0 (roI s1))] tv ?_)
   obtain rfl := sj hm
   exact DW.ret (Ag [roI s1] [1272] (ow 0 s1.length))
abbrev o86 (ks : List Nat) (b : Bool) (RES : List Int) (sm : List Nat := []) : Orc := .call 146 ks b (ow 0 RES.length) [] [roI RES] sm

abbrev Fr (p0 : Af) (k1 : Nat) := (p0.nodes.getD k1 (default : An))
abbrev c85e2 : Nat × Obj := (1032,bx [.p (.sl .nil 0 0 (fun _ => [])),pI 0])
abbrev c85e3 : Nat × Obj := (1032,bx [ow 100000 0,pI 0])
theorem Afa (p0 : Af) (p1 : Int) (RES : Af × Int) (hm : Rt p0 p1 = some RES) : Spec Tryz.prog 111 [.p (.agg (As p0)),pI p1] [] (.tup [.agg [ow 0 RES.1.nodes.length,pI RES.1.next],pI RES.2]) [] [Ah RES.1.nodes] := by
 unfold Rt at hm
 refine SO Tryz.func111 rfl rfl [(0,.p (.agg (As p0))),(1,pI p1)] [] ?_
 intro cx hnt
 refine Sq (RK hnt (nn 3 []) [(1,pI p1),(2,rr 1016),(4,rr 1032)] [(1016,bx (pm (As p0))),(c85e2)] tv ?_)
 refine Sq (Bk ?_)
 obtain ⟨r1,hr1,hm⟩ := bo hm
 refine Sq (RD hnt (.no :: o75 [] true r1 :: nn 2 []) [] [(8,pB (!r1))] [] [] (an (Ft p0 r1 hr1) tv) ?_)
 refine Ae hm ?_ ?_
 ·intro h2 hm
  refine Sq (RD hnt (nn 3 []) [1,2,8] [(5,pI 1)] [1016] [] tv ?_)
  refine DW.cv [] [] [] [(c85e3),(100000,ob0 (Ah []))] (Conv.ads [(.o 1032 0,100000,6,elems Ar Bj [])]) ?_
  obtain rfl := sj hm
  exact DW.ret (Ag [Ah []] [100000] (.tup [.agg [ow 0 0,pI 0],pI 1]))
 ·intro h2 hm
  obtain ⟨r3,hr3,hm⟩ := bo hm
  refine Sq (RD hnt (nn 2 (o79 [] true r3 :: nn 2 [])) [8] [(13,pB (!r3))] [] [] (an (Cu p0 p1 r3 hr3) tv) ?_)
  refine Ae hm ?_ ?_
  ·intro h4 hm
   refine Sq (RD hnt (nn 3 []) [1,2,13] [(5,pI 4)] [1016] [] tv ?_)
   refine DW.cv [] [] [] [(c85e3),(100000,ob0 (Ah []))] (Conv.ads [(.o 1032 0,100000,6,elems Ar Bj [])]) ?_
   obtain rfl := sj hm
   exact DW.ret (Ag [Ah []] [100000] (.tup [.agg [ow 0 0,pI 0],pI 4]))
  ·intro h4 hm
   refine Sq (RD hnt (nn 3 []) [13] [(19,pB (p1 == 1))] [] [] tv ?_)
   refine Ae hm ?_ ?_
   ·intro h5 hm
    refine Sq (RD hnt (nn 3 []) [1,2,19] [(5,pI 9)] [1016] [] tv ?_)
    refine DW.cv [] [] [] [(c85e3),(100000,ob0 (Ah []))] (Conv.ads [(.o 1032 0,100000,6,elems Ar Bj [])]) ?_
    obtain rfl := sj hm
    exact DW.ret (Ag [Ah []] [100000] (.tup [.agg [ow 0 0,pI 0],pI 9]))
   ·intro h5 hm
    obtain ⟨r6,hr6,hm⟩ := bo hm
    refine Sq (RD hnt (nn 2 (o86 [] true r6 :: nn 3 [])) [19] [(23,pB (decide (((r6.length : Nat) : Int) > 0)))] [] [] (an (Ro p0 p1 r6 hr6) tv) ?_)
    refine Ae hm ?_ ?_
    ·intro h7 hm
     refine Sq (RD hnt (nn 3 []) [1,2,23] [(5,pI 6)] [1016] [] tv ?_)
     refine DW.cv [] [] [] [(c85e3),(100000,ob0 (Ah []))] (Conv.ads [(.o 1032 0,100000,6,elems Ar Bj [])]) ?_
     obtain rfl := sj hm
     exact DW.ret (Ag [Ah []] [100000] (.tup [.agg [ow 0 0,pI 0],pI 6]))
    ·intro h7 hm
     refine Sk ?_
     refine DW.done ?_
     show DW _ _ _ _ _
     refine Sq (RD hnt (nn 5 []) [23] [(6,rr 1048)] [] [(1048,bx [.p (.sl .nil 0 0 (fun _ => [])),pI p0.next])] tv ?_)
     refine Sq (Sq (RD hnt (.no :: []) [] [(7,pI 0)] [] [] tv ?_))
     refine Bk ?_
     obtain ⟨hc1,hm⟩ := go1 hm
     refine DW.rangeO (fun (k1 : Nat) (s1 : List An) => Aj [(1,pI p1),(2,rr 1016),(4,rr 1032),(6,rr 1048),(7,pI ((k1 : Nat) : Int))] [(1016,bx (pm (As p0))),(c85e2),(1048,bx [ow 1448 s1.length,pI p0.next]),(1448,ob0 (Ah s1))]) Bj hm (Conv.ads [(.o 1048 0,1448,6,elems Ar Bj [])]) ?_
     intro k1 s1 n1 hk1 hs1 he1
     refine Sq (Sq (RD hnt (nn 5 []) [] [(37,pB (decide (((k1 : Nat) : Int) < ((p0.nodes.length : Nat) : Int))))] [] [] tv ?_))
     refine Cb (decide (((k1 : Nat) : Int) < ((p0.nodes.length : Nat) : Int))) ?_ ?_
     ·intro h17
      have hlt1 : k1 < p0.nodes.length := by have := of_decide_eq_true h17; omega
      have hm := hs1 hlt1
      unfold Sr at hm
      refine Sk ?_
      refine Sq ?_
      refine Jn (ι := List An) (fun (y3 : List An) => Aj [(1,pI p1),(2,rr 1016),(4,rr 1032),(6,rr 1048),(7,pI ((k1 : Nat) : Int))] [(1016,bx (pm (As p0))),(c85e2),(1048,bx [ow 1448 y3.length,pI p0.next]),(1448,ob0 (Ah y3))]) (fun y3 => (Oj n1) y3 = some RES) ?_ ?_
      ·intro y3 hm
       unfold Oj at hm
       refine RD hnt (nn 3 []) [] [(7,pI (w64 (((k1 : Nat) : Int) + 1)))] [] [] tv ?_
       exact jD y3 ⟨hlt1,hm⟩ (Conv.tp [(7,pI (w64 (((k1 : Nat) : Int) + 1)))] [] (by kernel_rfl) (.cons rfl (.of_eq (congrArg pI (Bl hlt1 hc1))) .nil) .nil)
      ·refine Bk ?_
       refine Sq (RD hnt (nn 8 []) [37] [(47,pB ((Fr p0 k1).id != p1))] [] [] (an (nn0 k1) (an (ltc hlt1) tv)) ?_)
       refine Ae hm ?_ ?_
       ·intro h18 hm
        obtain ⟨g19,hm⟩ := go1 hm
        refine RN hnt (nn 11 []) [(1,pI p1),(2,rr 1016),(4,rr 1032),(6,rr 1048),(7,pI ((k1 : Nat) : Int))] [(1016,bx (pm (As p0))),(c85e2),(1048,bx [ow 1448 (s1 ++ [(Fr p0 k1)]).length,pI p0.next]),(1448,ob0 (Ah (s1 ++ [(Fr p0 k1)])))] [] [(1048,.box [ow 1448 (s1.length + 1),pI p0.next]),(1448,.row 6 (s1.length + 1) (Cw s1.length (We s1) (cut 6 [vi (Fr p0 k1).id,vi (Fr p0 k1).parent,vs (Fr p0 k1).name,vi (Fr p0 k1).control,vi (Fr p0 k1).kind,vi (Fr p0 k1).owner])))] (an (nn0 k1) (an (ltc hlt1) (an (by omega : (s1.length + 1) * 56 ≤ 140737488355328) tv))) (by kernel_rfl) .nil (.cons rfl (.box (.cons (MLe.ownLen (enc := Ar) (d := Bj) (f := (Cw s1.length (We s1) (cut 6 [vi (Fr p0 k1).id,vi (Fr p0 k1).parent,vs (Fr p0 k1).name,vi (Fr p0 k1).control,vi (Fr p0 k1).kind,vi (Fr p0 k1).owner]))) (RowIs.cat RowIs.elems (RowIs.lit (enc := Ar) (d := Bj) (n := 1) (f := (cut 6 [vi (Fr p0 k1).id,vi (Fr p0 k1).parent,vs (Fr p0 k1).name,vi (Fr p0 k1).control,vi (Fr p0 k1).kind,vi (Fr p0 k1).owner])) [(Fr p0 k1)] rfl (fun | 0,_ => rfl | n + 1,h => absurd h (by omega))))) (.cons .rfl .nil))) (.cons rfl (BLe.typed (RowIs.cat RowIs.elems (RowIs.lit (enc := Ar) (d := Bj) (n := 1) (f := (cut 6 [vi (Fr p0 k1).id,vi (Fr p0 k1).parent,vs (Fr p0 k1).name,vi (Fr p0 k1).control,vi (Fr p0 k1).kind,vi (Fr p0 k1).owner])) [(Fr p0 k1)] rfl (fun | 0,_ => rfl | n + 1,h => absurd h (by omega))))) .nil)) ?_
        exact bD (s1 ++ [(Fr p0 k1)]) hm .refl
       ·intro h18 hm
        refine Sk ?_
        exact bD s1 hm Conv.t0
     ·intro h17
      have hge1 : ¬ k1 < p0.nodes.length := by have := of_decide_eq_false h17; omega
      have hm := he1 hge1
      unfold Sn at hm
      refine DW.exit ?_
      refine Ao ?_
      refine Aw ?_
      refine Ak ?_
      show DW _ _ _ _ _
      refine Sq (RK hnt (nn 3 []) [(4,rr 1032),(5,pI 0)] [(1032,bx [ow 1448 s1.length,pI p0.next]),(1448,ob0 (Ah s1))] tv ?_)
      obtain rfl := sj hm
      exact DW.ret (Ag [Ah s1] [1448] (.tup [.agg [ow 0 s1.length,pI p0.next],pI 0]))
abbrev o85 (ks : List Nat) (b : Bool) (RES : Af × Int) (sm : List Nat := []) : Orc := .call 111 ks b (.tup [.agg [ow 0 RES.1.nodes.length,pI RES.1.next],pI RES.2]) [] [Ah RES.1.nodes] sm

abbrev c71e1 : Nat × Obj := (1032,bx [.p (.sl .nil 0 0 (fun _ => [])),pI 0])
theorem Acw (p0 : Aq) (p1 : Int) (RES : Af × Aq) (hm : Mx p0 p1 = some RES) : Spec Tryz.prog 39 [rr 0,pI p1] [.box (pm (Ap p0))] (.p (.agg (As RES.1))) [.box (pm (Ap RES.2))] [] := by
 unfold Mx at hm
 refine SO Tryz.func39 rfl rfl [(0,rr 0),(1,pI p1)] [(0,bx (pm (Ap p0)))] ?_
 intro cx hnt
 refine Sq (RD hnt (.no :: []) [] [(4,rr 1032)] [] [(c71e1)] tv ?_)
 obtain ⟨r1,hr1,hm⟩ := bo hm
 refine Sq (RD hnt (o70 [] true r1 :: nn 2 []) [] [(5,rr 1040)] [] [(1040,bx [ow 1104 r1.nodes.length,pI r1.next]),(1104,ob0 (Ah r1.nodes))] (an (Acr r1 hr1) tv) ?_)
 obtain ⟨r2,hr2,hm⟩ := bo hm
 refine Sq (Sq (RD hnt (nn 3 (o72 [0] true r2 :: .no :: [])) [1] [(6,pI r2.1)] [] [(0,bx (pm (Ap r2.2)))] (an (Bs p0 (w64 (p1 + 1)) r2 hr2) (an tv tv)) ?_))
 refine Bk ?_
 refine DW.whileO (fun (s1 : Aq × Af × Int) => Aj [(0,rr 0),(4,rr 1032),(5,rr 1040),(6,pI s1.2.2)] [(0,bx (pm (Ap s1.1))),(c71e1),(1040,bx (pm (As s1.2.1)))]) hm (Conv.frz [1104]) ?_
 intro s1 n1 hm
 unfold Ss at hm
 refine Sq (Sq (RD hnt (nn 2 []) [] [(19,pB (decide (s1.2.2 > 0)))] [] [] tv ?_))
 refine Ae hm ?_ ?_
 ·intro h18 hm
  refine Sk ?_
  refine Sq ?_
  refine Jn (ι := Aq × Af) (fun (y3 : Aq × Af) => Aj [(0,rr 0),(4,rr 1032),(5,rr 1040),(6,pI s1.2.2)] [(0,bx (pm (Ap y3.1))),(c71e1),(1040,bx (pm (As y3.2)))]) (fun y3 => (Hj s1 n1) y3 = some RES) ?_ ?_
  ·intro y3 hm
   unfold Hj at hm
   refine RD hnt (nn 3 []) [] [(6,pI (w64 (s1.2.2 - 1)))] [] [] tv ?_
   exact jD (y3.1,y3.2,(w64 (s1.2.2 - 1))) hm Conv.eqK
  ·refine Bk ?_
   obtain ⟨r19,hr19,hm⟩ := bo hm
   obtain ⟨g20,hm⟩ := go1 hm
   refine Sq (RD hnt (nn 6 (o72 [0] true r19 :: nn 4 [])) [19] [(7,pI (s1.2.1.nodes.getD (Int.toNat r19.1) Bj).id)] [] [(0,bx (pm (Ap r19.2)))] (an (Bs s1.1 ((s1.2.1.nodes.length : Nat) : Int) r19 hr19) (an tv (an g20.1 (an g20.2 tv)))) ?_)
   obtain ⟨r21,hr21,hm⟩ := bo hm
   obtain ⟨r22,hr22,hm⟩ := bo hm
   refine Sq (Sq (RD hnt (nn 3 (o73 [0] true r21 :: o74 [] true r22 :: nn 8 [])) [7] [(8,rr 1064),(10,pI r22.2.2)] [] [(0,bx (pm (Ap r21.2))),(1064,bx [ow 1296 r22.1.nodes.length,pI r22.1.next]),(1296,ob0 (Ah r22.1.nodes))] (an (Adk r19.2 r21 hr21) (an tv (an (Ahp s1.2.1 (s1.2.1.nodes.getD (Int.toNat r19.1) Bj).id r21.1 r22 hr22) tv))) ?_))
   refine Sq (RD hnt (nn 2 []) [10] [(42,pB (r22.2.2 == 0))] [] [] tv ?_)
   refine Jn (ι := Af) (fun (y4 : Af) => Aj [(0,rr 0),(4,rr 1032),(5,rr 1040),(6,pI s1.2.2)] [(0,bx (pm (Ap r21.2))),(c71e1),(1040,bx (pm (As y4)))]) (fun y4 => (Je s1 n1 r21) y4 = some RES) ?_ ?_
   ·intro y4 hm
    unfold Je at hm
    obtain ⟨r24,hr24,hm⟩ := bo hm
    refine Sq (RD hnt (.no :: o84 [0] true r24 :: []) [] [(45,pB r24.1)] [] [(0,bx (pm (Ap r24.2)))] (an (Ej r21.2 6 r24 hr24) (an tv tv)) ?_)
    refine Ae hm ?_ ?_
    ·intro h25 hm
     obtain ⟨r26,hr26,hm⟩ := bo hm
     obtain ⟨g27,hm⟩ := go1 hm
     obtain ⟨r28,hr28,hm⟩ := bo hm
     refine Sq (RD hnt (nn 7 (o72 [0] true r26 :: nn 3 (o85 [] true r28 :: nn 6 []))) [45] [(11,rr 1088),(12,pI r28.2)] [] [(0,bx (pm (Ap r26.2))),(1088,bx [ow 1464 r28.1.nodes.length,pI r28.1.next]),(1464,ob0 (Ah r28.1.nodes))] (an (Bs r24.2 ((y4.nodes.length : Nat) : Int) r26 hr26) (an tv (an g27.1 (an g27.2 (an (Afa y4 (y4.nodes.getD (Int.toNat r26.1) Bj).id r28 hr28) tv))))) ?_)
     refine Sq (RD hnt (nn 2 []) [12] [(62,pB (r28.2 == 0))] [] [] tv ?_)
     refine Ae hm ?_ ?_
     ·intro h29 hm
      refine RD hnt (nn 2 []) [11,62] [] [1088] [(1040,bx [ow 1464 r28.1.nodes.length,pI r28.1.next])] tv ?_
      exact bD (r26.2,r28.1) hm (Conv.frz [1464])
     ·intro h29 hm
      refine Sk ?_
      exact bD (r26.2,y4) hm Conv.t0
    ·intro h25 hm
     refine Sk ?_
     exact bD (r24.2,y4) hm Conv.t0
   ·refine Ae hm ?_ ?_
    ·intro h23 hm
     refine RD hnt (nn 2 []) [8,42] [] [1064] [(1040,bx [ow 1296 r22.1.nodes.length,pI r22.1.next])] tv ?_
     exact jD r22.1 hm (Conv.frz [1296])
    ·intro h23 hm
     refine Sk ?_
     exact jD s1.2.1 hm Conv.t0
 ·intro h18 hm
  refine DW.exit ?_
  refine Ao ?_
  refine Aw ?_
  refine Ak ?_
  show DW _ _ _ _ _
  refine Sq (RD hnt (nn 2 []) [0,5,6,19] [] [1040] [(1032,bx (pm (As s1.2.1)))] tv ?_)
  obtain rfl := sj hm
  exact DW.ret (Ag [.box (pm (Ap s1.1))] [] (.p (.agg (As s1.2.1))))
abbrev o71 (ks : List Nat) (b : Bool) (RES : Af × Aq) (sm : List Nat := []) : Orc := .call 39 ks b (.p (.agg (As RES.1))) [.box (pm (Ap RES.2))] [] sm

theorem Lo (p0 : Aq) (p1 : Af) (RES : Int × Aq) (hm : Gv p0 p1 = some RES) : Spec Tryz.prog 20 [rr 0,.p (.agg (As p1))] [.box (pm (Ap p0))] (pI RES.1) [.box (pm (Ap RES.2))] [] := by
 unfold Gv at hm
 refine SO Tryz.func20 rfl rfl [(0,rr 0),(1,.p (.agg (As p1)))] [(0,bx (pm (Ap p0)))] ?_
 intro cx hnt
 refine Sq (RD hnt (nn 2 []) [1] [(3,rr 1024)] [] [(1024,bx (pm (As p1)))] tv ?_)
 obtain ⟨r1,hr1,hm⟩ := bo hm
 refine Sq (Sq ?_)
 refine Jn (ι := Bool) (fun (y1 : Bool) => Aj [(0,rr 0),(3,rr 1024),(12,pB y1)] [(0,bx (pm (Ap r1.2))),(1024,bx (pm (As p1)))]) (fun y1 => (Ig p1 r1) y1 = some RES) ?_ ?_
 ·intro y1 hm
  unfold Ig at hm
  refine Ae hm ?_ ?_
  ·intro h3 hm
   obtain ⟨r4,hr4,hm⟩ := bo hm
   refine Sq (RK hnt (.no :: o72 [0] true r4 :: nn 2 []) [(4,pI (w64 (r4.1 - 1)))] [(0,bx (pm (Ap r4.2)))] (an (Bs r1.2 9 r4 hr4) (an tv tv)) ?_)
   obtain rfl := sj hm
   exact DW.ret (Ag [.box (pm (Ap r4.2))] [] (pI (w64 (r4.1 - 1))))
  ·intro h3 hm
   refine Sk ?_
   obtain ⟨r5,hr5,hm⟩ := bo hm
   obtain ⟨g6,hm⟩ := go1 hm
   refine Sq (RK hnt (nn 6 (o72 [0] true r5 :: nn 4 [])) [(4,pI (p1.nodes.getD (Int.toNat r5.1) Bj).id)] [(0,bx (pm (Ap r5.2)))] (an (Bs r1.2 ((p1.nodes.length : Nat) : Int) r5 hr5) (an tv (an g6.1 (an g6.2 tv)))) ?_)
   obtain rfl := sj hm
   exact DW.ret (Ag [.box (pm (Ap r5.2))] [] (pI (p1.nodes.getD (Int.toNat r5.1) Bj).id))
 ·rcases bt r1.1 with h2 | h2
  ·replace hm := Bd h2 hm
   refine RD hnt (.no :: o84 [0] true r1 :: .no :: sk 4 (pT :: [])) [] [(12,pB true)] [] [(0,bx (pm (Ap r1.2)))] (an (Ej p0 15 r1 hr1) (an tv (an5 h2 tv))) ?_
   exact jD true hm Conv.eqK
  ·replace hm := Bc h2 hm
   refine RD hnt (.no :: o84 [0] true r1 :: nn 5 (pF :: [])) [] [(12,pB (((p1.nodes.length : Nat) : Int) == 0))] [] [(0,bx (pm (Ap r1.2)))] (an (Ej p0 15 r1 hr1) (an tv (an5 h2 tv))) ?_
   exact jD (((p1.nodes.length : Nat) : Int) == 0) hm Conv.eqK
abbrev o88 (ks : List Nat) (b : Bool) (RES : Int × Aq) (sm : List Nat := []) : Orc := .call 20 ks b (pI RES.1) [.box (pm (Ap RES.2))] [] sm

theorem Xr (p0 : Aq) (RES : Int × Aq) (hm : Hm p0 = some RES) : Spec Tryz.prog 90 [rr 0] [.box (pm (Ap p0))] (pI RES.1) [.box (pm (Ap RES.2))] [] := by
 unfold Hm at hm
 refine SO Tryz.func90 rfl rfl [(0,rr 0)] [(0,bx (pm (Ap p0)))] ?_
 intro cx hnt
 refine Sq (RD hnt (.no :: []) [] [] [] [] tv ?_)
 obtain ⟨r3,hr3,hm⟩ := bo hm
 obtain ⟨g4,g5,hm⟩ := go2 hm
 refine Sq (RK hnt (.asR (ow 1024 [1,9,31,2,25,4,0,32,(-1)].length) [1,9,31,2,25,4,0,32,(-1)].length (elems Bn 0 [1,9,31,2,25,4,0,32,(-1)]) :: .no :: o72 [0] true r3 :: nn 3 []) [(2,pI ([1,9,31,2,25,4,0,32,(-1)].getD (Int.toNat r3.1) 0))] [(0,bx (pm (Ap r3.2)))] (an (congrArg (MV.own 1024 0 0) (RowIs.asP (enc := Bn) (d := 0) (L := [1,9,31,2,25,4,0,32,(-1)]) (RowIs.lit (enc := Bn) (d := 0) (n := 9) (f := (cut 1 [vi 1,vi 9,vi 31,vi 2,vi 25,vi 4,vi 0,vi 32,vi (-1)])) [1,9,31,2,25,4,0,32,(-1)] rfl (fun | 0,_ => rfl | 1,_ => rfl | 2,_ => rfl | 3,_ => rfl | 4,_ => rfl | 5,_ => rfl | 6,_ => rfl | 7,_ => rfl | 8,_ => rfl | n + 9,h => absurd h (by omega)))).1) (an (RowIs.asP (enc := Bn) (d := 0) (L := [1,9,31,2,25,4,0,32,(-1)]) (RowIs.lit (enc := Bn) (d := 0) (n := 9) (f := (cut 1 [vi 1,vi 9,vi 31,vi 2,vi 25,vi 4,vi 0,vi 32,vi (-1)])) [1,9,31,2,25,4,0,32,(-1)] rfl (fun | 0,_ => rfl | 1,_ => rfl | 2,_ => rfl | 3,_ => rfl | 4,_ => rfl | 5,_ => rfl | 6,_ => rfl | 7,_ => rfl | 8,_ => rfl | n + 9,h => absurd h (by omega)))) (an (Bs p0 9 r3 hr3) (an tv (an g4.1 (an g4.2 (an g5 tv))))))) ?_)
 obtain rfl := sj hm
 exact DW.ret (Ag [.box (pm (Ap r3.2))] [] (pI ([1,9,31,2,25,4,0,32,(-1)].getD (Int.toNat r3.1) 0)))
abbrev o89 (ks : List Nat) (b : Bool) (RES : Int × Aq) (sm : List Nat := []) : Orc := .call 90 ks b (pI RES.1) [.box (pm (Ap RES.2))] [] sm

theorem AfN (p0 : List Au) (p1 : Int) (RES : Au × Bool) (hm : Ry p0 p1 = some RES) : Spec Tryz.prog 95 [.p (Bg p0),pI p1] [] (.p (.tup [.agg (Ax RES.1),vb RES.2])) [] [] := by
 unfold Ry at hm
 refine SO Tryz.func95 rfl rfl [(0,.p (Bg p0)),(1,pI p1)] [] ?_
 intro cx hnt
 refine Sq (RD hnt (nn 2 []) [] [(4,rr 1032)] [] [(1032,bx [pI 0,pI 0,pI 0,pI 0])] tv ?_)
 refine Sq (Sq (RD hnt (.no :: []) [] [(6,pI 0)] [] [] tv ?_))
 refine Bk ?_
 obtain ⟨hc1,hm⟩ := go1 hm
 refine DW.rangeO (fun (k1 : Nat) (s1 : Unit) => Aj [(0,.p (Bg p0)),(1,pI p1),(4,rr 1032),(6,pI ((k1 : Nat) : Int))] [(1032,bx [pI 0,pI 0,pI 0,pI 0])]) Br hm Conv.eqK ?_
 intro k1 s1 n1 hk1 hs1 he1
 refine Sq (Sq (RD hnt (nn 4 []) [] [(10,pB (decide (((k1 : Nat) : Int) < ((p0.length : Nat) : Int))))] [] [] tv ?_))
 refine Cb (decide (((k1 : Nat) : Int) < ((p0.length : Nat) : Int))) ?_ ?_
 ·intro h11
  have hlt1 : k1 < p0.length := by have := of_decide_eq_true h11; omega
  have hm := hs1 hlt1
  unfold Ach at hm
  refine Sk ?_
  refine Sq (Bk ?_)
  refine Sq (RD hnt (nn 7 []) [10] [(19,pB ((p0.getD k1 (default : Au)).id == p1))] [] [] (an (nn0 k1) (an (ltc hlt1) tv)) ?_)
  refine Ae hm ?_ ?_
  ·intro h12 hm
   refine Sq (RK hnt (nn 13 []) [(4,rr 1032),(5,pB ((p0.getD k1 (default : Au)).process == p1))] [(1032,bx (pm (Ax (p0.getD k1 (default : Au)))))] (an (nn0 k1) (an (ltc hlt1) (an (nn0 k1) (an (ltc hlt1) tv)))) ?_)
   obtain rfl := sj hm
   exact DW.ret (Ag [] [] (.p (.tup [.agg (Ax (p0.getD k1 (default : Au))),vb ((p0.getD k1 (default : Au)).process == p1)])))
  ·intro h12 hm
   refine Sk ?_
   refine DW.done ?_
   show DW _ _ _ _ _
   refine RD hnt (nn 3 []) [19] [(6,pI (w64 (((k1 : Nat) : Int) + 1)))] [] [] tv ?_
   exact jD () ⟨hlt1,hm⟩ (Conv.tp [(6,pI (w64 (((k1 : Nat) : Int) + 1)))] [] (by kernel_rfl) (.cons rfl (.of_eq (congrArg pI (Bl hlt1 hc1))) .nil) .nil)
 ·intro h11
  have hge1 : ¬ k1 < p0.length := by have := of_decide_eq_false h11; omega
  have hm := he1 hge1
  unfold AbZ at hm
  refine DW.exit ?_
  refine Ao ?_
  refine Aw ?_
  refine Ak ?_
  show DW _ _ _ _ _
  refine Sq (RD hnt (nn 3 []) [0,1,6,10] [(5,pB false)] [] [] tv ?_)
  obtain rfl := sj hm
  exact DW.ret (Ag [] [] (.p (.tup [.agg [vi 0,vi 0,vi 0,vi 0],vb false])))
abbrev o94 (ks : List Nat) (b : Bool) (RES : Au × Bool) (sm : List Nat := []) : Orc := .call 95 ks b (.p (.tup [.agg (Ax RES.1),vb RES.2])) [] [] sm

abbrev Im (p0 : Aa) (k1 : Nat) := (p0.tasks.getD k1 (default : Au))
abbrev c93e2 (p0 : Aa) : Nat × MV := (3,pI ((p0.tasks.length : Nat) : Int))
theorem Ea (p0 : Aa) (RES : Bool) (hm : Fn p0 = some RES) : Spec Tryz.prog 19 [.p (.agg (Ab p0))] [] (pB RES) [] [] := by
 unfold Fn at hm
 refine SO Tryz.func19 rfl rfl [(0,.p (.agg (Ab p0)))] [] ?_
 intro cx hnt
 refine Sq (RK hnt (nn 2 []) [(1,rr 1008)] [(1008,bx (pm (Ab p0)))] tv ?_)
 refine Sq (RD hnt (nn 4 []) [] [(c93e2 p0)] [] [] tv ?_)
 obtain ⟨r1,hr1,hm⟩ := bo hm
 refine Sq (Sq ?_)
 refine Jn (ι := Bool) (fun (y1 : Bool) => Aj [(1,rr 1008),(c93e2 p0),(44,pB y1)] [(1008,bx (pm (Ab p0)))]) (fun y1 => (Ht p0) y1 = some RES) ?_ ?_
 ·intro y1 hm
  unfold Ht at hm
  refine Ae hm ?_ ?_
  ·intro h8 hm
   refine Sq (RK hnt (.no :: []) [(2,pB false)] [] tv ?_)
   obtain rfl := sj hm
   exact DW.ret (Ag [] [] (pB false))
  ·intro h8 hm
   refine Sk ?_
   refine Sq (Sq (RD hnt (.no :: []) [44] [(4,pI 0)] [] [] tv ?_))
   refine Bk ?_
   obtain ⟨hc1,hm⟩ := go1 hm
   refine DW.rangeO (fun (k1 : Nat) (s1 : Unit) => Aj [(1,rr 1008),(c93e2 p0),(4,pI ((k1 : Nat) : Int))] [(1008,bx (pm (Ab p0)))]) Br hm Conv.eqK ?_
   intro k1 s1 n1 hk1 hs1 he1
   refine Sq (Sq (RD hnt (nn 3 []) [] [(47,pB (decide (((k1 : Nat) : Int) < ((p0.tasks.length : Nat) : Int))))] [] [] tv ?_))
   refine Cb (decide (((k1 : Nat) : Int) < ((p0.tasks.length : Nat) : Int))) ?_ ?_
   ·intro h45
    have hlt1 : k1 < p0.tasks.length := by have := of_decide_eq_true h45; omega
    have hm := hs1 hlt1
    unfold Tp at hm
    refine Sk ?_
    refine Sq (Bk ?_)
    refine Sq (RD hnt (nn 7 []) [47] [(5,rr 1040)] [] [(1040,bx (pm (Ax (Im p0 k1))))] (an (nn0 k1) (an (ltc hlt1) tv)) ?_)
    obtain ⟨r46,hr46,hm⟩ := bo hm
    refine Sq (RD hnt (nn 4 (o94 [] true r46 :: nn 6 [])) [] [(6,rr 1048),(7,pB r46.2)] [] [(1048,bx (pm (Ax r46.1)))] (an (AfN p0.tasks (Im p0 k1).process r46 hr46) tv) ?_)
    refine Sq ?_
    refine Jn (ι := Bool) (fun (y4 : Bool) => Aj [(1,rr 1008),(c93e2 p0),(4,pI ((k1 : Nat) : Int)),(110,pB y4)] [(1008,bx (pm (Ab p0)))]) (fun y4 => (Ch n1) y4 = some RES) ?_ ?_
    ·intro y4 hm
     unfold Ch at hm
     refine Ae hm ?_ ?_
     ·intro h61 hm
      refine Sq (RK hnt (.no :: []) [(2,pB false)] [] tv ?_)
      obtain rfl := sj hm
      exact DW.ret (Ag [] [] (pB false))
     ·intro h61 hm
      refine Sk ?_
      refine DW.done ?_
      show DW _ _ _ _ _
      refine RD hnt (nn 3 []) [110] [(4,pI (w64 (((k1 : Nat) : Int) + 1)))] [] [] tv ?_
      exact jD () ⟨hlt1,hm⟩ (Conv.tp [(4,pI (w64 (((k1 : Nat) : Int) + 1)))] [] (by kernel_rfl) (.cons rfl (.of_eq (congrArg pI (Bl hlt1 hc1))) .nil) .nil)
    ·rcases bt (decide ((Im p0 k1).id < 1)) with h47 | h47
     ·replace hm := Bd h47 hm
      refine RD hnt (nn 4 (sk 14 (pT :: .no :: sk 6 (pT :: .no :: sk 3 (pT :: .no :: sk 3 (pT :: .no :: sk 2 (pT :: .no :: sk 5 (pT :: [])))))))) [5,6,7] [(110,pB true)] [1040,1048] [] (an5 h47 (an6 tt (an6 tt (an6 tt (an6 tt tv))))) ?_
      exact jD true hm Conv.eqK
     ·replace hm := Bc h47 hm
      rcases bt (decide (((k1 : Nat) : Int) > 0)) with h48 | h48
      ·replace hm := Bd h48 hm
       obtain ⟨g49,hm⟩ := go1 hm
       rcases bt (decide ((p0.tasks.getD (Int.toNat (w64 (((k1 : Nat) : Int) - 1))) Br).id ≥ (Im p0 k1).id)) with h50 | h50
       ·replace hm := Bd h50 hm
        refine RD hnt (nn 17 (pT :: pF :: .no :: sk 6 (pT :: .no :: sk 3 (pT :: .no :: sk 3 (pT :: .no :: sk 2 (pT :: .no :: sk 5 (pT :: []))))))) [5,6,7] [(110,pB true)] [1040,1048] [] (an3 h47 (an5 h48 (an g49.1 (an g49.2 (an5 h48 (an h47 (an h48 (an h47 (an h50 (an6 h50 (an5 tt (an6 tt (an6 tt tv))))))))))))) ?_
        exact jD true hm Conv.eqK
       ·replace hm := Bc h50 hm
        obtain ⟨r51,hr51,hm⟩ := bo hm
        rcases bt (!r51) with h52 | h52
        ·replace hm := Bd h52 hm
         refine RD hnt (nn 17 (pT :: pF :: nn 5 (o79 [] true r51 :: .no :: pF :: .no :: sk 3 (pT :: .no :: sk 3 (pT :: .no :: sk 2 (pT :: .no :: sk 5 (pT :: []))))))) [5,6,7] [(110,pB true)] [1040,1048] [] (an3 h47 (an5 h48 (an g49.1 (an g49.2 (an5 h48 (an h47 (an h48 (an h47 (an5 h50 (an (Cu p0.tree (Im p0 k1).group r51 hr51) (an2 h50 (an4 h52 (an tt (an6 tt (an6 tt tv))))))))))))))) ?_
         exact jD true hm Conv.eqK
        ·replace hm := Bc h52 hm
         rcases bt (decide ((Im p0 k1).user < 0)) with h53 | h53
         ·replace hm := Bd h53 hm
          refine RD hnt (nn 17 (pT :: pF :: nn 5 (o79 [] true r51 :: .no :: pF :: nn 4 (pF :: .no :: sk 3 (pT :: .no :: sk 2 (pT :: .no :: sk 5 (pT :: []))))))) [5,6,7] [(110,pB true)] [1040,1048] [] (an3 h47 (an5 h48 (an g49.1 (an g49.2 (an5 h48 (an h47 (an h48 (an h47 (an5 h50 (an (Cu p0.tree (Im p0 k1).group r51 hr51) (an2 h50 (an4 h52 (an4 h53 (an3 tt (an6 tt tv))))))))))))))) ?_
          exact jD true hm Conv.eqK
         ·replace hm := Bc h53 hm
          rcases bt (decide ((Im p0 k1).user > 1048576)) with h54 | h54
          ·replace hm := Bd h54 hm
           refine RD hnt (nn 17 (pT :: pF :: nn 5 (o79 [] true r51 :: .no :: pF :: nn 4 (pF :: nn 4 (pF :: .no :: sk 2 (pT :: .no :: sk 5 (pT :: []))))))) [5,6,7] [(110,pB true)] [1040,1048] [] (an3 h47 (an5 h48 (an g49.1 (an g49.2 (an5 h48 (an h47 (an h48 (an h47 (an5 h50 (an (Cu p0.tree (Im p0 k1).group r51 hr51) (an2 h50 (an4 h52 (an4 h53 (an3 h54 (an6 tt tv))))))))))))))) ?_
           exact jD true hm Conv.eqK
          ·replace hm := Bc h54 hm
           rcases bt (!r46.2) with h55 | h55
           ·replace hm := Bd h55 hm
            refine RD hnt (nn 17 (pT :: pF :: nn 5 (o79 [] true r51 :: .no :: pF :: nn 4 (pF :: nn 4 (pF :: nn 3 (pF :: .no :: sk 5 (pT :: []))))))) [5,6,7] [(110,pB true)] [1040,1048] [] (an3 h47 (an5 h48 (an g49.1 (an g49.2 (an5 h48 (an h47 (an h48 (an h47 (an5 h50 (an (Cu p0.tree (Im p0 k1).group r51 hr51) (an2 h50 (an4 h52 (an4 h53 (an3 h54 (an6 h55 tv))))))))))))))) ?_
            exact jD true hm Conv.eqK
           ·replace hm := Bc h55 hm
            refine RD hnt (nn 17 (pT :: pF :: nn 5 (o79 [] true r51 :: .no :: pF :: nn 4 (pF :: nn 4 (pF :: nn 3 (pF :: nn 6 (pF :: []))))))) [5,6,7] [(110,pB (r46.1.user != (Im p0 k1).user))] [1040,1048] [] (an3 h47 (an5 h48 (an g49.1 (an g49.2 (an5 h48 (an h47 (an h48 (an h47 (an5 h50 (an (Cu p0.tree (Im p0 k1).group r51 hr51) (an2 h50 (an4 h52 (an4 h53 (an3 h54 (an6 h55 tv))))))))))))))) ?_
            exact jD (r46.1.user != (Im p0 k1).user) hm Conv.eqK
      ·replace hm := Bc h48 hm
       obtain ⟨r56,hr56,hm⟩ := bo hm
       rcases bt (!r56) with h57 | h57
       ·replace hm := Bd h57 hm
        refine RD hnt (nn 7 (sk 10 (pF :: pF :: nn 5 (o79 [] true r56 :: .no :: pF :: .no :: sk 3 (pT :: .no :: sk 3 (pT :: .no :: sk 2 (pT :: .no :: sk 5 (pT :: [])))))))) [5,6,7] [(110,pB true)] [1040,1048] [] (an3 h47 (an4 h48 (an6 h48 (an h47 (an h48 (an h47 (an5 ff (an (Cu p0.tree (Im p0 k1).group r56 hr56) (an2 ff (an4 h57 (an tt (an6 tt (an6 tt tv))))))))))))) ?_
        exact jD true hm Conv.eqK
       ·replace hm := Bc h57 hm
        rcases bt (decide ((Im p0 k1).user < 0)) with h58 | h58
        ·replace hm := Bd h58 hm
         refine RD hnt (nn 7 (sk 10 (pF :: pF :: nn 5 (o79 [] true r56 :: .no :: pF :: nn 4 (pF :: .no :: sk 3 (pT :: .no :: sk 2 (pT :: .no :: sk 5 (pT :: [])))))))) [5,6,7] [(110,pB true)] [1040,1048] [] (an3 h47 (an4 h48 (an6 h48 (an h47 (an h48 (an h47 (an5 ff (an (Cu p0.tree (Im p0 k1).group r56 hr56) (an2 ff (an4 h57 (an4 h58 (an3 tt (an6 tt tv))))))))))))) ?_
         exact jD true hm Conv.eqK
        ·replace hm := Bc h58 hm
         rcases bt (decide ((Im p0 k1).user > 1048576)) with h59 | h59
         ·replace hm := Bd h59 hm
          refine RD hnt (nn 7 (sk 10 (pF :: pF :: nn 5 (o79 [] true r56 :: .no :: pF :: nn 4 (pF :: nn 4 (pF :: .no :: sk 2 (pT :: .no :: sk 5 (pT :: [])))))))) [5,6,7] [(110,pB true)] [1040,1048] [] (an3 h47 (an4 h48 (an6 h48 (an h47 (an h48 (an h47 (an5 ff (an (Cu p0.tree (Im p0 k1).group r56 hr56) (an2 ff (an4 h57 (an4 h58 (an3 h59 (an6 tt tv))))))))))))) ?_
          exact jD true hm Conv.eqK
         ·replace hm := Bc h59 hm
          rcases bt (!r46.2) with h60 | h60
          ·replace hm := Bd h60 hm
           refine RD hnt (nn 7 (sk 10 (pF :: pF :: nn 5 (o79 [] true r56 :: .no :: pF :: nn 4 (pF :: nn 4 (pF :: nn 3 (pF :: .no :: sk 5 (pT :: [])))))))) [5,6,7] [(110,pB true)] [1040,1048] [] (an3 h47 (an4 h48 (an6 h48 (an h47 (an h48 (an h47 (an5 ff (an (Cu p0.tree (Im p0 k1).group r56 hr56) (an2 ff (an4 h57 (an4 h58 (an3 h59 (an6 h60 tv))))))))))))) ?_
           exact jD true hm Conv.eqK
          ·replace hm := Bc h60 hm
           refine RD hnt (nn 7 (sk 10 (pF :: pF :: nn 5 (o79 [] true r56 :: .no :: pF :: nn 4 (pF :: nn 4 (pF :: nn 3 (pF :: nn 6 (pF :: [])))))))) [5,6,7] [(110,pB (r46.1.user != (Im p0 k1).user))] [1040,1048] [] (an3 h47 (an4 h48 (an6 h48 (an h47 (an h48 (an h47 (an5 ff (an (Cu p0.tree (Im p0 k1).group r56 hr56) (an2 ff (an4 h57 (an4 h58 (an3 h59 (an6 h60 tv))))))))))))) ?_
           exact jD (r46.1.user != (Im p0 k1).user) hm Conv.eqK
   ·intro h45
    have hge1 : ¬ k1 < p0.tasks.length := by have := of_decide_eq_false h45; omega
    have hm := he1 hge1
    unfold Yi at hm
    refine DW.exit ?_
    refine Ao ?_
    refine Aw ?_
    refine Ak ?_
    show DW _ _ _ _ _
    refine Sq (RK hnt (.no :: []) [(2,pB true)] [] tv ?_)
    obtain rfl := sj hm
    exact DW.ret (Ag [] [] (pB true))
 ·rcases bt (!r1) with h2 | h2
  ·replace hm := Bd h2 hm
   refine RD hnt (nn 2 (o75 [] true r1 :: nn 2 (sk 2 (pT :: .no :: sk 3 (pT :: .no :: sk 3 (pT :: .no :: sk 14 (pT :: []))))))) [] [(44,pB true)] [] [] (an (Ft p0.tree r1 hr1) (an3 h2 (an tt (an6 tt (an6 tt tv))))) ?_
   exact jD true hm Conv.eqK
  ·replace hm := Bc h2 hm
   rcases bt (decide (((p0.tasks.length : Nat) : Int) > 128)) with h3 | h3
   ·replace hm := Bd h3 hm
    refine RD hnt (nn 2 (o75 [] true r1 :: nn 4 (pF :: .no :: sk 3 (pT :: .no :: sk 3 (pT :: .no :: sk 14 (pT :: [])))))) [] [(44,pB true)] [] [] (an (Ft p0.tree r1 hr1) (an3 h2 (an4 h3 (an3 tt (an6 tt tv))))) ?_
    exact jD true hm Conv.eqK
   ·replace hm := Bc h3 hm
    rcases bt (decide (p0.next < 1)) with h4 | h4
    ·replace hm := Bd h4 hm
     refine RD hnt (nn 2 (o75 [] true r1 :: nn 4 (pF :: nn 4 (pF :: .no :: sk 3 (pT :: .no :: sk 14 (pT :: [])))))) [] [(44,pB true)] [] [] (an (Ft p0.tree r1 hr1) (an3 h2 (an4 h3 (an4 h4 (an5 tt tv))))) ?_
     exact jD true hm Conv.eqK
    ·replace hm := Bc h4 hm
     rcases bt (decide (p0.next > 2147483648)) with h5 | h5
     ·replace hm := Bd h5 hm
      refine RD hnt (nn 2 (o75 [] true r1 :: nn 4 (pF :: nn 4 (pF :: nn 4 (pF :: .no :: sk 14 (pT :: [])))))) [] [(44,pB true)] [] [] (an (Ft p0.tree r1 hr1) (an3 h2 (an4 h3 (an4 h4 (an5 h5 tv))))) ?_
      exact jD true hm Conv.eqK
     ·replace hm := Bc h5 hm
      rcases bt (decide (((p0.tasks.length : Nat) : Int) > 0)) with h6 | h6
      ·replace hm := Bd h6 hm
       obtain ⟨g7,hm⟩ := go1 hm
       refine RD hnt (nn 2 (o75 [] true r1 :: nn 4 (pF :: nn 4 (pF :: nn 4 (pF :: nn 14 (pT :: pF :: [])))))) [] [(44,pB (decide (p0.next ≤ (p0.tasks.getD (Int.toNat (w64 (((p0.tasks.length : Nat) : Int) - 1))) Br).id)))] [] [] (an (Ft p0.tree r1 hr1) (an3 h2 (an4 h3 (an4 h4 (an3 h5 (an h6 (an6 h6 (an g7.1 (an g7.2 (an3 h6 (an h5 (an h6 (an h5 tv))))))))))))) ?_
       exact jD (decide (p0.next ≤ (p0.tasks.getD (Int.toNat (w64 (((p0.tasks.length : Nat) : Int) - 1))) Br).id)) hm Conv.eqK
      ·replace hm := Bc h6 hm
       refine RD hnt (nn 2 (o75 [] true r1 :: nn 4 (pF :: nn 4 (pF :: nn 4 (pF :: nn 4 (sk 10 (pF :: pF :: []))))))) [] [(44,pB false)] [] [] (an (Ft p0.tree r1 hr1) (an3 h2 (an4 h3 (an4 h4 (an3 h5 (an4 h6 (an6 h6 (an h5 (an h6 (an h5 tv)))))))))) ?_
       exact jD false hm Conv.eqK
abbrev o93 (ks : List Nat) (b : Bool) (RES : Bool) (sm : List Nat := []) : Orc := .call 19 ks b (pB RES) [] [] sm

theorem AfI (p0 : Af) (p1 : Int) (RES : Int) (hm : Sh p0 p1 = some RES) : Spec Tryz.prog 250 [.p (.agg (As p0)),pI p1] [] (pI RES) [] [] := by
 unfold Sh at hm
 refine SO Tryz.func250 rfl rfl [(0,.p (.agg (As p0))),(1,pI p1)] [] ?_
 intro cx hnt
 refine Sq (RK hnt (nn 2 []) [(1,pI p1),(2,rr 1016)] [(1016,bx (pm (As p0)))] tv ?_)
 obtain ⟨r1,hr1,hm⟩ := bo hm
 refine Sq (RD hnt (nn 2 (o80 [] true r1 :: nn 6 [])) [] [(5,rr 1040),(6,pB r1.2)] [] [(1040,bx (pm (Ar r1.1)))] (an (De p0 p1 r1 hr1) tv) ?_)
 refine Sq (Sq (DW.regJ (sl2 := [(2,rr 1016),(5,rr 1040),(20,pB ((!r1.2) || (p1 == 1)))]) (ob2 := [(1016,bx (pm (As p0))),(1040,bx (pm (Ar r1.1)))]) ?_ ?_))
 ·rcases bt (!r1.2) with h2 | h2
  ·exact RT hnt (nn 3 (sk 2 (pT :: []))) [(20,pB true)] (an3 h2 tv) (by kernel_rfl) (.cons rfl (.of_eq (by rw [h2]; try rfl)) .nil)
  ·exact RT hnt (nn 5 (pF :: [])) [(20,pB (p1 == 1))] (an3 h2 tv) (by kernel_rfl) (.cons rfl (.of_eq (by rw [h2]; try rfl)) .nil)
 ·refine Ae hm ?_ ?_
  ·intro h3 hm
   refine Sq (RK hnt (.no :: []) [(4,pI 0)] [] tv ?_)
   obtain rfl := sj hm
   exact DW.ret (Ag [] [] (pI 0))
  ·intro h3 hm
   refine Sk ?_
   obtain ⟨r4,hr4,hm⟩ := bo hm
   refine Sq (RD hnt (nn 3 (o80 [] true r4 :: nn 6 [])) [2,20] [(7,rr 1056)] [1016] [(1056,bx (pm (Ar r4.1)))] (an (De p0 r1.1.parent r4 hr4) tv) ?_)
   refine Sq (Sq (RD hnt (nn 3 []) [5] [(30,pB (r1.1.kind == 1))] [1040] [] tv ?_))
   refine Ae hm ?_ ?_
   ·intro h5 hm
    refine Sq (RK hnt (nn 4 []) [(4,pI (Eb .i64 r4.1.control 6))] [] tv ?_)
    obtain rfl := sj hm
    exact DW.ret (Ag [] [] (pI (Eb .i64 r4.1.control 6)))
   ·intro h5 hm
    refine Sk ?_
    refine Sq (RK hnt (nn 3 []) [(4,pI r4.1.control)] [] tv ?_)
    obtain rfl := sj hm
    exact DW.ret (Ag [] [] (pI r4.1.control))
abbrev o96 (ks : List Nat) (b : Bool) (RES : Int) (sm : List Nat := []) : Orc := .call 250 ks b (pI RES) [] [] sm

theorem Jr (p0 : Af) (p1 : Int) (RES : Int) (hm : Kx p0 p1 = some RES) : Spec Tryz.prog 235 [.p (.agg (As p0)),pI p1] [] (pI RES) [] [] := by
 unfold Kx at hm
 refine SO Tryz.func235 rfl rfl [(0,.p (.agg (As p0))),(1,pI p1)] [] ?_
 intro cx hnt
 refine Sq (RK hnt (nn 2 []) [(1,pI p1),(2,rr 1016)] [(1016,bx (pm (As p0)))] tv ?_)
 obtain ⟨r1,hr1,hm⟩ := bo hm
 refine Sq (RD hnt (nn 2 (o80 [] true r1 :: nn 6 [])) [] [(5,rr 1040),(6,pB r1.2)] [] [(1040,bx (pm (Ar r1.1)))] (an (De p0 p1 r1 hr1) tv) ?_)
 refine Sq (Sq (RD hnt (nn 2 []) [6] [(15,pB (!r1.2))] [] [] tv ?_))
 refine Ae hm ?_ ?_
 ·intro h2 hm
  refine Sq (RK hnt (.no :: []) [(4,pI 0)] [] tv ?_)
  obtain rfl := sj hm
  exact DW.ret (Ag [] [] (pI 0))
 ·intro h2 hm
  refine Sk ?_
  refine Sq (RD hnt (.no :: []) [15] [(7,pI 31)] [] [] tv ?_)
  refine Sq (Sq (RD hnt (nn 2 []) [] [(17,pB (p1 != 1))] [] [] tv ?_))
  refine Jn (ι := Int) (fun (y1 : Int) => Aj [(5,rr 1040),(7,pI y1)] [(1040,bx (pm (Ar r1.1)))]) (fun y1 => (Iz r1) y1 = some RES) ?_ ?_
  ·intro y1 hm
   unfold Iz at hm
   refine Sq (Sq (RK hnt (nn 3 []) [(7,pI y1),(23,pB (r1.1.kind == 1))] [] tv ?_))
   refine Jn (ι := Int) (fun (y2 : Int) => Aj [(7,pI y2)] []) (fun y2 => Lc y2 = some RES) ?_ ?_
   ·intro y2 hm
    unfold Lc at hm
    refine Sq (RK hnt (nn 2 []) [(4,pI y2)] [] tv ?_)
    obtain rfl := sj hm
    exact DW.ret (Ag [] [] (pI y2))
   ·refine Ae hm ?_ ?_
    ·intro h5 hm
     refine RK hnt (nn 3 []) [(7,pI (Eb .i64 y1 6))] [] tv ?_
     exact jD (Eb .i64 y1 6) hm .refl
    ·intro h5 hm
     refine Sk ?_
     exact jD y1 hm Conv.t0
  ·refine Ae hm ?_ ?_
   ·intro h3 hm
    obtain ⟨r4,hr4,hm⟩ := bo hm
    refine RD hnt (nn 2 (o96 [] true r4 :: .no :: [])) [1,2,17] [(7,pI r4)] [1016] [] (an (AfI p0 p1 r4 hr4) tv) ?_
    exact jD r4 hm Conv.eqK
   ·intro h3 hm
    refine Sk ?_
    exact jD 31 hm Conv.t0
abbrev o95 (ks : List Nat) (b : Bool) (RES : Int) (sm : List Nat := []) : Orc := .call 235 ks b (pI RES) [] [] sm
end Go.Dm

