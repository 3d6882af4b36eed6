/- Texts of the proof of FreezeRests: the data machine, the models of the Go functions, their contracts. -/
import Derived.Test.YtonaidnipimjgaaGreatFreezeRestsA1
import Derived.KernelRfl
set_option linter.unusedVariables false
set_option linter.unusedSimpArgs false
/- Models of Go types and functions, printed by a program. -/
namespace Go.Dm
set_option linter.unusedVariables false
structure Ap where
 group : Int
 want : Bool
 frozen : Bool
 changes : Int
 deriving Inhabited
def Ch (x : Ap) : List PV := [vi x.group,vb x.want,vb x.frozen,vi x.changes]
abbrev Bz : Ap := default
abbrev Gs (L : List Ap) : PV := Oq 4 Ch (default : Ap) L
abbrev As (L : List Ap) : Body := rowOf 4 Ch (default : Ap) L
abbrev Wr (L : List Ap) : Nat → List PV := elems Ch (default : Ap) L
def eqFrost (x y : Ap) : Bool := ((x.group == y.group) && ((x.want == y.want) && ((x.frozen == y.frozen) && ((x.changes == y.changes) && true))))
structure Ac where
 frosts : List Ap
 stopped : List Int
 deriving Inhabited
def Az (x : Ac) : List PV := [Oq 4 Ch (default : Ap) x.frosts,Oq 1 Bo 0 x.stopped]
structure freezer where
 h : Aa
 f : Ac
 deriving Inhabited
def AaG : Option Aa := (some ({ tree := ({ nodes := [({ id := 1,parent := 0,name := ByteArray.empty,control := 0,kind := 0,owner := 0 } : Ah),({ id := 2,parent := 1,name := (bs [97]),control := 0,kind := 0,owner := 0 } : Ah),({ id := 3,parent := 2,name := (bs [98]),control := 0,kind := 0,owner := 0 } : Ah)],next := 4 } : Ae),tasks := [({ id := 1,process := 1,group := 3,user := 0 } : At)],next := 2 } : Aa))
def Yg (k1 : Nat) (x1 : Ah) (s1 : List Ap) (n1 : (List Ap) → Option Ac) : Option Ac := (if s1.length + 1 ≤ 1073741824 then (n1 (s1 ++ [({ group := x1.id,want := false,frozen := false,changes := 0 } : Ap)])) else none)
def Xf (s1 : List Ap) : Option Ac := (some ({ frosts := s1,stopped := [] } : Ac))
def Np (p0 : Aa) : Option Ac := (Option.bind (Lc p0) fun r1 => (if (!r1) then (some ({ frosts := [],stopped := [] } : Ac)) else (if p0.tree.nodes.length ≤ 9223372036854775807 then Bg Yg Xf p0.tree.nodes 0 [] else none)))
def AbK (p1 : Int) (k1 : Nat) (x1 : Ap) (s1 : Unit) (n1 : Unit → Option Ap) : Option Ap := (if (x1.group == p1) then (some x1) else (n1 ()))
def Ack (p1 : Int) (s1 : Unit) : Option Ap := (some ({ group := p1,want := false,frozen := false,changes := 0 } : Ap))
def Fo (p0 : Ac) (p1 : Int) : Option Ap := (if p0.frosts.length ≤ 9223372036854775807 then Bg (AbK p1) (Ack p1) p0.frosts 0 () else none)
def Ud (p1 : Ac) (k1 : Nat) (x1 : Int) (s1 : Unit) (n1 : Unit → Option Bool) : Option Bool := (Option.bind (Fo p1 x1) fun r13 => (if r13.want then (some true) else (n1 ())))
def Aav (s1 : Unit) : Option Bool := (some false)
def Jj (p0 : Ae) (p1 : Ac) (p2 : Int) : Option Bool := (Option.bind (Kz p0 p2) fun r1 => (if r1.length ≤ 9223372036854775807 then Bg (Ud p1) Aav r1 0 () else none))
def Oy (y1 : Bool) : Option Bool := (some y1)
def Hg (p0 : Aa) (p1 : Ac) (p2 : Int) : Option Bool := (Option.bind (Px p0 p2) fun r1 => (if r1.2 then (Option.bind (Jj p0.tree p1 r1.1.group) fun r3 => (Oy r3)) else (Oy false)))
def Gr (p0 : Ac) (p1 : Int) : Option Bool := (Option.bind (Ds p0.stopped p1) fun r1 => (some r1))
def Nx (n1 : Unit → Option Bool) (y3 : Bool) : Option Bool := (if y3 then (some false) else (n1 ()))
def Vq (p1 : Ac) (r3 : List Int) (k1 : Nat) (x1 : At) (s1 : Unit) (n1 : Unit → Option Bool) : Option Bool := (Option.bind (Ds r3 x1.group) fun r17 => (if r17 then (Option.bind (Gr p1 x1.id) fun r19 => ((Nx n1) (!r19))) else ((Nx n1) false)))
def Abu (s1 : Unit) : Option Bool := (some true)
def Me (p0 : Aa) (p1 : Ac) (p2 : Int) : Option Bool := (Option.bind (Jj p0.tree p1 p2) fun r1 => (if (!r1) then (some false) else (Option.bind (Nb p0.tree p2) fun r3 => (if p0.tasks.length ≤ 9223372036854775807 then Bg (Vq p1 r3) Abu p0.tasks 0 () else none))))
def Jp (n1 : Unit → Option Bool) (y10 : Bool) : Option Bool := (if y10 then (some false) else (n1 ()))
def Uc (p0 : Aa) (k1 : Nat) (x1 : Ap) (s1 : Unit) (n1 : Unit → Option Bool) : Option Bool := (if k1 < p0.tree.nodes.length then (if (x1.group != (p0.tree.nodes.getD k1 (default : Ah)).id) then ((Jp n1) true) else (if (decide (x1.changes < 0)) then ((Jp n1) true) else ((Jp n1) (decide (x1.changes > 1099511627776))))) else none)
def Hs (n10 : Unit → Option Bool) (y13 : Bool) : Option Bool := (if y13 then (some false) else (n10 ()))
def Sc (p0 : Aa) (p1 : Ac) (k10 : Nat) (x10 : Int) (s10 : Unit) (n10 : Unit → Option Bool) : Option Bool := (if (decide (((k10 : Nat) : Int) > 0)) then (if 0 ≤ (w64 (((k10 : Nat) : Int) - 1)) ∧ (w64 (((k10 : Nat) : Int) - 1)) < ((p1.stopped.length : Nat) : Int) then (if (decide (x10 ≤ (p1.stopped.getD (Int.toNat (w64 (((k10 : Nat) : Int) - 1))) 0))) then ((Hs n10) true) else (Option.bind (Hg p0 p1 x10) fun r145 => ((Hs n10) (!r145)))) else none) else (Option.bind (Hg p0 p1 x10) fun r146 => ((Hs n10) (!r146))))
def Th (p0 : Aa) (p1 : Ac) (k13 : Nat) (x13 : Ap) (s13 : Unit) (n13 : Unit → Option Bool) : Option Bool := (Option.bind (Me p0 p1 x13.group) fun r157 => (if (x13.frozen != r157) then (some false) else (n13 ())))
def Yv (s13 : Unit) : Option Bool := (some true)
def Sw (p0 : Aa) (p1 : Ac) (s10 : Unit) : Option Bool := (if p1.frosts.length ≤ 9223372036854775807 then Bg (Th p0 p1) Yv p1.frosts 0 () else none)
def Tn (p0 : Aa) (p1 : Ac) (s1 : Unit) : Option Bool := (if p1.stopped.length ≤ 9223372036854775807 then Bg (Sc p0 p1) (Sw p0 p1) p1.stopped 0 () else none)
def Mq (p0 : Aa) (p1 : Ac) (y1 : Bool) : Option Bool := (if y1 then (some false) else (if p1.frosts.length ≤ 9223372036854775807 then Bg (Uc p0) (Tn p0 p1) p1.frosts 0 () else none))
def Mu (p0 : Aa) (p1 : Ac) : Option Bool := (Option.bind (Lc p0) fun r1 => (if (!r1) then ((Mq p0 p1) true) else ((Mq p0 p1) (((p1.frosts.length : Nat) : Int) != ((p0.tree.nodes.length : Nat) : Int)))))
def Xs (p0 : Ap) (p1 : Int) : Option Bool := (some (p0.group == p1))
def Iz (p1c0 : Int) (k1 : Nat) (x1 : Ap) (s1 : Unit) (n1 : Unit → Option Int) : Option Int := (Option.bind (Xs x1 p1c0) fun r10 => (if r10 then (some ((k1 : Nat) : Int)) else (n1 ())))
def Iy (s1 : Unit) : Option Int := (some (-1))
def Ep (p0 : List Ap) (p1c0 : Int) : Option Int := (if p0.length ≤ 9223372036854775807 then Bg (Iz p1c0) Iy p0 0 () else none)
def Gn (p0 : List Ap) : Option (List Ap) := (if 0 + p0.length ≤ 1073741824 then (some p0) else none)
def Mv (p0 : List Ap) : Option (List Ap) := (some [])
def Hl (p0 : List Int) : Option (List Int) := (if 0 + p0.length ≤ 1073741824 then (some p0) else none)
def Ow (p0 : List Int) : Option (List Int) := (some [])
def Oi (p0 : Aa) (p1 : Ac) : Option freezer := (Option.bind (Gn p1.frosts) fun r1 => (Option.bind (Hl p1.stopped) fun r2 => (some ({ h := p0,f := ({ frosts := r1,stopped := r2 } : Ac) } : freezer))))
def Ft (p0 : Int) (p1 : freezer) : Option Bool := (Option.bind (Hg p1.h p1.f p0) fun r1 => (some (!r1)))
def Ek (p0 : List Int) (p1c0 : freezer) (k1 : Nat) (x1 : Int) (s1 : Unit) (n1 : Unit → Option Int) : Option Int := (Option.bind (Ft x1 ({ h := p1c0.h,f := ({ frosts := p1c0.f.frosts,stopped := p0 } : Ac) } : freezer)) fun r12 => (if r12 then (some ((k1 : Nat) : Int)) else (n1 ())))
def Gx (s1 : Unit) : Option Int := (some (-1))
def Cy (p0 : List Int) (p1c0 : freezer) : Option Int := (if p0.length ≤ 9223372036854775807 then Bg (Ek p0 p1c0) Gx p0 0 () else none)
def Cb (s1 : (List Int) × Int × Int) (n1 : ((List Int) × Int × Int) → Option (Nat × (List Int) × freezer)) (y2 : (List Int) × Int) : Option (Nat × (List Int) × freezer) := (n1 (y2.1,y2.2,(w64 (s1.2.2 + 1))))
def Cq (p1c0 : freezer) (s1 : (List Int) × Int × Int) (n1 : ((List Int) × Int × Int) → Option (Nat × (List Int) × freezer)) : Option (Nat × (List Int) × freezer) := (if (decide (s1.2.2 < ((s1.1.length : Nat) : Int))) then (if 0 ≤ s1.2.2 ∧ s1.2.2 < ((s1.1.length : Nat) : Int) then (if (Int.toNat s1.2.2) < s1.1.length then (Option.bind (Ft (s1.1.getD (Int.toNat s1.2.2) 0) ({ h := p1c0.h,f := ({ frosts := p1c0.f.frosts,stopped := s1.1 } : Ac) } : freezer)) fun r16 => (if (!r16) then (if 0 ≤ s1.2.1 ∧ s1.2.1 < ((s1.1.length : Nat) : Int) then (if (Int.toNat s1.2.1) < s1.1.length then ((Cb s1 n1) ((s1.1.set (Int.toNat s1.2.1) (s1.1.getD (Int.toNat s1.2.2) 0)),(w64 (s1.2.1 + 1)))) else none) else none) else ((Cb s1 n1) (s1.1,s1.2.1)))) else none) else none) else (if 0 ≤ s1.2.1 ∧ s1.2.1 ≤ ((s1.1.length : Nat) : Int) then (if (Int.toNat s1.2.1) + (Nt s1.1.length (Int.toNat s1.2.1)) ≤ s1.1.length then (if 0 ≤ s1.2.1 ∧ s1.2.1 ≤ (((Pz s1.1 (Int.toNat s1.2.1) (Nt s1.1.length (Int.toNat s1.2.1)) 0).length : Nat) : Int) then (some ((Int.toNat s1.2.1),(Pz s1.1 (Int.toNat s1.2.1) (Nt s1.1.length (Int.toNat s1.2.1)) 0),({ h := p1c0.h,f := ({ frosts := p1c0.f.frosts,stopped := (Pz s1.1 (Int.toNat s1.2.1) (Nt s1.1.length (Int.toNat s1.2.1)) 0) } : Ac) } : freezer))) else none) else none) else none))
def Cd (p0 : List Int) (p1c0 : freezer) : Option (Nat × (List Int) × freezer) := (Option.bind (Cy p0 ({ h := p1c0.h,f := ({ frosts := p1c0.f.frosts,stopped := p0 } : Ac) } : freezer)) fun r1 => (if (r1 == (-1)) then (some (p0.length,p0,({ h := p1c0.h,f := ({ frosts := p1c0.f.frosts,stopped := p0 } : Ac) } : freezer))) else (whileO (Cq p1c0) En (p0,r1,(w64 (r1 + 1))))))
def Hx (p0 : freezer) : Option (freezer × Nat) := (Option.bind (Cd p0.f.stopped p0) fun r1 => (if p0.f.stopped.length = r1.2.1.length then (if p0.f.frosts.length = r1.2.2.f.frosts.length then (if r1.1 ≤ r1.2.1.length then (some (({ h := r1.2.2.h,f := ({ frosts := r1.2.2.f.frosts,stopped := r1.2.1 } : Ac) } : freezer),r1.1)) else none) else none) else none))
def Gt (n1 : (List Ap) → Option (Ac × freezer)) (y3 : List Ap) : Option (Ac × freezer) := (n1 y3)
def Li (p0 : freezer) (k1 : Int) (s1 : List Ap) (n1 : (List Ap) → Option (Ac × freezer)) : Option (Ac × freezer) := (if 0 ≤ k1 ∧ k1 < ((s1.length : Nat) : Int) then (if (Int.toNat k1) < s1.length then (Option.bind (Me p0.h ({ frosts := s1,stopped := p0.f.stopped } : Ac) (s1.getD (Int.toNat k1) (default : Ap)).group) fun r22 => (if (Int.toNat k1) < s1.length then (if (r22 != (s1.getD (Int.toNat k1) (default : Ap)).frozen) then (if (Int.toNat k1) < s1.length then (if (Int.toNat k1) < s1.length then (if (Int.toNat k1) < s1.length then ((Gt n1) ((s1.set (Int.toNat k1) ({ group := (s1.getD (Int.toNat k1) (default : Ap)).group,want := (s1.getD (Int.toNat k1) (default : Ap)).want,frozen := r22,changes := (s1.getD (Int.toNat k1) (default : Ap)).changes } : Ap)).set (Int.toNat k1) ({ group := ((s1.set (Int.toNat k1) ({ group := (s1.getD (Int.toNat k1) (default : Ap)).group,want := (s1.getD (Int.toNat k1) (default : Ap)).want,frozen := r22,changes := (s1.getD (Int.toNat k1) (default : Ap)).changes } : Ap)).getD (Int.toNat k1) (default : Ap)).group,want := ((s1.set (Int.toNat k1) ({ group := (s1.getD (Int.toNat k1) (default : Ap)).group,want := (s1.getD (Int.toNat k1) (default : Ap)).want,frozen := r22,changes := (s1.getD (Int.toNat k1) (default : Ap)).changes } : Ap)).getD (Int.toNat k1) (default : Ap)).want,frozen := ((s1.set (Int.toNat k1) ({ group := (s1.getD (Int.toNat k1) (default : Ap)).group,want := (s1.getD (Int.toNat k1) (default : Ap)).want,frozen := r22,changes := (s1.getD (Int.toNat k1) (default : Ap)).changes } : Ap)).getD (Int.toNat k1) (default : Ap)).frozen,changes := (minI (w64 ((s1.getD (Int.toNat k1) (default : Ap)).changes + 1)) 1099511627776) } : Ap))) else none) else none) else none) else ((Gt n1) s1)) else none)) else none) else none)
def Qm (p0 : freezer) (s1 : List Ap) : Option (Ac × freezer) := (some (({ frosts := s1,stopped := p0.f.stopped } : Ac),({ h := p0.h,f := ({ frosts := s1,stopped := p0.f.stopped } : Ac) } : freezer)))
def Du (p0 : freezer) : Option (Ac × freezer) := (if p0.f.frosts.length ≤ 9223372036854775807 then (forO (Li p0) (Qm p0) (Int.toNat (((p0.f.frosts.length : Nat) : Int) - 0)) 0 p0.f.frosts) else none)
def Nl (p0 : Aa) (p1 : Ac) (p2 : Int) (p3 : Bool) : Option (Ac × Int) := (Option.bind (Mu p0 p1) fun r1 => (if (!r1) then (some (({ frosts := [],stopped := [] } : Ac),1)) else (Option.bind (Ep p1.frosts p2) fun r3 => (if (decide (r3 < 0)) then (some (({ frosts := [],stopped := [] } : Ac),4)) else (if (p2 == 1) then (some (({ frosts := [],stopped := [] } : Ac),9)) else (Option.bind (Oi p0 p1) fun r6 => (if 0 ≤ r3 ∧ r3 < ((r6.f.frosts.length : Nat) : Int) then (if (Int.toNat r3) < r6.f.frosts.length then (Option.bind (Hx ({ h := r6.h,f := ({ frosts := (r6.f.frosts.set (Int.toNat r3) ({ group := (r6.f.frosts.getD (Int.toNat r3) (default : Ap)).group,want := p3,frozen := (r6.f.frosts.getD (Int.toNat r3) (default : Ap)).frozen,changes := (r6.f.frosts.getD (Int.toNat r3) (default : Ap)).changes } : Ap)),stopped := r6.f.stopped } : Ac) } : freezer)) fun r9 => (if (r6.f.frosts.set (Int.toNat r3) ({ group := (r6.f.frosts.getD (Int.toNat r3) (default : Ap)).group,want := p3,frozen := (r6.f.frosts.getD (Int.toNat r3) (default : Ap)).frozen,changes := (r6.f.frosts.getD (Int.toNat r3) (default : Ap)).changes } : Ap)).length = r9.1.f.frosts.length then (if r6.f.stopped.length = r9.1.f.stopped.length then (if r9.2 ≤ r9.1.f.stopped.length then (Option.bind (Du ({ h := r9.1.h,f := ({ frosts := r9.1.f.frosts,stopped := (r9.1.f.stopped.take r9.2) } : Ac) } : freezer)) fun r13 => (if r9.1.f.frosts.length = r13.2.f.frosts.length then (if (r9.1.f.stopped.take r9.2).length = r13.2.f.stopped.length then (some (r13.2.f,0)) else none) else none)) else none) else none) else none)) else none) else none)))))))
def Nv (n1 : (List Int) → Option (Ac × Int)) (y5 : List Int) : Option (Ac × Int) := (n1 y5)
def Ln (x1 : At) (s1 : List Int) (n1 : (List Int) → Option (Ac × Int)) (y6 : Bool) : Option (Ac × Int) := (if y6 then (if s1.length + 1 ≤ 1073741824 then ((Nv n1) (s1 ++ [x1.id])) else none) else ((Nv n1) s1))
def Vj (p0 : Aa) (p1 : Ac) (p2 : List Int) (r3 : freezer) (k1 : Nat) (x1 : At) (s1 : List Int) (n1 : (List Int) → Option (Ac × Int)) : Option (Ac × Int) := (Option.bind (Jj p0.tree p1 x1.group) fun r33 => (if r33 then (Option.bind (Ds p2 x1.id) fun r35 => (if (!r35) then (Option.bind (Gr ({ frosts := r3.f.frosts,stopped := s1 } : Ac) x1.id) fun r37 => ((Ln x1 s1 n1) (!r37))) else ((Ln x1 s1 n1) false))) else ((Ln x1 s1 n1) false)))
def Vt (r3 : freezer) (s1 : List Int) : Option (Ac × Int) := (Option.bind (Lq s1) fun r40 => (if s1.length = r40.length then (Option.bind (Du ({ h := r3.h,f := ({ frosts := r3.f.frosts,stopped := r40 } : Ac) } : freezer)) fun r42 => (if r3.f.frosts.length = r42.2.f.frosts.length then (if r40.length = r42.2.f.stopped.length then (some (r42.2.f,0)) else none) else none)) else none))
def Mb (p0 : Aa) (p1 : Ac) (p2 : List Int) : Option (Ac × Int) := (Option.bind (Mu p0 p1) fun r1 => (if (!r1) then (some (({ frosts := [],stopped := [] } : Ac),1)) else (Option.bind (Oi p0 p1) fun r3 => (if p0.tasks.length ≤ 9223372036854775807 then Bg (Vj p0 p1 p2 r3) (Vt r3) p0.tasks 0 r3.f.stopped else none))))
def AcX (p1 : List Ap) (k1 : Nat) (x1 : Ap) (s1 : Unit) (n1 : Unit → Option Bool) : Option Bool := (if k1 < p1.length then (if (!(eqFrost x1 (p1.getD k1 (default : Ap)))) then (some false) else (n1 ())) else none)
def Adg (s1 : Unit) : Option Bool := (some true)
def AbG (p0 : List Ap) (p1 : List Ap) : Option Bool := (if (((p0.length : Nat) : Int) != ((p1.length : Nat) : Int)) then (some false) else (if p0.length ≤ 9223372036854775807 then Bg (AcX p1) Adg p0 0 () else none))
def AaF (p1 : List Int) (k1 : Nat) (x1 : Int) (s1 : Unit) (n1 : Unit → Option Bool) : Option Bool := (if k1 < p1.length then (if (x1 != (p1.getD k1 0)) then (some false) else (n1 ())) else none)
def AaA (s1 : Unit) : Option Bool := (some true)
def Yi (p0 : List Int) (p1 : List Int) : Option Bool := (if (((p0.length : Nat) : Int) != ((p1.length : Nat) : Int)) then (some false) else (if p0.length ≤ 9223372036854775807 then Bg (AaF p1) AaA p0 0 () else none))
def Lt (y1 : Bool) : Option Bool := (some y1)
def Rs (p0 : Ac) (p1 : Ac) : Option Bool := (Option.bind (AbG p0.frosts p1.frosts) fun r1 => (if r1 then (Option.bind (Yi p0.stopped p1.stopped) fun r3 => (Lt r3)) else (Lt false)))
def Ee (y1 : Bool) : Option Bool := (some y1)
def Qi : Option Bool := (Option.bind AaG fun r1 => (Option.bind (Np r1) fun r4 => (Option.bind (Nl r1 r4 2 true) fun r5 => (Option.bind (Mb r1 r5.1 [1]) fun r8 => (Option.bind (Mb r1 r8.1 []) fun r11 => (Option.bind (Np ({ tree := r1.tree,tasks := [],next := r1.next } : Aa)) fun r12 => (Option.bind (Nl ({ tree := r1.tree,tasks := [],next := r1.next } : Aa) r12 3 true) fun r13 => (if (r5.2 == 0) then (Option.bind (Fo r5.1 2) fun r15 => (if (!r15.frozen) then (if (r8.2 == 0) then (Option.bind (Rs r5.1 r8.1) fun r18 => (if r18 then (if (r11.2 == 0) then (Option.bind (Fo r11.1 2) fun r21 => (if r21.frozen then (Option.bind (Fo r11.1 3) fun r23 => (if r23.frozen then (Option.bind (Fo r11.1 3) fun r25 => (if (r25.changes == 1) then (Option.bind (Fo r11.1 1) fun r27 => (if (!r27.frozen) then (Option.bind (Gr r11.1 1) fun r29 => (if r29 then (if (r13.2 == 0) then (Option.bind (Fo r13.1 3) fun r32 => (Ee r32.frozen)) else (Ee false)) else (Ee false))) else (Ee false))) else (Ee false))) else (Ee false))) else (Ee false))) else (Ee false)) else (Ee false))) else (Ee false)) else (Ee false))) else (Ee false)))))))))
def Jw (n1 : (Ao × (List Int)) → Option ((List Int) × Ao)) (y5 : Ao × (List Int)) : Option ((List Int) × Ao) := (n1 (y5.1,y5.2))
def Ie (x1 : At) (s1 : Ao × (List Int)) (n1 : (Ao × (List Int)) → Option ((List Int) × Ao)) (y6 : Ao × Bool) : Option ((List Int) × Ao) := (if y6.2 then (if s1.2.length + 1 ≤ 1073741824 then ((Jw n1) (y6.1,(s1.2 ++ [x1.id]))) else none) else ((Jw n1) (y6.1,s1.2)))
def Qo (p2 : Bool) (k1 : Nat) (x1 : At) (s1 : Ao × (List Int)) (n1 : (Ao × (List Int)) → Option ((List Int) × Ao)) : Option ((List Int) × Ao) := (if p2 then ((Ie x1 s1 n1) (s1.1,true)) else (Option.bind (Bu s1.1 4) fun r14 => ((Ie x1 s1 n1) (r14.2,(decide (r14.1 > 0))))))
def Vx (s1 : Ao × (List Int)) : Option ((List Int) × Ao) := (some (s1.2,s1.1))
def Lz (p0 : Ao) (p1 : Aa) (p2 : Bool) : Option ((List Int) × Ao) := (if p1.tasks.length ≤ 9223372036854775807 then Bg (Qo p2) Vx p1.tasks 0 (p0,[]) else none)
def Pb (y1 : Bool) : Option Bool := (some y1)
def Ll (p0 : Ae) (p1 : Ac) (p2 : Int) : Option Bool := (Option.bind (Nk p0) fun r1 => (if r1 then (Option.bind (Jj p0 p1 p2) fun r3 => (Pb r3)) else (Pb false)))
def Ns (y222 : Ac) (k37 : Nat) (x37 : Int) (s37 : Bool) (n37 : Bool → Option Bool) : Option Bool := (if s37 then (n37 true) else (Option.bind (Fo y222 x37) fun r2042 => (n37 r2042.want)))
def Gf (n40 : Bool → Option Bool) (y327 : Bool) (y328 : Bool) : Option Bool := (if y328 then (some false) else (n40 y327))
def Ez (y222 : Ac) (x28 : Ah) (s37 : Bool) (x40 : At) (n40 : Bool → Option Bool) (y327 : Bool) : Option Bool := (if (x40.group == x28.id) then (Option.bind (Gr y222 x40.id) fun r2101 => (if r2101 then ((Gf n40 y327) (!s37)) else ((Gf n40 y327) false))) else ((Gf n40 y327) false))
def Nn (r5 : Aa × Ao) (y222 : Ac) (x28 : Ah) (s37 : Bool) (k40 : Nat) (x40 : At) (s40 : Bool) (n40 : Bool → Option Bool) : Option Bool := (Option.bind (Ec r5.1.tree x40.group) fun r2095 => (Option.bind (Md r2095 x28.id) fun r2096 => (if r2096 then (if s40 then (Option.bind (Gr y222 x40.id) fun r2099 => ((Ez y222 x28 s37 x40 n40) r2099)) else ((Ez y222 x28 s37 x40 n40) false)) else ((Ez y222 x28 s37 x40 n40) s40))))
def Gh (n28 : Unit → Option Bool) (y330 : Bool) : Option Bool := (if y330 then (some false) else (n28 ()))
def Dv (y222 : Ac) (x28 : Ah) (n28 : Unit → Option Bool) (y329 : Bool) : Option Bool := (if y329 then (some false) else (if (x28.parent != 0) then (Option.bind (Fo y222 x28.parent) fun r2112 => (if r2112.frozen then (Option.bind (Fo y222 x28.id) fun r2114 => ((Gh n28) (!r2114.frozen))) else ((Gh n28) false))) else ((Gh n28) false)))
def Nm (r5 : Aa × Ao) (y222 : Ac) (x28 : Ah) (n28 : Unit → Option Bool) (s37 : Bool) (s40 : Bool) : Option Bool := (Option.bind (Fo y222 x28.id) fun r2104 => (if s37 then (if (r2104.frozen != s40) then ((Dv y222 x28 n28) true) else (Option.bind (Ll r5.1.tree y222 x28.id) fun r2107 => ((Dv y222 x28 n28) (r2107 != s37)))) else (if (r2104.frozen != false) then ((Dv y222 x28 n28) true) else (Option.bind (Ll r5.1.tree y222 x28.id) fun r2109 => ((Dv y222 x28 n28) (r2109 != s37))))))
def Kb (r5 : Aa × Ao) (y222 : Ac) (x28 : Ah) (n28 : Unit → Option Bool) (s37 : Bool) : Option Bool := (if r5.1.tasks.length ≤ 9223372036854775807 then Bg (Nn r5 y222 x28 s37) (Nm r5 y222 x28 n28 s37) r5.1.tasks 0 true else none)
def Kf (r5 : Aa × Ao) (y222 : Ac) (k28 : Nat) (x28 : Ah) (s28 : Unit) (n28 : Unit → Option Bool) : Option Bool := (Option.bind (Ec r5.1.tree x28.id) fun r1893 => (if r1893.length ≤ 9223372036854775807 then Bg (Ns y222) (Kb r5 y222 x28 n28) r1893 0 false else none))
def Td (n1 : (Ac × Ao) → Option Bool) (y221 : Ac × Ao × Int) (y222 : Ac) (s28 : Unit) : Option Bool := (n1 (y222,y221.2.1))
def Gg (r5 : Aa × Ao) (n1 : (Ac × Ao) → Option Bool) (y221 : Ac × Ao × Int) (y222 : Ac) : Option Bool := (if r5.1.tree.nodes.length ≤ 9223372036854775807 then Bg (Kf r5 y222) (Td n1 y221 y222) r5.1.tree.nodes 0 () else none)
def Ge (r5 : Aa × Ao) (s1 : Ac × Ao) (n1 : (Ac × Ao) → Option Bool) (y221 : Ac × Ao × Int) : Option Bool := (if (y221.2.2 == 0) then ((Gg r5 n1 y221) y221.1) else ((Gg r5 n1 y221) s1.1))
def Ot (r5 : Aa × Ao) (k1 : Int) (s1 : Ac × Ao) (n1 : (Ac × Ao) → Option Bool) : Option Bool := (Option.bind (Lz s1.2 r5.1 false) fun r1416 => (Option.bind (Mb r5.1 s1.1 r1416.1) fun r1417 => (Option.bind (Fc r1416.2 2) fun r1418 => (if r1418.1 then (Option.bind (Gz r1418.2 r5.1.tree) fun r1420 => (Option.bind (Bu r1420.2 3) fun r1421 => (Option.bind (Nl r5.1 s1.1 r1420.1 (decide (r1421.1 > 0))) fun r1422 => ((Ge r5 s1 n1) (r1422.1,r1421.2,r1422.2))))) else ((Ge r5 s1 n1) (r1417.1,r1418.2,r1417.2))))))
def Tl (s1 : Ac × Ao) : Option Bool := (Option.bind Qi fun r2116 => (some r2116))
def Jx (p0 : List Int) : Option Bool := (Option.bind (Wa p0) fun r1 => (if (!r1) then (Option.bind Qi fun r3 => (some r3)) else (Option.bind (AbV p0) fun r4 => (Option.bind (Ij r4 6 6) fun r5 => (Option.bind (Np r5.1) fun r6 => (forO (Ot r5) Tl (Int.toNat (10 - 0)) 0 (r6,r5.2)))))))
def AgX (p1 : Int) (k1 : Nat) (x1 : Ap) (s1 : Unit) (n1 : Unit → Option Ap) : Option Ap := (if (x1.group == p1) then (some x1) else (n1 ()))
def AgV (p1 : Int) (s1 : Unit) : Option Ap := (some ({ group := p1,want := false,frozen := false,changes := 0 } : Ap))
def Acf (p0 : Ac) (p1 : Int) : Option Ap := (if p0.frosts.length ≤ 9223372036854775807 then Bg (AgX p1) (AgV p1) p0.frosts 0 () else none)
def Rl (p0 : Ac) (p1 : Int) : Option Bool := (Option.bind (Md p0.stopped p1) fun r1 => (some r1))
def AaE (p1 : Ac) (k1 : Nat) (x1 : Int) (s1 : Unit) (n1 : Unit → Option Bool) : Option Bool := (Option.bind (Acf p1 x1) fun r13 => (if r13.want then (some true) else (n1 ())))
def AeH (s1 : Unit) : Option Bool := (some false)
def Kv (p0 : Ae) (p1 : Ac) (p2 : Int) : Option Bool := (Option.bind (Ec p0 p2) fun r1 => (if r1.length ≤ 9223372036854775807 then Bg (AaE p1) AeH r1 0 () else none))
def Vn (n1 : Unit → Option Bool) (y3 : Bool) : Option Bool := (if y3 then (some false) else (n1 ()))
def Aby (p0 : Aa) (p1 : Ac) (p2 : Int) (k1 : Nat) (x1 : At) (s1 : Unit) (n1 : Unit → Option Bool) : Option Bool := (Option.bind (Ec p0.tree x1.group) fun r20 => (Option.bind (Md r20 p2) fun r21 => (if r21 then (Option.bind (Rl p1 x1.id) fun r23 => ((Vn n1) (!r23))) else ((Vn n1) false))))
def AfB (s1 : Unit) : Option Bool := (some true)
def Uq (p0 : Aa) (p1 : Ac) (p2 : Int) : Option Bool := (Option.bind (Kv p0.tree p1 p2) fun r1 => (if (!r1) then (some false) else (if p0.tasks.length ≤ 9223372036854775807 then Bg (Aby p0 p1 p2) AfB p0.tasks 0 () else none)))
def Ro (s1 : List Ap) (n1 : (List Ap) → Option Ac) (y3 : Ap) : Option Ac := (if s1.length + 1 ≤ 1073741824 then (n1 (s1 ++ [y3])) else none)
def Abg (p0 : Aa) (p1 : Ac) (k1 : Nat) (x1 : Ap) (s1 : List Ap) (n1 : (List Ap) → Option Ac) : Option Ac := (Option.bind (Uq p0 p1 x1.group) fun r12 => (if (r12 != x1.frozen) then ((Ro s1 n1) ({ group := x1.group,want := x1.want,frozen := r12,changes := (minI (w64 (x1.changes + 1)) 1099511627776) } : Ap)) else ((Ro s1 n1) x1)))
def AfN (p1 : Ac) (s1 : List Ap) : Option Ac := (some ({ frosts := s1,stopped := p1.stopped } : Ac))
def Qv (p0 : Aa) (p1 : Ac) : Option Ac := (if p1.stopped.length ≤ 1073741824 then (if p1.frosts.length ≤ 9223372036854775807 then Bg (Abg p0 p1) (AfN p1) p1.frosts 0 [] else none) else none)
def Qk (n1 : Unit → Option Bool) (y10 : Bool) : Option Bool := (if y10 then (some false) else (n1 ()))
def Abm (p0 : Aa) (k1 : Nat) (x1 : Ap) (s1 : Unit) (n1 : Unit → Option Bool) : Option Bool := (if k1 < p0.tree.nodes.length then (if (x1.group != (p0.tree.nodes.getD k1 (default : Ah)).id) then ((Qk n1) true) else (if (decide (x1.changes < 0)) then ((Qk n1) true) else ((Qk n1) (decide (x1.changes > 1099511627776))))) else none)
def Ko (n10 : Unit → Option Bool) (y13 : Bool) : Option Bool := (if y13 then (some false) else (n10 ()))
def Aax (p0 : Aa) (p1 : Ac) (k10 : Nat) (x10 : Int) (s10 : Unit) (n10 : Unit → Option Bool) : Option Bool := (Option.bind (Ha p0 x10) fun r174 => (if (!r174.2) then ((Ko n10) true) else (if (decide (((k10 : Nat) : Int) > 0)) then (if 0 ≤ (w64 (((k10 : Nat) : Int) - 1)) ∧ (w64 (((k10 : Nat) : Int) - 1)) < ((p1.stopped.length : Nat) : Int) then (if (decide (x10 ≤ (p1.stopped.getD (Int.toNat (w64 (((k10 : Nat) : Int) - 1))) 0))) then ((Ko n10) true) else (Option.bind (Kv p0.tree p1 r174.1.group) fun r179 => ((Ko n10) (!r179)))) else none) else (Option.bind (Kv p0.tree p1 r174.1.group) fun r180 => ((Ko n10) (!r180))))))
def Aal (p0 : Aa) (p1 : Ac) (k13 : Nat) (x13 : Ap) (s13 : Unit) (n13 : Unit → Option Bool) : Option Bool := (Option.bind (Uq p0 p1 x13.group) fun r193 => (if (x13.frozen != r193) then (some false) else (n13 ())))
def AeU (s13 : Unit) : Option Bool := (some true)
def Aay (p0 : Aa) (p1 : Ac) (s10 : Unit) : Option Bool := (if p1.frosts.length ≤ 9223372036854775807 then Bg (Aal p0 p1) AeU p1.frosts 0 () else none)
def Abw (p0 : Aa) (p1 : Ac) (s1 : Unit) : Option Bool := (if p1.stopped.length ≤ 9223372036854775807 then Bg (Aax p0 p1) (Aay p0 p1) p1.stopped 0 () else none)
def Vk (p0 : Aa) (p1 : Ac) (y1 : Bool) : Option Bool := (if y1 then (some false) else (if p1.frosts.length ≤ 9223372036854775807 then Bg (Abm p0) (Abw p0 p1) p1.frosts 0 () else none))
def Zu (p0 : Aa) (p1 : Ac) : Option Bool := (Option.bind (Ga p0) fun r1 => (if (!r1) then ((Vk p0 p1) true) else ((Vk p0 p1) (((p1.frosts.length : Nat) : Int) != ((p0.tree.nodes.length : Nat) : Int)))))
def Yl (n1 : (List Int) → Option (Ac × Int)) (y5 : List Int) : Option (Ac × Int) := (n1 y5)
def Ti (x1 : At) (s1 : List Int) (n1 : (List Int) → Option (Ac × Int)) (y6 : Bool) : Option (Ac × Int) := (if y6 then (if s1.length + 1 ≤ 1073741824 then ((Yl n1) (s1 ++ [x1.id])) else none) else ((Yl n1) s1))
def Acr (p0 : Aa) (p1 : Ac) (p2 : List Int) (k1 : Nat) (x1 : At) (s1 : List Int) (n1 : (List Int) → Option (Ac × Int)) : Option (Ac × Int) := (Option.bind (Rl p1 x1.id) fun r24 => (if r24 then ((Ti x1 s1 n1) true) else (Option.bind (Kv p0.tree p1 x1.group) fun r26 => (if r26 then (Option.bind (Md p2 x1.id) fun r28 => ((Ti x1 s1 n1) (!r28))) else ((Ti x1 s1 n1) false)))))
def Wx (p0 : Aa) (p1 : Ac) (s1 : List Int) : Option (Ac × Int) := (Option.bind (Qv p0 ({ frosts := p1.frosts,stopped := s1 } : Ac)) fun r32 => (some (r32,0)))
def Aek (p0 : Aa) (p1 : Ac) (p2 : List Int) : Option (Ac × Int) := (Option.bind (Zu p0 p1) fun r1 => (if (!r1) then (some (({ frosts := [],stopped := [] } : Ac),1)) else (if p0.tasks.length ≤ 9223372036854775807 then Bg (Acr p0 p1 p2) (Wx p0 p1) p0.tasks 0 [] else none)))
end Go.Dm

/- Plain theory, part 1: models that return, loops. -/
namespace Go.Dm
def Ok {α : Type} (m : Option α) (Q : α → Prop) : Prop := ∃ a,m = some a ∧ Q a
section
variable {α β γ σ : Type} {Q : β → Prop}
theorem Ok.ret {b : β} (h : Q b) : Ok (some b) Q := ⟨b,rfl,h⟩
theorem Ok.bind {m : Option α} {f : α → Option β} {P : α → Prop} (h : Ok m P) (k : ∀ a,P a → Ok (f a) Q) : Ok (Option.bind m f) Q := by
 obtain ⟨a,rfl,ha⟩ := h
 exact k a ha
theorem Ok.step {m : Option α} {f : α → Option β} {a : α} (h : m = some a) (k : Ok (f a) Q) : Ok (Option.bind m f) Q := by
 subst h
 exact k
theorem Ok.eq {m : Option β} {b : β} (h : Ok m (· = b)) : m = some b := by
 obtain ⟨a,rfl,rfl⟩ := h
 rfl
theorem Ok.of_eq {m : Option β} {b : β} (h : m = some b) (hb : Q b) : Ok m Q := ⟨b,h,hb⟩
theorem Ok.mono {m : Option β} {P : β → Prop} (h : Ok m P) (k : ∀ b,P b → Q b) : Ok m Q := by
 obtain ⟨a,rfl,ha⟩ := h
 exact ⟨a,rfl,k a ha⟩
theorem Ok.guard {c : Prop} [Decidable c] {t : Option β} (hc : c) (h : Ok t Q) : Ok (if c then t else none) Q := by
 rw [if_pos hc]
 exact h
theorem Ok.ite {c : Bool} {t e : Option β} (ht : c = true → Ok t Q) (he : c = false → Ok e Q) : Ok (if c then t else e) Q := by
 cases c
 ·exact he rfl
 ·exact ht rfl
theorem Ok.range {body : Nat → α → σ → (σ → Option β) → Option β} {done : σ → Option β} {xs : List α} {s0 : σ} (I : List α → σ → Prop) (h0 : I [] s0)
  (step : ∀ pre x post s n,xs = pre ++ x :: post → I pre s → (∀ s',I (pre ++ [x]) s' → Ok (n s') Q) → Ok (body pre.length x s n) Q)
  (fin : ∀ s,I xs s → Ok (done s) Q) : Ok (Bg body done xs 0 s0) Q := by
 have key : ∀ (post pre : List α) (s : σ),xs = pre ++ post → I pre s → Ok (Bg body done post pre.length s) Q := by
  intro post
  induction post with
  | nil =>
   intro pre s he hi
   have : xs = pre := by simpa using he
   subst this
   exact fin s hi
  | cons x post ih =>
   intro pre s he hi
   refine step pre x post s _ he hi fun s' hi' => ?_
   have := ih (pre ++ [x]) s' (by simpa using he) hi'
   simpa using this
 exact key xs [] s0 rfl h0
theorem Ok.for {body : Int → σ → (σ → Option β) → Option β} {done : σ → Option β} {m : Nat} {a : Int} {s0 : σ} (I : Nat → σ → Prop) (h0 : I 0 s0)
  (step : ∀ (j : Nat) s n,j < m → I j s → (∀ s',I (j + 1) s' → Ok (n s') Q) → Ok (body (a + j) s n) Q)
  (fin : ∀ s,I m s → Ok (done s) Q) : Ok (forO body done m a s0) Q := by
 have key : ∀ (r j : Nat) (s : σ),j + r = m → I j s → Ok (forO body done r (a + j) s) Q := by
  intro r
  induction r with
  | zero =>
   intro j s he hi
   obtain rfl : j = m := by omega
   exact fin s hi
  | succ r ih =>
   intro j s he hi
   refine step j s _ (by omega) hi fun s' hi' => ?_
   have := ih (j + 1) s' (by omega) hi'
   have e : a + (j : Int) + 1 = a + ((j + 1 : Nat) : Int) := by omega
   rw [e]
   exact this
 have := key m 0 s0 (by omega) h0
 simpa using this
theorem Ok.while {body : σ → (σ → Option β) → Option β} {s0 : σ} (I : σ → Prop) (mu : σ → Nat) (h0 : I s0) (hf : mu s0 < En)
  (step : ∀ s n,I s → (∀ s',I s' → mu s' < mu s → Ok (n s') Q) → Ok (body s n) Q) : Ok (whileO body En s0) Q := by
 have key : ∀ (f : Nat) (s : σ),I s → mu s < f → Ok (whileO body f s) Q := by
  intro f
  induction f with
  | zero => intro s _ h; omega
  | succ f ih =>
   intro s hi hm
   exact step s _ hi fun s' hi' hm' => ih s' hi' (by omega)
 exact key En s0 h0 hf
end
theorem Dd : En = 1099511627776 := rfl
theorem Ax {n : Int} (h1 : -9223372036854775808 ≤ n) (h2 : n ≤ 9223372036854775807) : w64 n = n := Yw h1 h2
theorem Hc {α : Type} {l : List α} {i : Nat} {d : α} (h : i < l.length) : l.getD i d = l[i] := by
 simp [List.getD_eq_getElem?_getD,h]
theorem AdD {α : Type} {l : List α} {i : Nat} {d : α} (h : i < l.length) : l.getD i d ∈ l := by
 rw [Hc h]
 exact List.getElem_mem h
theorem Agm {α : Type} {pre post : List α} {x d : α} : (pre ++ x :: post).getD pre.length d = x := by
 simp [List.getD_eq_getElem?_getD]
theorem Rq {α : Type} {pre post : List α} {x y d : α} : (pre ++ [y] ++ x :: post).getD pre.length d = y := by
 simp [List.getD_eq_getElem?_getD]
theorem Ht {α β : Type} {p : α → Bool} {f : α → β} {z : β} {xs : List α} {body : Nat → α → Unit → (Unit → Option β) → Option β} {done : Unit → Option β}
  (hb : ∀ k x n,body k x () n = if p x then some (f x) else n ()) (hd : done () = some z) : Bg body done xs 0 () = some ((xs.find? p).elim z f) := by
 have key : ∀ k,Bg body done xs k () = some ((xs.find? p).elim z f) := by
  induction xs with
  | nil => intro k; simp [Bg,hd]
  | cons x r ih =>
   intro k
   rw [Bg,hb,List.find?_cons]
   cases hp : p x
   ·simpa using ih (k + 1)
   ·simp
 exact key 0
theorem Jt {α β γ : Type} {p : α → Bool} {f : α → γ} {xs : List α} {s0 : List γ} {r : List γ → Option β} {body : Nat → α → List γ → (List γ → Option β) → Option β} {done : List γ → Option β}
  (hb : ∀ k x s n,s.length + 1 ≤ 1073741824 → body k x s n = if p x then n (s ++ [f x]) else n s) (hd : ∀ s,done s = r s) (hl : s0.length + xs.length ≤ 1073741824) : Bg body done xs 0 s0 = r (s0 ++ (xs.filter p).map f) := by
 have key : ∀ k s,s.length + xs.length ≤ 1073741824 → Bg body done xs k s = r (s ++ (xs.filter p).map f) := by
  clear hl
  induction xs with
  | nil => intro k s _; simp [Bg,hd]
  | cons x q ih =>
   intro k s hl
   simp only [List.length_cons] at hl
   rw [Bg,hb _ _ _ _ (by omega),List.filter_cons]
   cases hp : p x
   ·simpa using ih (k + 1) s (by omega)
   ·simp only [if_true]
    rw [ih (k + 1) (s ++ [f x]) (by simp; omega)]
    simp
 exact key 0 s0 hl
end Go.Dm

/- Plain theory, part 2: names, trees. -/
namespace Go.Dm
def Mr (c : Int) : Bool := (((((decide (c ≥ 97)) && (decide (c ≤ 122))) || ((decide (c ≥ 65)) && (decide (c ≤ 90)))) || ((decide (c ≥ 48)) && (decide (c ≤ 57)))) || (c == 95)) || (c == 45)
def Ef (s : ByteArray) : Bool := decide (0 < s.size) && decide (s.size ≤ 32) && (((Bj s 0 : Nat) : Int) != 45) && (Ia s).all Mr
theorem Abo (s : ByteArray) : Qg s = some (Ef s) := by
 apply Ok.eq
 unfold Qg
 refine Ok.ite (fun h => ?_) fun h => ?_
 ·refine Ok.ret ?_
  have : s.size = 0 := by simpa using h
  simp [Ef,this]
 have h0 : 0 < s.size := by
  have : ¬ ((s.size : Nat) : Int) = 0 := by simpa using h
  omega
 refine Ok.ite (fun h => ?_) fun h => ?_
 ·refine Ok.ret ?_
  have : ¬ s.size ≤ 32 := by
   have := of_decide_eq_true h
   omega
  simp [Ef,this]
 have h32 : s.size ≤ 32 := by
  have := of_decide_eq_false h
  omega
 refine Ok.guard h0 ?_
 unfold Mt
 refine Ok.ite (fun h => ?_) fun h => ?_
 ·refine Ok.ret ?_
  simp only [Ef,bne,h]
  simp
 refine Ok.guard (by omega) ?_
 refine Ok.for (fun j _ => ((Ia s).take j).all Mr = true) (by simp) ?_ ?_
 ·intro j _ n hj hi hn
  have hj' : j < s.size := by omega
  unfold Wz
  refine Ok.guard (by omega) ?_
  have e : Int.toNat (0 + (j : Int)) = j := by omega
  rw [e]
  have hb : (Ia s)[j]? = some ((Bj s j : Nat) : Int) := by simp [Ia,hj']
  refine Ok.ite (fun h => ?_) fun h => ?_
  ·refine Ok.ret ?_
   have hc : Mr ((Bj s j : Nat) : Int) = false := by simpa only [Mr,Bool.not_eq_true'] using h
   have : (Ia s).all Mr = false := by
    rw [List.all_eq_false]
    exact ⟨_,List.mem_of_getElem? hb,by simp [hc]⟩
   simp [Ef,this]
  ·refine hn () ?_
   have hc : Mr ((Bj s j : Nat) : Int) = true := by simpa only [Mr,Bool.not_eq_false'] using h
   rw [List.take_add_one,List.all_append,hi,hb]
   simp [hc]
 ·intro _ hi
  refine Ok.ret ?_
  have : (Ia s).length ≤ Int.toNat (((s.size : Nat) : Int) - 0) := by rw [Oc]; omega
  rw [List.take_of_length_le this] at hi
  simp only [Ef,bne,h,hi]
  simp [h0,h32]
theorem Afn (a : ByteArray) : Dr a a = true := by simp [Dr]
def upR : List Ah → Int → List Int
 | [],_ => []
 | x :: r,id => if x.id == id then id :: upR r x.parent else upR r id
def upT (t : Ae) (id : Int) : List Int := upR t.nodes.reverse id
theorem Lw (l : List Ah) (id : Int) : (upR l id).length ≤ l.length := by
 induction l generalizing id with
 | nil => simp [upR]
 | cons x r ih =>
  rw [upR]
  split
  ·have := ih x.parent
   simp; omega
  ·have := ih id
   simp; omega
theorem Ael (t : Ae) (id : Int) (hl : t.nodes.length ≤ 1000000) : Wu t id = some (upT t id) := by
 apply Ok.eq
 unfold Wu
 rw [Ax (by omega) (by omega)]
 refine Ok.while (fun s => ∃ m : Nat,s.2.2 = (m : Int) - 1 ∧ m ≤ t.nodes.length ∧ s.1.length + m ≤ t.nodes.length ∧ s.1 ++ upR (t.nodes.take m).reverse s.2.1 = upT t id) (fun s => (s.2.2 + 1).toNat) ?_ ?_ ?_
 ·exact ⟨t.nodes.length,rfl,by omega,by simp,by simp [upT]⟩
 ·rw [Dd]; simp only []; omega
 rintro ⟨o,i,c⟩ n ⟨m,hc,hm,hlen,he⟩ hn
 simp only at hc hlen he hn
 unfold AbN
 simp only
 refine Ok.ite (fun h => ?_) fun h => ?_
 ·have hpos := of_decide_eq_true h
  obtain ⟨q,rfl⟩ : ∃ q,m = q + 1 := ⟨m - 1,by omega⟩
  have hcq : c = (q : Int) := by omega
  subst hcq
  have hq : q < t.nodes.length := by omega
  refine Ok.guard (by omega) ?_
  have et : t.nodes.take (q + 1) = t.nodes.take q ++ [t.nodes.getD q default] := by
   rw [List.take_add_one,Hc hq]
   simp [hq]
  rw [et,List.reverse_append,List.reverse_cons,List.reverse_nil,List.nil_append,List.singleton_append,upR] at he
  have eq : Int.toNat (q : Int) = q := by omega
  rw [eq]
  have hw : w64 ((q : Int) - 1) = (q : Int) - 1 := Ax (by omega) (by omega)
  refine Ok.ite (fun h => ?_) fun h => ?_
  ·refine Ok.guard (by omega) ?_
   refine Ok.guard (by omega) ?_
   unfold Sa
   simp only
   rw [hw]
   rw [if_pos h] at he
   refine hn _ ⟨q,rfl,by omega,by simp; omega,?_⟩ (by simp only; omega)
   simpa using he
  ·unfold Sa
   simp only
   rw [hw]
   rw [if_neg (by rw [h]; simp)] at he
   exact hn _ ⟨q,rfl,by omega,by simp only; omega,he⟩ (by simp only; omega)
 ·have := of_decide_eq_false h
  have : m = 0 := by omega
  subst this
  refine Ok.ret ?_
  simpa [upR] using he
def Jr (pre : List Ah) (x : Ah) : Bool :=
 (x.kind == 0 || x.kind == 1) && decide (0 ≤ x.control) && decide (x.control ≤ 31) && decide (0 ≤ x.owner) && decide (x.owner ≤ 1048576) &&
 match pre.getLast? with
 | none => x.id == 1 && x.parent == 0 && Dr x.name ByteArray.empty && x.kind == 0
 | some y => decide (y.id < x.id) && Ef x.name && pre.any (fun k => k.id == x.parent) && pre.all (fun k => !(k.parent == x.parent && Dr k.name x.name))
theorem Agf (t : Ae) (pre post : List Ah) (x : Ah) (he : t.nodes = pre ++ x :: post) (hl : t.nodes.length ≤ 1000000) : Vh t (pre.length : Int) = some (Jr pre x) := by
 have hlen : pre.length < t.nodes.length := by rw [he]; simp
 apply Ok.eq
 unfold Vh
 refine Ok.guard (by omega) ?_
 have ex : t.nodes.getD (Int.toNat (pre.length : Int)) default = x := by
  rw [he]
  have : Int.toNat (pre.length : Int) = pre.length := by omega
  rw [this]
  exact Agm
 rw [ex]
 refine Ok.ite (fun h => ?_) fun h => ?_
 ·refine Ok.ret ?_
  simp only [Jr]
  simp only [Bool.or_eq_true,Bool.and_eq_true,bne_iff_ne,decide_eq_true_eq] at h
  rcases h with (((⟨h1,h2⟩ | h) | h) | h) | h
  ·simp [h1,h2]
  ·have : ¬ 0 ≤ x.control := by omega
   simp [this]
  ·have : ¬ x.control ≤ 31 := by omega
   simp [this]
  ·have : ¬ 0 ≤ x.owner := by omega
   simp [this]
  ·have : ¬ x.owner ≤ 1048576 := by omega
   simp [this]
 simp only [Bool.or_eq_false_iff,Bool.and_eq_false_imp,bne_iff_ne,decide_eq_false_iff_not,bne_eq_false_iff_eq] at h
 obtain ⟨⟨⟨⟨hk,h2⟩,h3⟩,h4⟩,h5⟩ := h
 have hk' : (x.kind == 0 || x.kind == 1) = true := by
  by_cases q : x.kind = 0
  ·simp [q]
  ·simp [hk q]
 have a2 : 0 ≤ x.control := by omega
 have a3 : x.control ≤ 31 := by omega
 have a4 : 0 ≤ x.owner := by omega
 have a5 : x.owner ≤ 1048576 := by omega
 refine Ok.ite (fun h => ?_) fun h => ?_
 ·refine Ok.ret ?_
  have : pre = [] := by
   have : pre.length = 0 := by
    have : (pre.length : Int) = 0 := by simpa using h
    omega
   exact List.length_eq_zero_iff.mp this
  subst this
  simp [Jr,hk',a2,a3,a4,a5]
 have hp : 0 < pre.length := by
  have : ¬ (pre.length : Int) = 0 := by simpa using h
  omega
 obtain ⟨pr,y,rfl⟩ : ∃ pr y,pre = pr ++ [y] := by
  have hne : pre ≠ [] := by intro e; simp [e] at hp
  exact ⟨pre.dropLast,pre.getLast hne,(List.dropLast_concat_getLast hne).symm⟩
 have hw : w64 (((pr ++ [y]).length : Int) - 1) = (pr.length : Int) := by
  rw [Ax (by simp) (by simp; simp at hlen; omega)]
  simp
 rw [hw]
 refine Ok.guard (by simp at hlen; omega) ?_
 have ey : t.nodes.getD (Int.toNat (pr.length : Int)) default = y := by
  rw [he]
  have : Int.toNat (pr.length : Int) = pr.length := by omega
  rw [this]
  exact Rq
 rw [ey]
 have eB : Jr (pr ++ [y]) x = (decide (y.id < x.id) && Ef x.name && (pr ++ [y]).any (fun k => k.id == x.parent) && (pr ++ [y]).all (fun k => !(k.parent == x.parent && Dr k.name x.name))) := by
  simp [Jr,hk',a2,a3,a4,a5]
 refine Ok.ite (fun h => ?_) fun h => ?_
 ·refine Ok.ret ?_
  have : ¬ y.id < x.id := by
   have := of_decide_eq_true h
   omega
  rw [eB]
  simp [this]
 have hy : y.id < x.id := by
  have := of_decide_eq_false h
  omega
 refine Ok.step (Abo _) ?_
 unfold Ra
 refine Ok.ite (fun h => ?_) fun h => ?_
 ·refine Ok.ret ?_
  have : Ef x.name = false := by simpa using h
  rw [eB]
  simp [this]
 have hv : Ef x.name = true := by simpa using h
 have hr : Jr (pr ++ [y]) x = ((pr ++ [y]).any (fun k => k.id == x.parent) && (pr ++ [y]).all (fun k => !(k.parent == x.parent && Dr k.name x.name))) := by
  rw [eB]
  simp [hy,hv]
 rw [hr]
 generalize pr ++ [y] = P at *
 refine Ok.guard (by omega) ?_
 refine Ok.for (fun j s => s = (P.take j).any (fun k => k.id == x.parent) ∧ (P.take j).all (fun k => !(k.parent == x.parent && Dr k.name x.name)) = true) (by simp) ?_ ?_
 ·intro j s n hj hI hn
  have hj' : j < P.length := by omega
  have ej : Int.toNat (0 + (j : Int)) = j := by omega
  have ez : t.nodes.getD j default = P[j] := by
   rw [he]
   simp [List.getD_eq_getElem?_getD,List.getElem?_append,hj']
  have tk : P.take (j + 1) = P.take j ++ [P[j]] := by
   rw [List.take_add_one]; simp [hj']
  have hbad : (P[j].parent == x.parent && Dr P[j].name x.name) = true → (P.any (fun k => k.id == x.parent) && P.all (fun k => !(k.parent == x.parent && Dr k.name x.name))) = false := by
   intro hb
   have : P.all (fun k => !(k.parent == x.parent && Dr k.name x.name)) = false := by
    rw [List.all_eq_false]
    exact ⟨P[j],List.getElem_mem hj',by rw [hb]; simp⟩
   rw [this,Bool.and_false]
  have hJ : ∀ b : Bool,b = (P.take (j + 1)).any (fun k => k.id == x.parent) → Ok (Ol t (P.length : Int) (0 + (j : Int)) n b) (· = (P.any (fun k => k.id == x.parent) && P.all (fun k => !(k.parent == x.parent && Dr k.name x.name)))) := by
   intro b hb
   unfold Ol
   refine Ok.guard (by omega) ?_
   rw [ej,ez,ex]
   have good : (P[j].parent == x.parent && Dr P[j].name x.name) = false → Ok (n b) (· = (P.any (fun k => k.id == x.parent) && P.all (fun k => !(k.parent == x.parent && Dr k.name x.name)))) := by
    intro hb'
    refine hn _ ⟨hb,?_⟩
    rw [tk,List.all_append,hI.2]
    simp only [List.all_cons,List.all_nil,hb']
    rfl
   refine Ok.ite (fun h => ?_) fun h => ?_
   ·refine Ok.guard (by omega) ?_
    unfold Oj
    refine Ok.ite (fun h' => ?_) fun h' => ?_
    ·exact Ok.ret (hbad (by rw [h,h']; rfl)).symm
    ·exact good (by rw [h,h']; rfl)
   ·unfold Oj
    exact good (by rw [h]; rfl)
  unfold Aad
  have ea : (P.take (j + 1)).any (fun k => k.id == x.parent) = (s || (P[j].id == x.parent)) := by
   rw [tk,List.any_append,← hI.1]; simp
  refine Ok.ite (fun h => ?_) fun h => ?_
  ·refine hJ _ ?_
   rw [ea,h]
   rfl
  ·refine Ok.guard (by omega) ?_
   rw [ej,ez,ex]
   refine hJ _ ?_
   rw [ea,h]
   rfl
 ·intro s hI
  refine Ok.ret ?_
  have : P.take (Int.toNat ((P.length : Int) - 0)) = P := List.take_of_length_le (by omega)
  rw [this] at hI
  rw [hI.2,Bool.and_true]
  exact hI.1
end Go.Dm

/- Plain theory, part 3: trees that Check accepts. -/
namespace Go.Dm
structure WfT (t : Ae) : Prop where
 len1 : 1 ≤ t.nodes.length
 len2 : t.nodes.length ≤ 64
 node : ∀ pre x post,t.nodes = pre ++ x :: post → Jr pre x = true
 depth : ∀ x ∈ t.nodes,(upT t x.id).length ≤ 9
 last : (t.nodes.getD (t.nodes.length - 1) default).id < t.next
 nextLe : t.next ≤ 2147483648
theorem Vl (t : Ae) : Ok (Jd t) (fun b => b = true ↔ WfT t) := by
 unfold Jd
 refine Ok.ite (fun h => ?_) fun h => ?_
 ·refine Ok.ret ?_
  simp only [Bool.or_eq_true,decide_eq_true_eq] at h
  refine ⟨fun e => by simp at e,fun w => ?_⟩
  have := w.len1
  have := w.len2
  omega
 simp only [Bool.or_eq_false_iff,decide_eq_false_iff_not] at h
 have l1 : 1 ≤ t.nodes.length := by omega
 have l2 : t.nodes.length ≤ 64 := by omega
 refine Ok.guard (by omega) ?_
 refine Ok.range (fun pre _ => ∀ q x p,pre = q ++ x :: p → Jr q x = true) (by intro q x p e; simp at e) ?_ ?_
 ·intro pre x post s n he hI hn
  unfold Xp
  refine Ok.step (Agf t pre post x he (by omega)) ?_
  refine Ok.ite (fun h => ?_) fun h => ?_
  ·refine Ok.ret ⟨fun e => by simp at e,fun w => ?_⟩
   have := w.node pre x post he
   simp [this] at h
  ·refine hn () fun q y p e => ?_
   rcases List.eq_nil_or_concat p with rfl | ⟨p',z,rfl⟩
   ·have e2 : pre = q ∧ x = y := by
     have := List.append_inj' (s₁ := pre) (t₁ := [x]) (s₂ := q) (t₂ := [y]) (by simpa using e) rfl
     exact ⟨this.1,by simpa using this.2⟩
    rw [← e2.1,← e2.2]
    simpa using h
   ·have e2 : pre ++ [x] = (q ++ y :: p') ++ [z] := by simpa using e
    have := List.append_inj' e2 rfl
    exact hI q y p' this.1
 ·intro _ hI
  unfold Xt
  refine Ok.guard (by omega) ?_
  refine Ok.range (fun pre _ => ∀ x ∈ pre,(upT t x.id).length ≤ 9) (by simp) ?_ ?_
  ·intro pre x post s n he hJ hn
   unfold Xa
   refine Ok.step (Ael t x.id (by omega)) ?_
   refine Ok.ite (fun h => ?_) fun h => ?_
   ·refine Ok.ret ⟨fun e => by simp at e,fun w => ?_⟩
    have := w.depth x (by rw [he]; simp)
    have := of_decide_eq_true h
    omega
   ·refine hn () fun y hy => ?_
    have hd := of_decide_eq_false h
    rcases List.mem_append.mp hy with hy | hy
    ·exact hJ y hy
    ·obtain rfl : y = x := by simpa using hy
     omega
  ·intro _ hJ
   unfold Yd Po
   have hw : w64 ((t.nodes.length : Int) - 1) = ((t.nodes.length - 1 : Nat) : Int) := by
    rw [Ax (by omega) (by omega)]
    omega
   rw [hw]
   refine Ok.guard (by omega) ?_
   have : Int.toNat ((t.nodes.length - 1 : Nat) : Int) = t.nodes.length - 1 := by omega
   rw [this]
   refine Ok.ite (fun h => ?_) fun h => ?_
   ·refine Ok.ret ⟨fun e => ?_,fun w => ?_⟩
    ·exact ⟨l1,l2,hI,hJ,by simpa using h,by simpa using e⟩
    ·simpa using w.nextLe
   ·refine Ok.ret ⟨fun e => by simp at e,fun w => ?_⟩
    have := w.last
    have := of_decide_eq_false h
    omega
theorem Ya {t : Ae} (h : WfT t) : Jd t = some true := by
 obtain ⟨b,hb,e⟩ := Vl t
 rw [hb,e.mpr h]
theorem Agk {t : Ae} (h : ¬ WfT t) : Jd t = some false := by
 obtain ⟨b,hb,e⟩ := Vl t
 cases b
 ·exact hb
 ·exact absurd (e.mp rfl) h
def zN : Ah := { id := 0,parent := 0,name := ByteArray.empty,control := 0,kind := 0,owner := 0 }
def Sx (t : Ae) (id : Int) : Option Ah := t.nodes.find? (fun x => x.id == id)
def Gc (t : Ae) (id : Int) : Bool := (Sx t id).isSome
theorem Oh {t : Ae} (h : WfT t) (id : Int) : Dc t id = some ((Sx t id).elim (zN,false) (fun x => (x,true))) := by
 unfold Dc
 rw [Ya h]
 have := h.len2
 simp only [Option.bind_some,Bool.not_true,Bool.false_eq_true,if_false]
 rw [if_pos (by omega)]
 exact Ht (fun k x n => rfl) rfl
theorem Aac {t : Ae} (h : ¬ WfT t) (id : Int) : Dc t id = some (zN,false) := by
 unfold Dc
 rw [Agk h]
 rfl
theorem No {t : Ae} (h : WfT t) (id : Int) : Fw t id = some (Gc t id) := by
 unfold Fw
 rw [Oh h,Option.bind_some]
 unfold Gc
 cases Sx t id <;> rfl
theorem AeA {t : Ae} (h : ¬ WfT t) (id : Int) : Fw t id = some false := by
 unfold Fw
 rw [Aac h]
 rfl
def ancN (t : Ae) (id : Int) : List Int := if Gc t id then upT t id else []
theorem Ir {t : Ae} (h : WfT t) (id : Int) : Ec t id = some (ancN t id) := by
 unfold Ec ancN
 rw [No h]
 have := h.len2
 cases Gc t id
 ·rfl
 ·simp [Ael t id (by omega)]
def Jb (t : Ae) (id : Int) : List Int := (t.nodes.filter (fun x => x.parent == id)).map (·.id)
theorem Zh {t : Ae} (h : WfT t) (id : Int) : Hj t id = some (if Gc t id then Jb t id else []) := by
 unfold Hj
 rw [No h]
 have := h.len2
 cases Gc t id
 ·rfl
 ·simp only [Option.bind_some,Bool.not_true,Bool.false_eq_true,if_false,if_true]
  rw [if_pos (by omega)]
  refine (Jt (p := fun x : Ah => x.parent == id) (f := fun x : Ah => x.id) (r := some) ?_ (fun _ => rfl) (by simp; omega)).trans (by simp [Jb])
  intro k x s n hs
  unfold Sf Lp
  rw [if_pos hs]
theorem AgL {t : Ae} (h : WfT t) (id : Int) : Ss t id = some (w64 (((ancN t id).length : Int) - 1)) := by
 unfold Ss
 rw [Ir h]
 rfl
theorem Si (t : Ae) (h : t.nodes.length ≤ 1073741824) : Nj t = some t := by
 unfold Nj
 simp
 omega
end Go.Dm

/- Plain theory, part 4: the nodes of a tree, one behind the other. -/
namespace Go.Dm
theorem Ja {α : Type} (L : List α) : L = [] ∨ ∃ P x,L = P ++ [x] := by
 rcases List.eq_nil_or_concat L with h | ⟨P,x,h⟩
 ·exact .inl h
 ·exact .inr ⟨P,x,by simpa using h⟩
structure Qj (x : Ah) : Prop where
 kind : x.kind = 0 ∨ x.kind = 1
 c1 : 0 ≤ x.control
 c2 : x.control ≤ 31
 o1 : 0 ≤ x.owner
 o2 : x.owner ≤ 1048576
structure Zi (x : Ah) : Prop where
 id : x.id = 1
 parent : x.parent = 0
 name : Dr x.name ByteArray.empty = true
 kind : x.kind = 0
structure NodeS (pre : List Ah) (x : Ah) : Prop where
 lt : ∀ y ∈ pre,y.id < x.id
 valid : Ef x.name = true
 parent : ∃ y ∈ pre,y.id = x.parent
 fresh : ∀ y ∈ pre,y.parent = x.parent → Dr y.name x.name = false
inductive WfP : List Ah → Prop
 | root (x : Ah) : Qj x → Zi x → WfP [x]
 | snoc (L : List Ah) (x : Ah) : WfP L → Qj x → NodeS L x → WfP (L ++ [x])
theorem nodeV_of {pre : List Ah} {x : Ah} (h : Jr pre x = true) : Qj x := by
 simp only [Jr,Bool.and_eq_true,Bool.or_eq_true,beq_iff_eq,decide_eq_true_eq] at h
 exact ⟨h.1.1.1.1.1,h.1.1.1.1.2,h.1.1.1.2,h.1.1.2,h.1.2⟩
theorem WfP.pos {L : List Ah} (h : WfP L) : 0 < L.length := by
 cases h <;> simp
theorem wfP_of {L : List Ah} (hn : 1 ≤ L.length) (h : ∀ pre x post,L = pre ++ x :: post → Jr pre x = true) : WfP L := by
 have key : ∀ (n : Nat) (M : List Ah),M.length = n → 1 ≤ M.length → (∀ pre x post,M = pre ++ x :: post → Jr pre x = true) → WfP M ∧ ∀ y,M.getLast? = some y → ∀ z ∈ M,z.id ≤ y.id := by
  intro n
  induction n with
  | zero => intro M hM h1; omega
  | succ n ih =>
   intro M hM h1 hB
   rcases Ja M with rfl | ⟨P,x,rfl⟩
   ·simp at hM
   have hx : Jr P x = true := hB P x [] (by simp)
   have hv := nodeV_of hx
   rcases Ja P with rfl | ⟨P',y,rfl⟩
   ·simp only [Jr,List.getLast?_nil,Bool.and_eq_true,beq_iff_eq] at hx
    refine ⟨.root x hv ⟨hx.2.1.1.1,hx.2.1.1.2,hx.2.1.2,hx.2.2⟩,?_⟩
    intro y hy z hz
    simp at hy hz
    subst hy hz
    exact Int.le_refl _
   ·obtain ⟨w,hl⟩ := ih (P' ++ [y]) (by simp at hM ⊢; omega) (by simp) (fun pre u post e => hB pre u (post ++ [x]) (by rw [e]; simp))
    have hl := hl y (by simp)
    simp only [Jr,List.getLast?_append,List.getLast?_singleton,Option.some_or,Bool.and_eq_true,decide_eq_true_eq,List.any_eq_true,List.all_eq_true,beq_iff_eq] at hx
    obtain ⟨_,⟨⟨hlt,hval⟩,hpar⟩,hfr⟩ := hx
    have hs : NodeS (P' ++ [y]) x := by
     refine ⟨fun z hz => ?_,hval,hpar,fun z hz hp => ?_⟩
     ·have := hl z hz
      omega
     ·have := hfr z hz
      simpa [hp] using this
    refine ⟨.snoc _ x w hv hs,?_⟩
    intro u hu z hz
    have hu : u = x := by simpa [eq_comm] using hu
    subst hu
    rcases List.mem_append.mp hz with hz | hz
    ·have := hs.lt z hz
     omega
    ·simp at hz
     subst hz
     exact Int.le_refl _
 exact (key _ L rfl hn h).1
theorem AfA {x : Ah} (v : Qj x) (r : Zi x) : Jr [] x = true := by
 have := v.kind
 simp [Jr,v.c1,v.c2,v.o1,v.o2,r.id,r.parent,r.name,r.kind]
theorem AfQ {L : List Ah} {x : Ah} (hL : 0 < L.length) (v : Qj x) (r : NodeS L x) : Jr L x = true := by
 rcases Ja L with rfl | ⟨P,y,rfl⟩
 ·simp at hL
 simp only [Jr,List.getLast?_append,List.getLast?_singleton,Option.some_or,Bool.and_eq_true,decide_eq_true_eq,List.any_eq_true,List.all_eq_true,beq_iff_eq,Bool.or_eq_true]
 refine ⟨⟨⟨⟨⟨v.kind,v.c1⟩,v.c2⟩,v.o1⟩,v.o2⟩,⟨⟨r.lt y (by simp),r.valid⟩,r.parent⟩,fun z hz => ?_⟩
 by_cases hp : z.parent = x.parent
 ·simp [r.fresh z hz hp]
 ·simp [hp]
theorem WfP.split {L : List Ah} (h : WfP L) : ∀ pre x post,L = pre ++ x :: post → Jr pre x = true := by
 induction h with
 | root x v r =>
  intro pre y post e
  have : pre = [] ∧ y = x := by
   cases pre with
   | nil => simp at e; exact ⟨rfl,e.1.symm⟩
   | cons a q => simp at e
  rw [this.1,this.2]
  exact AfA v r
 | snoc L x w v s ih =>
  intro pre y post e
  rcases Ja post with rfl | ⟨p',z,rfl⟩
  ·have := List.append_inj' (s₁ := L) (t₁ := [x]) (s₂ := pre) (t₂ := [y]) (by simpa using e) rfl
   have e2 : x = y := by simpa using this.2
   rw [← this.1,← e2]
   exact AfQ w.pos v s
  ·have e2 : L ++ [x] = (pre ++ y :: p') ++ [z] := by simpa using e
   have := List.append_inj' e2 rfl
   exact ih pre y p' this.1
theorem WfP.sorted {L : List Ah} (h : WfP L) : L.Pairwise (fun a b => a.id < b.id) := by
 induction h with
 | root x v r => simp
 | snoc L x w v s ih =>
  rw [List.pairwise_append]
  exact ⟨ih,by simp,fun a ha b hb => by simp at hb; subst hb; exact s.lt a ha⟩
theorem WfP.val {L : List Ah} (h : WfP L) : ∀ x ∈ L,Qj x := by
 induction h with
 | root x v r => intro y hy; simp at hy; subst hy; exact v
 | snoc L x w v s ih =>
  intro y hy
  rcases List.mem_append.mp hy with hy | hy
  ·exact ih y hy
  ·simp at hy; subst hy; exact v
theorem WfP.first {L : List Ah} (h : WfP L) : ∃ x r,L = x :: r ∧ Zi x := by
 induction h with
 | root x v r => exact ⟨x,[],rfl,r⟩
 | snoc L x w v s ih =>
  obtain ⟨y,r,rfl,hr⟩ := ih
  exact ⟨y,r ++ [x],rfl,hr⟩
theorem WfP.ge1 {L : List Ah} (h : WfP L) : ∀ x ∈ L,1 ≤ x.id := by
 induction h with
 | root x v r => intro y hy; simp at hy; subst hy; rw [r.id]; omega
 | snoc L x w v s ih =>
  intro y hy
  rcases List.mem_append.mp hy with hy | hy
  ·exact ih y hy
  ·simp at hy; subst hy
   obtain ⟨z,hz,_⟩ := s.parent
   have := ih z hz
   have := s.lt z hz
   omega
theorem WfP.par {L : List Ah} (h : WfP L) : ∀ x ∈ L,(x.id = 1 ∧ Zi x) ∨ (1 ≤ x.parent ∧ x.parent < x.id ∧ (∃ y ∈ L,y.id = x.parent) ∧ Ef x.name = true) := by
 induction h with
 | root x v r => intro y hy; simp at hy; subst hy; exact .inl ⟨r.id,r⟩
 | snoc L x w v s ih =>
  intro y hy
  rcases List.mem_append.mp hy with hy | hy
  ·rcases ih y hy with h | ⟨h1,h2,⟨z,hz,he⟩,h3⟩
   ·exact .inl h
   ·exact .inr ⟨h1,h2,⟨z,by simp [hz],he⟩,h3⟩
  ·simp at hy; subst hy
   obtain ⟨z,hz,he⟩ := s.parent
   refine .inr ⟨?_,?_,⟨z,by simp [hz],he⟩,s.valid⟩
   ·have := w.ge1 z hz
    omega
   ·have := s.lt z hz
    omega
theorem Aeu {L : List Ah} (h : L.Pairwise (fun a b => a.id < b.id)) {x y : Ah} (hx : x ∈ L) (hy : y ∈ L) (e : x.id = y.id) : x = y := by
 induction L with
 | nil => simp at hx
 | cons a r ih =>
  rw [List.pairwise_cons] at h
  rcases List.mem_cons.mp hx with ex | hx' <;> rcases List.mem_cons.mp hy with ey | hy'
  ·rw [ex,ey]
  ·have := h.1 y hy'; rw [ex] at e; omega
  ·have := h.1 x hx'; rw [ey] at e; omega
  ·exact ih h.2 hx' hy'
theorem Vf {t : Ae} {id : Int} {x : Ah} (h : Sx t id = some x) : x ∈ t.nodes ∧ x.id = id :=
 ⟨List.mem_of_find?_eq_some h,by have := List.find?_some h; simpa using this⟩
theorem hasN_iff {t : Ae} {id : Int} : Gc t id = true ↔ ∃ x ∈ t.nodes,x.id = id := by
 unfold Gc Sx
 rw [List.find?_isSome]
 simp
theorem Vr {A B : List Ah} {id : Int} (h : ∀ x ∈ A,x.id ≠ id) : upR (A ++ B) id = upR B id := by
 induction A with
 | nil => rfl
 | cons a r ih =>
  rw [List.cons_append,upR,if_neg (by simpa using h a (by simp))]
  exact ih fun x hx => h x (by simp [hx])
theorem Abe {A : List Ah} {id : Int} (h : ∀ x ∈ A,x.id ≠ id) : upR A id = [] := by
 have := Vr (B := []) h
 simpa [upR] using this
theorem WfP.up {L : List Ah} (h : WfP L) : ∀ x ∈ L,upR L.reverse x.id = x.id :: upR L.reverse x.parent := by
 induction h with
 | root x v r =>
  intro y hy
  simp at hy
  subst hy
  simp [upR,r.parent,r.id]
 | snoc L x w v s ih =>
  intro y hy
  rw [List.reverse_append,List.reverse_cons,List.reverse_nil,List.nil_append,List.singleton_append]
  rcases List.mem_append.mp hy with hy | hy
  ·have hlt := s.lt y hy
   have hp : y.parent < x.id := by
    rcases w.par y hy with ⟨h1,r⟩ | ⟨_,h2,_⟩
    ·rw [r.parent]; have := w.ge1 y hy; omega
    ·omega
   rw [upR,if_neg (by simp; omega),upR,if_neg (by simp; omega)]
   exact ih y hy
  ·simp at hy
   subst hy
   obtain ⟨z,hz,he⟩ := s.parent
   have := s.lt z hz
   rw [upR,if_pos (by simp),upR,if_neg (by simp; omega)]
theorem WfT.p {t : Ae} (h : WfT t) : WfP t.nodes := wfP_of h.len1 h.node
theorem WfT.sorted {t : Ae} (h : WfT t) : t.nodes.Pairwise (fun a b => a.id < b.id) := h.p.sorted
theorem WfT.up {t : Ae} (h : WfT t) {x : Ah} (hx : x ∈ t.nodes) : upT t x.id = x.id :: upT t x.parent := h.p.up x hx
theorem WfT.next {t : Ae} (h : WfT t) : ∀ x ∈ t.nodes,x.id < t.next := by
 have hl := h.last
 have h1 := h.len1
 have hs := h.sorted
 intro x hx
 obtain ⟨i,hi,rfl⟩ := List.getElem_of_mem hx
 rw [Hc (by omega)] at hl
 by_cases e : i = t.nodes.length - 1
 ·subst e; exact hl
 ·have := List.pairwise_iff_getElem.mp hs i (t.nodes.length - 1) hi (by omega) (by omega)
  omega
theorem WfT.root {t : Ae} (h : WfT t) : ∃ x r,t.nodes = x :: r ∧ Zi x := h.p.first
theorem WfT.mk' {t : Ae} (hp : WfP t.nodes) (h2 : t.nodes.length ≤ 64) (hd : ∀ x ∈ t.nodes,(upT t x.id).length ≤ 9) (hn : ∀ x ∈ t.nodes,x.id < t.next) (hl : t.next ≤ 2147483648) : WfT t := by
 refine ⟨hp.pos,h2,hp.split,hd,hn _ (AdD ?_),hl⟩
 have := hp.pos
 omega
end Go.Dm

/- Plain theory, part 5: dice; trees that grow and shrink. -/
namespace Go.Dm
structure Bx (d : Ao) : Prop where
 a0 : 0 ≤ d.atF
 a1 : d.atF ≤ (d.l.length : Int)
 l : d.l.length ≤ 600
theorem dice_roll {l : List Int} (h : l.length ≤ 600) : Bx { l := l,atF := 0 } := ⟨by simp,by simp,h⟩
theorem Aaz {d : Ao} (h : Bx d) (n : Int) (hn : n ≤ 1000000) : Ok (Bu d n) (fun r => Bx r.2 ∧ 0 ≤ r.1 ∧ (r.1 < n ∨ (n < 1 ∧ r.1 = 0))) := by
 have h0 := h.a0
 have h1 := h.a1
 have hl := h.l
 unfold Bu
 refine Ok.ite (fun c => ?_) fun c => ?_
 ·simp only [Bool.or_eq_true,decide_eq_true_eq] at c
  refine Ok.ret ⟨h,by simp,?_⟩
  show (0 : Int) < n ∨ (n < 1 ∧ (0 : Int) = 0)
  omega
 simp only [Bool.or_eq_false_iff,decide_eq_false_iff_not] at c
 have e1 : w64 (d.atF + 1) = d.atF + 1 := Ax (by omega) (by omega)
 have e2 : w64 (d.atF + 1 - 1) = d.atF := by
  rw [Ax (by omega) (by omega)]
  omega
 have hd : Bx { l := d.l,atF := d.atF + 1 } := ⟨by simp only; omega,by simp only; omega,hl⟩
 rw [e1,e2]
 refine Ok.guard (by omega) ?_
 refine Ok.guard (by omega) ?_
 generalize d.l.getD d.atF.toNat 0 = x
 have b1 : Int.tmod x n < n := Int.tmod_lt_of_pos x (by omega)
 have b2 : -n < Int.tmod x n := by
  have := Int.tmod_lt_of_pos (-x) (show 0 < n by omega)
  rw [Int.neg_tmod] at this
  omega
 unfold Kw
 rw [e1]
 refine Ok.ite (fun c2 => ?_) fun c2 => ?_
 ·have := of_decide_eq_true c2
  rw [Ax (by omega) (by omega)]
  refine Ok.ret ⟨hd,?_,?_⟩ <;> simp only <;> omega
 ·have := of_decide_eq_false c2
  refine Ok.ret ⟨hd,?_,?_⟩ <;> simp only <;> omega
theorem Gp {d : Ao} (h : Bx d) (n : Int) (h1 : 1 ≤ n) (hn : n ≤ 1000000) : Ok (Bu d n) (fun r => Bx r.2 ∧ 0 ≤ r.1 ∧ r.1 < n) :=
 (Aaz h n hn).mono fun r ⟨a,b,c⟩ => ⟨a,b,by omega⟩
theorem Uf {d : Ao} (h : Bx d) (n : Int) (hn : n ≤ 1000000) : Ok (Fc d n) (fun r => Bx r.2) := by
 unfold Fc
 exact Ok.bind (Aaz h n hn) fun r hr => Ok.ret hr.1
theorem Ahj : ∀ s ∈ [(bs [97]),(bs [98]),(bs [99]),(bs [119,101,98]),(bs [100,98,45,49]),(bs [88,95,57])],Ef s = true := by
 intro s hs
 have : ([(bs [97]),(bs [98]),(bs [99]),(bs [119,101,98]),(bs [100,98,45,49]),(bs [88,95,57])].all Ef) = true := by kernel_rfl
 exact List.all_eq_true.mp this s hs
theorem Name_ok {d : Ao} (h : Bx d) : Ok (Mk d) (fun r => Bx r.2 ∧ Ef r.1 = true) := by
 unfold Mk
 refine Ok.bind (Gp h 6 (by omega) (by omega)) fun r ⟨h1,h2,h3⟩ => ?_
 refine Ok.guard ⟨h2,h3⟩ ?_
 have hlt : r.1.toNat < [(bs [97]),(bs [98]),(bs [99]),(bs [119,101,98]),(bs [100,98,45,49]),(bs [88,95,57])].length := by simp only [List.length_cons,List.length_nil]; omega
 refine Ok.guard hlt (Ok.ret ⟨h1,Ahj _ (AdD hlt)⟩)
theorem Abb {d : Ao} (h : Bx d) (t : Ae) (ht : t.nodes.length ≤ 1000000) : Ok (Gz d t) (fun r => Bx r.2) := by
 unfold Gz
 refine Ok.bind (Uf h 15 (by omega)) fun r hr => ?_
 have hJ : ∀ b : Bool,(b = false → 0 < t.nodes.length) → Ok (Ic t r b) (fun r => Bx r.2) := by
  intro b hb
  unfold Ic
  refine Ok.ite (fun _ => ?_) fun c => ?_
  ·exact Ok.bind (Aaz hr 9 (by omega)) fun q hq => Ok.ret hq.1
  ·have := hb c
   refine Ok.bind (Gp hr _ (by omega) (by omega)) fun q hq => ?_
   exact Ok.guard ⟨hq.2.1,hq.2.2⟩ (Ok.ret hq.1)
 refine Ok.ite (fun _ => ?_) fun _ => ?_
 ·exact hJ true (by simp)
 ·refine hJ _ fun hb => ?_
  have : ¬ ((t.nodes.length : Nat) : Int) = 0 := by simpa using hb
  omega
theorem AeI {d : Ao} (h : Bx d) (t : Aa) (ht : t.tasks.length ≤ 1000000) : Ok (Ip d t) (fun r => Bx r.2) := by
 unfold Ip
 refine Ok.bind (Uf h 15 (by omega)) fun r hr => ?_
 have hJ : ∀ b : Bool,(b = false → 0 < t.tasks.length) → Ok (It t r b) (fun r => Bx r.2) := by
  intro b hb
  unfold It
  refine Ok.ite (fun _ => ?_) fun c => ?_
  ·exact Ok.bind (Aaz hr 9 (by omega)) fun q hq => Ok.ret hq.1
  ·have := hb c
   refine Ok.bind (Gp hr _ (by omega) (by omega)) fun q hq => ?_
   exact Ok.guard ⟨hq.2.1,hq.2.2⟩ (Ok.ret hq.1)
 refine Ok.ite (fun _ => ?_) fun _ => ?_
 ·exact hJ true (by simp)
 ·refine hJ _ fun hb => ?_
  have : ¬ ((t.tasks.length : Nat) : Int) = 0 := by simpa using hb
  omega
theorem AeO {d : Ao} (h : Bx d) : Ok (Ho d) (fun r => Bx r.2 ∧ -1 ≤ r.1 ∧ r.1 ≤ 32) := by
 unfold Ho
 refine Ok.bind (Gp h 9 (by omega) (by omega)) fun r ⟨h1,h2,h3⟩ => ?_
 refine Ok.guard ⟨h2,h3⟩ ?_
 have hlt : r.1.toNat < [(1 : Int),9,31,2,25,4,0,32,(-1)].length := by simp only [List.length_cons,List.length_nil]; omega
 refine Ok.guard hlt (Ok.ret ⟨h1,?_⟩)
 have hm := AdD (d := (0 : Int)) hlt
 have : ∀ x ∈ [(1 : Int),9,31,2,25,4,0,32,(-1)],-1 ≤ x ∧ x ≤ 32 := by decide
 exact this _ hm
def zT : Ae := { nodes := [],next := 0 }
def addT (t : Ae) (p : Int) (s : ByteArray) : Ae × Int × Int :=
 if !Ef s then (zT,0,1) else if !Gc t p then (zT,0,4) else if t.nodes.any (fun x => x.parent == p && Dr x.name s) then (zT,0,5)
 else if decide (9 ≤ (upT t p).length) || decide (64 ≤ t.nodes.length) || decide (2147483647 < t.next) then (zT,0,7)
 else ({ nodes := t.nodes ++ [{ id := t.next,parent := p,name := s,control := 0,kind := 0,owner := 0 }],next := t.next + 1 },t.next,0)
theorem AhT {t : Ae} (h : WfT t) (p : Int) (s : ByteArray) : Xy t p s = some (addT t p s) := by
 apply Ok.eq
 have h2 := h.len2
 have hnx := h.nextLe
 unfold Xy
 refine Ok.step (Ya h) ?_
 simp only [Bool.not_true,Bool.false_eq_true,if_false]
 refine Ok.step (Abo s) ?_
 unfold Tb addT
 refine Ok.ite (fun c => ?_) fun c => ?_
 ·rw [if_pos c]; exact Ok.ret rfl
 rw [if_neg (c := (!Ef s) = true) (by rw [c]; simp)]
 refine Ok.step (No h p) ?_
 refine Ok.ite (fun c => ?_) fun c => ?_
 ·rw [if_pos c]; exact Ok.ret rfl
 rw [if_neg (c := (!Gc t p) = true) (by rw [c]; simp)]
 have hp : Gc t p = true := by simpa using c
 refine Ok.guard (by omega) ?_
 refine Ok.range (fun pre _ => pre.any (fun x => x.parent == p && Dr x.name s) = false) rfl ?_ ?_
 ·intro pre x post u n he hI hn
  unfold Abd
  refine Ok.ite (fun c => ?_) fun c => ?_
  ·refine Ok.ret ?_
   rw [if_pos]
   ·rfl
   ·rw [he,List.any_append,List.any_cons,c]
    simp
  ·refine hn () ?_
   rw [List.any_append,hI,List.any_cons,c]
   rfl
 ·intro _ hI
  rw [if_neg (by rw [hI]; simp)]
  unfold AaY
  refine Ok.step (AgL h p) ?_
  have ea : ancN t p = upT t p := by simp [ancN,hp]
  have hb : (upT t p).length ≤ 64 := by
   have := Lw t.nodes.reverse p
   simp at this
   unfold upT
   omega
  rw [ea,Ax (by omega) (by omega)]
  have hJ1 : ∀ c,(c = true → (decide (9 ≤ (upT t p).length) || decide (64 ≤ t.nodes.length) || decide (2147483647 < t.next)) = true) → (c = false → (decide (9 ≤ (upT t p).length) || decide (64 ≤ t.nodes.length) || decide (2147483647 < t.next)) = false) →
    Ok (Nu t p s c) (· = if decide (9 ≤ (upT t p).length) || decide (64 ≤ t.nodes.length) || decide (2147483647 < t.next) then (zT,0,7)
 else ({ nodes := t.nodes ++ [{ id := t.next,parent := p,name := s,control := 0,kind := 0,owner := 0 }],next := t.next + 1 },t.next,0)) := by
   intro c ht hf
   unfold Nu
   refine Ok.ite (fun c => ?_) fun c => ?_
   ·rw [if_pos (ht c)]; exact Ok.ret rfl
   ·rw [if_neg (by rw [hf c]; simp)]
    refine Ok.step (Si t (by omega)) ?_
    refine Ok.guard (by omega) ?_
    have hn0 : 0 < t.next := by
     obtain ⟨x,r,e,hr⟩ := h.root
     have := h.next x (by rw [e]; simp)
     rw [hr.id] at this
     omega
    rw [Ax (by omega) (by omega)]
    exact Ok.ret rfl
  refine Ok.ite (fun c => ?_) fun c => ?_
  ·have := of_decide_eq_true c
   refine hJ1 true (fun _ => ?_) (by simp)
   have : 9 ≤ (upT t p).length := by omega
   simp [this]
  ·have h9 := of_decide_eq_false c
   refine Ok.ite (fun c => ?_) fun c => ?_
   ·have := of_decide_eq_true c
    refine hJ1 true (fun _ => ?_) (by simp)
    have : 64 ≤ t.nodes.length := by omega
    simp [this]
   ·have h64 := of_decide_eq_false c
    have a : ¬ 9 ≤ (upT t p).length := by omega
    have b : ¬ 64 ≤ t.nodes.length := by omega
    refine hJ1 _ (fun c => ?_) fun c => ?_
    ·have := of_decide_eq_true c
     have : 2147483647 < t.next := by omega
     simp [this]
    ·have := of_decide_eq_false c
     have : ¬ 2147483647 < t.next := by omega
     simp [this,a,b]
theorem AbD {L : List Ah} {x : Ah} {id : Int} (h : x.id ≠ id) : upR (L ++ [x]).reverse id = upR L.reverse id := by
 rw [List.reverse_append]
 exact Vr (A := [x].reverse) (by simpa using h)
theorem addT_wf {t : Ae} (h : WfT t) {p : Int} {s : ByteArray} {r : Ae × Int × Int} (e : addT t p s = r) (hr : r.2.2 = 0) : WfT r.1 := by
 have h2 := h.len2
 unfold addT at e
 split at e
 ·subst e; simp at hr
 split at e
 ·subst e; simp at hr
 split at e
 ·subst e; simp at hr
 split at e
 ·subst e; simp at hr
 rename_i hv hh ha hc
 subst e
 have hv' : Ef s = true := by simpa using hv
 have hh' : Gc t p = true := by simpa using hh
 obtain ⟨y,hy,hyp⟩ := hasN_iff.mp hh'
 simp only [Bool.or_eq_true,decide_eq_true_eq,not_or] at hc
 have ha' : ∀ x ∈ t.nodes,x.parent = p → Dr x.name s = false := by
  intro x hx hp
  cases hb : Dr x.name s
  ·rfl
  ·exact absurd (List.any_eq_true.mpr ⟨x,hx,by simp [hp,hb]⟩) ha
 have hnext := h.next
 refine WfT.mk' (.snoc _ _ h.p ⟨.inl rfl,by simp,by simp,by simp,by simp⟩ ⟨hnext,hv',⟨y,hy,hyp⟩,ha'⟩) (by simp; omega) ?_ ?_ (by simp only; omega)
 ·intro x hx
  rcases List.mem_append.mp hx with hx | hx
  ·have := h.depth x hx
   unfold upT at this ⊢
   simp only
   have hlt := hnext x hx
   rw [AbD (by simp only; omega)]
   exact this
  ·simp at hx
   subst hx
   unfold upT
   simp only [List.reverse_append,List.reverse_cons,List.reverse_nil,List.nil_append,List.singleton_append]
   rw [upR,if_pos (by simp)]
   have := hc.1.1
   unfold upT at this
   simp; omega
 ·intro x hx
  simp only
  rcases List.mem_append.mp hx with hx | hx
  ·have := hnext x hx
   omega
  ·simp at hx
   subst hx
   simp only
   omega
end Go.Dm

/- Plain theory, part 6: nodes that are removed or replaced; made trees. -/
namespace Go.Dm
def Acy (t : Ae) (id : Int) : Ae × Int :=
 if !Gc t id then (zT,4) else if id == 1 then (zT,9) else if decide (0 < (Jb t id).length) then (zT,6)
 else ({ nodes := t.nodes.filter (fun x => x.id != id),next := t.next },0)
theorem AfF {t : Ae} (h : WfT t) (id : Int) : Rf t id = some (Acy t id) := by
 apply Ok.eq
 have h2 := h.len2
 unfold Rf Acy
 refine Ok.step (Ya h) ?_
 simp only [Bool.not_true,Bool.false_eq_true,if_false]
 refine Ok.step (No h id) ?_
 refine Ok.ite (fun c => ?_) fun c => ?_
 ·rw [if_pos c]; exact Ok.ret rfl
 rw [if_neg (c := (!Gc t id) = true) (by rw [c]; simp)]
 have hp : Gc t id = true := by simpa using c
 refine Ok.ite (fun c => ?_) fun c => ?_
 ·rw [if_pos c]; exact Ok.ret rfl
 rw [if_neg (c := (id == 1) = true) (by rw [c]; simp)]
 refine Ok.step (Zh h id) ?_
 rw [if_pos hp]
 refine Ok.ite (fun c => ?_) fun c => ?_
 ·have := of_decide_eq_true c
  have : 0 < (Jb t id).length := by omega
  rw [if_pos (c := decide (0 < (Jb t id).length) = true) (by simp [this])]; exact Ok.ret rfl
 have := of_decide_eq_false c
 have : ¬ 0 < (Jb t id).length := by omega
 rw [if_neg (c := decide (0 < (Jb t id).length) = true) (by simp [this])]
 refine Ok.guard (by omega) ?_
 have e := Jt (p := fun x : Ah => x.id != id) (f := fun x : Ah => x) (xs := t.nodes) (s0 := []) (r := Rk t) (body := Rp id) (done := Rk t) (fun k x s n hs => by
  unfold Rp Oe
  rw [if_pos hs]) (fun _ => rfl) (by simp; omega)
 rw [e]
 refine Ok.ret ?_
 simp
theorem Ahv {A : List Ah} {id k : Int} (hk : k ≠ id) (h : ∀ x ∈ A,x.parent ≠ id) : upR (A.filter (fun x => x.id != id)) k = upR A k := by
 induction A generalizing k with
 | nil => rfl
 | cons a r ih =>
  have hr : ∀ x ∈ r,x.parent ≠ id := fun x hx => h x (by simp [hx])
  rw [List.filter_cons]
  by_cases e : a.id = id
  ·rw [if_neg (by simp [e]),ih hk hr,upR,if_neg (by simp; omega)]
  ·rw [if_pos (by simp [e]),upR,upR]
   by_cases q : a.id = k
   ·rw [if_pos (by simp [q]),if_pos (by simp [q]),ih (h a (by simp)) hr]
   ·rw [if_neg (by simp [q]),if_neg (by simp [q]),ih hk hr]
theorem WfP.remove {L : List Ah} (h : WfP L) {id : Int} (h1 : id ≠ 1) (hk : ∀ x ∈ L,x.parent ≠ id) : WfP (L.filter (fun x => x.id != id)) := by
 induction h with
 | root x v r =>
  have : (x.id != id) = true := by simp [r.id]; omega
  simp only [List.filter_cons,this,if_true,List.filter_nil]
  exact .root x v r
 | snoc L x w v s ih =>
  have hw := ih fun y hy => hk y (by simp [hy])
  rw [List.filter_append]
  by_cases e : x.id = id
  ·have : [x].filter (fun x => x.id != id) = [] := by simp [e]
   rw [this,List.append_nil]
   exact hw
  ·have : [x].filter (fun x => x.id != id) = [x] := by simp [e]
   rw [this]
   refine .snoc _ x hw v ⟨fun y hy => s.lt y (List.mem_filter.mp hy).1,s.valid,?_,fun y hy => s.fresh y (List.mem_filter.mp hy).1⟩
   obtain ⟨y,hy,hyp⟩ := s.parent
   refine ⟨y,List.mem_filter.mpr ⟨hy,?_⟩,hyp⟩
   have := hk x (by simp)
   simp only [bne_iff_ne]
   omega
theorem AhI {t : Ae} (h : WfT t) {id : Int} {r : Ae × Int} (e : Acy t id = r) (hr : r.2 = 0) : WfT r.1 := by
 have h2 := h.len2
 unfold Acy at e
 split at e
 ·subst e; simp at hr
 split at e
 ·subst e; simp at hr
 split at e
 ·subst e; simp at hr
 rename_i hh h1 hk
 subst e
 have h1' : id ≠ 1 := by simpa using h1
 have hk' : ∀ x ∈ t.nodes,x.parent ≠ id := by
  intro x hx hp
  have hk : ¬ 0 < (Jb t id).length := by simpa using hk
  have : x.id ∈ Jb t id := by
   unfold Jb
   exact List.mem_map.mpr ⟨x,List.mem_filter.mpr ⟨hx,by simp [hp]⟩,rfl⟩
  have := List.length_pos_of_mem this
  omega
 refine WfT.mk' (h.p.remove h1' hk') (Nat.le_trans (List.length_filter_le _ _) h2) ?_ (fun x hx => h.next x (List.mem_filter.mp hx).1) h.nextLe
 intro x hx
 have hx' := List.mem_filter.mp hx
 have := h.depth x hx'.1
 unfold upT at this ⊢
 simp only
 rw [← List.filter_reverse,Ahv (by simpa using hx'.2) (fun y hy => hk' y (by simpa using hy))]
 exact this
def Vp (x y : Ah) : Ah := if y.id == x.id then x else y
def setT (t : Ae) (x : Ah) : Ae := { nodes := t.nodes.map (Vp x),next := t.next }
theorem Zx (t : Ae) (x : Ah) (hl : t.nodes.length ≤ 1000000) : Ru t x = some (setT t x) := by
 apply Ok.eq
 unfold Ru
 refine Ok.step (Si t (by omega)) ?_
 refine Ok.while (fun s => ∃ m : Nat,s.2 = (m : Int) ∧ m ≤ t.nodes.length ∧ s.1 = (t.nodes.take m).map (Vp x) ++ t.nodes.drop m) (fun s => (((t.nodes.length : Nat) : Int) - s.2).toNat) ?_ ?_ ?_
 ·exact ⟨0,rfl,by omega,by simp⟩
 ·rw [Dd]; simp only; omega
 rintro ⟨L,c⟩ n ⟨m,hc,hm,he⟩ hn
 simp only at hc he hn
 subst hc
 have hlen : L.length = t.nodes.length := by
  rw [he]; simp; omega
 unfold AaQ Sh
 simp only
 rw [hlen]
 refine Ok.ite (fun c => ?_) fun c => ?_
 ·have hlt := of_decide_eq_true c
  have hlt' : m < t.nodes.length := by omega
  have em : Int.toNat (m : Int) = m := by omega
  rw [em]
  refine Ok.guard (by omega) ?_
  refine Ok.guard hlt' ?_
  have hw : w64 ((m : Int) + 1) = ((m + 1 : Nat) : Int) := by
   rw [Ax (by omega) (by omega)]; omega
  have hd : t.nodes.drop m = t.nodes[m] :: t.nodes.drop (m + 1) := List.drop_eq_getElem_cons hlt'
  have hg : L.getD m default = t.nodes[m] := by
   rw [he,hd,List.getD_eq_getElem?_getD,List.getElem?_append_right (by simp; omega)]
   have : m - (List.map (Vp x) (List.take m t.nodes)).length = 0 := by simp; omega
   rw [this]
   rfl
  have ht : (t.nodes.take (m + 1)).map (Vp x) ++ t.nodes.drop (m + 1) = (t.nodes.take m).map (Vp x) ++ Vp x t.nodes[m] :: t.nodes.drop (m + 1) := by
   have : t.nodes.take (m + 1) = t.nodes.take m ++ [t.nodes[m]] := by
    rw [List.take_add_one]; simp [hlt']
   rw [this,List.map_append,List.append_assoc]
   rfl
  have hml : (List.map (Vp x) (List.take m t.nodes)).length = m := by
   rw [List.length_map,List.length_take]; omega
  rw [hg,hw]
  refine Ok.ite (fun c => ?_) fun c => ?_
  ·refine Ok.guard (by omega) ?_
   refine Ok.guard hlt' ?_
   refine hn _ ⟨m + 1,rfl,by omega,?_⟩ (by simp only; omega)
   simp only
   rw [ht,he,hd,List.set_append_right _ _ (by omega),hml,Nat.sub_self,List.set_cons_zero,Vp,if_pos c]
  ·refine hn _ ⟨m + 1,rfl,by omega,?_⟩ (by simp only; omega)
   simp only
   rw [ht,he,hd]
   simp [Vp,c]
 ·have := of_decide_eq_false c
  obtain rfl : m = t.nodes.length := by omega
  refine Ok.ret ?_
  simp [he,setT]
theorem upR_map {A : List Ah} {f : Ah → Ah} {k : Int} (h : ∀ y ∈ A,(f y).id = y.id ∧ (f y).parent = y.parent) : upR (A.map f) k = upR A k := by
 induction A generalizing k with
 | nil => rfl
 | cons a r ih =>
  have h1 := h a (by simp)
  rw [List.map_cons,upR,upR,h1.1,h1.2,ih fun y hy => h y (by simp [hy]),ih fun y hy => h y (by simp [hy])]
theorem WfP.map {L : List Ah} (h : WfP L) {f : Ah → Ah} (hf : ∀ y ∈ L,(f y).id = y.id ∧ (f y).parent = y.parent ∧ (f y).name = y.name ∧ Qj (f y) ∧ (y.id = 1 → (f y).kind = 0)) : WfP (L.map f) := by
 induction h with
 | root x v r =>
  obtain ⟨h1,h2,h3,h4,h5⟩ := hf x (by simp)
  exact .root _ h4 ⟨by rw [h1,r.id],by rw [h2,r.parent],by rw [h3,r.name],h5 r.id⟩
 | snoc L x w v s ih =>
  have hw := ih fun y hy => hf y (by simp [hy])
  obtain ⟨h1,h2,h3,h4,h5⟩ := hf x (by simp)
  have hL : ∀ y ∈ L,(f y).id = y.id ∧ (f y).parent = y.parent ∧ (f y).name = y.name := fun y hy => by
   obtain ⟨a,b,c,_⟩ := hf y (by simp [hy])
   exact ⟨a,b,c⟩
  rw [List.map_append,List.map_cons,List.map_nil]
  refine .snoc _ _ hw h4 ⟨?_,by rw [h3]; exact s.valid,?_,?_⟩
  ·intro y hy
   obtain ⟨z,hz,rfl⟩ := List.mem_map.mp hy
   rw [(hL z hz).1,h1]
   exact s.lt z hz
  ·obtain ⟨z,hz,hzp⟩ := s.parent
   exact ⟨f z,List.mem_map.mpr ⟨z,hz,rfl⟩,by rw [(hL z hz).1,h2,hzp]⟩
  ·intro y hy
   obtain ⟨z,hz,rfl⟩ := List.mem_map.mp hy
   rw [(hL z hz).2.1,(hL z hz).2.2,h2,h3]
   exact s.fresh z hz
theorem WfT.map {t : Ae} (h : WfT t) {f : Ah → Ah} (hf : ∀ y ∈ t.nodes,(f y).id = y.id ∧ (f y).parent = y.parent ∧ (f y).name = y.name ∧ Qj (f y) ∧ (y.id = 1 → (f y).kind = 0)) : WfT { nodes := t.nodes.map f,next := t.next } := by
 refine WfT.mk' (h.p.map hf) (by simp; exact h.len2) ?_ ?_ h.nextLe
 ·intro x hx
  obtain ⟨z,hz,rfl⟩ := List.mem_map.mp hx
  have := h.depth z hz
  unfold upT at this ⊢
  simp only
  rw [← List.map_reverse,upR_map (fun y hy => ⟨(hf y (by simpa using hy)).1,(hf y (by simpa using hy)).2.1⟩),(hf z hz).1]
  exact this
 ·intro x hx
  obtain ⟨z,hz,rfl⟩ := List.mem_map.mp hx
  simp only
  rw [(hf z hz).1]
  exact h.next z hz
theorem setT_wf {t : Ae} (h : WfT t) {x y : Ah} (hy : y ∈ t.nodes) (h1 : x.id = y.id) (h2 : x.parent = y.parent) (h3 : x.name = y.name) (h4 : Qj x) (h5 : y.id = 1 → x.kind = 0) : WfT (setT t x) := by
 refine h.map fun z hz => ?_
 unfold Vp
 by_cases e : z.id = x.id
 ·obtain rfl : z = y := Aeu h.sorted hz hy (by omega)
  rw [if_pos (by simp [e])]
  exact ⟨h1,h2,h3,h4,h5⟩
 ·rw [if_neg (by simpa using e)]
  refine ⟨rfl,rfl,rfl,h.p.val z hz,fun q => ?_⟩
  rcases h.p.par z hz with ⟨_,r⟩ | ⟨a,b,_⟩
  ·exact r.kind
  ·omega
def newT : Ae := { nodes := [{ id := 1,parent := 0,name := ByteArray.empty,control := 0,kind := 0,owner := 0 }],next := 2 }
theorem Ahl : Xi = some newT := rfl
theorem newT_wf : WfT newT := by
 refine WfT.mk' (.root _ ⟨.inl rfl,by simp,by simp,by simp,by simp⟩ ⟨rfl,rfl,Afn _,rfl⟩) (by simp [newT]) ?_ ?_ (by simp [newT])
 ·intro x hx
  have := Lw newT.nodes.reverse x.id
  simp [newT] at this
  simp [upT,newT]
  omega
 ·intro x hx
  simp [newT] at hx
  subst hx
  simp [newT]
theorem Tree_ok {d : Ao} (h : Bx d) (n : Int) (h0 : 0 ≤ n) (h1 : n ≤ 1000) : Ok (My d n) (fun r => WfT r.1 ∧ Bx r.2) := by
 unfold My
 refine Ok.step Ahl ?_
 rw [Ax (by omega) (by omega)]
 refine Ok.bind (Gp h (n + 1) (by omega) (by omega)) fun r ⟨a1,a2,a3⟩ => ?_
 refine Ok.while (fun s => Bx s.1 ∧ WfT s.2.1 ∧ s.2.2 ≤ 2000) (fun s => s.2.2.toNat) ⟨a1,newT_wf,by simp only; omega⟩ (by rw [Dd]; simp only; omega) ?_
 rintro ⟨d,t,c⟩ k ⟨b1,b2,b3⟩ hk
 simp only at b1 b2 b3 hk
 unfold Rw
 simp only
 refine Ok.ite (fun c1 => ?_) fun c1 => ?_
 ·have hc := of_decide_eq_true c1
  have l1 := b2.len1
  have l2 := b2.len2
  refine Ok.bind (Gp b1 _ (by omega) (by omega)) fun r2 ⟨q1,q2,q3⟩ => ?_
  refine Ok.guard ⟨q2,q3⟩ ?_
  refine Ok.bind (Name_ok q1) fun r3 ⟨u1,u2⟩ => ?_
  refine Ok.step (AhT b2 _ _) ?_
  have hw : w64 (c - 1) = c - 1 := Ax (by omega) (by omega)
  have hJ3 : ∀ y : Ao × Ae,Bx y.1 → WfT y.2 → Ok (Hn (d,t,c) k y) (fun r => WfT r.1 ∧ Bx r.2) := by
   intro y hy1 hy2
   unfold Hn
   simp only
   rw [hw]
   exact hk _ ⟨hy1,hy2,by simp only; omega⟩ (by simp only; omega)
  have hJ4 : ∀ y : Ae,WfT y → Ok (Io (d,t,c) k r3 y) (fun r => WfT r.1 ∧ Bx r.2) := by
   intro y hy
   unfold Io
   refine Ok.bind (Uf u1 6 (by omega)) fun r4 hr4 => ?_
   refine Ok.ite (fun _ => ?_) fun _ => ?_
   ·have y1 := hy.len1
    have y2 := hy.len2
    refine Ok.bind (Gp hr4 _ (by omega) (by omega)) fun r5 ⟨v1,v2,v3⟩ => ?_
    refine Ok.guard ⟨v2,v3⟩ ?_
    refine Ok.step (AfF hy _) ?_
    refine Ok.ite (fun c2 => ?_) fun _ => ?_
    ·exact hJ3 _ v1 (AhI hy rfl (by simpa using c2))
    ·exact hJ3 _ v1 hy
   ·exact hJ3 _ hr4 hy
  refine Ok.ite (fun c2 => ?_) fun _ => ?_
  ·exact hJ4 _ (addT_wf b2 rfl (by simpa using c2))
  ·exact hJ4 _ b2
 ·exact Ok.ret ⟨b2,b1⟩
end Go.Dm

/- Plain theory, part 7: hierarchies that Check accepts. -/
namespace Go.Dm
def zK : At := { id := 0,process := 0,group := 0,user := 0 }
def Es (L : List At) (id : Int) : Option At := L.find? (fun x => x.id == id)
theorem AeT (L : List At) (p : Int) (hl : L.length ≤ 1000000) : Qt L p = some ((Es L p).elim (zK,false) (fun x => (x,x.process == p))) := by
 unfold Qt
 rw [if_pos (by omega)]
 exact Ht (fun k x n => rfl) rfl
structure TaskV (h : Aa) (x : At) : Prop where
 pos : 1 ≤ x.id
 grp : Gc h.tree x.group = true
 u1 : 0 ≤ x.user
 u2 : x.user ≤ 1048576
 ldr : ∃ p,Es h.tasks x.process = some p ∧ p.process = x.process ∧ p.user = x.user
structure WfH (h : Aa) : Prop where
 tree : WfT h.tree
 len : h.tasks.length ≤ 128
 n1 : 1 ≤ h.next
 n2 : h.next ≤ 2147483648
 sorted : h.tasks.Pairwise (fun a b => a.id < b.id)
 lt : ∀ x ∈ h.tasks,x.id < h.next
 val : ∀ x ∈ h.tasks,TaskV h x
theorem Abr (h : Aa) : Ok (Ga h) (fun b => b = true ↔ WfH h) := by
 have bad : ¬ WfH h → Ok (some false) (fun b => b = true ↔ WfH h) := fun hn => Ok.ret ⟨fun e => by simp at e,fun w => absurd w hn⟩
 unfold Ga
 refine Ok.bind (Vl h.tree) fun b hb => ?_
 unfold Hy
 refine Ok.ite (fun c => ?_) fun c => ?_
 ·have : ¬ WfT h.tree := fun w => by have := hb.mpr w; simp [this] at c
  exact bad fun w => this w.tree
 have wt : WfT h.tree := hb.mp (by simpa using c)
 refine Ok.ite (fun c => ?_) fun c => ?_
 ·have := of_decide_eq_true c
  exact bad fun w => by have := w.len; omega
 have hl : h.tasks.length ≤ 128 := by
  have := of_decide_eq_false c
  omega
 refine Ok.ite (fun c => ?_) fun c => ?_
 ·have := of_decide_eq_true c
  exact bad fun w => by have := w.n1; omega
 have hn1 := of_decide_eq_false c
 refine Ok.ite (fun c => ?_) fun c => ?_
 ·have := of_decide_eq_true c
  exact bad fun w => by have := w.n2; omega
 have hn2 := of_decide_eq_false c
 have loop : (∀ x ∈ h.tasks.getLast?,x.id < h.next) → Ok (if h.tasks.length ≤ 9223372036854775807 then Bg (Sd h) Xb h.tasks 0 () else none) (fun b => b = true ↔ WfH h) := by
  intro hlast
  refine Ok.guard (by omega) ?_
  refine Ok.range (fun pre _ => pre.Pairwise (fun a b => a.id < b.id) ∧ ∀ x ∈ pre,TaskV h x) (by simp) ?_ ?_
  ·intro pre x post s n he hI hn
   have hx : x ∈ h.tasks := by rw [he]; simp
   unfold Sd
   refine Ok.step (AeT h.tasks x.process (by omega)) ?_
   have hJt : ¬ WfH h → Ok (Cc n true) (fun b => b = true ↔ WfH h) := bad
   refine Ok.ite (fun c => ?_) fun c => ?_
   ·have := of_decide_eq_true c
    exact hJt fun w => by have := (w.val x hx).pos; omega
   have hpos := of_decide_eq_false c
   have tail : (∀ y ∈ pre,y.id < x.id) → Ok (Option.bind (Fw h.tree x.group) fun r51 => (if (!r51) then ((Cc n) true) else (if (decide (x.user < 0)) then ((Cc n) true) else (if (decide (x.user > 1048576)) then ((Cc n) true) else (if (!((Es h.tasks x.process).elim (zK,false) (fun y => (y,y.process == x.process))).2) then ((Cc n) true) else ((Cc n) (((Es h.tasks x.process).elim (zK,false) (fun y => (y,y.process == x.process))).1.user != x.user))))))) (fun b => b = true ↔ WfH h) := by
    intro hlt
    refine Ok.step (No wt x.group) ?_
    refine Ok.ite (fun c => ?_) fun c => ?_
    ·exact hJt fun w => by have := (w.val x hx).grp; simp [this] at c
    have hg : Gc h.tree x.group = true := by simpa using c
    refine Ok.ite (fun c => ?_) fun c => ?_
    ·have := of_decide_eq_true c
     exact hJt fun w => by have := (w.val x hx).u1; omega
    have hu1 := of_decide_eq_false c
    refine Ok.ite (fun c => ?_) fun c => ?_
    ·have := of_decide_eq_true c
     exact hJt fun w => by have := (w.val x hx).u2; omega
    have hu2 := of_decide_eq_false c
    cases hk : Es h.tasks x.process with
    | none =>
     simp only [Option.elim_none]
     exact hJt fun w => by
      obtain ⟨p,hp,_⟩ := (w.val x hx).ldr
      rw [hk] at hp
      simp at hp
    | some p =>
     simp only [Option.elim_some]
     refine Ok.ite (fun c => ?_) fun c => ?_
     ·exact hJt fun w => by
       obtain ⟨q,hq,hq2,_⟩ := (w.val x hx).ldr
       rw [hk] at hq
       obtain rfl : p = q := by simpa using hq
       simp [hq2] at c
     have hp2 : p.process = x.process := by simpa using c
     unfold Cc
     refine Ok.ite (fun c => ?_) fun c => ?_
     ·refine bad fun w => ?_
      obtain ⟨q,hq,_,hq3⟩ := (w.val x hx).ldr
      rw [hk] at hq
      obtain rfl : p = q := by simpa using hq
      simp [hq3] at c
     have hp3 : p.user = x.user := by simpa using c
     refine hn () ⟨?_,?_⟩
     ·rw [List.pairwise_append]
      exact ⟨hI.1,by simp,fun a ha b hb => by simp at hb; subst hb; exact hlt a ha⟩
     ·intro y hy
      rcases List.mem_append.mp hy with hy | hy
      ·exact hI.2 y hy
      ·obtain rfl : y = x := by simpa using hy
       exact ⟨by omega,hg,by omega,by omega,p,hk,hp2,hp3⟩
   refine Ok.ite (fun c => ?_) fun c => ?_
   ·have hk := of_decide_eq_true c
    rcases Ja pre with rfl | ⟨pr,y,rfl⟩
    ·simp at hk
    have hw : w64 (((pr ++ [y]).length : Int) - 1) = (pr.length : Int) := by
     have : (pr ++ [y]).length ≤ h.tasks.length := by rw [he]; simp
     rw [Ax (by omega) (by omega)]
     simp
    have hle : pr.length < h.tasks.length := by rw [he]; simp
    have ey : h.tasks.getD (Int.toNat (pr.length : Int)) default = y := by
     rw [he,show Int.toNat (pr.length : Int) = pr.length by omega]
     exact Rq
    rw [hw,ey]
    refine Ok.guard (by omega) ?_
    refine Ok.ite (fun c => ?_) fun c => ?_
    ·have := of_decide_eq_true c
     refine hJt fun w => ?_
     have hs := w.sorted
     rw [he,List.pairwise_append] at hs
     have := hs.2.2 y (by simp) x (by simp)
     omega
    ·have hyx := of_decide_eq_false c
     refine tail fun z hz => ?_
     rcases List.mem_append.mp hz with hz | hz
     ·have := hI.1
      rw [List.pairwise_append] at this
      have := this.2.2 z hz y (by simp)
      omega
     ·obtain rfl : z = y := by simpa using hz
      omega
   ·have hk := of_decide_eq_false c
    have : pre = [] := List.length_eq_zero_iff.mp (by omega)
    subst this
    exact tail (by simp)
  ·intro _ hI
   refine Ok.ret ⟨fun _ => ⟨wt,hl,by omega,by omega,hI.1,?_,hI.2⟩,fun _ => rfl⟩
   intro x hx
   rcases Ja h.tasks with e | ⟨P,y,e⟩
   ·rw [e] at hx; simp at hx
   ·have hy := hlast y (by rw [e]; simp)
    have hp := hI.1
    rw [e] at hp hx
    rw [List.pairwise_append] at hp
    rcases List.mem_append.mp hx with hx | hx
    ·have := hp.2.2 x hx y (by simp)
     omega
    ·obtain rfl : x = y := by simpa using hx
     exact hy
 refine Ok.ite (fun c => ?_) fun c => ?_
 ·have hpos := of_decide_eq_true c
  have hw : w64 ((h.tasks.length : Int) - 1) = ((h.tasks.length - 1 : Nat) : Int) := by
   rw [Ax (by omega) (by omega)]
   omega
  rw [hw]
  refine Ok.guard (by omega) ?_
  have : Int.toNat ((h.tasks.length - 1 : Nat) : Int) = h.tasks.length - 1 := by omega
  rw [this,Hc (by omega)]
  refine Ok.ite (fun c => ?_) fun c => ?_
  ·have := of_decide_eq_true c
   exact bad fun w => by have := w.lt _ (List.getElem_mem (show h.tasks.length - 1 < h.tasks.length by omega)); omega
  ·have := of_decide_eq_false c
   refine loop fun x hx => ?_
   rw [List.getLast?_eq_getElem?] at hx
   have e : h.tasks[h.tasks.length - 1]? = some h.tasks[h.tasks.length - 1] := List.getElem?_eq_getElem (by omega)
   rw [e] at hx
   obtain rfl : h.tasks[h.tasks.length - 1] = x := by simpa using hx
   omega
 ·have := of_decide_eq_false c
  have e : h.tasks = [] := List.length_eq_zero_iff.mp (by omega)
  exact loop (by rw [e]; simp)
theorem Jh {h : Aa} (w : WfH h) : Ga h = some true := by
 obtain ⟨b,hb,e⟩ := Abr h
 rw [hb,e.mpr w]
theorem Xh {h : Aa} (w : ¬ WfH h) : Ga h = some false := by
 obtain ⟨b,hb,e⟩ := Abr h
 cases b
 ·exact hb
 ·exact absurd (e.mp rfl) w
theorem Rh {h : Aa} (w : WfH h) (id : Int) : Ha h id = some ((Es h.tasks id).elim (zK,false) (fun x => (x,true))) := by
 unfold Ha
 rw [Jh w]
 have := w.len
 simp only [Option.bind_some,Bool.not_true,Bool.false_eq_true,if_false]
 rw [if_pos (by omega)]
 exact Ht (fun k x n => rfl) rfl
theorem Ahd {h : Aa} (w : ¬ WfH h) (id : Int) : Ha h id = some (zK,false) := by
 unfold Ha
 rw [Xh w]
 rfl
def tasksK (h : Aa) (g : Int) : List Int := (h.tasks.filter (fun x => x.group == g)).map (·.id)
theorem Ags {h : Aa} (w : WfH h) (g : Int) : Hu h g = some (tasksK h g) := by
 unfold Hu
 rw [Jh w]
 have := w.len
 simp only [Option.bind_some,Bool.not_true,Bool.false_eq_true,if_false]
 rw [if_pos (by omega)]
 refine (Jt (p := fun x : At => x.group == g) (f := fun x : At => x.id) (r := some) ?_ (fun _ => rfl) (by simp; omega)).trans (by simp [tasksK])
 intro k x s n hs
 unfold Xq Pk
 rw [if_pos hs]
theorem Age {h : Aa} (w : ¬ WfH h) (g : Int) : Hu h g = some [] := by
 unfold Hu
 rw [Xh w]
 rfl
theorem AgU {L : List At} (h : L.Pairwise (fun a b => a.id < b.id)) {x y : At} (hx : x ∈ L) (hy : y ∈ L) (e : x.id = y.id) : x = y := by
 induction L with
 | nil => simp at hx
 | cons a r ih =>
  rw [List.pairwise_cons] at h
  rcases List.mem_cons.mp hx with ex | hx' <;> rcases List.mem_cons.mp hy with ey | hy'
  ·rw [ex,ey]
  ·have := h.1 y hy'; rw [ex] at e; omega
  ·have := h.1 x hx'; rw [ey] at e; omega
  ·exact ih h.2 hx' hy'
theorem Ry {L : List At} {id : Int} {x : At} (h : Es L id = some x) : x ∈ L ∧ x.id = id :=
 ⟨List.mem_of_find?_eq_some h,by have := List.find?_some h; simpa using this⟩
theorem AeG {L : List At} (hs : L.Pairwise (fun a b => a.id < b.id)) {x : At} (h : x ∈ L) : Es L x.id = some x := by
 unfold Es
 cases hf : L.find? (fun y => y.id == x.id) with
 | none =>
  rw [List.find?_eq_none] at hf
  have := hf x h
  simp at this
 | some y =>
  have h1 := List.mem_of_find?_eq_some hf
  have h2 := List.find?_some hf
  rw [AgU hs h1 h (by simpa using h2)]
theorem getK_iff {L : List At} (hs : L.Pairwise (fun a b => a.id < b.id)) {id : Int} {x : At} : Es L id = some x ↔ x ∈ L ∧ x.id = id :=
 ⟨Ry,fun ⟨h1,h2⟩ => by rw [← h2]; exact AeG hs h1⟩
end Go.Dm

/- Plain theory, part 8: tasks that come, go and move. -/
namespace Go.Dm
theorem AfT {α : Type} {M : List α} {m : Nat} {d : α} (h : m < M.length) : M.set m (M.getD m d) = M := by
 rw [Hc h]
 exact List.set_getElem_self h
theorem while_map {α R : Type} {f : α → α} {L : List α} {d : α} {body : List α × Int → (List α × Int → Option R) → Option R} {ret : List α → Option R} (hl : L.length ≤ 1000000)
  (hb : ∀ (M : List α) (m : Nat) n,M.length = L.length → m < L.length → body (M,(m : Int)) n = n (M.set m (f (M.getD m d)),((m + 1 : Nat) : Int)))
  (hr : ∀ (M : List α) n,M.length = L.length → body (M,(L.length : Int)) n = ret M) : whileO body En (L,0) = ret (L.map f) := by
 have key : ∀ (r m F : Nat),m + r = L.length → r < F → whileO body F ((L.take m).map f ++ L.drop m,(m : Int)) = ret (L.map f) := by
  intro r
  induction r with
  | zero =>
   intro m F hm hF
   obtain ⟨F,rfl⟩ : ∃ G,F = G + 1 := ⟨F - 1,by omega⟩
   obtain rfl : m = L.length := by omega
   rw [whileO,hr _ _ (by simp)]
   simp
  | succ r ih =>
   intro m F hm hF
   obtain ⟨F,rfl⟩ : ∃ G,F = G + 1 := ⟨F - 1,by omega⟩
   have hlt : m < L.length := by omega
   rw [whileO,hb _ _ _ (by simp; omega) hlt]
   have hd : L.drop m = L[m] :: L.drop (m + 1) := List.drop_eq_getElem_cons hlt
   have hml : (List.map f (List.take m L)).length = m := by
    rw [List.length_map,List.length_take]; omega
   have hg : ((L.take m).map f ++ L.drop m).getD m d = L[m] := by
    rw [hd,List.getD_eq_getElem?_getD,List.getElem?_append_right (by omega),hml,Nat.sub_self]
    rfl
   have ht : (L.take (m + 1)).map f ++ L.drop (m + 1) = (L.take m).map f ++ f L[m] :: L.drop (m + 1) := by
    have : L.take (m + 1) = L.take m ++ [L[m]] := by
     rw [List.take_add_one]; simp [hlt]
    rw [this,List.map_append,List.append_assoc]
    rfl
   rw [hg,hd,List.set_append_right _ _ (by omega),hml,Nat.sub_self,List.set_cons_zero,← ht]
   exact ih (m + 1) F (by omega) (by omega)
 have := key L.length 0 En (by omega) (by rw [Dd]; omega)
 simpa using this
def zH : Aa := { tree := zT,tasks := [],next := 0 }
theorem Sl (h : Aa) (h1 : h.tree.nodes.length ≤ 1000000) (h2 : h.tasks.length ≤ 1000000) : Ni h = some h := by
 unfold Ni
 rw [Si _ (by omega),Option.bind_some,if_pos (by omega)]
def addK (h : Aa) (x : At) : Aa × Int × Int :=
 if decide (128 ≤ h.tasks.length) || decide (2147483647 < h.next) then (zH,0,7)
 else ({ tree := h.tree,tasks := h.tasks ++ [{ id := h.next,process := if x.process == 0 then h.next else x.process,group := x.group,user := x.user }],next := h.next + 1 },h.next,0)
theorem Aex {h : Aa} (w : WfH h) (x : At) : Tq h x = some (addK h x) := by
 have hl := w.len
 have h2 := w.tree.len2
 have hn := w.n1
 have hm := w.n2
 apply Ok.eq
 unfold Tq addK
 refine Ok.ite (fun c => ?_) fun c => ?_
 ·simp only [Bool.or_eq_true,decide_eq_true_eq] at c
  rw [if_pos]
  ·exact Ok.ret rfl
  ·simp only [Bool.or_eq_true,decide_eq_true_eq]
   omega
 ·simp only [Bool.or_eq_false_iff,decide_eq_false_iff_not] at c
  rw [if_neg]
  ·refine Ok.step (Sl h (by omega) (by omega)) ?_
   unfold Ta
   rw [Ax (by omega) (by omega)]
   refine Ok.ite (fun c => ?_) fun c => ?_
   ·rw [if_pos (c := (x.process == 0) = true) c]
    exact Ok.guard (by omega) (Ok.ret rfl)
   ·rw [if_neg (c := (x.process == 0) = true) (by rw [c]; simp)]
    exact Ok.guard (by omega) (Ok.ret rfl)
  ·simp only [Bool.or_eq_true,decide_eq_true_eq]
   omega
theorem Zt {L M : List At} {p : Int} : Es (L ++ M) p = (Es L p).or (Es M p) := by
 unfold Es
 rw [List.find?_append]
theorem addK_wf {h : Aa} (w : WfH h) {x : At} (hg : Gc h.tree x.group = true) (u1 : 0 ≤ x.user) (u2 : x.user ≤ 1048576) (hp : x.process = 0 ∨ x ∈ h.tasks) {r : Aa × Int × Int} (e : addK h x = r) (hr : r.2.2 = 0) : WfH r.1 := by
 have hl := w.len
 have hn := w.n1
 have hm := w.n2
 unfold addK at e
 split at e
 ·subst e; simp at hr
 rename_i hc
 simp only [Bool.or_eq_true,decide_eq_true_eq,not_or] at hc
 subst e
 have hlt := w.lt
 refine ⟨w.tree,by simp; omega,by simp only; omega,by simp only; omega,?_,?_,?_⟩
 ·rw [List.pairwise_append]
  exact ⟨w.sorted,by simp,fun a ha b hb => by simp at hb; subst hb; exact hlt a ha⟩
 ·intro y hy
  simp only
  rcases List.mem_append.mp hy with hy | hy
  ·have := hlt y hy
   omega
  ·simp at hy; subst hy; simp only; omega
 ·intro y hy
  rcases List.mem_append.mp hy with hy | hy
  ·have v := w.val y hy
   obtain ⟨p,q1,q2,q3⟩ := v.ldr
   exact ⟨v.pos,v.grp,v.u1,v.u2,p,by simp only; rw [Zt,q1]; rfl,q2,q3⟩
  ·rw [List.mem_singleton] at hy
   subst hy
   refine ⟨by simp only; omega,hg,u1,u2,?_⟩
   simp only
   have hq : (x.process = 0 ∧ (if (x.process == 0) = true then h.next else x.process) = h.next) ∨ (x.process ≠ 0 ∧ (if (x.process == 0) = true then h.next else x.process) = x.process) := by
    by_cases h0 : x.process = 0
    ·exact .inl ⟨h0,by rw [if_pos (by simp [h0])]⟩
    ·exact .inr ⟨h0,by rw [if_neg (by simpa using h0)]⟩
   generalize (if (x.process == 0) = true then h.next else x.process) = q at hq
   rcases hq with ⟨h0,rfl⟩ | ⟨h0,rfl⟩
   ·refine ⟨{ id := h.next,process := h.next,group := x.group,user := x.user },?_,rfl,rfl⟩
    rw [Zt]
    have : Es h.tasks h.next = none := by
     unfold Es
     rw [List.find?_eq_none]
     intro z hz
     have := hlt z hz
     simp; omega
    rw [this]
    simp [Es]
   ·have v := w.val x (by rcases hp with h | h; exact absurd h h0; exact h)
    obtain ⟨p,q1,q2,q3⟩ := v.ldr
    exact ⟨p,by rw [Zt,q1]; rfl,q2,q3⟩
def Aej (h : Aa) (g u : Int) : Aa × Int × Int :=
 if decide (u < 0) || decide (1048576 < u) then (zH,0,1) else if !Gc h.tree g then (zH,0,4) else addK h { id := 0,process := 0,group := g,user := u }
theorem Agu {h : Aa} (w : WfH h) (g u : Int) : Sj h g u = some (Aej h g u) := by
 apply Ok.eq
 unfold Sj Aej
 refine Ok.step (Jh w) ?_
 simp only [Bool.not_true,Bool.false_eq_true,if_false]
 unfold Mi
 by_cases h1 : u < 0
 ·simp only [h1,decide_true,if_true,Bool.true_or]
  exact Ok.ret rfl
 by_cases h2 : u > 1048576
 ·have : 1048576 < u := by omega
  simp only [h2,decide_true,if_true,Bool.or_true,ite_self]
  exact Ok.ret rfl
 ·have h3 : ¬ 1048576 < u := by omega
  simp only [h1,h2,decide_false,Bool.or_self,Bool.false_eq_true,if_false]
  refine Ok.step (No w.tree g) ?_
  refine Ok.ite (fun c => ?_) fun c => ?_
  ·rw [if_pos c]; exact Ok.ret rfl
  ·rw [if_neg (c := (!Gc h.tree g) = true) (by rw [c]; simp)]
   refine Ok.step (Aex w _) (Ok.ret rfl)
theorem spawnK_wf {h : Aa} (w : WfH h) {g u : Int} {r : Aa × Int × Int} (e : Aej h g u = r) (hr : r.2.2 = 0) : WfH r.1 := by
 unfold Aej at e
 split at e
 ·subst e; simp at hr
 split at e
 ·subst e; simp at hr
 rename_i h1 h2
 simp only [Bool.or_eq_true,decide_eq_true_eq,not_or] at h1
 exact addK_wf w (by simpa using h2) (by simp only; omega) (by simp only; omega) (.inl rfl) e hr
def AdR (h : Aa) (k : Int) : Aa × Int × Int := (Es h.tasks k).elim (zH,0,4) (addK h)
theorem AfU {h : Aa} (w : WfH h) (k : Int) : Sz h k = some (AdR h k) := by
 apply Ok.eq
 unfold Sz AdR
 refine Ok.step (Jh w) ?_
 simp only [Bool.not_true,Bool.false_eq_true,if_false]
 refine Ok.step (Rh w k) ?_
 cases Es h.tasks k with
 | none => exact Ok.ret rfl
 | some x =>
  simp only [Option.elim_some,Bool.not_true,Bool.false_eq_true,if_false]
  exact Ok.step (Aex w _) (Ok.ret rfl)
theorem cloneK_wf {h : Aa} (w : WfH h) {k : Int} {r : Aa × Int × Int} (e : AdR h k = r) (hr : r.2.2 = 0) : WfH r.1 := by
 unfold AdR at e
 cases hk : Es h.tasks k with
 | none => rw [hk] at e; subst e; simp at hr
 | some x =>
  rw [hk] at e
  obtain ⟨hx,_⟩ := Ry hk
  have v := w.val x hx
  exact addK_wf w v.grp v.u1 v.u2 (.inr hx) e hr
def exitK (h : Aa) (k : Int) : Aa × Int :=
 (Es h.tasks k).elim (zH,4) fun _ => ({ tree := h.tree,tasks := h.tasks.filter (fun x => x.id != k && x.process != k),next := h.next },0)
theorem Ahc {h : Aa} (w : WfH h) (k : Int) : Us h k = some (exitK h k) := by
 have hl := w.len
 have h2 := w.tree.len2
 apply Ok.eq
 unfold Us exitK
 refine Ok.step (Jh w) ?_
 simp only [Bool.not_true,Bool.false_eq_true,if_false]
 refine Ok.step (Rh w k) ?_
 cases Es h.tasks k with
 | none => exact Ok.ret rfl
 | some x =>
  simp only [Option.elim_some,Bool.not_true,Bool.false_eq_true,if_false]
  refine Ok.step (Si _ (by omega)) ?_
  refine Ok.guard (by omega) ?_
  have e := Jt (p := fun x : At => x.id != k && x.process != k) (f := fun x : At => x) (xs := h.tasks) (s0 := []) (r := Ul h h.tree) (body := Uo k) (done := Ul h h.tree) (fun k x s n hs => by
   unfold Uo Qz
   rw [if_pos hs]) (fun _ => rfl) (by simp; omega)
  rw [e]
  refine Ok.ret ?_
  simp
theorem exitK_wf {h : Aa} (w : WfH h) {k : Int} {r : Aa × Int} (e : exitK h k = r) (hr : r.2 = 0) : WfH r.1 := by
 unfold exitK at e
 cases hk : Es h.tasks k with
 | none => rw [hk] at e; subst e; simp at hr
 | some x =>
  rw [hk] at e
  subst e
  have hs : (h.tasks.filter (fun x => x.id != k && x.process != k)).Pairwise (fun a b => a.id < b.id) := w.sorted.sublist List.filter_sublist
  refine ⟨w.tree,Nat.le_trans (List.length_filter_le _ _) w.len,w.n1,w.n2,hs,fun y hy => w.lt y (List.mem_filter.mp hy).1,fun y hy => ?_⟩
  obtain ⟨hy,hc⟩ := List.mem_filter.mp hy
  have v := w.val y hy
  obtain ⟨p,q1,q2,q3⟩ := v.ldr
  obtain ⟨m1,m2⟩ := Ry q1
  simp only [Bool.and_eq_true,bne_iff_ne] at hc
  refine ⟨v.pos,v.grp,v.u1,v.u2,p,?_,q2,q3⟩
  refine (getK_iff hs).mpr ⟨List.mem_filter.mpr ⟨m1,?_⟩,m2⟩
  simp only [Bool.and_eq_true,bne_iff_ne]
  omega
def putK (k g : Int) (y : At) : At := if y.id == k then { id := y.id,process := y.process,group := g,user := y.user } else y
def AdW (h : Aa) (k g : Int) : Aa × Int :=
 if (Es h.tasks k).isSome && Gc h.tree g then ({ tree := h.tree,tasks := h.tasks.map (putK k g),next := h.next },0) else (zH,4)
theorem AgC {h : Aa} (w : WfH h) (k g : Int) : Sn h k g = some (AdW h k g) := by
 have hl := w.len
 have h2 := w.tree.len2
 apply Ok.eq
 unfold Sn AdW
 refine Ok.step (Jh w) ?_
 simp only [Bool.not_true,Bool.false_eq_true,if_false]
 refine Ok.step (Rh w k) ?_
 cases hk : Es h.tasks k with
 | none => exact Ok.ret rfl
 | some x =>
  simp only [Option.elim_some,Bool.not_true,Bool.false_eq_true,if_false,Option.isSome_some,Bool.true_and]
  refine Ok.step (No w.tree g) ?_
  unfold Pv
  refine Ok.ite (fun c => ?_) fun c => ?_
  ·rw [if_neg (by simpa using c)]; exact Ok.ret rfl
  ·rw [if_pos (c := Gc h.tree g = true) (by simpa using c)]
   refine Ok.step (Sl h (by omega) (by omega)) ?_
   have e := while_map (f := putK k g) (L := h.tasks) (d := default) (body := Pt k g h) (ret := fun M => some (({ tree := h.tree,tasks := M,next := h.next } : Aa),0)) (by omega) (fun M m n hM hm => by
    unfold Pt Pp
    simp only
    have em : Int.toNat (m : Int) = m := by omega
    rw [em,if_pos (by simp; omega),if_pos (by omega),if_pos (by omega),Ax (by omega) (by omega)]
    have ew : (m : Int) + 1 = ((m + 1 : Nat) : Int) := by omega
    rw [ew]
    by_cases hc : (M.getD m default).id = k
    ·rw [if_pos (by rw [hc]; simp),if_pos (by omega),if_pos (by omega),putK,if_pos (by rw [hc]; simp)]
    ·have hc' : ((M.getD m default).id == k) = false := by simpa using hc
     rw [if_neg (by rw [hc']; simp),putK,if_neg (by rw [hc']; simp),AfT (by omega)]) (fun M n hM => by
    unfold Pt
    simp only
    rw [hM,if_neg (by simp)])
   rw [e]
   exact Ok.ret rfl
theorem Lk (k g : Int) (y : At) : (putK k g y).id = y.id ∧ (putK k g y).process = y.process ∧ (putK k g y).user = y.user := by
 unfold putK
 split <;> exact ⟨rfl,rfl,rfl⟩
theorem getK_map {L : List At} {f : At → At} (hf : ∀ y ∈ L,(f y).id = y.id) {p : Int} : Es (L.map f) p = (Es L p).map f := by
 induction L with
 | nil => rfl
 | cons a r ih =>
  unfold Es at *
  rw [List.map_cons,List.find?_cons,List.find?_cons,hf a (by simp)]
  cases (a.id == p)
  ·exact ih fun y hy => hf y (by simp [hy])
  ·rfl
theorem placeK_wf {h : Aa} (w : WfH h) {k g : Int} {r : Aa × Int} (e : AdW h k g = r) (hr : r.2 = 0) : WfH r.1 := by
 unfold AdW at e
 split at e
 case isFalse => subst e; simp at hr
 rename_i hc
 subst e
 simp only [Bool.and_eq_true] at hc
 refine ⟨w.tree,by simp; exact w.len,w.n1,w.n2,?_,?_,?_⟩
 ·rw [List.pairwise_map]
  refine w.sorted.imp fun h => ?_
  rw [(Lk k g _).1,(Lk k g _).1]
  exact h
 ·intro y hy
  obtain ⟨z,hz,rfl⟩ := List.mem_map.mp hy
  rw [(Lk k g _).1]
  exact w.lt z hz
 ·intro y hy
  obtain ⟨z,hz,rfl⟩ := List.mem_map.mp hy
  have v := w.val z hz
  obtain ⟨p,q1,q2,q3⟩ := v.ldr
  refine ⟨by rw [(Lk k g _).1]; exact v.pos,?_,by rw [(Lk k g _).2.2]; exact v.u1,by rw [(Lk k g _).2.2]; exact v.u2,putK k g p,?_,?_,?_⟩
  ·unfold putK
   split
   ·exact hc.2
   ·exact v.grp
  ·simp only
   rw [getK_map (fun y _ => (Lk k g y).1),(Lk k g _).2.1,q1]
   rfl
  ·rw [(Lk k g _).2.1,(Lk k g _).2.1,q2]
  ·rw [(Lk k g _).2.2,(Lk k g _).2.2,q3]
end Go.Dm

/- Plain theory, part 9: made hierarchies. -/
namespace Go.Dm
abbrev Tot {α : Type} (m : Option α) : Prop := Ok m (fun _ => True)
theorem Ev (t : Ae) (id : Int) : Tot (Dc t id) := by
 by_cases h : WfT t
 ·exact Ok.of_eq (Oh h id) trivial
 ·exact Ok.of_eq (Aac h id) trivial
theorem Agn (t : Ae) (id : Int) : Tot (Fw t id) := by
 unfold Fw
 exact Ok.bind (Ev t id) fun _ _ => Ok.ret trivial
theorem Acb (t : Ae) (id : Int) : (Jb t id).length ≤ t.nodes.length := by
 unfold Jb
 rw [List.length_map]
 exact List.length_filter_le _ _
theorem Vy (t : Ae) (id : Int) : Ok (Hj t id) (fun l => l.length ≤ 64) := by
 by_cases h : WfT t
 ·refine Ok.of_eq (Zh h id) ?_
  have := Acb t id
  have := h.len2
  split
  ·omega
  ·simp
 ·unfold Hj
  refine Ok.step (AeA h id) ?_
  exact Ok.ret (by simp)
theorem AgZ (t : Ae) (id : Int) : (ancN t id).length ≤ t.nodes.length := by
 unfold ancN
 have := Lw t.nodes.reverse id
 simp at this
 split
 ·exact this
 ·simp
theorem AbJ (t : Ae) (id : Int) : Ok (Ec t id) (fun l => l.length ≤ 64) := by
 by_cases h : WfT t
 ·refine Ok.of_eq (Ir h id) ?_
  have := AgZ t id
  have := h.len2
  omega
 ·unfold Ec
  refine Ok.step (AeA h id) ?_
  exact Ok.ret (by simp)
theorem Abt (h : Aa) (id : Int) : Tot (Ha h id) := by
 by_cases w : WfH h
 ·exact Ok.of_eq (Rh w id) trivial
 ·exact Ok.of_eq (Ahd w id) trivial
theorem Qd (h : Aa) (id : Int) : Tot (Hu h id) := by
 by_cases w : WfH h
 ·exact Ok.of_eq (Ags w id) trivial
 ·exact Ok.of_eq (Age w id) trivial
theorem Rz {α β : Type} {body : Nat → α → Unit → (Unit → Option β) → Option β} {done : Unit → Option β} {xs : List α} (hb : ∀ k x n,Tot (n ()) → Tot (body k x () n)) (hd : Tot (done ())) : Tot (Bg body done xs 0 ()) :=
 Ok.range (fun _ _ => True) trivial (fun _ _ _ _ _ _ _ hn => hb _ _ _ (hn () trivial)) (fun _ _ => hd)
theorem AdV (t : Ae) (id : Int) : Tot (Rc t id) := by
 unfold Rc
 refine Ok.bind (Ev _ _) fun _ _ => Ok.ite (fun _ => Ok.ret trivial) fun _ => ?_
 exact Ok.bind (Ev _ _) fun _ _ => Ok.ite (fun _ => Ok.ret trivial) fun _ => Ok.ret trivial
theorem Uy (t : Ae) (id : Int) : Tot (Kp t id) := by
 unfold Kp
 have hJ : ∀ r y,Tot (Iq r y) := fun r y => by
  unfold Iq La
  exact Ok.ite (fun _ => Ok.ret trivial) fun _ => Ok.ret trivial
 refine Ok.bind (Ev _ _) fun _ _ => Ok.ite (fun _ => Ok.ret trivial) fun _ => Ok.ite (fun _ => ?_) fun _ => hJ _ _
 exact Ok.bind (AdV _ _) fun _ _ => hJ _ _
theorem Abp (h : Aa) : Ok (Qh h) (fun b => b = true → WfH h) := by
 unfold Qh
 by_cases w : WfH h
 ·have := w.tree.len2
  refine Ok.step (Jh w) (Ok.guard (by omega) ?_)
  refine Ok.mono (P := fun _ => True) ?_ fun _ _ _ => w
  refine Rz (fun k x n hn => ?_) (Ok.ret trivial)
  unfold Xn
  have hJ : ∀ b,Tot (Jf n b) := fun b => by
   unfold Jf
   exact Ok.ite (fun _ => Ok.ret trivial) fun _ => hn
  refine Ok.bind (Uy _ _) fun _ _ => Ok.ite (fun _ => hJ _) fun _ => Ok.ite (fun _ => Ok.ite (fun _ => ?_) fun _ => hJ _) fun _ => hJ _
  exact Ok.bind (Qd _ _) fun _ _ => hJ _
 ·exact Ok.step (Xh w) (Ok.ret fun e => by simp at e)
theorem Pd (t : Ae) (id : Int) : Tot (Kh t id) := by
 unfold Kh
 refine Ok.bind (AbJ _ _) fun l hl => Ok.guard (by omega) ?_
 refine Rz (fun k x n hn => ?_) (Ok.ret trivial)
 unfold Vs
 exact Ok.bind (Ev _ _) fun _ _ => Ok.ite (fun _ => Ok.ret trivial) fun _ => hn
theorem So (t : Ae) (id : Int) (b : Bool) : Tot (Ma t id b) := by
 unfold Ma
 refine Ok.ite (fun _ => Ok.ret trivial) fun _ => ?_
 refine Ok.bind (Vy _ _) fun l hl => Ok.guard (by omega) ?_
 refine Rz (fun k x n hn => ?_) (Ok.ret trivial)
 unfold Zw
 exact Ok.bind (Ev _ _) fun _ _ => Ok.ite (fun _ => Ok.ret trivial) fun _ => hn
theorem AeZ {t : Ae} (w : WfT t) : ∀ (n : Nat) (id : Int),id.toNat < n → Tot (Ke n t id) := by
 intro n
 induction n with
 | zero => intro id h; omega
 | succ n ih =>
  intro id hlt
  unfold Ke Qf
  refine Ok.step (Oh w id) ?_
  cases hg : Sx t id with
  | none => exact Ok.ret trivial
  | some x =>
   obtain ⟨hx,hxi⟩ := Vf hg
   simp only [Option.elim_some,Bool.not_true,Bool.false_eq_true,if_false]
   refine Ok.ite (fun _ => Ok.ret trivial) fun _ => ?_
   refine Ok.step (Oh w x.parent) ?_
   cases hp : Sx t x.parent with
   | none => exact So t id false
   | some p =>
    obtain ⟨hpm,hpi⟩ := Vf hp
    simp only [Option.elim_some,if_true]
    refine Ok.ite (fun _ => So _ _ _) fun _ => ?_
    refine Ok.bind (ih p.id ?_) fun _ _ => So _ _ _
    have g1 := w.p.ge1 p hpm
    rcases w.p.par x hx with ⟨_,r⟩ | ⟨a,b,_⟩
    ·have := r.parent; omega
    ·omega
theorem Od (t : Ae) (id : Int) : Tot (Ls t id) := by
 by_cases w : WfT t
 ·by_cases hid : id.toNat < En
  ·exact AeZ w En id hid
  ·unfold Ls
   rw [Dd] at *
   unfold Ke Qf
   refine Ok.step (Oh w id) ?_
   cases hg : Sx t id with
   | none => exact Ok.ret trivial
   | some x =>
    obtain ⟨hx,hxi⟩ := Vf hg
    have := w.next x hx
    have := w.nextLe
    omega
 ·unfold Ls
  rw [Dd]
  unfold Ke Qf
  exact Ok.step (Aac w id) (Ok.ret trivial)
theorem Mw (h : Aa) : Ok (Kg h) (fun b => b = true → WfH h) := by
 unfold Kg
 refine Ok.bind (Abp h) fun b hb => ?_
 refine Ok.ite (fun _ => Ok.ret fun e => by simp at e) fun c => ?_
 have w : WfH h := hb (by simpa using c)
 have := w.len
 have := w.tree.len2
 refine Ok.mono (P := fun _ => True) ?_ fun _ _ _ => w
 refine Ok.guard (by omega) (Rz (fun k x n hn => ?_) ?_)
 ·unfold Zo
  refine Ok.bind (Abt _ _) fun _ _ => Ok.bind (Pd _ _) fun _ _ => Ok.bind (Pd _ _) fun _ _ => ?_
  exact Ok.ite (fun _ => Ok.ret trivial) fun _ => hn
 ·unfold Zs
  refine Ok.guard (by omega) (Rz (fun k x n hn => ?_) (Ok.ret trivial))
  have h18 : ∀ b,Tot (Jm n b) := fun b => by
   unfold Jm
   exact Ok.ite (fun _ => Ok.ret trivial) fun _ => hn
  have h17 : ∀ r b,Tot (Ku h x n r b) := fun r b => by
   unfold Ku
   refine Ok.ite (fun _ => Ok.ret trivial) fun _ => Ok.ite (fun _ => Ok.ite (fun _ => Ok.ite (fun _ => h18 _) fun _ => ?_) fun _ => ?_) fun _ => h18 _
   ·exact Ok.bind (Od _ _) fun _ _ => h18 _
   ·exact Ok.bind (Od _ _) fun _ _ => h18 _
  unfold Aag
  refine Ok.bind (Ev _ _) fun _ _ => Ok.bind (Od _ _) fun _ _ => ?_
  refine Ok.ite (fun _ => Ok.ite (fun _ => h17 _ _) fun _ => ?_) fun _ => h17 _ _
  exact Ok.bind (Qd _ _) fun _ _ => h17 _ _
theorem AeQ (h : Aa) (id a d : Int) : Tot (Sg h id a d) := by
 unfold Sg
 refine Ok.bind (Abp h) fun b hb => ?_
 have hf : Tot (Hv h id a d true) := Ok.ret trivial
 refine Ok.ite (fun _ => hf) fun c => ?_
 have w : WfH h := hb (by simpa using c)
 have := w.len
 have := w.tree.len2
 have hJ4 : ∀ r b,Tot (Lb h a d r b) := fun r b => by
  unfold Lb
  refine Ok.ite (fun _ => Ok.ret trivial) fun _ => ?_
  refine Ok.step (Sl h (by omega) (by omega)) ?_
  exact Ok.step (Zx h.tree _ (by omega)) (Ok.ret trivial)
 have hJ : ∀ b,Tot (Hv h id a d b) := fun b => by
  unfold Hv
  refine Ok.ite (fun _ => Ok.ret trivial) fun _ => ?_
  refine Ok.bind (Ev _ _) fun r _ => Ok.ite (fun _ => Ok.ret trivial) fun _ => ?_
  refine Ok.bind (Uy _ _) fun _ _ => Ok.ite (fun _ => Ok.ret trivial) fun _ => ?_
  refine Ok.bind (Vy _ _) fun l hl => Ok.guard (by omega) (Rz (fun k x n hn => ?_) ?_)
  ·unfold Xo
   exact Ok.bind (Ev _ _) fun _ _ => Ok.ite (fun _ => Ok.ret trivial) fun _ => hn
  ·unfold Xw
   refine Ok.ite (fun _ => Ok.ite (fun _ => ?_) fun _ => hJ4 _ _) fun _ => hJ4 _ _
   exact Ok.bind (Qd _ _) fun _ _ => hJ4 _ _
 unfold Xk
 refine Ok.step rfl (Ok.ite (fun _ => hf) fun _ => Ok.step rfl (Ok.ite (fun _ => hf) fun _ => hJ _))
theorem AeF (h : Aa) (id a d : Int) : Ok (Re h id a d) (fun r => r.2 = 0 → WfH r.1) := by
 unfold Re
 have bad : ∀ (x : Aa) (n : Int),n ≠ 0 → Ok (some (x,n)) (fun r : Aa × Int => r.2 = 0 → WfH r.1) := fun x n hn => Ok.ret fun e => absurd e hn
 refine Ok.bind (Mw h) fun _ _ => Ok.ite (fun _ => bad _ _ (by decide)) fun _ => ?_
 refine Ok.bind (AeQ _ _ _ _) fun r _ => Ok.ite (fun c => bad _ _ (by simpa using c)) fun _ => ?_
 refine Ok.bind (Mw r.1) fun b hb => Ok.ite (fun _ => bad _ _ (by decide)) fun c => ?_
 exact Ok.ret fun _ => hb (by simpa using c)
theorem Aed (h : Aa) (id : Int) : Ok (Pj h id) (fun r => r.2 = 0 → WfH r.1) := by
 unfold Pj
 have bad : ∀ (x : Aa) (n : Int),n ≠ 0 → Ok (some (x,n)) (fun r : Aa × Int => r.2 = 0 → WfH r.1) := fun x n hn => Ok.ret fun e => absurd e hn
 refine Ok.bind (Mw h) fun b hb => Ok.ite (fun _ => bad _ _ (by decide)) fun c => ?_
 have w : WfH h := hb (by simpa using c)
 have := w.len
 have := w.tree.len2
 have hJ : ∀ r b,Ok (Iv h id r b) (fun r => r.2 = 0 → WfH r.1) := fun r b => by
  unfold Iv
  refine Ok.ite (fun _ => bad _ _ (by decide)) fun _ => Ok.ite (fun _ => bad _ _ (by decide)) fun _ => ?_
  refine Ok.step (Sl h (by omega) (by omega)) (Ok.step (Zx h.tree _ (by omega)) ?_)
  refine Ok.bind (Qd _ _) fun _ _ => ?_
  unfold Mz
  refine Ok.ite (fun _ => bad _ _ (by decide)) fun _ => ?_
  refine Ok.bind (Mw _) fun b hb => Ok.ite (fun _ => bad _ _ (by decide)) fun c => ?_
  exact Ok.ret fun _ => hb (by simpa using c)
 refine Ok.bind (Ev _ _) fun _ _ => Ok.ite (fun _ => bad _ _ (by decide)) fun _ => Ok.ite (fun _ => bad _ _ (by decide)) fun _ => ?_
 refine Ok.bind (Ev _ _) fun _ _ => Ok.bind (Od _ _) fun _ _ => Ok.ite (fun _ => hJ _ _) fun _ => Ok.ite (fun _ => hJ _ _) fun _ => hJ _ _
theorem Ze (h : Aa) (g : Int) : Tot (On h g) := by
 unfold On
 refine Ok.bind (Mw h) fun b hb => Ok.ite (fun _ => Ok.ret trivial) fun c => ?_
 refine Ok.bind (Ev _ _) fun _ _ => Ok.ite (fun _ => Ok.ret trivial) fun _ => ?_
 refine Ok.bind (Od _ _) fun _ _ => Ok.ite (fun _ => Ok.ret trivial) fun _ => Ok.ite (fun _ => Ok.ret trivial) fun _ => Ok.ret trivial
theorem AaT (h : Aa) (k g : Int) : Ok (Jv h k g) (fun r => r.2 = 0 → WfH r.1) := by
 unfold Jv
 have bad : ∀ (x : Aa) (n : Int),n ≠ 0 → Ok (some (x,n)) (fun r : Aa × Int => r.2 = 0 → WfH r.1) := fun x n hn => Ok.ret fun e => absurd e hn
 refine Ok.bind (Mw h) fun b hb => Ok.ite (fun _ => bad _ _ (by decide)) fun c => ?_
 have w : WfH h := hb (by simpa using c)
 have hJ : ∀ r b,Ok (Hb h k g r b) (fun r => r.2 = 0 → WfH r.1) := fun r b => by
  unfold Hb
  refine Ok.ite (fun _ => bad _ _ (by decide)) fun _ => ?_
  refine Ok.bind (Ze _ _) fun _ _ => Ok.ite (fun c => bad _ _ (by simpa using c)) fun _ => ?_
  refine Ok.bind (Pd _ _) fun _ _ => Ok.bind (Pd _ _) fun _ _ => Ok.ite (fun _ => bad _ _ (by decide)) fun _ => ?_
  exact Ok.step (AgC w k g) (Ok.ret fun e => placeK_wf w rfl e)
 refine Ok.bind (Abt _ _) fun _ _ => Ok.ite (fun _ => hJ _ _) fun _ => Ok.bind (Agn _ _) fun _ _ => hJ _ _
theorem step_ok {d : Ao} (hd : Bx d) {h : Aa} (w : WfH h) : Ok (Nc d h) (fun r => WfH r.1 ∧ Bx r.2) := by
 have l1 := w.len
 have l2 := w.tree.len2
 unfold Nc
 refine Ok.bind (Abb hd h.tree (by omega)) fun r1 h1 => Ok.bind (Aaz h1 5 (by omega)) fun r2 h2 => ?_
 have hJ1 : ∀ y : Ao × Aa,Bx y.1 → WfH y.2 → Ok (Gi y) (fun r => WfH r.1 ∧ Bx r.2) := fun y a b => Ok.ret ⟨b,a⟩
 have hJ : ∀ b,Ok (Ix h r1 r2 b) (fun r => WfH r.1 ∧ Bx r.2) := fun b => by
  unfold Ix
  refine Ok.ite (fun _ => ?_) fun _ => Ok.ite (fun _ => ?_) fun _ => Ok.ite (fun _ => ?_) fun _ => hJ1 _ h2.1 w
  ·refine Ok.bind (AeO h2.1) fun r3 h3 => Ok.bind (AeF _ _ _ _) fun r4 h4 => Ok.ite (fun c => ?_) fun _ => hJ1 _ h3.1 w
   exact Ok.ret ⟨h4 (by simpa using c),h3.1⟩
  ·refine Ok.bind (Aed _ _) fun r4 h4 => Ok.ite (fun c => ?_) fun _ => hJ1 _ h2.1 w
   exact Ok.ret ⟨h4 (by simpa using c),h2.1⟩
  ·refine Ok.step (Oh w.tree _) (Ok.ite (fun c => ?_) fun _ => hJ1 _ h2.1 w)
   cases hg : Sx h.tree r1.1 with
   | none => rw [hg] at c; simp at c
   | some x =>
    obtain ⟨hx,hxi⟩ := Vf hg
    simp only [Option.elim_some]
    refine Ok.bind (Gp h2.1 3 (by omega) (by omega)) fun r3 h3 => ?_
    refine Ok.step (Zx _ _ (by omega)) (hJ1 _ h3.1 ?_)
    have v := w.tree.p.val x hx
    have wt := setT_wf w.tree (x := { id := x.id,parent := x.parent,name := x.name,control := x.control,kind := x.kind,owner := r3.1 }) hx rfl rfl rfl ⟨v.kind,v.c1,v.c2,h3.2.1,by simp only; omega⟩ (fun e => by
     rcases w.tree.p.par x hx with ⟨_,r⟩ | ⟨a,b,_⟩
     ·exact r.kind
     ·omega)
    refine ⟨wt,w.len,w.n1,w.n2,w.sorted,w.lt,fun y hy => ?_⟩
    have u := w.val y hy
    refine ⟨u.pos,?_,u.u1,u.u2,u.ldr⟩
    obtain ⟨z,hz,hzi⟩ := hasN_iff.mp u.grp
    refine hasN_iff.mpr ⟨Vp _ z,List.mem_map.mpr ⟨z,hz,rfl⟩,?_⟩
    unfold Vp
    split
    ·rename_i q
     have q : z.id = x.id := by simpa using q
     simp only
     omega
    ·exact hzi
 exact Ok.ite (fun _ => hJ _) fun _ => hJ _
theorem Agi {d : Ao} (hd : Bx d) (n m : Int) (n0 : 0 ≤ n) (n1 : n ≤ 100) (m0 : 0 ≤ m) (m1 : m ≤ 100) : Ok (Ij d n m) (fun r => WfH r.1 ∧ Bx r.2) := by
 unfold Ij
 refine Ok.step (a := { tree := newT,tasks := [],next := 1 }) rfl ?_
 refine Ok.bind (Tree_ok hd n n0 (by omega)) fun r1 ⟨w1,h1⟩ => ?_
 rw [Ax (by omega) (by omega)]
 refine Ok.bind (Gp h1 (n + 3) (by omega) (by omega)) fun r2 ⟨h2,a1,a2⟩ => ?_
 refine Ok.while (fun s => Bx s.1 ∧ WfH s.2.1 ∧ s.2.2 ≤ 2000) (fun s => s.2.2.toNat) ⟨h2,?_,by simp only; omega⟩ (by rw [Dd]; simp only; omega) ?_
 ·exact ⟨w1,by simp,by simp,by simp,by simp,by simp,by simp⟩
 rintro ⟨d,h,c⟩ k ⟨b1,b2,b3⟩ hk
 simp only at b1 b2 b3 hk
 unfold Mo
 simp only
 refine Ok.ite (fun c1 => ?_) fun _ => ?_
 ·have hc := of_decide_eq_true c1
  refine Ok.bind (step_ok b1 b2) fun r3 h3 => ?_
  rw [Ax (by omega) (by omega)]
  exact hk _ ⟨h3.2,h3.1,by simp only; omega⟩ (by simp only; omega)
 rw [Ax (by omega) (by omega)]
 refine Ok.bind (Gp b1 (m + 1) (by omega) (by omega)) fun r3 ⟨h3,a3,a4⟩ => ?_
 clear hk
 refine Ok.while (fun s => Bx s.1 ∧ WfH s.2.1 ∧ s.2.2 ≤ 2000) (fun s => s.2.2.toNat) ⟨h3,b2,by simp only; omega⟩ (by rw [Dd]; simp only; omega) ?_
 clear b1 b2 b3
 rintro ⟨d,h,c⟩ k ⟨b1,b2,b3⟩ hk
 simp only at b1 b2 b3 hk
 unfold Mx
 simp only
 refine Ok.ite (fun c1 => ?_) fun _ => Ok.ret ⟨b2,b1⟩
 have hc := of_decide_eq_true c1
 have l1 := b2.len
 have l2 := b2.tree.len2
 have hw : w64 (c - 1) = c - 1 := Ax (by omega) (by omega)
 have hJ13 : ∀ y : Ao × Aa,Bx y.1 → WfH y.2 → Ok (Dg (d,h,c) k y) (fun r => WfH r.1 ∧ Bx r.2) := fun y y1 y2 => by
  unfold Dg
  simp only
  rw [hw]
  exact hk _ ⟨y1,y2,by simp only; omega⟩ (by simp only; omega)
 have hJ16 : ∀ y : Ao × Aa,Bx y.1 → WfH y.2 → Ok (Eo (d,h,c) k y) (fun r => WfH r.1 ∧ Bx r.2) := fun y y1 y2 => by
  unfold Eo
  refine Ok.bind (Uf y1 8 (by omega)) fun r4 h4 => Ok.ite (fun _ => ?_) fun _ => hJ13 _ h4 y2
  have := y2.len
  refine Ok.bind (AeI h4 _ (by omega)) fun r5 h5 => Ok.step (Ahc y2 _) (Ok.ite (fun c => ?_) fun _ => hJ13 _ h5 y2)
  exact hJ13 _ h5 (exitK_wf y2 rfl (by simpa using c))
 have hJ15 : ∀ y : Ao × Aa,Bx y.1 → WfH y.2 → Ok (Em (d,h,c) k y) (fun r => WfH r.1 ∧ Bx r.2) := fun y y1 y2 => by
  unfold Em
  refine Ok.bind (Uf y1 4 (by omega)) fun r4 h4 => Ok.ite (fun _ => ?_) fun _ => hJ16 _ h4 y2
  have := y2.len
  have := y2.tree.len2
  refine Ok.bind (AeI h4 _ (by omega)) fun r5 h5 => Ok.bind (Abb h5 _ (by omega)) fun r6 h6 => Ok.bind (AaT _ _ _) fun r7 h7 => Ok.ite (fun c => ?_) fun _ => hJ16 _ h6 y2
  exact hJ16 _ h6 (h7 (by simpa using c))
 have hJ14 : ∀ (r : Int × Ao) (y : Aa),Bx r.2 → WfH y → Ok (Fu (d,h,c) k r y) (fun r => WfH r.1 ∧ Bx r.2) := fun r y y1 y2 => by
  unfold Fu
  refine Ok.bind (Uf y1 3 (by omega)) fun r4 h4 => Ok.ite (fun _ => ?_) fun _ => hJ15 _ h4 y2
  have := y2.len
  refine Ok.bind (AeI h4 _ (by omega)) fun r5 h5 => Ok.step (AfU y2 _) (Ok.ite (fun c => ?_) fun _ => hJ15 _ h5 y2)
  exact hJ15 _ h5 (cloneK_wf y2 rfl (by simpa using c))
 refine Ok.bind (Abb b1 _ (by omega)) fun r4 h4 => Ok.bind (Ze _ _) fun _ _ => Ok.ite (fun _ => hJ13 _ h4 b2) fun _ => ?_
 refine Ok.bind (Gp h4 3 (by omega) (by omega)) fun r5 h5 => Ok.step (Agu b2 _ _) (Ok.ite (fun c => ?_) fun _ => hJ14 _ _ h5.1 b2)
 exact hJ14 _ _ h5.1 (spawnK_wf b2 rfl (by simpa using c))
end Go.Dm

/- Plain theory, part 10: the program's own Check of trees. -/
namespace Go.Dm
theorem Adc (bs : ByteArray) (i : Nat) (r : List UInt8) : ByteArray.toList.loop bs i r = r.reverse ++ bs.data.toList.drop i := by
 by_cases h : i < bs.size
 ·rw [ByteArray.toList.loop,if_pos h,Adc bs (i + 1)]
  have hd : bs.data.toList.drop i = bs.get! i :: bs.data.toList.drop (i + 1) := by
   rw [List.drop_eq_getElem_cons (show i < bs.data.toList.length from h)]
   congr 1
   have : bs.get! i = bs.data[i]! := rfl
   rw [this,getElem!_pos bs.data i h]
   simp
  rw [hd]
  simp
 ·rw [ByteArray.toList.loop,if_neg h,List.drop_of_length_le (by simpa using h)]
  simp
termination_by bs.size - i
theorem Ahr (bs : ByteArray) : bs.toList = bs.data.toList := by
 unfold ByteArray.toList
 rw [Adc]
 simp
theorem beqS_eq {a b : ByteArray} (h : Dr a b = true) : a = b := by
 simp only [Dr,beq_iff_eq,Ahr] at h
 exact ByteArray.ext (Array.toList_inj.mp h)
theorem AgP {c : Int} (h0 : 0 ≤ c) (h : c ≤ 31) : Eb .i64 c 31 = 0 := by
 have : ∀ n : Fin 32,Eb .i64 ((n.val : Nat) : Int) 31 = 0 := by decide
 have := this ⟨c.toNat,by omega⟩
 simpa [Int.toNat_of_nonneg h0] using this
theorem Agl {c : Int} (h : 31 < c) (hc : c < 9223372036854775808) : Eb .i64 c 31 ≠ 0 := by
 obtain ⟨n,rfl⟩ : ∃ n : Nat,c = (n : Int) := ⟨c.toNat,by omega⟩
 intro e
 unfold Eb at e
 have hb : IntKind.i64.bits = 64 := rfl
 rw [hb] at e
 generalize hx : (BitVec.ofInt 64 (n : Int) &&& ~~~(BitVec.ofInt 64 31)) = x at e
 have hn : ∀ i,5 ≤ i → n.testBit i = false := by
  intro i hi
  by_cases h63 : i < 63
  ·have h0 : x.toNat < 2 ^ 64 := x.isLt
   have hle : x.toNat ≤ n := by
    rw [← hx,BitVec.toNat_and]
    refine Nat.le_trans Nat.and_le_left ?_
    rw [BitVec.ofInt_natCast,BitVec.toNat_ofNat]
    exact Nat.mod_le _ _
   have hw : IntKind.i64.wrap ((x.toNat : Nat) : Int) = ((x.toNat : Nat) : Int) := Yw (by omega) (by omega)
   rw [hw] at e
   have hx0 : x = 0#64 := by
    apply BitVec.eq_of_toNat_eq
    simp
    omega
   have : x.getLsbD i = false := by rw [hx0]; simp
   rw [← hx,BitVec.getLsbD_and,BitVec.getLsbD_not] at this
   have h31 : (BitVec.ofInt 64 31).getLsbD i = false := by
    have : (BitVec.ofInt 64 31) = BitVec.ofNat 64 31 := rfl
    rw [this,BitVec.getLsbD_ofNat]
    have : Nat.testBit 31 i = false := Nat.testBit_lt_two_pow (Nat.lt_of_lt_of_le (by decide : 31 < 2 ^ 5) (Nat.pow_le_pow_right (by decide) hi))
    simp [this]
   rw [h31] at this
   have e2 : (BitVec.ofInt 64 (n : Int)).getLsbD i = n.testBit i := by
    rw [BitVec.ofInt_natCast,BitVec.getLsbD_ofNat]
    simp
    omega
   rw [e2] at this
   have h64 : i < 64 := by omega
   simpa [h64] using this
  ·exact Nat.testBit_lt_two_pow (Nat.lt_of_lt_of_le (show n < 2 ^ 63 by omega) (Nat.pow_le_pow_right (by decide) (by omega)))
 have : n < 2 ^ 5 := Nat.lt_pow_two_of_testBit n hn
 omega
theorem AfD (s : ByteArray) (h : s.size ≤ 9223372036854775807) : Tj s = some (Ef s) := by
 apply Ok.eq
 unfold Tj
 refine Ok.guard (by rw [Oc]; exact h) ?_
 refine Ok.range (fun pre _ => pre.all Mr = true) rfl ?_ ?_
 ·intro pre x post _ n e hI hn
  unfold Xd Wj
  refine Ok.step rfl ?_
  refine Ok.ite (fun c => ?_) fun c => ?_
  ·refine Ok.ret ?_
   have : (Ia s).all Mr = false := by
    rw [e,List.all_append,List.all_cons]
    have : Mr x = false := by simpa only [Mr,Bool.not_eq_true'] using c
    simp [this]
   simp [Ef,this]
  ·refine hn () ?_
   have : Mr x = true := by simpa only [Mr,Bool.not_eq_false'] using c
   rw [List.all_append,hI]
   simp [this]
 ·intro _ hI
  unfold Yf Nd
  refine Ok.ite (fun c => ?_) fun c => ?_
  ·have hs : 0 < s.size := by
    rcases Nat.eq_zero_or_pos s.size with h0 | h0
    ·exfalso
     have : s = ByteArray.empty := by
      apply ByteArray.ext
      apply Array.ext
      ·exact h0
      ·intro i h1 h2
       simp at h2
     rw [this] at c
     simp [Afn] at c
    ·exact h0
   refine Ok.ite (fun c2 => ?_) fun c2 => ?_
   ·have := of_decide_eq_true c2
    refine Ok.guard hs (Ok.ret ?_)
    have h32 : s.size ≤ 32 := by omega
    simp [Ef,hs,h32,hI]
   ·have := of_decide_eq_false c2
    refine Ok.ret ?_
    have h32 : ¬ s.size ≤ 32 := by omega
    simp [Ef,h32]
  ·refine Ok.ret ?_
   have : s.size = 0 := by
    rw [beqS_eq (a := s) (b := ByteArray.empty) (by simpa using c)]
    rfl
   simp [Ef,this]
end Go.Dm

/- Plain theory, part 11: the program's Check of trees is the document's. -/
namespace Go.Dm
def NodeM (x : Ah) : Prop := x.name.size ≤ 9223372036854775807 ∧ x.control < 9223372036854775808
theorem Agh {pre : List Ah} {y x : Ah} (hl : pre.length ≤ 1000000) (hx : NodeM x) :
  Uv (pre ++ [y]) x = some (decide (y.id < x.id) && Ef x.name && (x.kind == 0 || x.kind == 1) && (pre ++ [y]).any (fun k => k.id == x.parent) && (pre ++ [y]).all (fun k => !(k.parent == x.parent && Dr k.name x.name))) := by
 apply Ok.eq
 unfold Uv
 have hw : w64 (((pre ++ [y]).length : Int) - 1) = (pre.length : Int) := by
  rw [Ax (by simp) (by simp; omega)]
  simp
 have ey : (pre ++ [y]).getD (Int.toNat (pre.length : Int)) default = y := by
  rw [show Int.toNat (pre.length : Int) = pre.length by omega]
  exact Agm (post := [])
 rw [hw,ey]
 refine Ok.guard (by simp; omega) ?_
 refine Ok.ite (fun c => ?_) fun c => ?_
 ·have := of_decide_eq_true c
  have : ¬ y.id < x.id := by omega
  refine Ok.ret ?_
  simp [this]
 have hlt : y.id < x.id := by
  have := of_decide_eq_false c
  omega
 refine Ok.step (AfD _ hx.1) ?_
 refine Ok.ite (fun c => ?_) fun c => ?_
 ·refine Ok.ret ?_
  have : Ef x.name = false := by simpa using c
  simp [this]
 have hv : Ef x.name = true := by simpa using c
 have hloop : (x.kind == 0 || x.kind == 1) = true → Ok (Jc (pre ++ [y]) x false) (· = (decide (y.id < x.id) && Ef x.name && (x.kind == 0 || x.kind == 1) && (pre ++ [y]).any (fun k => k.id == x.parent) && (pre ++ [y]).all (fun k => !(k.parent == x.parent && Dr k.name x.name)))) := by
  intro hk
  rw [hk,hv]
  simp only [hlt,decide_true,Bool.and_self,Bool.true_and]
  have hlp : (pre ++ [y]).length ≤ 9223372036854775807 := by simp; omega
  generalize pre ++ [y] = P at *
  unfold Jc
  refine Ok.guard hlp ?_
  refine Ok.range (fun pre s => s = pre.any (fun k => k.id == x.parent) ∧ pre.all (fun k => !(k.parent == x.parent && Dr k.name x.name)) = true) ⟨rfl,rfl⟩ ?_ ?_
  ·intro q z post s n e hI hn
   unfold Zy
   refine Ok.ite (fun c => ?_) fun c => ?_
   ·refine Ok.ret ?_
    have : P.all (fun k => !(k.parent == x.parent && Dr k.name x.name)) = false := by
     rw [e,List.all_append,List.all_cons,c]
     simp
    rw [this,Bool.and_false]
   ·refine hn _ ⟨?_,?_⟩
    ·rw [List.any_append,← hI.1]
     simp
    ·rw [List.all_append,hI.2,List.all_cons,c]
     rfl
  ·intro s hI
   refine Ok.ret ?_
   rw [hI.2,Bool.and_true]
   exact hI.1
 have hbad : (x.kind == 0 || x.kind == 1) = false → Ok (Jc (pre ++ [y]) x true) (· = (decide (y.id < x.id) && Ef x.name && (x.kind == 0 || x.kind == 1) && (pre ++ [y]).any (fun k => k.id == x.parent) && (pre ++ [y]).all (fun k => !(k.parent == x.parent && Dr k.name x.name)))) := by
  intro hk
  refine Ok.ret ?_
  rw [hk]
  simp
 refine Ok.ite (fun c => ?_) fun c => ?_
 ·have h0 : ¬ x.kind = 0 := by simpa using c
  by_cases h1 : x.kind = 1
  ·have : (x.kind != 1) = false := by simp [h1]
   rw [this]
   exact hloop (by simp [h1])
  ·have : (x.kind != 1) = true := by simpa using h1
   rw [this]
   exact hbad (by simp [h0,h1])
 ·exact hloop (by
   have : x.kind = 0 := by simpa using c
   simp [this])
theorem nodes_pre {L pre post : List Ah} {x : Ah} (h : WfP L) (e : L = pre ++ x :: post) (hp : pre ≠ []) : WfP pre ∧ Qj x ∧ NodeS pre x := by
 induction h generalizing post with
 | root z v r =>
  exfalso
  have : (pre ++ x :: post).length = 1 := by rw [← e]; rfl
  simp at this
  have := List.length_pos_iff.mpr hp
  omega
 | snoc L z w v s ih =>
  rcases Ja post with rfl | ⟨p',u,rfl⟩
  ·have := List.append_inj' (s₁ := L) (t₁ := [z]) (s₂ := pre) (t₂ := [x]) (by simpa using e) rfl
   obtain ⟨rfl,e2⟩ := this
   obtain rfl : z = x := by simpa using e2
   exact ⟨w,v,s⟩
  ·have e2 : L ++ [z] = (pre ++ x :: p') ++ [u] := by simpa using e
   have := List.append_inj' e2 rfl
   exact ih this.1
theorem up_pre {L pre post : List Ah} (h : WfP L) (e : L = pre ++ post) (hp : WfP pre) {x : Ah} (hx : x ∈ pre) : upR L.reverse x.id = upR pre.reverse x.id := by
 rw [e,List.reverse_append]
 refine Vr fun y hy => ?_
 have hs := h.sorted
 rw [e,List.pairwise_append] at hs
 have := hs.2.2 x hx y (by simpa using hy)
 omega
theorem Abn (t : Ae) (hm : ∀ x ∈ t.nodes,NodeM x) : Ok (Nk t) (fun b => b = true ↔ WfT t) := by
 have bad : ¬ WfT t → Ok (some false) (fun b => b = true ↔ WfT t) := fun hn => Ok.ret ⟨fun e => by simp at e,fun w => absurd w hn⟩
 unfold Nk
 refine Ok.ite (fun c => ?_) fun c => ?_
 ·have := of_decide_eq_true c
  exact bad fun w => by have := w.len1; omega
 have l1 := of_decide_eq_false c
 refine Ok.ite (fun c => ?_) fun c => ?_
 ·have := of_decide_eq_true c
  exact bad fun w => by have := w.len2; omega
 have l2 := of_decide_eq_false c
 refine Ok.guard (by omega) ?_
 unfold Zn
 refine Ok.step rfl ?_
 unfold Ng
 have hroot0 : WfT t → ((((t.nodes.getD 0 default).id == 1 && (t.nodes.getD 0 default).parent == 0) && Dr (t.nodes.getD 0 default).name ByteArray.empty) && (t.nodes.getD 0 default).kind == 0) = true := by
  intro w
  obtain ⟨x,r,e,hr⟩ := w.root
  rw [e]
  simp [hr.id,hr.parent,hr.name,hr.kind]
 refine Ok.ite (fun c => ?_) fun c => ?_
 ·exact bad fun w => by rw [hroot0 w] at c; simp at c
 have hR : Zi (t.nodes.getD 0 default) := by
  simp only [Bool.not_eq_false',Bool.and_eq_true,beq_iff_eq] at c
  exact ⟨c.1.1.1,c.1.1.2,c.1.2,c.2⟩
 refine Ok.guard (by omega) ?_
 refine Ok.range (fun pre s => (pre = [] ∧ ∀ i,s.get i = 0) ∨ (WfP pre ∧ (∀ y ∈ pre,s.get y.id = ((upR pre.reverse y.id).length : Int) - 1 ∧ (upR pre.reverse y.id).length ≤ 9) ∧ ∀ i,(∀ y ∈ pre,y.id ≠ i) → s.get i = 0)) (.inl ⟨rfl,fun i => rfl⟩) ?_ ?_
 ·intro pre x post s n he hI hn
  have hxm : x ∈ t.nodes := by rw [he]; simp
  have hJ : ∀ b,(b = true → ¬ WfT t) → (b = false → Qj x ∧ (pre ≠ [] → NodeS pre x)) → (Qj x → pre = [] → Zi x) → Ok (Gj pre.length x s n b) (fun b => b = true ↔ WfT t) := by
   intro b hbt hbf hroot
   unfold Gj
   refine Ok.ite (fun c => bad (hbt c)) fun c => ?_
   obtain ⟨hv,hs⟩ := hbf c
   unfold Pf
   rcases hI with ⟨rfl,hz⟩ | ⟨hw,hd,hz⟩
   ·simp only [List.length_nil,Int.ofNat_eq_natCast,Int.cast_ofNat_Int,gt_iff_lt,Int.lt_irrefl,decide_false,Bool.false_eq_true,if_false]
    rw [hz]
    simp only [Int.reduceLT,decide_false,Bool.false_eq_true,if_false]
    have hr := hroot hv rfl
    refine hn _ (.inr ⟨.root x hv hr,?_,fun i _ => hz i⟩)
    intro y hy
    obtain rfl : y = x := by simpa using hy
    rw [hz]
    simp [upR,hr.parent]
   ·have hne : pre ≠ [] := by
     intro e
     have := hw.pos
     simp [e] at this
    have hs := hs hne
    have hpos := hw.pos
    have hgt : decide (((pre.length : Nat) : Int) > 0) = true := by simp; omega
    rw [hgt]
    simp only [if_true]
    obtain ⟨p,hp,hpp⟩ := hs.parent
    have hdp := hd p hp
    rw [hpp] at hdp
    have hup : upR (pre ++ [x]).reverse x.id = x.id :: upR pre.reverse x.parent := by
     rw [List.reverse_append,List.reverse_cons,List.reverse_nil,List.nil_append,List.singleton_append,upR,if_pos (by simp)]
    have hgx : (s.set x.id (w64 (s.get x.parent + 1))).get x.id = ((upR pre.reverse x.parent).length : Int) := by
     rw [Aah,if_pos rfl,hdp.1,Ax (by omega) (by omega)]
     omega
    have hwx : WfP (pre ++ [x]) := .snoc pre x hw hv hs
    refine Ok.ite (fun c => ?_) fun c => ?_
    ·refine bad fun w => ?_
     have := of_decide_eq_true c
     rw [hgx] at this
     have hdx := w.depth x hxm
     unfold upT at hdx
     rw [up_pre w.p (show t.nodes = (pre ++ [x]) ++ post by rw [he]; simp) hwx (by simp),hup] at hdx
     simp at hdx
     omega
    ·have hle := of_decide_eq_false c
     rw [hgx] at hle
     refine hn _ (.inr ⟨hwx,?_,?_⟩)
     ·intro y hy
      rcases List.mem_append.mp hy with hy | hy
      ·have hlt := hs.lt y hy
       rw [Aah,if_neg (by omega),AbD (by omega)]
       exact hd y hy
      ·obtain rfl : y = x := by simpa using hy
       rw [hgx,hup]
       simp
       omega
     ·intro i hi
      have := hi x (by simp)
      rw [Aah,if_neg (by omega)]
      exact hz i fun y hy => hi y (by simp [hy])
  have hroot : Qj x → pre = [] → Zi x := by
   intro _ e
   subst e
   rw [he] at hR
   exact hR
  unfold Xe
  have hbad : ∀ P : Prop,(WfT t → P) → ¬ P → Ok (Gj pre.length x s n true) (fun b => b = true ↔ WfT t) := fun P h1 h2 => hJ true (fun _ w => h2 (h1 w)) (by simp) hroot
  refine Ok.ite (fun c => ?_) fun c => ?_
  ·have := of_decide_eq_true c
   exact hbad (0 ≤ x.control) (fun w => (w.p.val x hxm).c1) (by omega)
  have c1 := of_decide_eq_false c
  refine Ok.ite (fun c => ?_) fun c => ?_
  ·refine hbad (x.control ≤ 31) (fun w => (w.p.val x hxm).c2) fun h => ?_
   rw [AgP (by omega) h] at c
   simp at c
  have c2 : x.control ≤ 31 := by
   by_cases h : x.control ≤ 31
   ·exact h
   ·have := Agl (c := x.control) (by omega) (hm x hxm).2
    have c' : Eb .i64 x.control 31 = 0 := by simpa using c
    exact absurd c' this
  refine Ok.ite (fun c => ?_) fun c => ?_
  ·have := of_decide_eq_true c
   exact hbad (0 ≤ x.owner) (fun w => (w.p.val x hxm).o1) (by omega)
  have o1 := of_decide_eq_false c
  refine Ok.ite (fun c => ?_) fun c => ?_
  ·have := of_decide_eq_true c
   exact hbad (x.owner ≤ 1048576) (fun w => (w.p.val x hxm).o2) (by omega)
  have o2 := of_decide_eq_false c
  refine Ok.ite (fun c => ?_) fun c => ?_
  ·have hk := of_decide_eq_true c
   have hle : pre.length ≤ t.nodes.length := by rw [he]; simp
   refine Ok.guard (by omega) ?_
   have ht : t.nodes.take pre.length = pre := by rw [he]; simp
   rw [ht]
   rcases Ja pre with rfl | ⟨pr,y,rfl⟩
   ·simp at hk
   have hw : WfP (pr ++ [y]) := by
    rcases hI with ⟨e,_⟩ | ⟨h,_⟩
    ·simp at e
    ·exact h
   refine Ok.step (Agh (by simp at hle; omega) (hm x hxm)) ?_
   refine hJ _ ?_ ?_ hroot
   ·intro hb w
    obtain ⟨_,v,s⟩ := nodes_pre w.p he (by simp)
    have a1 := s.lt y (by simp)
    have a2 := s.valid
    have a3 : (x.kind == 0 || x.kind == 1) = true := by
     rcases v.kind with h | h <;> simp [h]
    have a4 : (pr ++ [y]).any (fun k => k.id == x.parent) = true := by
     obtain ⟨p,hp,hpp⟩ := s.parent
     exact List.any_eq_true.mpr ⟨p,hp,by simp [hpp]⟩
    have a5 : (pr ++ [y]).all (fun k => !(k.parent == x.parent && Dr k.name x.name)) = true := by
     rw [List.all_eq_true]
     intro k hk
     by_cases q : k.parent = x.parent
     ·simp [s.fresh k hk q]
     ·simp [q]
    simp only [a1,a2,a3,a4,a5,decide_true] at hb
    simp at hb
   ·intro hb
    simp only [Bool.not_eq_false',Bool.and_eq_true,decide_eq_true_eq,List.any_eq_true,List.all_eq_true,beq_iff_eq,Bool.or_eq_true] at hb
    obtain ⟨⟨⟨⟨a1,a2⟩,a3⟩,a4⟩,a5⟩ := hb
    refine ⟨⟨a3,by omega,c2,by omega,by omega⟩,fun _ => ⟨?_,a2,a4,?_⟩⟩
    ·intro z hz
     have hs := hw.sorted
     rw [List.pairwise_append] at hs
     rcases List.mem_append.mp hz with hz | hz
     ·have := hs.2.2 z hz y (by simp)
      omega
     ·obtain rfl : z = y := by simpa using hz
      exact a1
    ·intro z hz hp
     have := a5 z hz
     simpa [hp] using this
  ·have hk := of_decide_eq_false c
   have e : pre = [] := List.length_eq_zero_iff.mp (by omega)
   refine hJ false (by simp) (fun _ => ⟨?_,fun h => absurd e h⟩) hroot
   subst e
   rw [he] at hR
   exact ⟨.inl hR.kind,by omega,c2,by omega,by omega⟩
 ·intro s hI
  unfold Xv Ny
  have hw : w64 ((t.nodes.length : Int) - 1) = ((t.nodes.length - 1 : Nat) : Int) := by
   rw [Ax (by omega) (by omega)]
   omega
  rw [hw]
  refine Ok.guard (by omega) ?_
  have : Int.toNat ((t.nodes.length - 1 : Nat) : Int) = t.nodes.length - 1 := by omega
  rw [this]
  rcases hI with ⟨e,_⟩ | ⟨hp,hd,_⟩
  ·rw [e] at l1; simp at l1
  refine Ok.ite (fun c => ?_) fun c => ?_
  ·have hc := of_decide_eq_true c
   refine Ok.ret ⟨fun e => ?_,fun w => ?_⟩
   ·exact ⟨by omega,by omega,hp.split,fun x hx => (hd x hx).2,hc,by simpa using e⟩
   ·simpa using w.nextLe
  ·have := of_decide_eq_false c
   exact bad fun w => by have := w.last; omega
theorem WfP.names {L : List Ah} (h : WfP L) : ∀ x ∈ L,NodeM x := by
 intro x hx
 have v := h.val x hx
 refine ⟨?_,by have := v.c2; omega⟩
 rcases h.par x hx with ⟨_,r⟩ | ⟨_,_,_,hv⟩
 ·rw [beqS_eq r.name]
  decide
 ·simp only [Ef,Bool.and_eq_true,decide_eq_true_eq] at hv
  omega
theorem AgH {t : Ae} (w : WfT t) : Nk t = some true := by
 obtain ⟨b,hb,e⟩ := Abn t w.p.names
 rw [hb,e.mpr w]
end Go.Dm

/- Plain theory, part 12: subtrees. -/
namespace Go.Dm
theorem Om {α : Type} {p : α → Bool} {xs : List α} {body : Nat → α → Unit → (Unit → Option Int) → Option Int} {done : Unit → Option Int}
  (hb : ∀ k x n,body k x () n = if p x then some ((k : Nat) : Int) else n ()) (hd : done () = some (-1)) : Bg body done xs 0 () = some ((xs.findIdx? p).elim (-1) (fun i => (i : Int))) := by
 have key : ∀ (ys : List α) (k : Nat),Bg body done ys k () = some ((ys.findIdx? p).elim (-1) (fun i => ((i + k : Nat) : Int))) := by
  intro ys
  induction ys with
  | nil => intro k; simp [Bg,hd]
  | cons x r ih =>
   intro k
   rw [Bg,hb,List.findIdx?_cons]
   cases hp : p x
   ·simp only [Bool.false_eq_true,if_false]
    rw [ih (k + 1)]
    cases r.findIdx? p with
    | none => rfl
    | some i =>
     simp only [Option.map_some,Option.elim_some]
     congr 2
     omega
   ·simp
 have := key xs 0
 simpa using this
theorem Pi {α : Type} (p : α → Bool) (xs : List α) (d : α) :
  (∃ i,i < xs.length ∧ xs.findIdx? p = some i ∧ xs.find? p = some (xs.getD i d)) ∨ (xs.findIdx? p = none ∧ xs.find? p = none) := by
 induction xs with
 | nil => exact .inr ⟨rfl,rfl⟩
 | cons x r ih =>
  rw [List.findIdx?_cons,List.find?_cons]
  cases hp : p x
  ·rcases ih with ⟨i,h1,h2,h3⟩ | ⟨h1,h2⟩
   ·refine .inl ⟨i + 1,by simp; omega,?_,?_⟩
    ·simp [h2]
    ·simpa using h3
   ·refine .inr ⟨?_,?_⟩
    ·simp [h1]
    ·simpa using h2
  ·exact .inl ⟨0,by simp,by simp,by simp⟩
theorem AhR (h : Aa) (id : Int) (hl : h.tasks.length ≤ 1000000) : Aaj h id = some ((h.tasks.findIdx? (fun x => x.id == id)).elim (-1) (fun i => (i : Int))) := by
 unfold Aaj Fq
 rw [if_pos (by omega),Om (p := fun x : At => x.id == id) (fun k x n => rfl) rfl]
 rfl
theorem Acs (h : Aa) (id : Int) (hl : h.tasks.length ≤ 1000000) : Px h id = some ((Es h.tasks id).elim (zK,false) (fun x => (x,true))) := by
 unfold Px Es
 rw [AhR h id hl,Option.bind_some]
 rcases Pi (fun x : At => x.id == id) h.tasks default with ⟨i,h1,h2,h3⟩ | ⟨h1,h2⟩
 ·rw [h2,h3,Option.elim_some,Option.elim_some,if_neg (by simp),if_pos (by omega),show Int.toNat (i : Int) = i by omega]
 ·rw [h1,h2]
  rfl
theorem AbZ (t : Ae) (id : Int) (hl : t.nodes.length ≤ 1000000) : Nh t id = some ((t.nodes.findIdx? (fun x => x.id == id)).elim (-1) (fun i => (i : Int))) := by
 unfold Nh Fe
 rw [if_pos (by omega),Om (p := fun x : Ah => x.id == id) (fun k x n => rfl) rfl]
 rfl
theorem AeX (t : Ae) (id : Int) (hl : t.nodes.length ≤ 1000000) : Qw t id = some ((Sx t id).elim (zN,false) (fun x => (x,true))) := by
 unfold Qw Sx
 rw [AbZ t id hl,Option.bind_some]
 rcases Pi (fun x : Ah => x.id == id) t.nodes default with ⟨i,h1,h2,h3⟩ | ⟨h1,h2⟩
 ·rw [h2,h3,Option.elim_some,Option.elim_some,if_neg (by simp),if_pos (by omega),show Int.toNat (i : Int) = i by omega]
 ·rw [h1,h2]
  rfl
theorem Abj (t : Ae) (id : Int) (hl : t.nodes.length ≤ 1000000) : Ok (Nh t id) (fun i => decide (i < 0) = !Gc t id ∧ decide (i ≥ 0) = Gc t id) := by
 refine Ok.of_eq (AbZ t id hl) ?_
 unfold Gc Sx
 rcases Pi (fun x : Ah => x.id == id) t.nodes default with ⟨i,h1,h2,h3⟩ | ⟨h1,h2⟩
 ·rw [h2,h3]
  have : ¬ (i : Int) < 0 := by omega
  simp [this]
 ·rw [h1,h2]
  simp
theorem Acu (t : Ae) (id : Int) (hl : t.nodes.length ≤ 1000000) : Lv t id = some (Jb t id) := by
 unfold Lv
 rw [if_pos (by omega)]
 refine (Jt (p := fun x : Ah => x.parent == id) (f := fun x : Ah => x.id) (r := some) ?_ (fun _ => rfl) (by simp; omega)).trans (by simp [Jb])
 intro k x s n hs
 unfold Qn Jz
 rw [if_pos hs]
theorem AdH {α : Type} [DecidableEq α] : ∀ {l m : List α},l.Nodup → (∀ x ∈ l,x ∈ m) → l.length ≤ m.length
 | [],_,_,_ => by simp
 | a :: r,m,hn,hs => by
  rw [List.nodup_cons] at hn
  have ha := hs a (by simp)
  have := AdH (l := r) (m := m.erase a) hn.2 fun x hx => by
   have hne : x ≠ a := fun e => hn.1 (by rw [← e]; exact hx)
   rw [List.mem_erase_of_ne hne]
   exact hs x (by simp [hx])
  rw [List.length_erase_of_mem ha] at this
  have := List.length_pos_of_mem ha
  simp
  omega
theorem WfT.id_pos {t : Ae} (w : WfT t) {x : Ah} (h : x ∈ t.nodes) : 1 ≤ x.id := w.p.ge1 x h
theorem WfT.par_lt {t : Ae} (w : WfT t) {x : Ah} (h : x ∈ t.nodes) : x.parent < x.id := by
 rcases w.p.par x h with ⟨h1,r⟩ | ⟨_,h2,_⟩
 ·rw [r.parent]; omega
 ·exact h2
theorem Nf {t : Ae} {x k : Int} (h : k ∈ upT t x) : ∃ n ∈ t.nodes,n.id = x := by
 by_cases e : ∃ n ∈ t.nodes,n.id = x
 ·exact e
 ·have : upT t x = [] := Abe fun n hn hx => e ⟨n,by simpa using hn,hx⟩
  rw [this] at h
  simp at h
theorem WfT.induct {t : Ae} (w : WfT t) {P : Ah → Prop} (step : ∀ x ∈ t.nodes,(∀ y ∈ t.nodes,y.id = x.parent → P y) → P x) : ∀ x ∈ t.nodes,P x := by
 have key : ∀ (n : Nat),∀ x ∈ t.nodes,x.id.toNat < n → P x := by
  intro n
  induction n with
  | zero => intro x _ h; omega
  | succ n ih =>
   intro x hx h
   refine step x hx fun y hy e => ih y hy ?_
   have := w.par_lt hx
   have := w.id_pos hx
   omega
 intro x hx
 exact key _ x hx (Nat.lt_succ_self _)
theorem up_le {t : Ae} (w : WfT t) : ∀ x ∈ t.nodes,∀ k ∈ upT t x.id,k ≤ x.id := by
 refine w.induct fun x hx ih k hk => ?_
 rw [w.up hx] at hk
 rcases List.mem_cons.mp hk with rfl | hk
 ·exact Int.le_refl _
 ·obtain ⟨y,hy,e⟩ := Nf hk
  rw [← e] at hk
  have := ih y hy e k hk
  have := w.par_lt hx
  omega
theorem AcL {t : Ae} (w : WfT t) {x : Ah} (hx : x ∈ t.nodes) : x.id ∈ upT t x.id := by
 rw [w.up hx]
 simp
theorem up_mem {t : Ae} (w : WfT t) : ∀ x ∈ t.nodes,∀ k ∈ upT t x.id,∃ n ∈ t.nodes,n.id = k := by
 refine w.induct fun x hx ih k hk => ?_
 rw [w.up hx] at hk
 rcases List.mem_cons.mp hk with rfl | hk
 ·exact ⟨x,hx,rfl⟩
 ·obtain ⟨y,hy,e⟩ := Nf hk
  rw [← e] at hk
  exact ih y hy e k hk
theorem AdI {t : Ae} (w : WfT t) {k y : Int} (h2 : k ∈ upT t y) : ∀ x ∈ t.nodes,y ∈ upT t x.id → k ∈ upT t x.id := by
 refine w.induct fun x hx ih h1 => ?_
 have e := w.up hx
 rw [e] at h1
 rcases List.mem_cons.mp h1 with rfl | h1
 ·exact h2
 ·rw [e]
  obtain ⟨z,hz,ez⟩ := Nf h1
  rw [← ez] at h1
  have := ih z hz ez h1
  rw [ez] at this
  exact List.mem_cons_of_mem _ this
theorem up_child {t : Ae} (w : WfT t) {y : Int} : ∀ x ∈ t.nodes,y ∈ upT t x.id → x.id = y ∨ ∃ c ∈ Jb t y,c ∈ upT t x.id := by
 refine w.induct fun x hx ih h1 => ?_
 have e := w.up hx
 rw [e] at h1
 rcases List.mem_cons.mp h1 with rfl | h1
 ·exact .inl rfl
 ·obtain ⟨z,hz,ez⟩ := Nf h1
  rw [← ez] at h1
  refine .inr ?_
  rcases ih z hz ez h1 with h | ⟨c,hc,hcu⟩
  ·refine ⟨x.id,?_,AcL w hx⟩
   unfold Jb
   exact List.mem_map.mpr ⟨x,List.mem_filter.mpr ⟨hx,by simp; omega⟩,rfl⟩
  ·refine ⟨c,hc,?_⟩
   rw [e]
   rw [ez] at hcu
   exact List.mem_cons_of_mem _ hcu
theorem kids_iff {t : Ae} {y c : Int} : c ∈ Jb t y ↔ ∃ x ∈ t.nodes,x.parent = y ∧ x.id = c := by
 unfold Jb
 constructor
 ·intro h
  obtain ⟨x,hx,e⟩ := List.mem_map.mp h
  obtain ⟨h1,h2⟩ := List.mem_filter.mp hx
  exact ⟨x,h1,by simpa using h2,e⟩
 ·rintro ⟨x,h1,h2,h3⟩
  exact List.mem_map.mpr ⟨x,List.mem_filter.mpr ⟨h1,by simp [h2]⟩,h3⟩
theorem ids_nodup {t : Ae} (w : WfT t) : (t.nodes.map (·.id)).Nodup := by
 have := w.sorted
 unfold List.Nodup
 rw [List.pairwise_map]
 exact this.imp fun h => by omega
theorem AhB {t : Ae} (w : WfT t) (y : Int) : (Jb t y).Nodup := by
 unfold Jb List.Nodup
 rw [List.pairwise_map]
 exact (w.sorted.sublist List.filter_sublist).imp fun h => by omega
theorem AcV {t : Ae} (w : WfT t) (k : Int) : Ok (Nb t k) (fun l => l.Nodup ∧ l.length ≤ t.nodes.length ∧ ∀ x,x ∈ l ↔ k ∈ upT t x) := by
 have l2 := w.len2
 unfold Nb
 refine Ok.bind (Abj t k (by omega)) fun i hi => ?_
 refine Ok.ite (fun c => ?_) fun c => ?_
 ·refine Ok.ret ⟨List.nodup_nil,by simp,fun x => ⟨fun h => by simp at h,fun h => ?_⟩⟩
  exfalso
  have hno : Gc t k = false := by
   rw [hi.1] at c
   simpa using c
  obtain ⟨n,hn,e⟩ := Nf h
  rw [← e] at h
  obtain ⟨m,hm,em⟩ := up_mem w n hn k h
  have := hasN_iff.mpr ⟨m,hm,em⟩
  rw [this] at hno
  simp at hno
 have hk : Gc t k = true := by
  rw [hi.1] at c
  simpa using c
 obtain ⟨kn,hkn,hke⟩ := hasN_iff.mp hk
 let I : List Int × List Int → Prop := fun s => (s.1 ++ s.2).Nodup ∧ (∀ z ∈ s.1 ++ s.2,k ∈ upT t z) ∧ (∀ z ∈ s.1 ++ s.2,z = k ∨ ∃ n ∈ t.nodes,n.id = z ∧ n.parent ∈ s.1) ∧ (∀ x,k ∈ upT t x → x ∈ s.1 ∨ ∃ y ∈ s.2,y ∈ upT t x)
 have hbound : ∀ s,I s → s.1.length + s.2.length ≤ t.nodes.length := by
  intro s hs
  have := AdH hs.1 (m := t.nodes.map (·.id)) fun z hz => by
   obtain ⟨n,hn,e⟩ := Nf (hs.2.1 z hz)
   exact List.mem_map.mpr ⟨n,hn,e⟩
  simpa using this
 refine Ok.while I (fun s => t.nodes.length - s.1.length) ?_ (by rw [Dd]; simp only [List.length_nil]; omega) ?_
 ·refine ⟨by simp,?_,?_,?_⟩
  ·intro z hz
   obtain rfl : z = k := by simpa using hz
   rw [← hke]
   exact AcL w hkn
  ·intro z hz
   exact .inl (by simpa using hz)
  ·intro x hx
   exact .inr ⟨k,by simp,hx⟩
 rintro ⟨out,todo⟩ n hI hn
 have hb := hbound _ hI
 obtain ⟨i1,i2,i3,i4⟩ := hI
 simp only at hb i1 i2 i3 i4 hn
 unfold Rx
 simp only
 cases todo with
 | nil =>
  simp only [List.length_nil,gt_iff_lt,Int.cast_ofNat_Int,Int.lt_irrefl,decide_false,Bool.false_and,Bool.false_eq_true,if_false]
  refine Ok.ret ⟨by simpa using i1,by simpa using hb,fun x => ⟨fun h => i2 x (by simpa using h),fun h => ?_⟩⟩
  rcases i4 x h with h | ⟨y,hy,_⟩
  ·exact h
  ·simp at hy
 | cons y rest =>
  simp only [List.length_cons] at hb
  have hc : (decide (((((y :: rest).length : Nat) : Int)) > 0) && decide (((out.length : Nat) : Int) < ((t.nodes.length : Nat) : Int))) = true := by
   simp only [List.length_cons,Bool.and_eq_true,decide_eq_true_eq]
   omega
  rw [if_pos hc]
  refine Ok.guard (by simp) (Ok.guard (by omega) (Ok.guard (by simp) ?_))
  have ey : (y :: rest).getD 0 0 = y := rfl
  rw [ey]
  refine Ok.step (Acu t y (by omega)) (Ok.guard (by simp) ?_)
  have hsub : Nt (y :: rest).length 1 = rest.length := rfl
  rw [hsub]
  have hkl := Acb t y
  refine Ok.guard (by omega) ?_
  have ed : (y :: rest).drop 1 = rest := rfl
  rw [ed]
  have hyk := i2 y (by simp)
  have hyn : y ∉ out := by
   rw [List.nodup_append] at i1
   intro h
   exact i1.2.2 y h y (by simp) rfl
  have hyr : y ∉ rest := by
   rw [List.nodup_append,List.nodup_cons] at i1
   exact i1.2.1.1
  have hnew : ∀ c ∈ Jb t y,c ∉ out ∧ c ∉ rest ∧ c ≠ y := by
   intro c hc
   obtain ⟨cn,hcn,hcp,hce⟩ := kids_iff.mp hc
   have hlt := w.par_lt hcn
   have hck : c ≠ k := by
    rintro rfl
    obtain ⟨yn,hyn2,hye⟩ := Nf hyk
    rw [← hye] at hyk
    have := up_le w yn hyn2 _ hyk
    omega
   have hno : c ∉ out ++ (y :: rest) := by
    intro hm
    rcases i3 c hm with h | ⟨m,hm1,hm2,hm3⟩
    ·exact hck h
    ·obtain rfl : m = cn := Aeu w.sorted hm1 hcn (by omega)
     rw [hcp] at hm3
     exact hyn hm3
   exact ⟨fun h => hno (by simp [h]),fun h => hno (by simp [h]),by omega⟩
  refine hn _ ⟨?_,?_,?_,?_⟩ (by simp only [List.length_append,List.length_cons,List.length_nil]; omega)
  ·simp only
   rw [List.nodup_append] at i1 ⊢
   obtain ⟨n1,n2,n3⟩ := i1
   rw [List.nodup_cons] at n2
   refine ⟨?_,?_,?_⟩
   ·rw [List.nodup_append]
    exact ⟨n1,by simp,fun a ha b hb => by
     obtain rfl : b = y := by simpa using hb
     exact fun e => hyn (e ▸ ha)⟩
   ·rw [List.nodup_append]
    exact ⟨AhB w y,n2.2,fun a ha b hb e => (hnew a ha).2.1 (e ▸ hb)⟩
   ·intro a ha b hb e
    subst e
    rcases List.mem_append.mp ha with ha | ha
    ·rcases List.mem_append.mp hb with hb | hb
     ·exact (hnew a hb).1 ha
     ·exact n3 a ha a (by simp [hb]) rfl
    ·obtain rfl : a = y := by simpa using ha
     rcases List.mem_append.mp hb with hb | hb
     ·exact (hnew a hb).2.2 rfl
     ·exact hyr hb
  ·intro z hz
   simp only [List.mem_append,List.mem_cons,List.not_mem_nil,or_false] at hz
   rcases hz with (hz | rfl) | hz | hz
   ·exact i2 z (by simp [hz])
   ·exact hyk
   ·obtain ⟨cn,hcn,hcp,hce⟩ := kids_iff.mp hz
    rw [← hce]
    refine AdI w hyk cn hcn ?_
    rw [w.up hcn,hcp]
    obtain ⟨yn,hyn2,hye⟩ := Nf hyk
    rw [← hye]
    exact List.mem_cons_of_mem _ (AcL w hyn2)
   ·exact i2 z (by simp [hz])
  ·intro z hz
   simp only [List.mem_append,List.mem_cons,List.not_mem_nil,or_false] at hz
   have lift : (z = k ∨ ∃ n ∈ t.nodes,n.id = z ∧ n.parent ∈ out) → (z = k ∨ ∃ n ∈ t.nodes,n.id = z ∧ n.parent ∈ out ++ [y]) := by
    rintro (h | ⟨n,h1,h2,h3⟩)
    ·exact .inl h
    ·exact .inr ⟨n,h1,h2,by simp [h3]⟩
   rcases hz with (hz | rfl) | hz | hz
   ·exact lift (i3 z (by simp [hz]))
   ·exact lift (i3 z (by simp))
   ·obtain ⟨cn,hcn,hcp,hce⟩ := kids_iff.mp hz
    exact .inr ⟨cn,hcn,hce,by simp [hcp]⟩
   ·exact lift (i3 z (by simp [hz]))
  ·intro x hx
   rcases i4 x hx with h | ⟨z,hz,hzx⟩
   ·exact .inl (by simp [h])
   ·rcases List.mem_cons.mp hz with rfl | hz
    ·obtain ⟨xn,hxn,hxe⟩ := Nf hzx
     rw [← hxe] at hzx ⊢
     rcases up_child w xn hxn hzx with h | ⟨c,hc,hcx⟩
     ·exact .inl (by simp [h])
     ·exact .inr ⟨c,by simp [hc],hcx⟩
    ·exact .inr ⟨z,by simp [hz],hzx⟩
end Go.Dm

/- Plain theory, part 13: the program's Check of hierarchies; counts; moves. -/
namespace Go.Dm
theorem AeP (h : Aa) (x : At) (l1 : h.tasks.length ≤ 1000000) (l2 : h.tree.nodes.length ≤ 1000000) :
  Ok (Qy h x) (fun b => b = true ↔ (0 ≤ x.user ∧ x.user ≤ 1048576 ∧ Gc h.tree x.group = true ∧ ∃ p,Es h.tasks x.process = some p ∧ p.process = x.process ∧ p.user = x.user)) := by
 unfold Qy Hk
 refine Ok.step (Acs h x.process l1) ?_
 have no : ∀ {P : Prop},¬ P → Ok (some false) (fun b => b = true ↔ P) := fun hn => Ok.ret ⟨fun e => by simp at e,fun w => absurd w hn⟩
 refine Ok.ite (fun c => ?_) fun c => ?_
 rotate_left
 ·have := of_decide_eq_false c
  exact no fun w => by omega
 have u1 := of_decide_eq_true c
 refine Ok.ite (fun c => ?_) fun c => ?_
 rotate_left
 ·have := of_decide_eq_false c
  exact no fun w => by omega
 have u2 := of_decide_eq_true c
 cases hk : Es h.tasks x.process with
 | none =>
  exact no fun w => by
   obtain ⟨_,_,_,p,hp,_⟩ := w
   simp at hp
 | some p =>
  obtain ⟨hp1,hp2⟩ := Ry hk
  simp only [Option.elim_some,if_true]
  refine Ok.ite (fun c => ?_) fun c => ?_
  rotate_left
  ·exact no fun w => by
    obtain ⟨_,_,_,q,hq,hq2,_⟩ := w
    obtain rfl : p = q := by simpa using hq
    have : ¬ p.process = p.id := by simpa using c
    omega
  have c1 : p.process = p.id := by simpa using c
  refine Ok.ite (fun c => ?_) fun c => ?_
  rotate_left
  ·exact no fun w => by
    obtain ⟨_,_,_,q,hq,_,hq3⟩ := w
    obtain rfl : p = q := by simpa using hq
    have : ¬ p.user = x.user := by simpa using c
    omega
  have c2 : p.user = x.user := by simpa using c
  refine Ok.bind (Abj h.tree x.group l2) fun i hi => Ok.ret ?_
  rw [hi.2]
  constructor
  ·intro hh
   exact ⟨u1,u2,hh,p,rfl,by omega,c2⟩
  ·intro w
   exact w.2.2.1
theorem Aem (h : Aa) (hm : ∀ x ∈ h.tree.nodes,NodeM x) : Ok (Lc h) (fun b => b = true ↔ WfH h) := by
 have bad : ¬ WfH h → Ok (some false) (fun b => b = true ↔ WfH h) := fun hn => Ok.ret ⟨fun e => by simp at e,fun w => absurd w hn⟩
 unfold Lc
 refine Ok.ite (fun c => ?_) fun c => ?_
 ·have := of_decide_eq_true c
  exact bad fun w => by have := w.len; omega
 have l1 := of_decide_eq_false c
 refine Ok.ite (fun c => ?_) fun c => ?_
 ·have := of_decide_eq_true c
  exact bad fun w => by have := w.n2; omega
 have n2 := of_decide_eq_false c
 refine Ok.bind (Abn h.tree hm) fun b hb => ?_
 unfold Kn
 refine Ok.ite (fun c => ?_) fun c => ?_
 ·refine bad fun w => ?_
  have := hb.mpr w.tree
  rw [this] at c
  simp at c
 have wt : WfT h.tree := hb.mp (by simpa using c)
 have l2 := wt.len2
 refine Ok.guard (by omega) ?_
 refine Ok.range (fun pre s => 0 ≤ s ∧ (∀ y ∈ pre,y.id ≤ s) ∧ (s = 0 ∨ ∃ y ∈ pre,y.id = s) ∧ pre.Pairwise (fun a b => a.id < b.id) ∧ ∀ x ∈ pre,TaskV h x) (by simp) ?_ ?_
 ·rintro pre x post s n he ⟨i0,i1,i2,i3,i4⟩ hn
  have hx : x ∈ h.tasks := by rw [he]; simp
  unfold Tr Na
  refine Ok.ite (fun c => ?_) fun c => ?_
  ·have hle := of_decide_eq_true c
   refine bad fun w => ?_
   rcases i2 with rfl | ⟨y,hy,e⟩
   ·have := (w.val x hx).pos
    omega
   ·have hs := w.sorted
    rw [he,List.pairwise_append] at hs
    have := hs.2.2 y hy x (by simp)
    omega
  have hgt := of_decide_eq_false c
  refine Ok.bind (AeP h x (by omega) (by omega)) fun b hb => ?_
  refine Ok.ite (fun c => ?_) fun c => ?_
  ·refine bad fun w => ?_
   have v := w.val x hx
   have := hb.mpr ⟨v.u1,v.u2,v.grp,v.ldr⟩
   rw [this] at c
   simp at c
  ·obtain ⟨a1,a2,a3,a4⟩ := hb.mp (by simpa using c)
   refine hn _ ⟨by omega,?_,.inr ⟨x,by simp,rfl⟩,?_,?_⟩
   ·intro y hy
    rcases List.mem_append.mp hy with hy | hy
    ·have := i1 y hy
     omega
    ·obtain rfl : y = x := by simpa using hy
     exact Int.le_refl _
   ·rw [List.pairwise_append]
    refine ⟨i3,by simp,fun a ha b hb => ?_⟩
    obtain rfl : b = x := by simpa using hb
    have := i1 a ha
    omega
   ·intro y hy
    rcases List.mem_append.mp hy with hy | hy
    ·exact i4 y hy
    ·obtain rfl : y = x := by simpa using hy
     exact ⟨by omega,a3,a1,a2,a4⟩
 ·rintro s ⟨i0,i1,i2,i3,i4⟩
  refine Ok.ret ⟨fun e => ?_,fun w => ?_⟩
  ·have hlt : s < h.next := by
    have := of_decide_eq_true e
    omega
   exact ⟨wt,by omega,by omega,by omega,i3,fun x hx => by have := i1 x hx; omega,i4⟩
  ·rcases i2 with rfl | ⟨y,hy,e⟩
   ·have := w.n1
    simp; omega
   ·have := w.lt y hy
    simp; omega
theorem AaC {h : Aa} (w : WfH h) : Lc h = some true := by
 obtain ⟨b,hb,e⟩ := Aem h w.tree.p.names
 rw [hb,e.mpr w]
theorem Adi (l : List Int) (x : Int) (hl : l.length ≤ 1000000) : Ds l x = some (l.contains x) := by
 unfold Ds Ky
 rw [if_pos (by omega),Om (p := fun y : Int => x == y) (fun k y n => rfl) rfl,Option.bind_some]
 rcases Pi (fun y : Int => x == y) l 0 with ⟨i,h1,h2,h3⟩ | ⟨h1,h2⟩
 ·rw [h2]
  have hm := List.mem_of_find?_eq_some h3
  have he := List.find?_some h3
  have : l.contains x = true := by
   rw [List.contains_iff_mem]
   have : x = l.getD i 0 := by simpa using he
   rw [this]
   exact hm
  rw [this]
  simp
 ·rw [h1]
  have : l.contains x = false := by
   rw [List.find?_eq_none] at h2
   cases hc : l.contains x
   ·rfl
   ·rw [List.contains_iff_mem] at hc
    have := h2 x hc
    simp at this
  rw [this]
  simp
theorem Zp (l : List Int) (x : Int) (hl : l.length ≤ 1000000) : Md l x = some (l.contains x) := by
 unfold Md
 rw [if_pos (by omega),Ht (p := fun y : Int => y == x) (f := fun _ => true) (z := false) (fun k y n => rfl) rfl]
 congr 1
 cases hf : l.find? (fun y => y == x) with
 | none =>
  rw [List.find?_eq_none] at hf
  cases hc : l.contains x
  ·rfl
  ·rw [List.contains_iff_mem] at hc
   have := hf x hc
   simp at this
 | some y =>
  have hm := List.mem_of_find?_eq_some hf
  have he := List.find?_some hf
  have : y = x := by simpa using he
  rw [this] at hm
  simp [hm]
end Go.Dm

/- Plain theory, part 14: the document's subtrees and counts; ancestors. -/
namespace Go.Dm
end Go.Dm

/- Plain theory, part 20: the library's sort leaves an ascending list as it is. -/
namespace Go.Dm
theorem Js (a b : Int) : Cs a b = some (decide (a < b)) := by
 unfold Cs Of Km
 simp
theorem lens_pos : (List.range 1001).all (fun n => (Rt (IntKind.u64.wrap (n : Int))).any (fun k => n == 0 || decide (1 ≤ k))) = true := by decide +kernel
theorem AgJ {n : Nat} (hn : n ≤ 1000) : Ok (Rt (IntKind.u64.wrap (n : Int))) (fun _ => True) := by
 have := List.all_eq_true.mp lens_pos n (by rw [List.mem_range]; omega)
 cases hb : Rt (IntKind.u64.wrap (n : Int)) with
 | none => rw [hb] at this; simp at this
 | some k => exact ⟨k,rfl,trivial⟩
theorem ids_asc {L : List At} (h : L.Pairwise (fun a b => a.id < b.id)) (p : At → Bool) : ((L.filter p).map (·.id)).Pairwise (· < ·) := by
 rw [List.pairwise_map]
 exact h.filter p
end Go.Dm

/- Plain theory, part 26: rows that are permuted within a range; insertion sort. -/
namespace Go.Dm
structure RP (a b : Nat) (L M : List Int) : Prop where
 len : M.length = L.length
 out : ∀ i,i < a ∨ b ≤ i → M.getD i 0 = L.getD i 0
 mem : ∀ i,a ≤ i → i < b → ∃ j,a ≤ j ∧ j < b ∧ M.getD i 0 = L.getD j 0
 perm : M.Perm L
theorem RP.refl (a b : Nat) (L : List Int) : RP a b L L := ⟨rfl,fun _ _ => rfl,fun i h1 h2 => ⟨i,h1,h2,rfl⟩,.refl _⟩
theorem RP.trans {a b : Nat} {L M N : List Int} (h : RP a b L M) (k : RP a b M N) : RP a b L N := by
 refine ⟨k.len.trans h.len,fun i hi => (k.out i hi).trans (h.out i hi),fun i h1 h2 => ?_,k.perm.trans h.perm⟩
 obtain ⟨j,j1,j2,e⟩ := k.mem i h1 h2
 obtain ⟨q,q1,q2,e2⟩ := h.mem j j1 j2
 exact ⟨q,q1,q2,e.trans e2⟩
theorem RP.widen {a b c d : Nat} {L M : List Int} (h : RP a b L M) (h1 : c ≤ a) (h2 : b ≤ d) : RP c d L M := by
 refine ⟨h.len,fun i hi => h.out i (by omega),fun i i1 i2 => ?_,h.perm⟩
 by_cases q : a ≤ i ∧ i < b
 ·obtain ⟨j,j1,j2,e⟩ := h.mem i q.1 q.2
  exact ⟨j,by omega,by omega,e⟩
 ·exact ⟨i,i1,i2,h.out i (by omega)⟩
theorem RP.all {a b : Nat} {L M : List Int} (h : RP a b L M) {P : Int → Prop} (hp : ∀ i,a ≤ i → i < b → P (L.getD i 0)) : ∀ i,a ≤ i → i < b → P (M.getD i 0) := by
 intro i h1 h2
 obtain ⟨j,j1,j2,e⟩ := h.mem i h1 h2
 rw [e]
 exact hp j j1 j2
theorem Afh {α : Type} {l : List α} {i : Nat} {a d : α} (h : i < l.length) : (l.set i a).getD i d = a := by
 simp [List.getD_eq_getElem?_getD,h]
def Dk (L : List Int) (i j : Nat) : List Int := (L.set i (L.getD j 0)).set j (L.getD i 0)
theorem Acg (L : List Int) (i j : Nat) : (Dk L i j).length = L.length := by simp [Dk]
theorem Ago {L : List Int} {i j : Nat} {x : Int} (hi : i < L.length) : (L.set i x).getD j 0 = if j = i then x else L.getD j 0 := by
 by_cases e : j = i
 ·subst e
  rw [if_pos rfl]
  exact Afh hi
 ·rw [if_neg e,List.getD_eq_getElem?_getD,List.getElem?_set_ne (fun h => e h.symm),← List.getD_eq_getElem?_getD]
theorem Hp {L : List Int} {i j k : Nat} (hi : i < L.length) (hj : j < L.length) : (Dk L i j).getD k 0 = if k = j then L.getD i 0 else if k = i then L.getD j 0 else L.getD k 0 := by
 unfold Dk
 rw [Ago (by simpa using hj),Ago hi]
theorem AhM {L : List Int} {i j : Nat} (hi : i < L.length) (hj : j < L.length) : (Dk L i j).Perm L := by
 have h := Array.swap_perm (xs := L.toArray) (i := i) (j := j) (by simpa using hi) (by simpa using hj)
 have e : (L.toArray.swap i j (by simpa using hi) (by simpa using hj)).toList = Dk L i j := by
  unfold Dk
  rw [Hc hi,Hc hj]
  simp [Array.swap]
 have := Array.perm_iff_toList_perm.mp h
 rw [e] at this
 simpa using this
theorem RP.swap {a b : Nat} {L : List Int} {i j : Nat} (hb : b ≤ L.length) (i1 : a ≤ i) (i2 : i < b) (j1 : a ≤ j) (j2 : j < b) : RP a b L (Dk L i j) := by
 have hi : i < L.length := by omega
 have hj : j < L.length := by omega
 refine ⟨Acg L i j,fun k hk => ?_,fun k k1 k2 => ?_,AhM hi hj⟩
 ·rw [Hp hi hj,if_neg (by omega),if_neg (by omega)]
 ·rw [Hp hi hj]
  split
  ·exact ⟨i,i1,i2,rfl⟩
  ·split
   ·exact ⟨j,j1,j2,rfl⟩
   ·exact ⟨k,k1,k2,rfl⟩
def Fs (a b : Nat) (L : List Int) : Prop := ∀ p q,a ≤ p → p < q → q < b → L.getD p 0 ≤ L.getD q 0
theorem Agt {L : List Int} {a b : Nat} (hab : a ≤ b) (hb : b ≤ L.length) (hl : L.length ≤ 1000000) : Ok (Dx L (a : Int) (b : Int)) (fun M => RP a b L M ∧ Fs a b M) := by
 unfold Dx
 have e1 : w64 ((a : Int) + 1) = ((a + 1 : Nat) : Int) := by
  rw [Ax (by omega) (by omega)]
  omega
 rw [e1]
 refine Ok.guard (by omega) ?_
 have em : Int.toNat ((b : Int) - ((a + 1 : Nat) : Int)) = b - (a + 1) := by omega
 rw [em]
 refine Ok.for (fun j s => RP a b L s ∧ Fs a (a + 1 + j) s) ⟨.refl _ _ _,fun p q h1 h2 h3 => by omega⟩ ?_ ?_
 ·intro j s n hj ⟨i1,i2⟩ hn
  have hs := i1.len
  have ei : ((a + 1 : Nat) : Int) + (j : Int) = ((a + 1 + j : Nat) : Int) := by omega
  rw [ei]
  unfold Hd
  refine Ok.while (fun q => ∃ k : Nat,q.2 = (k : Int) ∧ a ≤ k ∧ k ≤ a + 1 + j ∧ RP a b L q.1 ∧ (∀ p r,a ≤ p → p < r → r ≤ a + 1 + j → p ≠ k → r ≠ k → q.1.getD p 0 ≤ q.1.getD r 0) ∧ (∀ r,k < r → r ≤ a + 1 + j → q.1.getD k 0 ≤ q.1.getD r 0)) (fun q => q.2.toNat) ?_ ?_ ?_
  ·refine ⟨a + 1 + j,rfl,by omega,by omega,i1,fun p r h1 h2 h3 h4 h5 => i2 p r h1 h2 (by omega),fun r h1 h2 => by omega⟩
  ·rw [Dd]
   simp only
   omega
  ·rintro ⟨M,x⟩ nn ⟨k,hx,k1,k2,rp,hA,hB⟩ hnn
   simp only at hx rp hA hB
   subst hx
   have hM := rp.len
   have ek : Int.toNat (k : Int) = k := by omega
   have fin : (k = a ∨ ¬ M.getD k 0 < M.getD (k - 1) 0) → Ok (n M) (fun M => RP a b L M ∧ Fs a b M) := by
    intro hstop
    refine hn M ⟨rp,fun p q h1 h2 h3 => ?_⟩
    by_cases hp : p = k
    ·subst hp
     exact hB q h2 (by omega)
    by_cases hq : q = k
    ·subst hq
     rcases hstop with h | h
     ·omega
     ·by_cases hp2 : p = q - 1
      ·subst hp2
       omega
      ·have := hA p (q - 1) h1 (by omega) (by omega) hp (by omega)
       omega
    exact hA p q h1 h2 (by omega) hp hq
   unfold Hf Df
   simp only
   refine Ok.ite (fun c => ?_) fun c => ?_
   ·have c := of_decide_eq_true c
    have hw : w64 ((k : Int) - 1) = ((k - 1 : Nat) : Int) := by
     rw [Ax (by omega) (by omega)]
     omega
    have ek1 : Int.toNat ((k - 1 : Nat) : Int) = k - 1 := by omega
    rw [hw,ek,ek1,Js]
    refine Ok.guard (by omega) (Ok.guard (by omega) (Ok.guard (by omega) (Ok.guard (by omega) ?_)))
    refine Ok.step rfl ?_
    refine Ok.ite (fun c2 => ?_) fun c2 => ?_
    ·have c2 := of_decide_eq_true c2
     refine Ok.guard (by omega) (Ok.guard (by omega) (Ok.guard (by omega) (Ok.guard (by omega) (Ok.guard (by omega) (Ok.guard (by omega) (Ok.guard (by omega) (Ok.guard (by omega) ?_)))))))
     have hkl : k < M.length := by omega
     have hk1 : k - 1 < M.length := by omega
     have hg : ∀ r,(Dk M k (k - 1)).getD r 0 = if r = k - 1 then M.getD k 0 else if r = k then M.getD (k - 1) 0 else M.getD r 0 := fun r => Hp hkl hk1
     refine hnn (Dk M k (k - 1),((k - 1 : Nat) : Int)) ⟨k - 1,rfl,by omega,by omega,rp.trans (RP.swap (by omega) (by omega) (by omega) (by omega) (by omega)),?_,?_⟩ (by simp only; omega)
     ·intro p r h1 h2 h3 h4 h5
      simp only
      rw [hg,hg,if_neg h4,if_neg h5]
      by_cases hp : p = k
      ·rw [if_pos hp,if_neg (by omega)]
       exact hA (k - 1) r (by omega) (by omega) h3 (by omega) (by omega)
      ·rw [if_neg hp]
       by_cases hr : r = k
       ·rw [if_pos hr]
        exact hA p (k - 1) h1 (by omega) (by omega) hp (by omega)
       ·rw [if_neg hr]
        exact hA p r h1 h2 h3 hp hr
     ·intro r h1 h2
      simp only
      rw [hg,hg,if_pos rfl,if_neg (by omega)]
      by_cases hr : r = k
      ·rw [if_pos hr]
       omega
      ·rw [if_neg hr]
       exact hB r (by omega) h2
    ·exact fin (.inr (of_decide_eq_false c2))
   ·have c := of_decide_eq_false c
    simp only [Bool.false_eq_true,if_false]
    exact fin (.inl (by omega))
 ·intro s ⟨i1,i2⟩
  refine Ok.ret ⟨i1,fun p q h1 h2 h3 => i2 p q h1 h2 (by omega)⟩
end Go.Dm

/- Plain theory, part 27: the library's partitions. -/
namespace Go.Dm
def PartQ (L : List Int) (a b : Nat) (r : Int × Bool × List Int) : Prop :=
 ∃ m : Nat,r.1 = (m : Int) ∧ a ≤ m ∧ m < b ∧ RP a b L r.2.2 ∧ (∀ k,a ≤ k → k < m → r.2.2.getD k 0 ≤ r.2.2.getD m 0) ∧ (∀ k,m < k → k < b → r.2.2.getD m 0 ≤ r.2.2.getD k 0)
structure PartI (L : List Int) (a b : Nat) (M : List Int) (i j : Nat) : Prop where
 rp : RP a b L M
 i1 : a + 1 ≤ i
 ij : i ≤ j + 1
 jb : j < b
 ja : a ≤ j
 lo : ∀ k,a + 1 ≤ k → k < i → M.getD k 0 < M.getD a 0
 hi : ∀ k,j < k → k < b → ¬ M.getD k 0 < M.getD a 0
theorem PartI.fin {L M : List Int} {a b i j : Nat} (hb : b ≤ L.length) (h : PartI L a b M i j) (hij : j < i) (t : Bool) : PartQ L a b ((j : Int),t,Dk M j a) := by
 have hM := h.rp.len
 have h1 := h.i1
 have h2 := h.ij
 have h3 := h.jb
 have h4 := h.ja
 have hj : j < M.length := by omega
 have ha : a < M.length := by omega
 have hg : ∀ r,(Dk M j a).getD r 0 = if r = a then M.getD j 0 else if r = j then M.getD a 0 else M.getD r 0 := fun r => Hp hj ha
 have hmid : (Dk M j a).getD j 0 = M.getD a 0 := by
  rw [hg]
  split
  ·rename_i e
   rw [e]
  ·rw [if_pos rfl]
 refine ⟨j,rfl,h4,h3,h.rp.trans (RP.swap (by omega) (by omega) (by omega) (by omega) (by omega)),?_,?_⟩
 ·intro k k1 k2
  simp only
  rw [hmid,hg]
  split
  ·have := h.lo j (by omega) (by omega)
   omega
  ·rw [if_neg (by omega)]
   have := h.lo k (by omega) (by omega)
   omega
 ·intro k k1 k2
  simp only
  rw [hmid,hg,if_neg (by omega),if_neg (by omega)]
  have := h.hi k k1 k2
  omega
theorem PartI.swap {L M : List Int} {a b i j : Nat} (hb : b ≤ L.length) (h : PartI L a b M i j) (hij : i ≤ j) (hi : ¬ M.getD i 0 < M.getD a 0) (hj : M.getD j 0 < M.getD a 0) : PartI L a b (Dk M i j) (i + 1) (j - 1) := by
 have hM := h.rp.len
 have h1 := h.i1
 have h3 := h.jb
 have hne : i ≠ j := fun e => by subst e; exact hi hj
 have hil : i < M.length := by omega
 have hjl : j < M.length := by omega
 have hg : ∀ r,(Dk M i j).getD r 0 = if r = j then M.getD i 0 else if r = i then M.getD j 0 else M.getD r 0 := fun r => Hp hil hjl
 have ha : (Dk M i j).getD a 0 = M.getD a 0 := by rw [hg,if_neg (by omega),if_neg (by omega)]
 refine ⟨h.rp.trans (RP.swap (by omega) (by omega) (by omega) (by omega) (by omega)),by omega,by omega,by omega,by omega,?_,?_⟩
 ·intro k k1 k2
  rw [ha,hg]
  by_cases e : k = i
  ·rw [if_neg (by omega),if_pos e]
   exact hj
  ·rw [if_neg (by omega),if_neg e]
   exact h.lo k k1 (by omega)
 ·intro k k1 k2
  rw [ha,hg]
  by_cases e : k = j
  ·rw [if_pos e]
   exact hi
  ·rw [if_neg e,if_neg (by omega)]
   exact h.hi k (by omega) k2
theorem PartI.incI {L M : List Int} {a b i j : Nat} (h : PartI L a b M i j) (hij : i ≤ j) (hi : M.getD i 0 < M.getD a 0) : PartI L a b M (i + 1) j := by
 refine ⟨h.rp,by have := h.i1; omega,by omega,h.jb,h.ja,fun k k1 k2 => ?_,h.hi⟩
 by_cases e : k = i
 ·subst e
  exact hi
 ·exact h.lo k k1 (by omega)
theorem PartI.decJ {L M : List Int} {a b i j : Nat} (h : PartI L a b M i j) (hij : i ≤ j) (hj : ¬ M.getD j 0 < M.getD a 0) : PartI L a b M i (j - 1) := by
 have h1 := h.i1
 have h3 := h.jb
 refine ⟨h.rp,by omega,by omega,by omega,by omega,h.lo,fun k k1 k2 => ?_⟩
 by_cases e : k = j
 ·subst e
  exact hj
 ·exact h.hi k (by omega) k2
theorem part_loop {L : List Int} {a b : Nat} (hb : b ≤ L.length) (hl : L.length ≤ 1000000) {M0 : List Int} {i0 j0 : Nat} (h0 : PartI L a b M0 i0 j0) : Ok (whileO (Fz (a : Int)) En (M0,(i0 : Int),(j0 : Int))) (PartQ L a b) := by
 have ea : Int.toNat (a : Int) = a := by omega
 refine Ok.while (fun s => ∃ i j : Nat,s.2.1 = (i : Int) ∧ s.2.2 = (j : Int) ∧ PartI L a b s.1 i j) (fun s => (s.2.2 + 1 - s.2.1).toNat) ⟨i0,j0,rfl,rfl,h0⟩ (by rw [Dd]; have := h0.jb; simp only; omega) ?_
 rintro ⟨M,x,y⟩ n ⟨i,j,hx,hy,h⟩ hn
 simp only at hx hy h
 subst hx hy
 unfold Fz
 simp only
 refine Ok.while (fun q => ∃ k : Nat,q = (k : Int) ∧ i ≤ k ∧ PartI L a b M k j) (fun q => ((j : Int) + 1 - q).toNat) ⟨i,rfl,Nat.le_refl _,h⟩ (by rw [Dd]; have := h.jb; omega) ?_
 rintro q n1 ⟨k,rfl,hik,hk⟩ hn1
 have hM := hk.rp.len
 have hjb := hk.jb
 have hka := hk.i1
 have hja := hk.ja
 have ek : Int.toNat (k : Int) = k := by omega
 have second : ((k : Int) ≤ (j : Int) → ¬ M.getD k 0 < M.getD a 0) → Ok (whileO (Fy (a : Int) (M,(i : Int),(j : Int)) n (k : Int)) En (j : Int)) (PartQ L a b) := by
  intro hstop
  refine Ok.while (fun q => ∃ m : Nat,q = (m : Int) ∧ PartI L a b M k m ∧ m ≤ j) (fun q => q.toNat) ⟨j,rfl,hk,Nat.le_refl _⟩ (by rw [Dd]; omega) ?_
  rintro q n2 ⟨m,rfl,hm,hmj⟩ hn2
  have hmb := hm.jb
  have hma := hm.ja
  have hkm := hm.ij
  have em : Int.toNat (m : Int) = m := by omega
  unfold Fy Ej
  simp only
  rw [ea,em,ek]
  refine Ok.ite (fun c => ?_) fun c => ?_
  ·have c := of_decide_eq_true c
   refine Ok.guard (by omega) (Ok.guard (by omega) (Ok.guard (by omega) (Ok.guard (by omega) ?_)))
   refine Ok.step (Js _ _) ?_
   refine Ok.ite (fun c2 => ?_) fun c2 => ?_
   ·have c2 : ¬ M.getD m 0 < M.getD a 0 := by simpa using c2
    have hw : w64 ((m : Int) - 1) = ((m - 1 : Nat) : Int) := by
     rw [Ax (by omega) (by omega)]
     omega
    rw [hw]
    exact hn2 _ ⟨m - 1,rfl,hm.decJ (by omega) c2,by omega⟩ (by omega)
   ·have c2 : M.getD m 0 < M.getD a 0 := by
     rw [Bool.not_eq_false'] at c2
     exact of_decide_eq_true c2
    refine Ok.ite (fun c3 => by have := of_decide_eq_true c3; omega) fun _ => ?_
    refine Ok.guard (by omega) (Ok.guard (by omega) (Ok.guard (by omega) (Ok.guard (by omega) (Ok.guard (by omega) (Ok.guard (by omega) (Ok.guard (by omega) (Ok.guard (by omega) ?_)))))))
    have w1 : w64 ((k : Int) + 1) = ((k + 1 : Nat) : Int) := by
     rw [Ax (by omega) (by omega)]
     omega
    have w2 : w64 ((m : Int) - 1) = ((m - 1 : Nat) : Int) := by
     rw [Ax (by omega) (by omega)]
     omega
    rw [w1,w2]
    have hsw := hm.swap hb (by omega) (hstop (by omega)) c2
    exact hn (Dk M k m,_,_) ⟨k + 1,m - 1,rfl,rfl,hsw⟩ (by simp only; omega)
  ·have c := of_decide_eq_false c
   simp only [Bool.false_eq_true,if_false]
   refine Ok.ite (fun _ => ?_) fun c3 => by have := of_decide_eq_false c3; omega
   refine Ok.guard (by omega) (Ok.guard (by omega) (Ok.guard (by omega) (Ok.guard (by omega) (Ok.guard (by omega) (Ok.guard (by omega) (Ok.guard (by omega) (Ok.guard (by omega) (Ok.ret ?_))))))))
   exact hm.fin hb (by omega) false
 unfold Hw Eh
 simp only
 rw [ea,ek]
 refine Ok.ite (fun c => ?_) fun c => ?_
 ·have c := of_decide_eq_true c
  refine Ok.guard (by omega) (Ok.guard (by omega) (Ok.guard (by omega) (Ok.guard (by omega) ?_)))
  refine Ok.step (Js _ _) ?_
  refine Ok.ite (fun c2 => ?_) fun c2 => second fun _ => of_decide_eq_false c2
  have c2 := of_decide_eq_true c2
  have hw : w64 ((k : Int) + 1) = ((k + 1 : Nat) : Int) := by
   rw [Ax (by omega) (by omega)]
   omega
  rw [hw]
  exact hn1 _ ⟨k + 1,rfl,by omega,hk.incI (by omega) c2⟩ (by omega)
 ·have c := of_decide_eq_false c
  simp only [Bool.false_eq_true,if_false]
  exact second fun e => absurd e c
theorem Agb {L : List Int} {a b p : Nat} (hab : a + 1 < b) (hb : b ≤ L.length) (hl : L.length ≤ 1000000) (p1 : a ≤ p) (p2 : p < b) : Ok (Fm L (a : Int) (b : Int) (p : Int)) (PartQ L a b) := by
 have ea : Int.toNat (a : Int) = a := by omega
 have ep : Int.toNat (p : Int) = p := by omega
 have wa : w64 ((a : Int) + 1) = ((a + 1 : Nat) : Int) := by
  rw [Ax (by omega) (by omega)]
  omega
 have wb : w64 ((b : Int) - 1) = ((b - 1 : Nat) : Int) := by
  rw [Ax (by omega) (by omega)]
  omega
 have rp0 : RP a b L (Dk L a p) := RP.swap hb (Nat.le_refl _) (by omega) p1 p2
 generalize hS : Dk L a p = S at rp0
 have hS' : (L.set a (L.getD p 0)).set p (L.getD a 0) = S := hS
 have hlen := rp0.len
 have h0 : PartI L a b S (a + 1) (b - 1) := ⟨rp0,by omega,by omega,by omega,by omega,fun k k1 k2 => by omega,fun k k1 k2 => by omega⟩
 unfold Fm
 rw [ea,ep,wa]
 refine Ok.guard (by omega) (Ok.guard (by omega) (Ok.guard (by omega) (Ok.guard (by omega) (Ok.guard (by omega) (Ok.guard (by omega) (Ok.guard (by omega) (Ok.guard (by omega) ?_)))))))
 refine Ok.while (fun q => ∃ k : Nat,q = (k : Int) ∧ PartI L a b S k (b - 1)) (fun q => ((b : Int) - q).toNat) ⟨a + 1,rfl,h0⟩ (by rw [Dd]; omega) ?_
 rintro q n1 ⟨k,rfl,hk⟩ hn1
 have hka := hk.i1
 have ek : Int.toNat (k : Int) = k := by omega
 have second : (k ≤ b - 1 → ¬ S.getD k 0 < S.getD a 0) → Ok (whileO (Gb L (a : Int) (p : Int) (k : Int)) En ((b - 1 : Nat) : Int)) (PartQ L a b) := by
  intro hstop
  refine Ok.while (fun q => ∃ m : Nat,q = (m : Int) ∧ PartI L a b S k m ∧ m ≤ b - 1) (fun q => q.toNat) ⟨b - 1,rfl,hk,Nat.le_refl _⟩ (by rw [Dd]; omega) ?_
  rintro q n2 ⟨m,rfl,hm,hmj⟩ hn2
  have hmb := hm.jb
  have hma := hm.ja
  have hkm := hm.ij
  have em : Int.toNat (m : Int) = m := by omega
  unfold Gb Eg
  rw [ea,em,ek,ep,hS']
  refine Ok.ite (fun c => ?_) fun c => ?_
  ·have c := of_decide_eq_true c
   refine Ok.guard (by omega) (Ok.guard (by omega) (Ok.guard (by omega) (Ok.guard (by omega) ?_)))
   refine Ok.step (Js _ _) ?_
   refine Ok.ite (fun c2 => ?_) fun c2 => ?_
   ·have c2 : ¬ S.getD m 0 < S.getD a 0 := by simpa using c2
    have hw : w64 ((m : Int) - 1) = ((m - 1 : Nat) : Int) := by
     rw [Ax (by omega) (by omega)]
     omega
    rw [hw]
    exact hn2 _ ⟨m - 1,rfl,hm.decJ (by omega) c2,by omega⟩ (by omega)
   ·have c2 : S.getD m 0 < S.getD a 0 := by
     rw [Bool.not_eq_false'] at c2
     exact of_decide_eq_true c2
    refine Ok.ite (fun c3 => by have := of_decide_eq_true c3; omega) fun _ => ?_
    refine Ok.guard (by omega) (Ok.guard (by omega) (Ok.guard (by omega) (Ok.guard (by omega) (Ok.guard (by omega) (Ok.guard (by omega) (Ok.guard (by omega) (Ok.guard (by omega) ?_)))))))
    have w1 : w64 ((k : Int) + 1) = ((k + 1 : Nat) : Int) := by
     rw [Ax (by omega) (by omega)]
     omega
    have w2 : w64 ((m : Int) - 1) = ((m - 1 : Nat) : Int) := by
     rw [Ax (by omega) (by omega)]
     omega
    rw [w1,w2]
    exact part_loop hb hl (hm.swap hb (by omega) (hstop (by omega)) c2)
  ·have c := of_decide_eq_false c
   simp only [Bool.false_eq_true,if_false]
   refine Ok.ite (fun _ => ?_) fun c3 => by have := of_decide_eq_false c3; omega
   refine Ok.guard (by omega) (Ok.guard (by omega) (Ok.guard (by omega) (Ok.guard (by omega) (Ok.guard (by omega) (Ok.guard (by omega) (Ok.guard (by omega) (Ok.guard (by omega) (Ok.ret ?_))))))))
   exact hm.fin hb (by omega) true
 unfold Ig Ei
 rw [wb,ea,ek,ep,hS']
 refine Ok.ite (fun c => ?_) fun c => ?_
 ·have c := of_decide_eq_true c
  refine Ok.guard (by omega) (Ok.guard (by omega) (Ok.guard (by omega) (Ok.guard (by omega) ?_)))
  refine Ok.step (Js _ _) ?_
  refine Ok.ite (fun c2 => ?_) fun c2 => second fun _ => of_decide_eq_false c2
  have c2 := of_decide_eq_true c2
  have hw : w64 ((k : Int) + 1) = ((k + 1 : Nat) : Int) := by
   rw [Ax (by omega) (by omega)]
   omega
  rw [hw]
  exact hn1 _ ⟨k + 1,rfl,hk.incI (by omega) c2⟩ (by omega)
 ·have c := of_decide_eq_false c
  simp only [Bool.false_eq_true,if_false]
  exact second fun e => by omega
structure PartF (L : List Int) (a b : Nat) (v : Int) (M : List Int) (i j : Nat) : Prop where
 rp : RP a b L M
 pv : M.getD a 0 = v
 i1 : a + 1 ≤ i
 ij : i ≤ j + 1
 jb : j < b
 ja : a ≤ j
 lo : ∀ k,a + 1 ≤ k → k < i → ¬ v < M.getD k 0
 hi : ∀ k,j < k → k < b → v < M.getD k 0
theorem AcW {L : List Int} {a b p : Nat} (hab : a + 1 < b) (hb : b ≤ L.length) (hl : L.length ≤ 1000000) (p1 : a ≤ p) (p2 : p < b) :
  Ok (Dp L (a : Int) (b : Int) (p : Int)) (fun r => ∃ m : Nat,r.1 = (m : Int) ∧ a + 1 ≤ m ∧ m ≤ b ∧ RP a b L r.2 ∧ (∀ k,a ≤ k → k < m → r.2.getD k 0 ≤ L.getD p 0) ∧ (∀ k,m ≤ k → k < b → L.getD p 0 < r.2.getD k 0)) := by
 have ea : Int.toNat (a : Int) = a := by omega
 have ep : Int.toNat (p : Int) = p := by omega
 have wa : w64 ((a : Int) + 1) = ((a + 1 : Nat) : Int) := by
  rw [Ax (by omega) (by omega)]
  omega
 have wb : w64 ((b : Int) - 1) = ((b - 1 : Nat) : Int) := by
  rw [Ax (by omega) (by omega)]
  omega
 have rp0 : RP a b L (Dk L a p) := RP.swap hb (Nat.le_refl _) (by omega) p1 p2
 have hpv : (Dk L a p).getD a 0 = L.getD p 0 := by
  rw [Hp (by omega) (by omega)]
  split
  ·rename_i e
   rw [e]
  ·rw [if_pos rfl]
 unfold Dp
 rw [ea,ep,wa,wb]
 refine Ok.guard (by omega) (Ok.guard (by omega) (Ok.guard (by omega) (Ok.guard (by omega) (Ok.guard (by omega) (Ok.guard (by omega) (Ok.guard (by omega) (Ok.guard (by omega) ?_)))))))
 refine Ok.while (fun s => ∃ i j : Nat,s.2.2 = (i : Int) ∧ s.2.1 = (j : Int) ∧ PartF L a b (L.getD p 0) s.1 i j) (fun s => (s.2.1 + 1 - s.2.2).toNat) ⟨a + 1,b - 1,rfl,rfl,⟨rp0,hpv,by omega,by omega,by omega,by omega,fun k k1 k2 => by omega,fun k k1 k2 => by omega⟩⟩ (by rw [Dd]; simp only; omega) ?_
 rintro ⟨M,y,x⟩ n ⟨i,j,hx,hy,h⟩ hn
 simp only at hx hy h
 subst hx hy
 unfold Gw
 simp only
 refine Ok.while (fun q => ∃ k : Nat,q = (k : Int) ∧ i ≤ k ∧ PartF L a b (L.getD p 0) M k j) (fun q => ((j : Int) + 1 - q).toNat) ⟨i,rfl,Nat.le_refl _,h⟩ (by rw [Dd]; have := h.jb; omega) ?_
 rintro q n1 ⟨k,rfl,hik,hk⟩ hn1
 have hM := hk.rp.len
 have hjb := hk.jb
 have hka := hk.i1
 have hja := hk.ja
 have hpv := hk.pv
 have ek : Int.toNat (k : Int) = k := by omega
 have second : ((k : Int) ≤ (j : Int) → L.getD p 0 < M.getD k 0) → Ok (whileO (Eu (a : Int) (M,(j : Int),(i : Int)) n (k : Int)) En (j : Int)) (fun r => ∃ m : Nat,r.1 = (m : Int) ∧ a + 1 ≤ m ∧ m ≤ b ∧ RP a b L r.2 ∧ (∀ k,a ≤ k → k < m → r.2.getD k 0 ≤ L.getD p 0) ∧ (∀ k,m ≤ k → k < b → L.getD p 0 < r.2.getD k 0)) := by
  intro hstop
  refine Ok.while (fun q => ∃ m : Nat,q = (m : Int) ∧ PartF L a b (L.getD p 0) M k m ∧ m ≤ j) (fun q => q.toNat) ⟨j,rfl,hk,Nat.le_refl _⟩ (by rw [Dd]; omega) ?_
  rintro q n2 ⟨m,rfl,hm,hmj⟩ hn2
  have hmb := hm.jb
  have hma := hm.ja
  have hkm := hm.ij
  have em : Int.toNat (m : Int) = m := by omega
  unfold Eu Cz
  simp only
  rw [ea,em,ek]
  refine Ok.ite (fun c => ?_) fun c => ?_
  ·have c := of_decide_eq_true c
   refine Ok.guard (by omega) (Ok.guard (by omega) (Ok.guard (by omega) (Ok.guard (by omega) ?_)))
   refine Ok.step (Js _ _) ?_
   refine Ok.ite (fun c2 => ?_) fun c2 => ?_
   ·have c2 := of_decide_eq_true c2
    have hw : w64 ((m : Int) - 1) = ((m - 1 : Nat) : Int) := by
     rw [Ax (by omega) (by omega)]
     omega
    rw [hw]
    refine hn2 _ ⟨m - 1,rfl,⟨hm.rp,hm.pv,hm.i1,by omega,by omega,by omega,hm.lo,fun r r1 r2 => ?_⟩,by omega⟩ (by omega)
    by_cases e : r = m
    ·subst e
     omega
    ·exact hm.hi r (by omega) r2
   ·have c2 := of_decide_eq_false c2
    refine Ok.ite (fun c3 => by have := of_decide_eq_true c3; omega) fun _ => ?_
    refine Ok.guard (by omega) (Ok.guard (by omega) (Ok.guard (by omega) (Ok.guard (by omega) (Ok.guard (by omega) (Ok.guard (by omega) (Ok.guard (by omega) (Ok.guard (by omega) ?_)))))))
    have w1 : w64 ((k : Int) + 1) = ((k + 1 : Nat) : Int) := by
     rw [Ax (by omega) (by omega)]
     omega
    have w2 : w64 ((m : Int) - 1) = ((m - 1 : Nat) : Int) := by
     rw [Ax (by omega) (by omega)]
     omega
    rw [w1,w2]
    have hst := hstop (by omega)
    have hne : k ≠ m := fun e => by subst e; omega
    have hg : ∀ r,(Dk M k m).getD r 0 = if r = m then M.getD k 0 else if r = k then M.getD m 0 else M.getD r 0 := fun r => Hp (by omega) (by omega)
    refine hn (Dk M k m,_,_) ⟨k + 1,m - 1,rfl,rfl,⟨hm.rp.trans (RP.swap (by omega) (by omega) (by omega) (by omega) (by omega)),?_,by omega,by omega,by omega,by omega,?_,?_⟩⟩ (by simp only; omega)
    ·rw [hg,if_neg (by omega),if_neg (by omega)]
     exact hpv
    ·intro r r1 r2
     rw [hg]
     by_cases e : r = k
     ·rw [if_neg (by omega),if_pos e]
      omega
     ·rw [if_neg (by omega),if_neg e]
      exact hm.lo r r1 (by omega)
    ·intro r r1 r2
     rw [hg]
     by_cases e : r = m
     ·rw [if_pos e]
      exact hst
     ·rw [if_neg e,if_neg (by omega)]
      exact hm.hi r (by omega) r2
  ·have c := of_decide_eq_false c
   simp only [Bool.false_eq_true,if_false]
   refine Ok.ite (fun _ => Ok.ret ⟨k,rfl,by omega,by omega,hm.rp,fun r r1 r2 => ?_,fun r r1 r2 => hm.hi r (by omega) r2⟩) fun c3 => by have := of_decide_eq_false c3; omega
   by_cases e : r = a
   ·subst e
    simp only
    omega
   ·have := hm.lo r (by omega) r2
    simp only
    omega
 unfold Gv Da
 simp only
 rw [ea,ek]
 refine Ok.ite (fun c => ?_) fun c => ?_
 ·have c := of_decide_eq_true c
  refine Ok.guard (by omega) (Ok.guard (by omega) (Ok.guard (by omega) (Ok.guard (by omega) ?_)))
  refine Ok.step (Js _ _) ?_
  refine Ok.ite (fun c2 => ?_) fun c2 => ?_
  ·have c2 : ¬ M.getD a 0 < M.getD k 0 := by simpa using c2
   have hw : w64 ((k : Int) + 1) = ((k + 1 : Nat) : Int) := by
    rw [Ax (by omega) (by omega)]
    omega
   rw [hw]
   refine hn1 _ ⟨k + 1,rfl,by omega,⟨hk.rp,hk.pv,by omega,by omega,hk.jb,hk.ja,fun r r1 r2 => ?_,hk.hi⟩⟩ (by omega)
   by_cases e : r = k
   ·subst e
    omega
   ·exact hk.lo r r1 (by omega)
  ·have c2 : M.getD a 0 < M.getD k 0 := by
    rw [Bool.not_eq_false'] at c2
    exact of_decide_eq_true c2
   exact second fun _ => by omega
 ·have c := of_decide_eq_false c
  simp only [Bool.false_eq_true,if_false]
  exact second fun e => absurd e c
end Go.Dm

/- Plain theory, part 28: the library's heap sort. -/
namespace Go.Dm
def AcQ (a lo hi : Nat) (M : List Int) : Prop := ∀ c,1 ≤ c → c < hi → lo ≤ (c - 1) / 2 → M.getD (a + c) 0 ≤ M.getD (a + (c - 1) / 2) 0
theorem Adp {L : List Int} {a b lo hi : Nat} (hb : b ≤ L.length) (hl : L.length ≤ 1000000) (hhi : a + hi ≤ b) (hlo : lo ≤ 1000000) (hpre : AcQ a (lo + 1) hi L) :
  Ok (Ea L (lo : Int) (hi : Int) (a : Int)) (fun M => RP a (a + hi) L M ∧ AcQ a lo hi M) := by
 unfold Ea
 refine Ok.while (fun s => ∃ r : Nat,s.2 = (r : Int) ∧ lo ≤ r ∧ r ≤ 1000000 ∧ RP a (a + hi) L s.1 ∧ (∀ c,1 ≤ c → c < hi → lo ≤ (c - 1) / 2 → (c - 1) / 2 ≠ r → s.1.getD (a + c) 0 ≤ s.1.getD (a + (c - 1) / 2) 0) ∧
  (1 ≤ r → lo ≤ (r - 1) / 2 → ∀ c,1 ≤ c → c < hi → (c - 1) / 2 = r → s.1.getD (a + c) 0 ≤ s.1.getD (a + (r - 1) / 2) 0)) (fun s => 1000001 - s.2.toNat) ?_ (by rw [Dd]; omega) ?_
 ·exact ⟨lo,rfl,Nat.le_refl _,hlo,.refl _ _ _,fun c c1 c2 c3 c4 => hpre c c1 c2 (by omega),fun h1 h2 => by omega⟩
 rintro ⟨M,x⟩ n ⟨r,hx,r1,r2,rp,hA,hB⟩ hn
 simp only at hx rp hA hB
 subst hx
 have hM := rp.len
 have w1 : w64 ((w64 (2 * (r : Int))) + 1) = ((2 * r + 1 : Nat) : Int) := by
  rw [Ax (n := 2 * (r : Int)) (by omega) (by omega),Ax (by omega) (by omega)]
  omega
 have w2 : w64 (((2 * r + 1 : Nat) : Int) + 1) = ((2 * r + 2 : Nat) : Int) := by
  rw [Ax (by omega) (by omega)]
  omega
 unfold Is
 simp only
 rw [w1,w2]
 refine Ok.ite (fun c => ?_) fun c => ?_
 ·have c := of_decide_eq_true c
  refine Ok.ret ⟨rp,fun d d1 d2 d3 => hA d d1 d2 d3 (by omega)⟩
 have c := of_decide_eq_false c
 have hr : 2 * r + 1 < hi := by omega
 have hJ4 : ∀ m : Nat,m < hi → (m = 2 * r + 1 ∨ m = 2 * r + 2) → (∀ d,1 ≤ d → d < hi → (d - 1) / 2 = r → M.getD (a + d) 0 ≤ M.getD (a + m) 0) → Ok (Dh (a : Int) (M,(r : Int)) n (m : Int)) (fun M => RP a (a + hi) L M ∧ AcQ a lo hi M) := by
  intro m hm hmc hmax
  have e1 : w64 ((a : Int) + (r : Int)) = ((a + r : Nat) : Int) := by
   rw [Ax (by omega) (by omega)]
   omega
  have e2 : w64 ((a : Int) + (m : Int)) = ((a + m : Nat) : Int) := by
   rw [Ax (by omega) (by omega)]
   omega
  have e3 : Int.toNat ((a + r : Nat) : Int) = a + r := by omega
  have e4 : Int.toNat ((a + m : Nat) : Int) = a + m := by omega
  unfold Dh
  simp only
  rw [e1,e2,e3,e4]
  refine Ok.guard (by omega) (Ok.guard (by omega) (Ok.guard (by omega) (Ok.guard (by omega) ?_)))
  refine Ok.step (Js _ _) ?_
  refine Ok.ite (fun c2 => ?_) fun c2 => ?_
  ·have c2 : ¬ M.getD (a + r) 0 < M.getD (a + m) 0 := by simpa using c2
   refine Ok.ret ⟨rp,fun d d1 d2 d3 => ?_⟩
   by_cases e : (d - 1) / 2 = r
   ·rw [e]
    have := hmax d d1 d2 e
    omega
   ·exact hA d d1 d2 d3 e
  ·have c2 : M.getD (a + r) 0 < M.getD (a + m) 0 := by
    rw [Bool.not_eq_false'] at c2
    exact of_decide_eq_true c2
   refine Ok.guard (by omega) (Ok.guard (by omega) (Ok.guard (by omega) (Ok.guard (by omega) (Ok.guard (by omega) (Ok.guard (by omega) (Ok.guard (by omega) (Ok.guard (by omega) ?_)))))))
   have hg : ∀ q,(Dk M (a + r) (a + m)).getD q 0 = if q = a + m then M.getD (a + r) 0 else if q = a + r then M.getD (a + m) 0 else M.getD q 0 := fun q => Hp (by omega) (by omega)
   refine hn (Dk M (a + r) (a + m),(m : Int)) ⟨m,rfl,by omega,by omega,rp.trans (RP.swap (by omega) (by omega) (by omega) (by omega) (by omega)),?_,?_⟩ (by simp only; omega)
   ·intro d d1 d2 d3 d4
    simp only
    rw [hg,hg]
    by_cases ep : (d - 1) / 2 = r
    ·rw [if_neg (c := a + (d - 1) / 2 = a + m) (by omega),if_pos (c := a + (d - 1) / 2 = a + r) (by omega)]
     by_cases ed : d = m
     ·rw [if_pos (by omega)]
      omega
     ·rw [if_neg (by omega),if_neg (by omega)]
      exact hmax d d1 d2 ep
    ·rw [if_neg (c := a + (d - 1) / 2 = a + m) (by omega),if_neg (c := a + (d - 1) / 2 = a + r) (by omega),if_neg (c := a + d = a + m) (by omega)]
     by_cases ed : d = r
     ·rw [if_pos (by omega)]
      have := hB (by omega) (by omega) m (by omega) hm (by omega)
      rw [ed]
      exact this
     ·rw [if_neg (by omega)]
      exact hA d d1 d2 d3 ep
   ·intro _ _ d d1 d2 d3
    simp only
    have hpm : (m - 1) / 2 = r := by omega
    rw [hpm,hg,hg,if_neg (by omega),if_neg (by omega),if_neg (by omega),if_pos rfl]
    have := hA d d1 d2 (by omega) (by omega)
    rw [d3] at this
    exact this
 unfold Ex
 simp only
 have e5 : w64 ((a : Int) + ((2 * r + 1 : Nat) : Int)) = ((a + (2 * r + 1) : Nat) : Int) := by
  rw [Ax (by omega) (by omega)]
  omega
 have e6 : w64 (((a + (2 * r + 1) : Nat) : Int) + 1) = ((a + (2 * r + 2) : Nat) : Int) := by
  rw [Ax (by omega) (by omega)]
  omega
 have e7 : Int.toNat ((a + (2 * r + 1) : Nat) : Int) = a + (2 * r + 1) := by omega
 have e8 : Int.toNat ((a + (2 * r + 2) : Nat) : Int) = a + (2 * r + 2) := by omega
 rw [w1,w2,e5,e6,e7,e8]
 refine Ok.ite (fun c2 => ?_) fun c2 => ?_
 ·have c2 := of_decide_eq_true c2
  refine Ok.guard (by omega) (Ok.guard (by omega) (Ok.guard (by omega) (Ok.guard (by omega) ?_)))
  refine Ok.step (Js _ _) ?_
  refine Ok.ite (fun c3 => hJ4 (2 * r + 2) (by omega) (.inr rfl) fun d d1 d2 d3 => ?_) fun c3 => hJ4 (2 * r + 1) (by omega) (.inl rfl) fun d d1 d2 d3 => ?_
  ·have c3 := of_decide_eq_true c3
   by_cases e : d = 2 * r + 2
   ·rw [e]
    omega
   ·have : d = 2 * r + 1 := by omega
    rw [this]
    omega
  ·have c3 := of_decide_eq_false c3
   by_cases e : d = 2 * r + 1
   ·rw [e]
    omega
   ·have : d = 2 * r + 2 := by omega
    rw [this]
    omega
 ·have c2 := of_decide_eq_false c2
  simp only [Bool.false_eq_true,if_false]
  refine hJ4 (2 * r + 1) (by omega) (.inl rfl) fun d d1 d2 d3 => ?_
  have : d = 2 * r + 1 := by omega
  rw [this]
  omega
theorem heap_max {a hi : Nat} {M : List Int} (h : AcQ a 0 hi M) : ∀ c,c < hi → M.getD (a + c) 0 ≤ M.getD a 0 := by
 intro c
 induction c using Nat.strongRecOn with
 | ind c ih =>
  intro hc
  by_cases e : c = 0
  ·subst e
   simp
  ·have h1 := h c (by omega) hc (by omega)
   have h2 := ih ((c - 1) / 2) (by omega) (by omega)
   omega
theorem AgR {L : List Int} {a b : Nat} (hab : a < b) (hb : b ≤ L.length) (hl : L.length ≤ 1000000) : Ok (Fp L (a : Int) (b : Int)) (fun M => RP a b L M ∧ Fs a b M) := by
 have wn : w64 ((b : Int) - (a : Int)) = ((b - a : Nat) : Int) := by
  rw [Ax (by omega) (by omega)]
  omega
 have wn1 : w64 (((b - a : Nat) : Int) - 1) = ((b - a - 1 : Nat) : Int) := by
  rw [Ax (by omega) (by omega)]
  omega
 have wh : w64 (Int.tdiv ((b - a - 1 : Nat) : Int) 2) = (((b - a - 1) / 2 : Nat) : Int) := by
  rw [Int.tdiv_eq_ediv_of_nonneg (by omega),Ax (by omega) (by omega)]
  omega
 have ea : Int.toNat (a : Int) = a := by omega
 unfold Fp
 rw [wn,wn1,wh]
 refine Ok.while (fun s => ∃ k : Nat,s.2 = (k : Int) - 1 ∧ k ≤ 1000000 ∧ RP a b L s.1 ∧ AcQ a k (b - a) s.1) (fun s => (s.2 + 1).toNat) ?_ ?_ ?_
 ·exact ⟨(b - a - 1) / 2 + 1,by simp only; omega,by omega,.refl _ _ _,fun c c1 c2 c3 => by omega⟩
 ·rw [Dd]
  simp only
  omega
 rintro ⟨M,x⟩ n ⟨k,hx,hk,rp,hp⟩ hn
 simp only at hx rp hp
 subst hx
 have hM := rp.len
 unfold Iw
 simp only
 refine Ok.ite (fun c => ?_) fun c => ?_
 ·have c := of_decide_eq_true c
  have ek : (k : Int) - 1 = ((k - 1 : Nat) : Int) := by omega
  rw [wn,ek]
  refine Ok.bind (Adp (b := b) (by omega) (by omega) (by omega) (by omega) (by rw [show k - 1 + 1 = k by omega]; exact hp)) fun N ⟨rn,hn2⟩ => ?_
  refine Ok.guard rn.len.symm (hn _ ⟨k - 1,?_,by omega,rp.trans (by rw [show a + (b - a) = b by omega] at rn; exact rn),hn2⟩ ?_)
  ·simp only
   rw [Ax (by omega) (by omega)]
  ·simp only
   rw [Ax (by omega) (by omega)]
   omega
 ·have c := of_decide_eq_false c
  have k0 : k = 0 := by omega
  subst k0
  rw [wn,wn1]
  clear hn
  refine Ok.while (fun s => ∃ k : Nat,s.2 = (k : Int) - 1 ∧ k ≤ b - a ∧ RP a b L s.1 ∧ AcQ a 0 k s.1 ∧ (∀ p q,k ≤ p → p < q → q < b - a → s.1.getD (a + p) 0 ≤ s.1.getD (a + q) 0) ∧ (∀ p q,p < k → k ≤ q → q < b - a → s.1.getD (a + p) 0 ≤ s.1.getD (a + q) 0)) (fun s => (s.2 + 1).toNat) ?_ ?_ ?_
  ·exact ⟨b - a,by simp only; omega,Nat.le_refl _,rp,hp,fun p q h1 h2 h3 => by omega,fun p q h1 h2 h3 => by omega⟩
  ·rw [Dd]
   simp only
   omega
  clear rp hp hM hk c
  rintro ⟨M,x⟩ n ⟨k,hx,hk,rp,hp,h1,h2⟩ hn
  simp only at hx rp hp h1 h2
  subst hx
  have hM := rp.len
  unfold Iu
  simp only
  refine Ok.ite (fun c => ?_) fun c => ?_
  ·have c := of_decide_eq_true c
   obtain ⟨i,rfl⟩ : ∃ i,k = i + 1 := ⟨k - 1,by omega⟩
   have ek : ((i + 1 : Nat) : Int) - 1 = (i : Int) := by omega
   have e1 : w64 ((a : Int) + (i : Int)) = ((a + i : Nat) : Int) := by
    rw [Ax (by omega) (by omega)]
    omega
   have e2 : Int.toNat ((a + i : Nat) : Int) = a + i := by omega
   rw [ek,e1,e2,ea]
   refine Ok.guard (by omega) (Ok.guard (by omega) (Ok.guard (by omega) (Ok.guard (by omega) (Ok.guard (by omega) (Ok.guard (by omega) (Ok.guard (by omega) (Ok.guard (by omega) ?_)))))))
   have hS : (M.set a (M.getD (a + i) 0)).set (a + i) (M.getD a 0) = Dk M a (a + i) := rfl
   rw [hS]
   have hg : ∀ q,(Dk M a (a + i)).getD q 0 = if q = a + i then M.getD a 0 else if q = a then M.getD (a + i) 0 else M.getD q 0 := fun q => Hp (by omega) (by omega)
   have hmax := heap_max hp
   have hsl := Acg M a (a + i)
   have rps : RP a b M (Dk M a (a + i)) := RP.swap (by omega) (by omega) (by omega) (by omega) (by omega)
   generalize Dk M a (a + i) = S at *
   refine Ok.bind (Adp (L := S) (a := a) (b := b) (lo := 0) (hi := i) (by omega) (by omega) (by omega) (by omega) (fun d d1 d2 d3 => ?_)) fun N ⟨rn,hn2⟩ => ?_
   ·rw [hg,hg,if_neg (by omega),if_neg (by omega),if_neg (by omega),if_neg (by omega)]
    exact hp d d1 (by omega) (by omega)
   refine Ok.guard rn.len.symm ?_
   have hwi : w64 ((i : Int) - 1) = (i : Int) - 1 := Ax (by omega) (by omega)
   rw [hwi]
   have hout : ∀ q,i ≤ q → N.getD (a + q) 0 = S.getD (a + q) 0 := fun q hq => rn.out (a + q) (by omega)
   have hSi : S.getD (a + i) 0 = M.getD a 0 := by rw [hg,if_pos rfl]
   have hSq : ∀ q,i < q → S.getD (a + q) 0 = M.getD (a + q) 0 := fun q hq => by rw [hg,if_neg (by omega),if_neg (by omega)]
   have hSp : ∀ v : Int,(∀ p,p < i + 1 → M.getD (a + p) 0 ≤ v) → ∀ p,p < i → N.getD (a + p) 0 ≤ v := by
    intro v hv p hp'
    refine rn.all (P := fun z => z ≤ v) (fun r r1 r2 => ?_) (a + p) (by omega) (by omega)
    rw [hg]
    split
    ·exact hv 0 (by omega)
    ·split
     ·exact hv i (by omega)
     ·have := hv (r - a) (by omega)
      rw [show a + (r - a) = r by omega] at this
      exact this
   refine hn _ ⟨i,rfl,by omega,rp.trans (rps.trans (rn.widen (Nat.le_refl _) (by omega))),hn2,?_,?_⟩ (by simp only; omega)
   ·intro p q p1 p2 p3
    simp only
    rw [hout p p1,hout q (by omega),hSq q (by omega)]
    by_cases e : p = i
    ·rw [e,hSi]
     have := h2 0 q (by omega) (by omega) p3
     simpa using this
    ·rw [hSq p (by omega)]
     exact h1 p q (by omega) p2 p3
   ·intro p q p1 p2 p3
    simp only
    rw [hout q p2]
    by_cases e : q = i
    ·rw [e,hSi]
     exact hSp _ (fun r hr => hmax r hr) p p1
    ·rw [hSq q (by omega)]
     exact hSp _ (fun r hr => h2 r q hr (by omega) p3) p p1
  ·have c := of_decide_eq_false c
   have k0 : k = 0 := by omega
   subst k0
   refine Ok.ret ⟨rp,fun p q p1 p2 p3 => ?_⟩
   have := h1 (p - a) (q - a) (by omega) (by omega) (by omega)
   rw [show a + (p - a) = p by omega,show a + (q - a) = q by omega] at this
   exact this
end Go.Dm

/- Plain theory, part 29: the library's sort sorts. -/
namespace Go.Dm
theorem kand_le {x y : Int} (h0 : 0 ≤ y) (h1 : y < 18446744073709551616) : 0 ≤ kand .u64 x y ∧ kand .u64 x y ≤ y := by
 unfold kand
 have hb : IntKind.u64.bits = 64 := rfl
 rw [hb]
 obtain ⟨n,rfl⟩ : ∃ n : Nat,y = (n : Int) := ⟨y.toNat,by omega⟩
 have hn : n < 2 ^ 64 := by omega
 have hle : (BitVec.ofInt 64 x &&& BitVec.ofInt 64 (n : Int)).toNat ≤ n := by
  rw [BitVec.toNat_and]
  refine Nat.le_trans Nat.and_le_right ?_
  rw [BitVec.ofInt_natCast,BitVec.toNat_ofNat]
  exact Nat.mod_le _ _
 have hw : IntKind.u64.wrap (((BitVec.ofInt 64 x &&& BitVec.ofInt 64 (n : Int)).toNat : Nat) : Int) = (((BitVec.ofInt 64 x &&& BitVec.ofInt 64 (n : Int)).toNat : Nat) : Int) := by
  generalize (BitVec.ofInt 64 x &&& BitVec.ofInt 64 (n : Int)).toNat = q at *
  have : IntKind.u64.wrap (q : Int) = (q : Int) % 18446744073709551616 := rfl
  rw [this]
  omega
 rw [hw]
 omega
theorem pow2_all : (List.range 1001).all (fun n => (Gd (n : Int)).any (fun k => n == 0 || (decide ((n : Int) < k) && decide (k ≤ 2 * (n : Int)) && (IntKind.u64.wrap (k - 1) == k - 1)))) = true := by decide +kernel
theorem pow2_ok {n : Nat} (h0 : 0 < n) (hn : n ≤ 1000) : Ok (Gd (n : Int)) (fun k => (n : Int) < k ∧ k ≤ 2 * (n : Int) ∧ IntKind.u64.wrap (k - 1) = k - 1) := by
 have := List.all_eq_true.mp pow2_all n (by rw [List.mem_range]; omega)
 cases hb : Gd (n : Int) with
 | none => rw [hb] at this; simp at this
 | some k =>
  rw [hb] at this
  simp only [Option.any_some,Bool.or_eq_true,beq_iff_eq,Bool.and_eq_true,decide_eq_true_eq] at this
  rcases this with h | ⟨⟨h1,h2⟩,h3⟩
  ·omega
  ·exact ⟨k,rfl,h1,h2,h3⟩
def InR (a b : Nat) (x : Int) : Prop := ∃ n : Nat,x = (n : Int) ∧ a ≤ n ∧ n < b
theorem Ace {L : List Int} {a b : Nat} (hb : b ≤ L.length) {x y : Int} (hx : InR a b x) (hy : InR a b y) (c : Int) : Ok (Dn L x y c) (fun r => InR a b r.1 ∧ InR a b r.2.1) := by
 obtain ⟨n,rfl,n1,n2⟩ := hx
 obtain ⟨m,rfl,m1,m2⟩ := hy
 unfold Dn
 refine Ok.guard (by omega) (Ok.guard (by omega) ?_)
 refine Ok.step (Js _ _) ?_
 exact Ok.ite (fun _ => Ok.ret ⟨⟨m,rfl,m1,m2⟩,⟨n,rfl,n1,n2⟩⟩) fun _ => Ok.ret ⟨⟨n,rfl,n1,n2⟩,⟨m,rfl,m1,m2⟩⟩
theorem Afp {L : List Int} {a b : Nat} (hb : b ≤ L.length) {x y z : Int} (hx : InR a b x) (hy : InR a b y) (hz : InR a b z) (c : Int) : Ok (Ew L x y z c) (fun r => InR a b r.1) := by
 unfold Ew
 refine Ok.bind (Ace hb hx hy c) fun r ⟨r1,r2⟩ => ?_
 refine Ok.bind (Ace hb r2 hz _) fun s ⟨s1,s2⟩ => ?_
 refine Ok.bind (Ace hb r1 s1 _) fun t ⟨t1,t2⟩ => ?_
 exact Ok.ret t2
theorem Zr {L : List Int} {a b : Nat} (hb : b ≤ L.length) (hl : L.length ≤ 1000000) {n : Nat} (n1 : a + 1 ≤ n) (n2 : n + 1 < b) (c : Int) : Ok (Ci L (n : Int) c) (fun r => InR a b r.1) := by
 unfold Ci
 have e1 : w64 ((n : Int) - 1) = ((n - 1 : Nat) : Int) := by
  rw [Ax (by omega) (by omega)]
  omega
 have e2 : w64 ((n : Int) + 1) = ((n + 1 : Nat) : Int) := by
  rw [Ax (by omega) (by omega)]
  omega
 rw [e1,e2]
 refine Ok.bind (Afp (a := a) (b := b) hb ⟨n - 1,rfl,by omega,by omega⟩ ⟨n,rfl,by omega,by omega⟩ ⟨n + 1,rfl,by omega,by omega⟩ c) fun r hr => ?_
 exact Ok.ret hr
theorem AeS {L : List Int} {a b : Nat} (hab : a + 12 < b) (hb : b ≤ L.length) (hl : L.length ≤ 1000000) : Ok (Er L (a : Int) (b : Int)) (fun r => InR a b r.1) := by
 unfold Er
 have wn : w64 ((b : Int) - (a : Int)) = ((b - a : Nat) : Int) := by
  rw [Ax (by omega) (by omega)]
  omega
 have wq : w64 (Int.tdiv ((b - a : Nat) : Int) 4) = (((b - a) / 4 : Nat) : Int) := by
  rw [Int.tdiv_eq_ediv_of_nonneg (by omega),Ax (by omega) (by omega)]
  omega
 rw [wn,wq]
 have hq : 3 ≤ (b - a) / 4 := by omega
 have hq2 : 4 * ((b - a) / 4) ≤ b - a := by omega
 generalize (b - a) / 4 = q at *
 have m1 : w64 ((a : Int) + w64 ((q : Int) * 1)) = ((a + q : Nat) : Int) := by
  rw [Ax (n := (q : Int) * 1) (by omega) (by omega),Ax (by omega) (by omega)]
  omega
 have m2 : w64 ((a : Int) + w64 ((q : Int) * 2)) = ((a + 2 * q : Nat) : Int) := by
  rw [Ax (n := (q : Int) * 2) (by omega) (by omega),Ax (by omega) (by omega)]
  omega
 have m3 : w64 ((a : Int) + w64 ((q : Int) * 3)) = ((a + 3 * q : Nat) : Int) := by
  rw [Ax (n := (q : Int) * 3) (by omega) (by omega),Ax (by omega) (by omega)]
  omega
 rw [m1,m2,m3]
 have hJ1 : ∀ y : Int × Int,InR a b y.2 → Ok (Cu y) (fun r => InR a b r.1) := by
  intro y hy
  unfold Cu
  exact Ok.ite (fun _ => Ok.ret hy) fun _ => Ok.ite (fun _ => Ok.ret hy) fun _ => Ok.ret hy
 have hJ2 : ∀ y : Int × Int × Int × Int,InR a b y.2.1 → InR a b y.2.2.1 → InR a b y.2.2.2 → Ok (Cv L y) (fun r => InR a b r.1) := by
  intro y h1 h2 h3
  unfold Cv
  exact Ok.bind (Afp hb h1 h2 h3 _) fun r hr => hJ1 _ hr
 refine Ok.ite (fun _ => ?_) fun c => ?_
 ·refine Ok.ite (fun c => ?_) fun _ => ?_
  ·have := of_decide_eq_true c
   refine Ok.bind (Zr (a := a) (b := b) (n := a + q) hb hl (by omega) (by omega) 0) fun r hr => ?_
   refine Ok.bind (Zr (a := a) (b := b) (n := a + 2 * q) hb hl (by omega) (by omega) _) fun s hs => ?_
   refine Ok.bind (Zr (a := a) (b := b) (n := a + 3 * q) hb hl (by omega) (by omega) _) fun t ht => ?_
   exact hJ2 _ hr hs ht
  ·exact hJ2 _ ⟨_,rfl,by omega,by omega⟩ ⟨_,rfl,by omega,by omega⟩ ⟨_,rfl,by omega,by omega⟩
 ·exact hJ1 _ ⟨_,rfl,by omega,by omega⟩
theorem Ahx {L : List Int} {a b : Nat} (hab : a < b) (hb : b ≤ L.length) (hl : L.length ≤ 1000000) : Ok (El L (a : Int) (b : Int)) (fun M => RP a b L M) := by
 unfold El
 have wb : w64 ((b : Int) - 1) = ((b - 1 : Nat) : Int) := by
  rw [Ax (by omega) (by omega)]
  omega
 rw [wb]
 refine Ok.while (fun s => ∃ i j : Nat,s.2.1 = (i : Int) ∧ s.2.2 = (j : Int) ∧ a ≤ i ∧ j < b ∧ i ≤ j + 1 ∧ RP a b L s.1) (fun s => (s.2.2 + 1 - s.2.1).toNat) ⟨a,b - 1,rfl,rfl,Nat.le_refl _,by omega,by omega,.refl _ _ _⟩ (by rw [Dd]; simp only; omega) ?_
 rintro ⟨M,x,y⟩ n ⟨i,j,hx,hy,h1,h2,h3,rp⟩ hn
 simp only at hx hy rp
 subst hx hy
 have hM := rp.len
 have ei : Int.toNat (i : Int) = i := by omega
 have ej : Int.toNat (j : Int) = j := by omega
 unfold Hm
 simp only
 rw [ei,ej]
 refine Ok.ite (fun c => ?_) fun _ => Ok.ret rp
 have c := of_decide_eq_true c
 have w1 : w64 ((i : Int) + 1) = ((i + 1 : Nat) : Int) := by
  rw [Ax (by omega) (by omega)]
  omega
 have w2 : w64 ((j : Int) - 1) = ((j - 1 : Nat) : Int) := by
  rw [Ax (by omega) (by omega)]
  omega
 rw [w1,w2]
 refine Ok.guard (by omega) (Ok.guard (by omega) (Ok.guard (by omega) (Ok.guard (by omega) (Ok.guard (by omega) (Ok.guard (by omega) (Ok.guard (by omega) (Ok.guard (by omega) ?_)))))))
 exact hn (Dk M i j,_,_) ⟨i + 1,j - 1,rfl,rfl,by omega,by omega,by omega,rp.trans (RP.swap (by omega) (by omega) (by omega) (by omega) (by omega))⟩ (by simp only; omega)
theorem break_ok {L : List Int} {a b : Nat} (hab : a + 12 < b) (hb : b ≤ L.length) (hl : L.length ≤ 1000) : Ok (Dy L (a : Int) (b : Int)) (fun M => RP a b L M) := by
 unfold Dy
 have wn : w64 ((b : Int) - (a : Int)) = ((b - a : Nat) : Int) := by
  rw [Ax (by omega) (by omega)]
  omega
 rw [wn]
 refine Ok.ite (fun _ => ?_) fun _ => Ok.ret (.refl _ _ _)
 refine Ok.bind (pow2_ok (n := b - a) (by omega) (by omega)) fun k ⟨k1,k2,k3⟩ => ?_
 have wq : w64 (Int.tdiv ((b - a : Nat) : Int) 4) = (((b - a) / 4 : Nat) : Int) := by
  rw [Int.tdiv_eq_ediv_of_nonneg (by omega),Ax (by omega) (by omega)]
  omega
 rw [wq]
 have hq : 3 ≤ (b - a) / 4 := by omega
 have hq2 : 4 * ((b - a) / 4) ≤ b - a := by omega
 generalize hqd : (b - a) / 4 = q at *
 have m2 : w64 ((a : Int) + w64 ((q : Int) * 2)) = ((a + 2 * q : Nat) : Int) := by
  rw [Ax (n := (q : Int) * 2) (by omega) (by omega),Ax (by omega) (by omega)]
  omega
 have m3 : w64 (((a + 2 * q : Nat) : Int) - 1) = ((a + 2 * q - 1 : Nat) : Int) := by
  rw [Ax (by omega) (by omega)]
  omega
 have m4 : w64 (((a + 2 * q : Nat) : Int) + 1) = ((a + 2 * q + 1 : Nat) : Int) := by
  rw [Ax (by omega) (by omega)]
  omega
 rw [m2,m3]
 refine Ok.while (fun s => ∃ i : Nat,s.2.2 = (i : Int) ∧ a ≤ i ∧ i ≤ a + 2 * q + 2 ∧ RP a b L s.1) (fun s => ((a + 2 * q + 2 : Nat) : Int).toNat - s.2.2.toNat) ⟨a + 2 * q - 1,rfl,by omega,by omega,.refl _ _ _⟩ (by rw [Dd]; simp only; omega) ?_
 rintro ⟨M,r,x⟩ n ⟨i,hx,i1,i2,rp⟩ hn
 simp only at hx rp
 subst hx
 have hM := rp.len
 have ei : Int.toNat (i : Int) = i := by omega
 unfold He
 simp only
 rw [wn,wq,m2,m4]
 refine Ok.ite (fun c => ?_) fun _ => Ok.ret rp
 have c := of_decide_eq_true c
 unfold Kc
 refine Ok.step rfl ?_
 simp only
 rw [k3]
 have hkl := kand_le (x := (kxor .u64 (kxor .u64 (kxor .u64 r (kshl .u64 r 13)) (kshr .u64 (kxor .u64 r (kshl .u64 r 13)) 7)) (kshl .u64 (kxor .u64 (kxor .u64 r (kshl .u64 r 13)) (kshr .u64 (kxor .u64 r (kshl .u64 r 13)) 7)) 17))) (y := k - 1) (by omega) (by omega)
 generalize kand .u64 (kxor .u64 (kxor .u64 (kxor .u64 r (kshl .u64 r 13)) (kshr .u64 (kxor .u64 r (kshl .u64 r 13)) 7)) (kshl .u64 (kxor .u64 (kxor .u64 r (kshl .u64 r 13)) (kshr .u64 (kxor .u64 r (kshl .u64 r 13)) 7)) 17)) (k - 1) = z at *
 generalize kxor .u64 (kxor .u64 (kxor .u64 r (kshl .u64 r 13)) (kshr .u64 (kxor .u64 r (kshl .u64 r 13)) 7)) (kshl .u64 (kxor .u64 (kxor .u64 r (kshl .u64 r 13)) (kshr .u64 (kxor .u64 r (kshl .u64 r 13)) 7)) 17) = r'
 have hJ : ∀ o : Nat,o < b - a → Ok (Co (a : Int) (M,r,(i : Int)) n (r',r') (o : Int)) (fun M => RP a b L M) := by
  intro o ho
  unfold Co
  simp only
  have e1 : w64 ((a : Int) + (o : Int)) = ((a + o : Nat) : Int) := by
   rw [Ax (by omega) (by omega)]
   omega
  have e2 : Int.toNat ((a + o : Nat) : Int) = a + o := by omega
  have e3 : w64 ((i : Int) + 1) = ((i + 1 : Nat) : Int) := by
   rw [Ax (by omega) (by omega)]
   omega
  rw [e1,e2,e3,ei]
  refine Ok.guard (by omega) (Ok.guard (by omega) (Ok.guard (by omega) (Ok.guard (by omega) (Ok.guard (by omega) (Ok.guard (by omega) (Ok.guard (by omega) (Ok.guard (by omega) ?_)))))))
  exact hn (Dk M i (a + o),_,_) ⟨i + 1,rfl,by omega,by omega,rp.trans (RP.swap (by omega) (by omega) (by omega) (by omega) (by omega))⟩ (by simp only; omega)
 have hz : w64 z = z := Ax (by omega) (by omega)
 rw [hz]
 refine Ok.ite (fun c2 => ?_) fun c2 => ?_
 ·have c2 := of_decide_eq_true c2
  have e : w64 (z - ((b - a : Nat) : Int)) = ((z - ((b - a : Nat) : Int)).toNat : Int) := by
   rw [Ax (by omega) (by omega)]
   omega
  rw [e]
  exact hJ _ (by omega)
 ·have c2 := of_decide_eq_false c2
  have e : z = ((z.toNat : Nat) : Int) := by omega
  rw [e]
  exact hJ _ (by omega)
def lowR (a b : Nat) (L : List Int) : Prop := 0 < a → ∀ k,a ≤ k → k < b → L.getD (a - 1) 0 ≤ L.getD k 0
theorem lowR.rp {a b : Nat} {L M : List Int} (h : lowR a b L) (r : RP a b L M) : lowR a b M := by
 intro h0 k k1 k2
 rw [r.out (a - 1) (by omega)]
 exact r.all (P := fun z => L.getD (a - 1) 0 ≤ z) (fun i i1 i2 => h h0 i i1 i2) k k1 k2
theorem AhJ {L : List Int} {a b : Nat} (hab : a + 12 < b) (hb : b ≤ L.length) (hl : L.length ≤ 1000000) (hlow0 : lowR a b L) :
  Ok (Cr L (a : Int) (b : Int)) (fun r => RP a b L r.2 ∧ (r.1 = true → Fs a b r.2)) := by
 unfold Cr
 have e1 : w64 ((a : Int) + 1) = ((a + 1 : Nat) : Int) := by
  rw [Ax (by omega) (by omega)]
  omega
 rw [e1]
 refine Ok.for (fun _ s => ∃ i : Nat,s.2 = (i : Int) ∧ a + 1 ≤ i ∧ i ≤ b ∧ RP a b L s.1 ∧ Fs a i s.1) ⟨a + 1,rfl,Nat.le_refl _,by omega,.refl _ _ _,fun p q h1 h2 h3 => by omega⟩ ?_ ?_
 ·rintro j ⟨M,x⟩ n hj ⟨i0,hx,i01,i02,rp,hs0⟩ hn
  simp only at hx rp hs0
  subst hx
  have hM := rp.len
  unfold Fn
  simp only
  refine Ok.while (fun q => ∃ i : Nat,q = (i : Int) ∧ a + 1 ≤ i ∧ i ≤ b ∧ Fs a i M) (fun q => b - q.toNat) ⟨i0,rfl,i01,i02,hs0⟩ (by rw [Dd]; omega) ?_
  clear hs0
  rintro q nn ⟨i,rfl,h1,h2,hs⟩ hnn
  have hw : w64 ((i : Int) - 1) = ((i - 1 : Nat) : Int) := by
   rw [Ax (by omega) (by omega)]
   omega
  have ei : Int.toNat (i : Int) = i := by omega
  have ei1 : Int.toNat ((i - 1 : Nat) : Int) = i - 1 := by omega
  have stop : (i = b ∨ (i < b ∧ M.getD i 0 < M.getD (i - 1) 0)) → Ok (Bs (a : Int) (b : Int) (M,(i0 : Int)) n (i : Int) nn false) (fun r => RP a b L r.2 ∧ (r.1 = true → Fs a b r.2)) := by
   intro hstop
   unfold Bs
   simp only [Bool.false_eq_true,if_false]
   refine Ok.ite (fun c => ?_) fun c => ?_
   ·have c : (i : Int) = (b : Int) := by simpa using c
    have : i = b := by omega
    subst this
    exact Ok.ret ⟨rp,fun _ => hs⟩
   have c : ¬ (i : Int) = (b : Int) := by simpa using c
   have hib : i < b := by omega
   have hlt : M.getD i 0 < M.getD (i - 1) 0 := by
    rcases hstop with h | h
    ·omega
    ·exact h.2
   refine Ok.ite (fun _ => Ok.ret ⟨rp,fun e => by simp at e⟩) fun _ => ?_
   rw [hw,ei,ei1]
   refine Ok.guard (by omega) (Ok.guard (by omega) (Ok.guard (by omega) (Ok.guard (by omega) (Ok.guard (by omega) (Ok.guard (by omega) (Ok.guard (by omega) (Ok.guard (by omega) ?_)))))))
   have hS : (M.set i (M.getD (i - 1) 0)).set (i - 1) (M.getD i 0) = Dk M i (i - 1) := rfl
   rw [hS]
   have hg : ∀ r,(Dk M i (i - 1)).getD r 0 = if r = i - 1 then M.getD i 0 else if r = i then M.getD (i - 1) 0 else M.getD r 0 := fun r => Hp (by omega) (by omega)
   have rps : RP a b M (Dk M i (i - 1)) := RP.swap (by omega) (by omega) (by omega) (by omega) (by omega)
   generalize Dk M i (i - 1) = S at *
   have hJ15 : ∀ N : List Int,RP a b L N → Fs a i N → Ok (Bm (b : Int) n (i : Int) N) (fun r => RP a b L r.2 ∧ (r.1 = true → Fs a b r.2)) := by
    intro N rN hsN
    have hN := rN.len
    have done : ∀ K : List Int,RP a b L K → Fs a i K → Ok (Br n (K,(i : Int))) (fun r => RP a b L r.2 ∧ (r.1 = true → Fs a b r.2)) := by
     intro K rK hK
     unfold Br
     exact hn _ ⟨i,rfl,h1,h2,rK,hK⟩
    unfold Bm
    refine Ok.ite (fun _ => ?_) fun _ => done N rN hsN
    have w1 : w64 ((i : Int) + 1) = ((i + 1 : Nat) : Int) := by
     rw [Ax (by omega) (by omega)]
     omega
    rw [w1]
    refine Ok.guard (by omega) ?_
    rw [show Int.toNat ((b : Int) - ((i + 1 : Nat) : Int)) = b - (i + 1) by omega]
    refine Ok.for (fun _ K => RP a b L K ∧ Fs a i K) ⟨rN,hsN⟩ ?_ fun K ⟨rK,hK⟩ => done K rK hK
    intro t K nk ht ⟨rK,hK⟩ hnk
    have hKl := rK.len
    have et : ((i + 1 : Nat) : Int) + (t : Int) = ((i + 1 + t : Nat) : Int) := by omega
    have et1 : w64 (((i + 1 + t : Nat) : Int) - 1) = ((i + t : Nat) : Int) := by
     rw [Ax (by omega) (by omega)]
     omega
    have et2 : Int.toNat ((i + 1 + t : Nat) : Int) = i + 1 + t := by omega
    have et3 : Int.toNat ((i + t : Nat) : Int) = i + t := by omega
    rw [et]
    unfold Ff
    rw [et1,et2,et3]
    refine Ok.guard (by omega) (Ok.guard (by omega) (Ok.guard (by omega) (Ok.guard (by omega) ?_)))
    refine Ok.step (Js _ _) ?_
    refine Ok.ite (fun _ => done K rK hK) fun _ => ?_
    refine Ok.guard (by omega) (Ok.guard (by omega) (Ok.guard (by omega) (Ok.guard (by omega) (Ok.guard (by omega) (Ok.guard (by omega) (Ok.guard (by omega) (Ok.guard (by omega) ?_)))))))
    refine hnk (Dk K (i + 1 + t) (i + t)) ⟨rK.trans (RP.swap (by omega) (by omega) (by omega) (by omega) (by omega)),fun p q p1 p2 p3 => ?_⟩
    rw [Hp (by omega) (by omega),Hp (by omega) (by omega),if_neg (by omega),if_neg (by omega),if_neg (by omega),if_neg (by omega)]
    exact hK p q p1 p2 p3
   have rS := rp.trans rps
   have hSl := rS.len
   refine Ok.ite (fun _ => ?_) fun c5 => ?_
   ·refine Ok.while (fun q => ∃ k : Nat,q.2 = (k : Int) ∧ a ≤ k ∧ k + 1 ≤ i ∧ RP a b L q.1 ∧ (∀ p r,a ≤ p → p < r → r < i → p ≠ k → r ≠ k → q.1.getD p 0 ≤ q.1.getD r 0) ∧ (∀ r,k < r → r < i → q.1.getD k 0 ≤ q.1.getD r 0)) (fun q => q.2.toNat) ?_ (by rw [Dd]; simp only; omega) ?_
    ·refine ⟨i - 1,rfl,by omega,by omega,rS,fun p r p1 p2 p3 p4 p5 => ?_,fun r r1 r2 => by omega⟩
     simp only
     rw [hg,hg,if_neg p4,if_neg p5,if_neg (by omega),if_neg (by omega)]
     exact hs p r p1 p2 p3
    ·rintro ⟨K,y⟩ n3 ⟨k,hy,k1,k2,rK,hA,hB⟩ hn3
     simp only at hy rK hA hB
     subst hy
     have hKl := rK.len
     have fin : (k = a ∨ ¬ K.getD k 0 < K.getD (k - 1) 0) → Ok (Bm (b : Int) n (i : Int) K) (fun r => RP a b L r.2 ∧ (r.1 = true → Fs a b r.2)) := by
      intro hstop
      refine hJ15 K rK fun p q p1 p2 p3 => ?_
      by_cases hp : p = k
      ·subst hp
       exact hB q p2 p3
      by_cases hq : q = k
      ·subst hq
       rcases hstop with h | h
       ·omega
       ·by_cases hp2 : p = q - 1
        ·subst hp2
         omega
        ·have := hA p (q - 1) p1 (by omega) (by omega) hp (by omega)
         omega
      exact hA p q p1 p2 p3 hp hq
     have ek : Int.toNat (k : Int) = k := by omega
     unfold Fg
     simp only
     refine Ok.ite (fun c6 => ?_) fun c6 => ?_
     ·have c6 := of_decide_eq_true c6
      have wk : w64 ((k : Int) - 1) = ((k - 1 : Nat) : Int) := by
       rw [Ax (by omega) (by omega)]
       omega
      have ek1 : Int.toNat ((k - 1 : Nat) : Int) = k - 1 := by omega
      rw [wk,ek,ek1]
      refine Ok.guard (by omega) (Ok.guard (by omega) (Ok.guard (by omega) (Ok.guard (by omega) ?_)))
      refine Ok.step (Js _ _) ?_
      refine Ok.ite (fun c7 => fin (.inr (by simpa using c7))) fun c7 => ?_
      have c7 : K.getD k 0 < K.getD (k - 1) 0 := by
       rw [Bool.not_eq_false'] at c7
       exact of_decide_eq_true c7
      have hka : a < k := by
       by_cases e : k = a
       ·exfalso
        subst e
        have h3 := hlow0.rp rK (by omega) k (Nat.le_refl _) (by omega)
        omega
       ·omega
      refine Ok.guard (by omega) (Ok.guard (by omega) (Ok.guard (by omega) (Ok.guard (by omega) (Ok.guard (by omega) (Ok.guard (by omega) (Ok.guard (by omega) (Ok.guard (by omega) ?_)))))))
      have hgk : ∀ r,(Dk K k (k - 1)).getD r 0 = if r = k - 1 then K.getD k 0 else if r = k then K.getD (k - 1) 0 else K.getD r 0 := fun r => Hp (by omega) (by omega)
      refine hn3 (Dk K k (k - 1),((k - 1 : Nat) : Int)) ⟨k - 1,rfl,by omega,by omega,rK.trans (RP.swap (by omega) (by omega) (by omega) (by omega) (by omega)),?_,?_⟩ (by simp only; omega)
      ·intro p r p1 p2 p3 p4 p5
       simp only
       rw [hgk,hgk,if_neg p4,if_neg p5]
       by_cases hp : p = k
       ·rw [if_pos hp,if_neg (by omega)]
        exact hA (k - 1) r (by omega) (by omega) p3 (by omega) (by omega)
       ·rw [if_neg hp]
        by_cases hr : r = k
        ·rw [if_pos hr]
         exact hA p (k - 1) p1 (by omega) (by omega) hp (by omega)
        ·rw [if_neg hr]
         exact hA p r p1 p2 p3 hp hr
      ·intro r r1 r2
       simp only
       rw [hgk,hgk,if_pos rfl,if_neg (by omega)]
       by_cases hr : r = k
       ·rw [if_pos hr]
        omega
       ·rw [if_neg hr]
        exact hB r (by omega) r2
     ·have c6 := of_decide_eq_false c6
      exact fin (.inl (by omega))
   ·have c5 := of_decide_eq_false c5
    rw [Ax (by omega) (by omega)] at c5
    exact hJ15 S rS fun p q p1 p2 p3 => by omega
  unfold Fh
  simp only
  refine Ok.ite (fun c => ?_) fun c => ?_
  ·have c := of_decide_eq_true c
   rw [hw,ei,ei1]
   refine Ok.guard (by omega) (Ok.guard (by omega) (Ok.guard (by omega) (Ok.guard (by omega) ?_)))
   refine Ok.step (Js _ _) ?_
   cases hlt : decide (M.getD i 0 < M.getD (i - 1) 0) with
   | true => exact stop (.inr ⟨by omega,of_decide_eq_true hlt⟩)
   | false =>
    have hlt := of_decide_eq_false hlt
    unfold Bs
    have w1 : w64 ((i : Int) + 1) = ((i + 1 : Nat) : Int) := by
     rw [Ax (by omega) (by omega)]
     omega
    simp only [Bool.not_false,if_true]
    rw [w1]
    refine hnn _ ⟨i + 1,rfl,by omega,by omega,fun p q p1 p2 p3 => ?_⟩ (by omega)
    by_cases e : q = i
    ·subst e
     by_cases e2 : p = q - 1
     ·subst e2
      omega
     ·have := hs p (q - 1) p1 (by omega) (by omega)
      omega
    ·exact hs p q p1 p2 (by omega)
  ·have c := of_decide_eq_false c
   exact stop (.inl (by omega))
 ·rintro ⟨M,x⟩ ⟨i,_,_,_,rp,_⟩
  exact Ok.ret ⟨rp,fun e => by simp at e⟩
def outR (a b c d : Nat) (L : List Int) : Prop := ∀ p q,a ≤ p → p < q → q < b → ¬ (c ≤ p ∧ q < d) → L.getD p 0 ≤ L.getD q 0
theorem outR.rp {a b c d : Nat} {L M : List Int} (h : outR a b c d L) (hc : a ≤ c) (hd : d ≤ b) (r : RP c d L M) : outR a b c d M := by
 intro p q p1 p2 p3 p4
 by_cases hp : c ≤ p ∧ p < d
 ·have hq : d ≤ q := by omega
  rw [r.out q (.inr hq)]
  exact r.all (P := fun z => z ≤ L.getD q 0) (fun i i1 i2 => h i q (by omega) (by omega) p3 (by omega)) p hp.1 hp.2
 ·rw [r.out p (by omega)]
  by_cases hq : c ≤ q ∧ q < d
  ·exact r.all (P := fun z => L.getD p 0 ≤ z) (fun i i1 i2 => h p i p1 (by omega) (by omega) (by omega)) q hq.1 hq.2
  ·rw [r.out q (by omega)]
   exact h p q p1 p2 p3 p4
theorem pdq_F : ∀ (fuel : Nat) {L : List Int} {a b : Nat} (lim : Int),b - a < fuel → a ≤ b → b ≤ L.length → L.length ≤ 1000 → lowR a b L → Ok (Bw fuel L (a : Int) (b : Int) lim) (fun M => RP a b L M ∧ Fs a b M) := by
 intro fuel
 induction fuel with
 | zero => intro L a b lim h; omega
 | succ fuel ih =>
  intro L a b lim hf hab hb hl hlow
  rw [Bw]
  unfold Hh
  refine Ok.while (fun s => ∃ c d : Nat,s.2.1 = (c : Int) ∧ s.2.2.1 = (d : Int) ∧ a ≤ c ∧ c ≤ d ∧ d ≤ b ∧ RP a b L s.1 ∧ outR a b c d s.1) (fun s => (s.2.2.1 - s.2.1).toNat) ⟨a,b,rfl,rfl,Nat.le_refl _,hab,Nat.le_refl _,.refl _ _ _,fun p q h1 h2 h3 h4 => by omega⟩ (by rw [Dd]; simp only; omega) ?_
  rintro ⟨M,x,y,lm,wb,wp⟩ n ⟨c,d,hx,hy,c1,c2,c3,rp,ho⟩ hn
  simp only at hx hy rp ho
  subst hx hy
  have hM := rp.len
  have hlowc : lowR c d M := by
   intro h0 k k1 k2
   by_cases e : c = a
   ·subst e
    exact hlow.rp rp h0 k k1 (by omega)
   ·exact ho (c - 1) k (by omega) (by omega) (by omega) (by omega)
  have done : ∀ N,RP c d M N → Fs c d N → RP a b L N ∧ Fs a b N := by
   intro N rN hs
   refine ⟨rp.trans (rN.widen c1 c3),fun p q p1 p2 p3 => ?_⟩
   by_cases e : c ≤ p ∧ q < d
   ·exact hs p q e.1 p2 e.2
   ·exact ho.rp c1 c3 rN p q p1 p2 p3 e
  have wn : w64 ((d : Int) - (c : Int)) = ((d - c : Nat) : Int) := by
   rw [Ax (by omega) (by omega)]
   omega
  unfold Je
  simp only
  rw [wn]
  refine Ok.ite (fun _ => ?_) fun cc => ?_
  ·refine Ok.bind (Agt c2 (by omega) (by omega)) fun N ⟨rN,hs⟩ => ?_
   exact Ok.guard rN.len.symm (Ok.ret (done N rN hs))
  have cc := of_decide_eq_false cc
  have hcd : c + 12 < d := by omega
  refine Ok.ite (fun _ => ?_) fun _ => ?_
  ·refine Ok.bind (AgR (by omega) (by omega) (by omega)) fun N ⟨rN,hs⟩ => ?_
   exact Ok.guard rN.len.symm (Ok.ret (done N rN hs))
  have hJ8 : ∀ (N : List Int) (l2 : Int),RP c d M N → Ok (Dw (Bw fuel) (M,(c : Int),(d : Int),lm,wb,wp) n (N,l2)) (fun M => RP a b L M ∧ Fs a b M) := by
   intro N l2 rN
   have hN := rN.len
   have hJ9 : ∀ (K : List Int) (pv hint : Int),RP c d M K → InR c d pv → Ok (Dt (Bw fuel) (M,(c : Int),(d : Int),lm,wb,wp) n (N,l2) (K,pv,hint)) (fun M => RP a b L M ∧ Fs a b M) := by
    intro K pv hint rK hpv
    have hK := rK.len
    have hJ10 : ∀ U : List Int,RP c d M U → Ok (Dj (Bw fuel) (M,(c : Int),(d : Int),lm,wb,wp) n (N,l2) (K,pv,hint) U) (fun M => RP a b L M ∧ Fs a b M) := by
     intro U rU
     have hU := rU.len
     obtain ⟨p,rfl,p1,p2⟩ := hpv
     have hlowU := hlowc.rp rU
     have hJ11 : ∀ e : Bool,(e = true → 0 < c ∧ ¬ U.getD (c - 1) 0 < U.getD p 0) → Ok (Di (Bw fuel) (M,(c : Int),(d : Int),lm,wb,wp) n (N,l2) (K,(p : Int),hint) U e) (fun M => RP a b L M ∧ Fs a b M) := by
      intro e he
      unfold Di
      simp only
      refine Ok.ite (fun ce => ?_) fun _ => ?_
      ·-- many equal ones
       obtain ⟨hc0,hle⟩ := he ce
       refine Ok.bind (AcW (by omega) (by omega) (by omega) p1 p2) fun r ⟨m,hr,m1,m2,rr,hlo,hhi⟩ => ?_
       refine Ok.guard rr.len.symm ?_
       have rMr := rU.trans rr
       rw [hr]
       refine hn _ ⟨m,d,rfl,rfl,by omega,by omega,c3,rp.trans (rMr.widen c1 c3),?_⟩ (by simp only; omega)
       have hor := ho.rp c1 c3 rMr
       have hlowr := hlowU.rp rr
       intro u v u1 u2 u3 u4
       simp only
       by_cases hin : c ≤ u ∧ v < d
       ·have hu : u < m := by omega
        have h1 := hlo u hin.1 hu
        by_cases hv : v < m
        ·have h2 := hlowr hc0 v (by omega) (by omega)
         rw [rr.out (c - 1) (by omega)] at h2
         omega
        ·have h2 := hhi v (by omega) hin.2
         omega
       ·exact hor u v u1 u2 u3 hin
      ·refine Ok.bind (Agb (by omega) (by omega) (by omega) p1 p2) fun r ⟨m,hr,m1,m2,rr,hlo,hhi⟩ => ?_
       have rMr := rU.trans rr
       have hrl := rMr.len
       refine Ok.guard rr.len.symm ?_
       have hor := ho.rp c1 c3 rMr
       have hlowr := hlowU.rp rr
       rw [hr]
       have w1 : w64 ((m : Int) + 1) = ((m + 1 : Nat) : Int) := by
        rw [Ax (by omega) (by omega)]
        omega
       refine Ok.ite (fun _ => ?_) fun _ => ?_
       ·-- the left part first
        refine Ok.bind (ih (L := r.2.2) (a := c) (b := m) l2 (by omega) m1 (by omega) (by omega) (fun h0 k k1 k2 => hlowr h0 k k1 (by omega))) fun S ⟨rS,hs⟩ => ?_
        refine Ok.guard rS.len.symm ?_
        rw [w1]
        refine hn _ ⟨m + 1,d,rfl,rfl,by omega,by omega,c3,rp.trans ((rMr.trans (rS.widen (Nat.le_refl _) (by omega))).widen c1 c3),?_⟩ (by simp only; omega)
        have horS := hor.rp c1 c3 (rS.widen (Nat.le_refl _) (by omega))
        intro u v u1 u2 u3 u4
        simp only
        by_cases hin : c ≤ u ∧ v < d
        ·have hum : u ≤ m := by omega
         have hSm : ∀ k,m ≤ k → S.getD k 0 = r.2.2.getD k 0 := fun k hk => rS.out k (.inr hk)
         have hSlo : ∀ k,c ≤ k → k < m → S.getD k 0 ≤ r.2.2.getD m 0 := fun k k1 k2 => rS.all (P := fun z => z ≤ r.2.2.getD m 0) (fun i i1 i2 => hlo i i1 i2) k k1 k2
         by_cases hv : v < m
         ·exact hs u v hin.1 u2 hv
         ·rw [hSm v (by omega)]
          have hvm : r.2.2.getD m 0 ≤ r.2.2.getD v 0 := by
           by_cases e2 : v = m
           ·rw [e2]
            exact Int.le_refl _
           ·exact hhi v (by omega) hin.2
          by_cases e3 : u = m
          ·rw [e3,hSm m (Nat.le_refl _)]
           exact hvm
          ·have := hSlo u hin.1 (by omega)
           omega
        ·exact horS u v u1 u2 u3 hin
       ·-- the right part first
        rw [w1]
        refine Ok.bind (ih (L := r.2.2) (a := m + 1) (b := d) l2 (by omega) (by omega) (by omega) (by omega) (fun h0 k k1 k2 => by
         have := hhi k (by omega) k2
         simpa using this)) fun S ⟨rS,hs⟩ => ?_
        refine Ok.guard rS.len.symm ?_
        refine hn _ ⟨c,m,rfl,rfl,c1,m1,by omega,rp.trans ((rMr.trans (rS.widen (by omega) (Nat.le_refl _))).widen c1 c3),?_⟩ (by simp only; omega)
        have horS := hor.rp c1 c3 (rS.widen (by omega) (Nat.le_refl _))
        intro u v u1 u2 u3 u4
        simp only
        by_cases hin : c ≤ u ∧ v < d
        ·have hSm : ∀ k,k ≤ m → S.getD k 0 = r.2.2.getD k 0 := fun k hk => rS.out k (.inl (by omega))
         have hShi : ∀ k,m < k → k < d → r.2.2.getD m 0 ≤ S.getD k 0 := fun k k1 k2 => rS.all (P := fun z => r.2.2.getD m 0 ≤ z) (fun i i1 i2 => hhi i (by omega) i2) k (by omega) k2
         by_cases hu : m < u
         ·exact hs u v (by omega) u2 hin.2
         ·rw [hSm u (by omega)]
          have hum : r.2.2.getD u 0 ≤ r.2.2.getD m 0 := by
           by_cases e2 : u = m
           ·rw [e2]
            exact Int.le_refl _
           ·exact hlo u hin.1 (by omega)
          by_cases e3 : v = m
          ·rw [e3,hSm m (Nat.le_refl _)]
           exact hum
          ·have := hShi v (by omega) hin.2
           omega
        ·exact horS u v u1 u2 u3 hin
     unfold Dj
     simp only
     refine Ok.ite (fun ce => ?_) fun _ => hJ11 false fun e => by simp at e
     have ce := of_decide_eq_true ce
     have wc : w64 ((c : Int) - 1) = ((c - 1 : Nat) : Int) := by
      rw [Ax (by omega) (by omega)]
      omega
     have ec : Int.toNat ((c - 1 : Nat) : Int) = c - 1 := by omega
     have ep : Int.toNat (p : Int) = p := by omega
     rw [wc,ec,ep]
     refine Ok.guard (by omega) (Ok.guard (by omega) (Ok.guard (by omega) (Ok.guard (by omega) ?_)))
     refine Ok.step (Js _ _) (hJ11 _ fun e => ⟨by omega,?_⟩)
     simpa using e
    unfold Dt
    simp only
    refine Ok.ite (fun _ => ?_) fun _ => hJ10 K rK
    refine Ok.bind (AhJ hcd (by omega) (by omega) (hlowc.rp rK)) fun r ⟨rr,hs⟩ => ?_
    refine Ok.guard rr.len.symm ?_
    exact Ok.ite (fun e => Ok.ret (done _ (rK.trans rr) (hs e))) fun _ => hJ10 _ (rK.trans rr)
   unfold Dw
   simp only
   refine Ok.bind (AeS hcd (by omega) (by omega)) fun r hr => ?_
   refine Ok.ite (fun _ => ?_) fun _ => hJ9 N r.1 r.2 rN hr
   refine Ok.bind (Ahx (by omega) (by omega) (by omega)) fun K rK => ?_
   refine Ok.guard rK.len.symm (hJ9 _ _ _ (rN.trans rK) ?_)
   obtain ⟨p,hp,p1,p2⟩ := hr
   rw [hp,Ax (n := (d : Int) - 1) (by omega) (by omega),Ax (n := (p : Int) - (c : Int)) (by omega) (by omega),Ax (by omega) (by omega)]
   exact ⟨d - 1 - (p - c),by omega,by omega,by omega⟩
  refine Ok.ite (fun _ => ?_) fun _ => hJ8 M _ (.refl _ _ _)
  refine Ok.bind (break_ok hcd (by omega) (by omega)) fun N rN => ?_
  exact Ok.guard rN.len.symm (hJ8 _ _ rN)
theorem Sort_ok (L : List Int) (hl : L.length ≤ 1000) : Ok (Lq L) (fun M => M.Perm L ∧ M.Pairwise (· ≤ ·)) := by
 unfold Lq
 refine Ok.bind (AgJ hl) fun k _ => ?_
 unfold Ka
 have h := pdq_F En (L := L) (a := 0) (b := L.length) k (by rw [Dd]; omega) (by omega) (Nat.le_refl _) hl (fun h => by omega)
 refine Ok.bind h fun M ⟨rp,hs⟩ => Ok.guard rp.len.symm (Ok.ret ⟨rp.perm,?_⟩)
 rw [List.pairwise_iff_getElem]
 intro i j hi hj hij
 have := hs i j (by omega) hij (by have := rp.len; omega)
 rw [Hc hi,Hc hj] at this
 exact this
end Go.Dm

/- Plain theory, part 15: counts. -/
namespace Go.Dm
theorem AbL {t : Ae} (w : WfT t) (id : Int) : Kz t id = some (upT t id) := by
 apply Ok.eq
 have l2 := w.len2
 unfold Kz
 refine Ok.guard (by omega) ?_
 refine Ok.range (fun pre s => s.1 ++ upT t s.2 = upT t id ∧ s.1.length = pre.length) ⟨by simp,rfl⟩ ?_ ?_
 ·rintro pre x post ⟨o,c⟩ n he ⟨i1,i2⟩ hn
  simp only at i1 i2
  unfold Pr Jl
  refine Ok.step (AeX t c (by omega)) ?_
  cases hg : Sx t c with
  | none =>
   refine Ok.ret ?_
   have : upT t c = [] := Abe fun y hy e => by
    unfold Sx at hg
    rw [List.find?_eq_none] at hg
    have := hg y (by simpa using hy)
    simp [e] at this
   rw [this] at i1
   simpa using i1
  | some y =>
   obtain ⟨hy,hyc⟩ := Vf hg
   have hp : pre.length < t.nodes.length := by rw [he]; simp
   simp only [Option.elim_some,Bool.not_true,Bool.false_eq_true,if_false]
   refine Ok.guard (by omega) (hn _ ⟨?_,by simp [i2]⟩)
   simp only
   rw [← i1,← hyc,w.up hy]
   simp
 ·rintro ⟨o,c⟩ ⟨i1,i2⟩
  simp only at i1 i2
  refine Ok.ret ?_
  have hlen := Lw t.nodes.reverse id
  rw [List.length_reverse] at hlen
  change (upT t id).length ≤ t.nodes.length at hlen
  rw [← i1] at hlen
  have : (upT t c).length = 0 := by
   rw [List.length_append] at hlen
   omega
  have : upT t c = [] := List.length_eq_zero_iff.mp this
  rw [this] at i1
  simpa using i1
end Go.Dm

/- Plain theory, part 16: made counts. -/
namespace Go.Dm
theorem Afz {α : Type} {l : List α} {i : Nat} {a d : α} (h : i < l.length) : (l.set i a).getD i d = a := by
 simp [List.getD_eq_getElem?_getD,h]
end Go.Dm

/- Plain theory, part 17: room and refusals. -/
namespace Go.Dm
end Go.Dm

/- Plain theory, part 18: sums of counts. -/
namespace Go.Dm
end Go.Dm

/- Plain theory, part 19: charges, limits; the document's functions on counts. -/
namespace Go.Dm
end Go.Dm

/- Plain theory, part 21: what changes leave as it is; sizes of made hierarchies. -/
namespace Go.Dm
end Go.Dm

/- Plain theory, part 22: the program's changes of hierarchies are the document's. -/
namespace Go.Dm
theorem Agv {α : Type} {L : List α} {a n : Nat} {x : α} (h : a + n ≤ L.length) : (Pz L a n x).length = L.length := by
 simp only [Pz,List.length_append,List.length_take,List.length_replicate,List.length_drop]
 omega
theorem AhO {α : Type} {L : List α} {a n : Nat} {x : α} (h : a ≤ L.length) : (Pz L a n x).take a = L.take a := by
 unfold Pz
 rw [List.take_append_of_le_length (by rw [List.length_take]; omega),List.take_take,Nat.min_self]
theorem Ahi {α R : Type} {p : α → Bool} {L : List α} {d : α} (hl : L.length ≤ 1000000) {body : List α × Int × Int → (List α × Int × Int → Option R) → Option R} {Q : R → Prop} {i0 : Nat} (hi0 : i0 < L.length) (h0 : ∀ x ∈ L.take i0,p x = false) (hp : p (L.getD i0 d) = true)
  (hb : ∀ (M : List α) (i j : Nat) n,M.length = L.length → i < j → j < L.length → (∀ s,(s = if p (M.getD j d) then (M,(i : Int),((j + 1 : Nat) : Int)) else (M.set i (M.getD j d),((i + 1 : Nat) : Int),((j + 1 : Nat) : Int))) → Ok (n s) Q) → Ok (body (M,(i : Int),(j : Int)) n) Q)
  (hr : ∀ (M : List α) (i : Nat) n,M.length = L.length → i ≤ L.length → M.take i = L.filter (fun x => !p x) → Ok (body (M,(i : Int),(L.length : Int)) n) Q) : Ok (whileO body En (L,(i0 : Int),((i0 + 1 : Nat) : Int))) Q := by
 refine Ok.while (fun s => ∃ i j : Nat,s.2.1 = (i : Int) ∧ s.2.2 = (j : Int) ∧ i < j ∧ j ≤ L.length ∧ s.1.length = L.length ∧ s.1.take i = (L.take j).filter (fun x => !p x) ∧ s.1.drop j = L.drop j) (fun s => L.length - s.2.2.toNat) ?_ ?_ ?_
 ·refine ⟨i0,i0 + 1,rfl,rfl,by omega,by omega,rfl,?_,rfl⟩
  have e : L.take (i0 + 1) = L.take i0 ++ [L.getD i0 d] := by
   rw [List.take_add_one,Hc hi0]
   simp [hi0]
  rw [e,List.filter_append,List.filter_eq_self.mpr fun x hx => by simp [h0 x hx]]
  simp only [hp,Bool.not_true,List.filter_cons,Bool.false_eq_true,if_false,List.filter_nil,List.append_nil]
 ·rw [Dd]
  omega
 ·rintro ⟨M,x,y⟩ n ⟨i,j,e1,e2,hij,hj,hM,ht,hd⟩ hn
  simp only at e1 e2 hM ht hd
  subst e1 e2
  by_cases hjl : j < L.length
  ·refine hb M i j n hM hij hjl fun s hs => ?_
   have hMj : M.getD j d = L.getD j d := by
    have := congrArg List.head? hd
    rw [List.head?_drop,List.head?_drop] at this
    rw [List.getD_eq_getElem?_getD,List.getD_eq_getElem?_getD,this]
   have e : L.take (j + 1) = L.take j ++ [L.getD j d] := by
    rw [List.take_add_one,Hc hjl]
    simp [hjl]
   have hd' : M.drop (j + 1) = L.drop (j + 1) := by
    have := congrArg (List.drop 1) hd
    rw [List.drop_drop,List.drop_drop] at this
    exact this
   cases hpj : p (M.getD j d) with
   | true =>
    rw [hpj,if_pos rfl] at hs
    subst hs
    refine hn _ ⟨i,j + 1,rfl,rfl,by omega,by omega,hM,?_,hd'⟩ (by simp only; omega)
    simp only
    rw [ht,e,List.filter_append,← hMj,List.filter_cons,hpj]
    simp
   | false =>
    rw [hpj,if_neg (by simp)] at hs
    subst hs
    refine hn _ ⟨i + 1,j + 1,rfl,rfl,by omega,by omega,by simp [hM],?_,?_⟩ (by simp only; omega)
    ·simp only
     rw [e,List.filter_append,← hMj,← ht]
     have hi : i < M.length := by omega
     rw [List.take_add_one,List.filter_cons,hpj,List.take_set_of_le (Nat.le_refl _),List.getElem?_set_self hi]
     rfl
    ·simp only
     rw [List.drop_set_of_lt (by omega),hd']
  ·obtain rfl : j = L.length := by omega
   refine hr M i n hM (by omega) ?_
   rw [ht,List.take_length]
end Go.Dm

/- Plain theory, part 23: spoiled hierarchies; hierarchies that are refused. -/
namespace Go.Dm
end Go.Dm

/- Plain theory, part 24: kinds of groups, domains, what fits. -/
namespace Go.Dm
theorem find6 {h : Aa} (w : WfH h) (id : Int) : Ha h id = some ((Es h.tasks id).getD zK,(Es h.tasks id).isSome) := by
 rw [Rh w]
 cases Es h.tasks id <;> rfl
theorem findC {h : Aa} (w : WfH h) (id : Int) : Px h id = some ((Es h.tasks id).getD zK,(Es h.tasks id).isSome) := by
 have := w.len
 rw [Acs h id (by omega)]
 cases Es h.tasks id <;> rfl
theorem Acx {t : Ae} (id : Int) : ancN t id = upT t id := by
 unfold ancN
 cases hg : Gc t id with
 | true => rfl
 | false =>
  have : upT t id = [] := Abe fun y hy e => by
   have := hasN_iff.mpr ⟨y,by simpa using hy,e⟩
   rw [hg] at this
   simp at this
  rw [this]
  rfl
theorem up_not {t : Ae} {id : Int} (h : Gc t id = false) : upT t id = [] := Abe fun y hy e => by
 have := hasN_iff.mpr ⟨y,by simpa using hy,e⟩
 rw [h] at this
 simp at this
theorem AhV {t : Ae} (w : WfT t) {x : Ah} (hx : x ∈ t.nodes) (h1 : x.id ≠ 1) : Gc t x.parent = true := by
 rcases w.p.par x hx with ⟨h,_⟩ | ⟨_,_,⟨z,hz,e⟩,_⟩
 ·exact absurd h h1
 ·exact hasN_iff.mpr ⟨z,hz,e⟩
theorem root_node {t : Ae} (w : WfT t) {x : Ah} (hx : x ∈ t.nodes) (h1 : x.id = 1) : x.parent = 0 ∧ x.kind = 0 := by
 rcases w.p.par x hx with ⟨_,r⟩ | ⟨h,h2,_⟩
 ·exact ⟨r.parent,r.kind⟩
 ·omega
theorem Ww {α : Type} {P : α → Prop} {pre : List α} {x : α} (h1 : ∀ y ∈ pre,P y) (h2 : P x) : ∀ y ∈ pre ++ [x],P y := by
 intro y hy
 rcases List.mem_append.mp hy with hy | hy
 ·exact h1 y hy
 ·obtain rfl : y = x := by simpa using hy
  exact h2
end Go.Dm

/- Plain theory, part 25: forks that are counted. -/
namespace Go.Dm
end Go.Dm

/- Plain theory, part 39: ascending lists; Sorted of the sets; Compact of lists that do not fall. -/
namespace Go.Dm
abbrev Asc (L : List Int) : Prop := L.Pairwise (· < ·)
theorem asc_ext : ∀ {A B : List Int},Asc A → Asc B → (∀ x,x ∈ A ↔ x ∈ B) → A = B
 | [],B,_,_,h => by
  cases B with
  | nil => rfl
  | cons b B => exact absurd ((h b).mpr (by simp)) (by simp)
 | a :: A,[],_,_,h => absurd ((h a).mp (by simp)) (by simp)
 | a :: A,b :: B,ha,hb,h => by
  rw [Asc,List.pairwise_cons] at ha hb
  have hab : a = b := by
   rcases List.mem_cons.mp ((h a).mp (by simp)) with e | e
   ·exact e
   ·rcases List.mem_cons.mp ((h b).mpr (by simp)) with e' | e'
    ·exact e'.symm
    ·have h1 := hb.1 a e
     have h2 := ha.1 b e'
     omega
  subst hab
  congr 1
  refine asc_ext ha.2 hb.2 fun x => ?_
  have hx := h x
  simp only [List.mem_cons] at hx
  constructor
  ·intro hm
   rcases hx.mp (.inr hm) with e | e
   ·have := ha.1 x hm
    omega
   ·exact e
  ·intro hm
   rcases hx.mpr (.inr hm) with e | e
   ·have := hb.1 x hm
    omega
   ·exact e
theorem Afi {A : List Int} (h : Asc A) : A.Nodup := h.imp fun h => by omega
end Go.Dm

/- Plain theory, part 30: what keeps Fits; all made hierarchies fit. -/
namespace Go.Dm
section
variable {t t' : Ae} {fn : Ah → Ah}
end
section
variable {t t' : Ae} {p : Int} {s : ByteArray}
end
end Go.Dm

/- Plain theory, part 31: threaded's functions. -/
namespace Go.Dm
end Go.Dm

/- Plain theory, part 32: new groups. -/
namespace Go.Dm
end Go.Dm

/- Plain theory, part 33: controllers are written, groups are made threaded. -/
namespace Go.Dm
end Go.Dm

/- Plain theory, part 34: names of made groups are short. -/
namespace Go.Dm
end Go.Dm

/- Plain theory, part 35: rights of users. -/
namespace Go.Dm
end Go.Dm

/- Plain theory, part 36: acts of users. -/
namespace Go.Dm
end Go.Dm

/- Plain theory, part 40: what is read of any hierarchy; processes; hierarchies that were handed in. -/
namespace Go.Dm
theorem Ahw {α β : Type} (p : α → Bool) (f : α → β) (l : List α) : ((l.filter p).map f).length ≤ l.length := by
 rw [List.length_map]
 exact List.length_filter_le p l
end Go.Dm

/- Plain theory of freezers, part 1: what is read; valid freezers. -/
namespace Go.Dm
def zF (g : Int) : Ap := { group := g,want := false,frozen := false,changes := 0 }
def frN (f : Ac) (g : Int) : Ap := (f.frosts.find? (fun x => x.group == g)).getD (zF g)
def wN (t : Ae) (f : Ac) (id : Int) : Bool := (upT t id).any (fun g => (frN f g).want)
def rN (h : Aa) (f : Ac) (id : Int) : Bool := wN h.tree f id && h.tasks.all (fun x => !(upT h.tree x.group).contains id || f.stopped.contains x.id)
def wT (h : Aa) (f : Ac) (k : Int) : Bool := (Es h.tasks k).elim false (fun x => wN h.tree f x.group)
def Ov (b : Bool) (x : Ap) : Ap := if b != x.frozen then { group := x.group,want := x.want,frozen := b,changes := minI (w64 (x.changes + 1)) 1099511627776 } else x
def Ii (h : Aa) (f : Ac) : Ac := { frosts := f.frosts.map (fun x => Ov (rN h f x.group) x),stopped := f.stopped }
structure Ks (f : Ac) : Prop where
 fr : f.frosts.length ≤ 1000
 st : f.stopped.length ≤ 1000
theorem Agp {l : List Int} {p : Int → Bool} : (l.find? p).elim false (fun _ => true) = l.any p := by
 induction l with
 | nil => rfl
 | cons a r ih =>
  rw [List.find?_cons,List.any_cons]
  cases p a with
  | true => rfl
  | false => simpa using ih
section
variable {h : Aa} {t : Ae} {f f' : Ac}
theorem Oa (hl : f.frosts.length ≤ 1000000) (g : Int) : Fo f g = some (frN f g) := by
 unfold Fo
 rw [if_pos (by omega),Ht (p := fun x : Ap => x.group == g) (f := id) (z := zF g) (fun k x n => rfl) rfl]
 unfold frN
 cases f.frosts.find? (fun x => x.group == g) <;> rfl
theorem Agx (hl : f.frosts.length ≤ 1000000) (g : Int) : Acf f g = some (frN f g) := by
 unfold Acf
 rw [if_pos (by omega),Ht (p := fun x : Ap => x.group == g) (f := id) (z := zF g) (fun k x n => rfl) rfl]
 unfold frN
 cases f.frosts.find? (fun x => x.group == g) <;> rfl
theorem Qe (w : WfT t) (hl : f.frosts.length ≤ 1000000) (id : Int) : Jj t f id = some (wN t f id) := by
 have l2 := w.len2
 have hul : (upT t id).length ≤ 64 := by
  have := Lw t.nodes.reverse id
  rw [List.length_reverse] at this
  unfold upT
  omega
 unfold Jj
 rw [AbL w,Option.bind_some,if_pos (by omega),Ht (p := fun g => (frN f g).want) (f := fun _ => true) (z := false) (fun k x n => by
  unfold Ud
  rw [Oa hl,Option.bind_some]) rfl,Agp]
 rfl
theorem Ub (w : WfT t) (hl : f.frosts.length ≤ 1000000) (id : Int) : Kv t f id = some (wN t f id) := by
 have l2 := w.len2
 have hul : (upT t id).length ≤ 64 := by
  have := Lw t.nodes.reverse id
  rw [List.length_reverse] at this
  unfold upT
  omega
 unfold Kv
 rw [Ir w,Option.bind_some,Acx,if_pos (by omega),Ht (p := fun g => (frN f g).want) (f := fun _ => true) (z := false) (fun k x n => by
  unfold AaE
  rw [Agx hl,Option.bind_some]) rfl,Agp]
 rfl
theorem AdJ (w : WfT t) (hl : f.frosts.length ≤ 1000000) (id : Int) : Ll t f id = some (wN t f id) := by
 unfold Ll
 rw [AgH w,Option.bind_some,if_pos rfl,Qe w hl,Option.bind_some]
 rfl
theorem Zl (w : WfH h) (hl : f.frosts.length ≤ 1000000) (k : Int) : Hg h f k = some (wT h f k) := by
 unfold Hg wT
 rw [findC w,Option.bind_some]
 cases Es h.tasks k with
 | none => rfl
 | some x =>
  simp only [Option.isSome_some,if_true,Option.getD_some,Option.elim_some]
  rw [Qe w.tree hl,Option.bind_some]
  rfl
theorem Mg (hl : f.stopped.length ≤ 1000000) (k : Int) : Gr f k = some (f.stopped.contains k) := by
 unfold Gr
 rw [Adi _ _ hl]
 rfl
theorem Xu (hl : f.stopped.length ≤ 1000000) (k : Int) : Rl f k = some (f.stopped.contains k) := by
 unfold Rl
 rw [Zp _ _ hl]
 rfl
theorem Agr {α : Type} {l : List α} {p : α → Bool} : (l.find? (fun x => !p x)).elim true (fun _ => false) = l.all p := by
 induction l with
 | nil => rfl
 | cons a r ih =>
  rw [List.find?_cons,List.all_cons]
  cases p a with
  | true => simpa using ih
  | false => rfl
theorem Abl (w : WfH h) (hs : Ks f) (id : Int) : Me h f id = some (rN h f id) := by
 have l1 := w.len
 have l2 := w.tree.len2
 have s1 := hs.fr
 have s2 := hs.st
 unfold Me rN
 rw [Qe w.tree (by omega),Option.bind_some]
 cases hw : wN h.tree f id with
 | false => rfl
 | true =>
  rw [if_neg (by simp),Bool.true_and]
  apply Ok.eq
  refine Ok.bind (AcV w.tree id) fun l ⟨_,hl,hm⟩ => ?_
  refine Ok.guard (by omega) ?_
  have hc : ∀ g,l.contains g = (upT h.tree g).contains id := fun g => by
   rw [Bool.eq_iff_iff,List.contains_iff_mem,List.contains_iff_mem]
   exact hm g
  refine Ok.of_eq (Ht (p := fun x : At => !(!(upT h.tree x.group).contains id || f.stopped.contains x.id)) (f := fun _ => false) (z := true) (fun k x n => ?_) rfl) Agr
  unfold Vq Nx
  rw [Adi _ _ (by omega),Option.bind_some,hc,Mg (by omega),Option.bind_some]
  cases (upT h.tree x.group).contains id <;> cases f.stopped.contains x.id <;> rfl
theorem Abx (w : WfH h) (hs : Ks f) (id : Int) : Uq h f id = some (rN h f id) := by
 have l1 := w.len
 have l2 := w.tree.len2
 have s1 := hs.fr
 have s2 := hs.st
 unfold Uq rN
 rw [Ub w.tree (by omega),Option.bind_some]
 cases hw : wN h.tree f id with
 | false => rfl
 | true =>
  rw [if_neg (by simp),Bool.true_and,if_pos (by omega)]
  rw [Ht (p := fun x : At => !(!(upT h.tree x.group).contains id || f.stopped.contains x.id)) (f := fun _ => false) (z := true) (fun k x n => ?_) rfl,Agr]
  unfold Aby Vn
  have hul : (upT h.tree x.group).length ≤ 64 := by
   have := Lw h.tree.nodes.reverse x.group
   rw [List.length_reverse] at this
   unfold upT
   omega
  rw [Ir w.tree,Option.bind_some,Acx,Zp _ _ (by omega),Option.bind_some,Xu (by omega),Option.bind_some]
  cases (upT h.tree x.group).contains id <;> cases f.stopped.contains x.id <;> rfl
def AcD (f f' : Ac) : Prop := ∀ g,(frN f g).want = (frN f' g).want
theorem AgI (e : AcD f f') (id : Int) : wN t f id = wN t f' id := by
 unfold wN
 congr 1
 funext g
 exact e g
theorem wT_congr (e : AcD f f') (k : Int) : wT h f k = wT h f' k := by
 unfold wT
 congr 1
 funext x
 exact AgI e _
theorem Agj (e : AcD f f') (es : f.stopped = f'.stopped) (id : Int) : rN h f id = rN h f' id := by
 unfold rN
 rw [AgI e,es]
theorem AfS {f f' : Ac} (e : f.frosts.map (fun x => (x.group,x.want)) = f'.frosts.map (fun x => (x.group,x.want))) : AcD f f' := by
 intro g
 unfold frN
 have key : ∀ (a b : List Ap),a.map (fun x => (x.group,x.want)) = b.map (fun x => (x.group,x.want)) → ((a.find? (fun x => x.group == g)).getD (zF g)).want = ((b.find? (fun x => x.group == g)).getD (zF g)).want := by
  intro a
  induction a with
  | nil =>
   intro b hb
   have : b = [] := by simpa using hb.symm
   rw [this]
  | cons x r ih =>
   intro b hb
   cases b with
   | nil => simp at hb
   | cons y s =>
    simp only [List.map_cons,List.cons.injEq,Prod.mk.injEq] at hb
    rw [List.find?_cons,List.find?_cons,hb.1.1]
    cases (y.group == g) with
    | true => exact hb.1.2
    | false => exact ih s hb.2
 exact key _ _ e
theorem Tu (b : Bool) (x : Ap) : (Ov b x).group = x.group ∧ (Ov b x).want = x.want ∧ (Ov b x).frozen = b := by
 unfold Ov
 split
 ·exact ⟨rfl,rfl,rfl⟩
 ·rename_i hc
  refine ⟨rfl,rfl,?_⟩
  have : b = x.frozen := by simpa using hc
  exact this.symm
theorem Ahg (h : Aa) (f : Ac) : AcD (Ii h f) f := by
 refine AfS ?_
 unfold Ii
 rw [List.map_map]
 apply List.map_congr_left
 intro x _
 simp only [Function.comp]
 rw [(Tu _ x).1,(Tu _ x).2.1]
structure FzOk (h : Aa) (f : Ac) : Prop where
 grp : f.frosts.map (·.group) = h.tree.nodes.map (·.id)
 chg : ∀ x ∈ f.frosts,0 ≤ x.changes ∧ x.changes ≤ 1099511627776
 asc : Asc f.stopped
 stp : ∀ k ∈ f.stopped,wT h f k = true
 frz : ∀ x ∈ f.frosts,x.frozen = rN h f x.group
theorem FzOk.len (k : FzOk h f) : f.frosts.length = h.tree.nodes.length := by
 have := congrArg List.length k.grp
 simpa using this
theorem wT_has {k : Int} (e : wT h f k = true) : ∃ x ∈ h.tasks,x.id = k ∧ wN h.tree f x.group = true := by
 unfold wT at e
 cases hk : Es h.tasks k with
 | none => rw [hk] at e; simp at e
 | some x =>
  rw [hk] at e
  exact ⟨x,(Ry hk).1,(Ry hk).2,e⟩
theorem FzOk.slen (k : FzOk h f) : f.stopped.length ≤ h.tasks.length := by
 have := AdH (l := f.stopped) (m := h.tasks.map (·.id)) (Afi k.asc) fun x hx => by
  obtain ⟨y,hy,e,_⟩ := wT_has (k.stp x hx)
  exact List.mem_map.mpr ⟨y,hy,e⟩
 simpa using this
theorem FzOk.small (w : WfH h) (k : FzOk h f) : Ks f := by
 have l1 := w.len
 have l2 := w.tree.len2
 have := k.len
 have := k.slen
 exact ⟨by omega,by omega⟩
theorem pre_map {α β γ : Type} [Inhabited β] {p : α → γ} {q : β → γ} {L pre post : List α} {M : List β} {x : α} (e : L.map p = M.map q) (he : L = pre ++ x :: post) : pre.length < M.length ∧ p x = q (M.getD pre.length default) := by
 have hl := congrArg List.length e
 rw [he] at hl
 simp at hl
 have hlt : pre.length < M.length := by omega
 refine ⟨hlt,?_⟩
 have h1 : (L.map p)[pre.length]? = some (p x) := by
  rw [he]
  simp
 rw [e,List.getElem?_map,List.getElem?_eq_getElem hlt] at h1
 rw [Hc hlt]
 simpa using h1.symm
structure FrA (h : Aa) (pre : List Ap) : Prop where
 grp : pre.map (·.group) = (h.tree.nodes.take pre.length).map (·.id)
 chg : ∀ x ∈ pre,0 ≤ x.changes ∧ x.changes ≤ 1099511627776
theorem FrA.snoc {pre : List Ap} {x : Ap} (a : FrA h pre) (hl : pre.length < h.tree.nodes.length) (h1 : x.group = (h.tree.nodes.getD pre.length default).id) (h2 : 0 ≤ x.changes ∧ x.changes ≤ 1099511627776) : FrA h (pre ++ [x]) := by
 refine ⟨?_,Ww a.chg h2⟩
 rw [List.map_append,a.grp,List.length_append,List.length_cons,List.length_nil,List.take_add_one,List.getElem?_eq_getElem hl,List.map_append,← Hc (d := default) hl]
 simp [h1]
theorem AgK {pre : List Int} {x : Int} (a : Asc pre) (h1 : ∀ y ∈ pre,y < x) : Asc (pre ++ [x]) := by
 rw [Asc,List.pairwise_append]
 exact ⟨a,by simp,fun y hy z hz => by rw [List.mem_singleton.mp hz]; exact h1 y hy⟩
theorem Yh (w : WfH h) (hs : Ks f) : Ok (Mu h f) (fun b => b = true ↔ FzOk h f) := by
 have l1 := w.len
 have l2 := w.tree.len2
 have s1 := hs.fr
 have s2 := hs.st
 have bad : ¬ FzOk h f → Ok (some false) (fun b : Bool => b = true ↔ FzOk h f) := fun hn => Ok.ret (by simp [hn])
 unfold Mu
 rw [AaC w,Option.bind_some,if_neg (by simp)]
 unfold Mq
 refine Ok.ite (fun c => bad fun k => ?_) fun c => ?_
 ·have := k.len
  simp at c
  omega
 have hlen : f.frosts.length = h.tree.nodes.length := by
  simp at c
  omega
 refine Ok.guard (by omega) ?_
 refine Ok.range (fun pre _ => FrA h pre) ⟨rfl,by simp⟩ ?_ ?_
 ·intro pre x post _ n he a hn
  have hpl : pre.length < h.tree.nodes.length := by
   rw [← hlen,he]
   simp
  have hx : x ∈ f.frosts := by rw [he]; simp
  unfold Uc Jp
  refine Ok.guard hpl ?_
  refine Ok.ite (fun c => ?_) fun c1 => Ok.ite (fun c => ?_) fun c2 => Ok.ite (fun c => ?_) fun c3 => ?_
  ·refine bad fun k => ?_
   have := (pre_map k.grp he).2
   simp [this] at c
  ·refine bad fun k => ?_
   have := k.chg x hx
   simp at c
   omega
  ·refine bad fun k => ?_
   have := k.chg x hx
   simp at c
   omega
  ·refine hn _ (a.snoc hpl (by simpa using c1) ?_)
   simp at c2 c3
   omega
 ·intro _ a
  unfold Tn
  refine Ok.guard (by omega) ?_
  refine Ok.range (fun pre _ => Asc pre ∧ ∀ k ∈ pre,wT h f k = true) ⟨List.Pairwise.nil,by simp⟩ ?_ ?_
  ·intro pre x post _ n he ⟨b1,b2⟩ hn
   have hx : x ∈ f.stopped := by rw [he]; simp
   have hrest : (∀ y ∈ pre,y < x) → Ok (Option.bind (Hg h f x) fun r => Hs n (!r)) (fun b => b = true ↔ FzOk h f) := by
    intro hlt
    rw [Zl w (by omega),Option.bind_some]
    unfold Hs
    refine Ok.ite (fun c => bad fun k => ?_) fun c => ?_
    ·rw [k.stp x hx] at c
     simp at c
    ·exact hn _ ⟨AgK b1 hlt,Ww b2 (by simpa using c)⟩
   unfold Sc
   rcases Ja pre with rfl | ⟨P,y,rfl⟩
   ·rw [if_neg (by simp)]
    exact hrest (by simp)
   ·have e1 : decide ((((P ++ [y]).length : Nat) : Int) > 0) = true := by simp
    have hlen2 := congrArg List.length he
    simp at hlen2
    have e2 : w64 ((((P ++ [y]).length : Nat) : Int) - 1) = (P.length : Int) := by
     rw [Ax (by simp <;> omega) (by simp <;> omega)]
     simp
    have e4 : f.stopped.getD (Int.toNat (P.length : Int)) 0 = y := by
     rw [he]
     exact Rq
    rw [e1,if_pos rfl,e2,e4]
    refine Ok.guard ⟨by omega,by omega⟩ ?_
    refine Ok.ite (fun c => bad fun k => ?_) fun c => hrest ?_
    ·have := k.asc
     rw [he,Asc,List.pairwise_append] at this
     have := this.2.2 y (by simp) x (by simp)
     simp at c
     omega
    ·have hyx : y < x := by simpa using c
     rw [Asc,List.pairwise_append] at b1
     intro z hz
     rcases List.mem_append.mp hz with hz | hz
     ·have := b1.2.2 z hz y (by simp)
      omega
     ·rw [List.mem_singleton.mp hz]
      exact hyx
  ·intro _ ⟨b1,b2⟩
   unfold Sw
   refine Ok.guard (by omega) ?_
   refine Ok.range (fun pre _ => ∀ x ∈ pre,x.frozen = rN h f x.group) (by simp) ?_ ?_
   ·intro pre x post _ n he hp hn
    have hx : x ∈ f.frosts := by rw [he]; simp
    unfold Th
    rw [Abl w hs,Option.bind_some]
    refine Ok.ite (fun c => bad fun k => ?_) fun c => hn _ (Ww hp (by simpa using c))
    rw [k.frz x hx] at c
    simp at c
   ·intro _ hp
    refine Ok.ret ⟨fun _ => ⟨?_,a.chg,b1,b2,hp⟩,fun _ => rfl⟩
    have := a.grp
    rw [hlen,List.take_length] at this
    exact this
theorem Aeq (w : WfH h) (hs : Ks f) : Ok (Zu h f) (fun b => b = true ↔ FzOk h f) := by
 have l1 := w.len
 have l2 := w.tree.len2
 have s1 := hs.fr
 have s2 := hs.st
 have bad : ¬ FzOk h f → Ok (some false) (fun b : Bool => b = true ↔ FzOk h f) := fun hn => Ok.ret (by simp [hn])
 unfold Zu
 rw [Jh w,Option.bind_some,if_neg (by simp)]
 unfold Vk
 refine Ok.ite (fun c => bad fun k => ?_) fun c => ?_
 ·have := k.len
  simp at c
  omega
 have hlen : f.frosts.length = h.tree.nodes.length := by
  simp at c
  omega
 refine Ok.guard (by omega) ?_
 refine Ok.range (fun pre _ => FrA h pre) ⟨rfl,by simp⟩ ?_ ?_
 ·intro pre x post _ n he a hn
  have hpl : pre.length < h.tree.nodes.length := by
   rw [← hlen,he]
   simp
  have hx : x ∈ f.frosts := by rw [he]; simp
  unfold Abm Qk
  refine Ok.guard hpl ?_
  refine Ok.ite (fun c => ?_) fun c1 => Ok.ite (fun c => ?_) fun c2 => Ok.ite (fun c => ?_) fun c3 => ?_
  ·refine bad fun k => ?_
   have := (pre_map k.grp he).2
   simp [this] at c
  ·refine bad fun k => ?_
   have := k.chg x hx
   simp at c
   omega
  ·refine bad fun k => ?_
   have := k.chg x hx
   simp at c
   omega
  ·refine hn _ (a.snoc hpl (by simpa using c1) ?_)
   simp at c2 c3
   omega
 ·intro _ a
  unfold Abw
  refine Ok.guard (by omega) ?_
  refine Ok.range (fun pre _ => Asc pre ∧ ∀ k ∈ pre,wT h f k = true) ⟨List.Pairwise.nil,by simp⟩ ?_ ?_
  ·intro pre x post _ n he ⟨b1,b2⟩ hn
   have hx : x ∈ f.stopped := by rw [he]; simp
   unfold Aax
   rw [find6 w,Option.bind_some]
   cases hk : Es h.tasks x with
   | none =>
    refine bad fun k => ?_
    have := k.stp x hx
    unfold wT at this
    rw [hk] at this
    simp at this
   | some y =>
    have hwt : wT h f x = wN h.tree f y.group := by
     unfold wT
     rw [hk]
     rfl
    simp only [Option.isSome_some,Bool.not_true,Bool.false_eq_true,if_false,Option.getD_some]
    have hrest : (∀ y ∈ pre,y < x) → Ok (Option.bind (Kv h.tree f y.group) fun r => Ko n (!r)) (fun b => b = true ↔ FzOk h f) := by
     intro hlt
     rw [Ub w.tree (by omega),Option.bind_some,← hwt]
     unfold Ko
     refine Ok.ite (fun c => bad fun k => ?_) fun c => ?_
     ·rw [k.stp x hx] at c
      simp at c
     ·exact hn _ ⟨AgK b1 hlt,Ww b2 (by simpa using c)⟩
    rcases Ja pre with rfl | ⟨P,z,rfl⟩
    ·rw [if_neg (by simp)]
     exact hrest (by simp)
    ·have e1 : decide ((((P ++ [z]).length : Nat) : Int) > 0) = true := by simp
     have hlen2 := congrArg List.length he
     simp at hlen2
     have e2 : w64 ((((P ++ [z]).length : Nat) : Int) - 1) = (P.length : Int) := by
      rw [Ax (by simp <;> omega) (by simp <;> omega)]
      simp
     have e4 : f.stopped.getD (Int.toNat (P.length : Int)) 0 = z := by
      rw [he]
      exact Rq
     rw [e1,if_pos rfl,e2,e4]
     refine Ok.guard ⟨by omega,by omega⟩ ?_
     refine Ok.ite (fun c => bad fun k => ?_) fun c => hrest ?_
     ·have := k.asc
      rw [he,Asc,List.pairwise_append] at this
      have := this.2.2 z (by simp) x (by simp)
      simp at c
      omega
     ·have hyx : z < x := by simpa using c
      rw [Asc,List.pairwise_append] at b1
      intro q hz
      rcases List.mem_append.mp hz with hz | hz
      ·have := b1.2.2 q hz z (by simp)
       omega
      ·rw [List.mem_singleton.mp hz]
       exact hyx
  ·intro _ ⟨b1,b2⟩
   unfold Aay
   refine Ok.guard (by omega) ?_
   refine Ok.range (fun pre _ => ∀ x ∈ pre,x.frozen = rN h f x.group) (by simp) ?_ ?_
   ·intro pre x post _ n he hp hn
    have hx : x ∈ f.frosts := by rw [he]; simp
    unfold Aal
    rw [Abx w hs,Option.bind_some]
    refine Ok.ite (fun c => bad fun k => ?_) fun c => hn _ (Ww hp (by simpa using c))
    rw [k.frz x hx] at c
    simp at c
   ·intro _ hp
    refine Ok.ret ⟨fun _ => ⟨?_,a.chg,b1,b2,hp⟩,fun _ => rfl⟩
    have := a.grp
    rw [hlen,List.take_length] at this
    exact this
end
end Go.Dm

/- Plain theory of freezers, part 2: what changes make of them. -/
namespace Go.Dm
theorem AfJ (l : List Int) (x : Int) (hl : l.length ≤ 9223372036854775807) : Ds l x = some (l.contains x) := by
 unfold Ds Ky
 rw [if_pos (by omega),Om (p := fun y : Int => x == y) (fun k y n => rfl) rfl,Option.bind_some]
 rcases Pi (fun y : Int => x == y) l 0 with ⟨i,h1,h2,h3⟩ | ⟨h1,h2⟩
 ·rw [h2]
  have hm := List.mem_of_find?_eq_some h3
  have he := List.find?_some h3
  have : l.contains x = true := by
   rw [List.contains_iff_mem]
   have : x = l.getD i 0 := by simpa using he
   rw [this]
   exact hm
  rw [this]
  simp
 ·rw [h1]
  have : l.contains x = false := by
   rw [List.find?_eq_none] at h2
   cases hc : l.contains x
   ·rfl
   ·rw [List.contains_iff_mem] at hc
    have := h2 x hc
    simp at this
  rw [this]
  simp
theorem AfL (l : List Int) (x : Int) (hl : l.length ≤ 9223372036854775807) : Md l x = some (l.contains x) := by
 unfold Md
 rw [if_pos (by omega),Ht (p := fun y : Int => y == x) (f := fun _ => true) (z := false) (fun k y n => rfl) rfl]
 congr 1
 cases hf : l.find? (fun y => y == x) with
 | none =>
  rw [List.find?_eq_none] at hf
  cases hc : l.contains x
  ·rfl
  ·rw [List.contains_iff_mem] at hc
   have := hf x hc
   simp at this
 | some y =>
  have hm := List.mem_of_find?_eq_some hf
  have he := List.find?_some hf
  have : y = x := by simpa using he
  rw [this] at hm
  simp [hm]
theorem iff_t' {m : Option Bool} {p : Prop} (h : Ok m (fun b => b = true ↔ p)) (hp : p) : m = some true := Ok.eq (h.mono fun b hb => hb.mpr hp)
def zFr : Ac := { frosts := [],stopped := [] }
def AcG (h : Aa) (f : Ac) : Ac := { frosts := f.frosts,stopped := f.stopped.filter (wT h f) }
def keepF (h : Aa) (f : Ac) : List Int := (h.tasks.filter (fun x => f.stopped.contains x.id && wN h.tree f x.group)).map (·.id)
def setW (id : Int) (b : Bool) (x : Ap) : Ap := if x.group == id then { group := x.group,want := b,frozen := x.frozen,changes := x.changes } else x
def wishF (f : Ac) (id : Int) (b : Bool) : Ac := { frosts := f.frosts.map (setW id b),stopped := f.stopped }
def setF (h : Aa) (f : Ac) (id : Int) (b : Bool) : Ac := Ii h (AcG h (wishF f id b))
def Uh (h : Aa) (f : Ac) (busy : List Int) : List Int := (h.tasks.filter (fun x => f.stopped.contains x.id || (wN h.tree f x.group && !busy.contains x.id))).map (·.id)
def Yx (h : Aa) (f : Ac) (busy : List Int) : Ac := Ii h { frosts := f.frosts,stopped := Uh h f busy }
def adjX (f : Ac) (x : Ah) : Ap := { group := x.id,want := (frN f x.id).want && (x.id != 1),frozen := (frN f x.id).frozen,changes := minI (maxI (frN f x.id).changes 0) 1099511627776 }
def adjI (h : Aa) (f : Ac) : Ac := { frosts := h.tree.nodes.map (adjX f),stopped := f.stopped }
def adjF (h : Aa) (f : Ac) : Ac := Ii h { frosts := (adjI h f).frosts,stopped := keepF h (adjI h f) }
section
variable {h : Aa} {f : Ac}
theorem map_at {α : Type} {g : α → α} {L : List α} {d : α} {j : Nat} (hj : j < L.length) : ((L.take j).map g ++ L.drop j).getD j d = L.getD j d ∧ ((L.take j).map g ++ L.drop j).set j (g (L.getD j d)) = (L.take (j + 1)).map g ++ L.drop (j + 1) ∧ ((L.take j).map g ++ L.drop j).length = L.length := by
 have hd : L.drop j = L[j] :: L.drop (j + 1) := List.drop_eq_getElem_cons hj
 have hml : ((L.take j).map g).length = j := by
  rw [List.length_map,List.length_take]
  omega
 have ht : L.take (j + 1) = L.take j ++ [L[j]] := by
  rw [List.take_add_one]
  simp [hj]
 refine ⟨?_,?_,by simp; omega⟩
 ·rw [hd,List.getD_eq_getElem?_getD,List.getElem?_append_right (by omega),hml,Nat.sub_self,Hc hj]
  rfl
 ·rw [hd,List.set_append_right _ _ (by omega),hml,Nat.sub_self,List.set_cons_zero,ht,List.map_append,List.append_assoc,Hc hj]
  rfl
theorem Yp (w : WfH h) (hs : Ks f) : Du { h := h,f := f } = some (Ii h f,{ h := h,f := Ii h f }) := by
 have s1 := hs.fr
 unfold Du
 apply Ok.eq
 refine Ok.guard (by simp only; omega) ?_
 refine Ok.for (fun j s => s = (f.frosts.take j).map (fun x => Ov (rN h f x.group) x) ++ f.frosts.drop j) (by simp) ?_ ?_
 ·rintro j s n hj rfl hn
  have hj' : j < f.frosts.length := by
   simp only [Int.sub_zero] at hj
   omega
  obtain ⟨m1,m2,m3⟩ := map_at (g := fun x => Ov (rN h f x.group) x) (d := (default : Ap)) hj'
  generalize hM : (f.frosts.take j).map (fun x => Ov (rN h f x.group) x) ++ f.frosts.drop j = M at m1 m2 m3
  have hw : AcD { frosts := M,stopped := f.stopped } f := by
   refine AfS ?_
   rw [← hM,List.map_append,List.map_map]
   conv => rhs; rw [← List.take_append_drop j f.frosts,List.map_append]
   congr 1
   apply List.map_congr_left
   intro x _
   simp only [Function.comp]
   rw [(Tu _ x).1,(Tu _ x).2.1]
  have hjn : Int.toNat (0 + (j : Int)) = j := by omega
  unfold Li Gt
  simp only
  rw [hjn,m1,m3]
  generalize hx : f.frosts.getD j default = x at m1 m2
  refine Ok.guard ⟨by omega,by omega⟩ (Ok.guard hj' ?_)
  have hrest : Me h { frosts := M,stopped := f.stopped } x.group = some (rN h f x.group) := by
   rw [Abl w (f := { frosts := M,stopped := f.stopped }) ⟨by show M.length ≤ 1000; omega,hs.st⟩,Agj hw rfl]
  rw [hrest,Option.bind_some]
  refine Ok.guard hj' ?_
  have hMl : j < M.length := by omega
  refine Ok.ite (fun c => ?_) fun c => ?_
  ·refine Ok.guard hj' (Ok.guard hj' (Ok.guard hj' ?_))
   rw [Afz hMl,List.set_set]
   simp only
   refine hn _ ?_
   rw [← m2]
   congr 1
   unfold Ov
   rw [if_pos c]
  ·refine hn _ ?_
   rw [← m2]
   have : Ov (rN h f x.group) x = x := by
    unfold Ov
    rw [if_neg (by rw [c]; simp)]
   rw [this,← m1]
   exact (AfT hMl).symm
 ·intro s hs2
  have e : Int.toNat (((f.frosts.length : Nat) : Int) - 0) = f.frosts.length := by omega
  simp only at hs2
  rw [e,List.take_length,List.drop_length,List.append_nil] at hs2
  subst hs2
  exact Ok.ret rfl
theorem Afy (w : WfH h) (hs : Ks f) : Qv h f = some (Ii h f) := by
 have s1 := hs.fr
 have s2 := hs.st
 unfold Qv
 rw [if_pos (by omega)]
 apply Ok.eq
 refine Ok.guard (by omega) ?_
 refine Ok.range (fun pre s => s = pre.map (fun x => Ov (rN h f x.group) x)) rfl ?_ ?_
 ·rintro pre x post s n he rfl hn
  have hl : pre.length + 1 ≤ f.frosts.length := by rw [he]; simp
  have hJ : ∀ y,y = Ov (rN h f x.group) x → Ok (Ro (pre.map (fun x => Ov (rN h f x.group) x)) n y) (fun b => b = Ii h f) := by
   rintro y rfl
   unfold Ro
   refine Ok.guard (by rw [List.length_map]; omega) (hn _ ?_)
   rw [List.map_append]
   rfl
  unfold Abg
  rw [Abx w hs,Option.bind_some]
  refine Ok.ite (fun c => hJ _ ?_) fun c => hJ _ ?_
  ·unfold Ov
   rw [if_pos c]
  ·unfold Ov
   rw [if_neg (by rw [c]; simp)]
 ·intro s hs2
  rw [hs2]
  exact Ok.ret rfl
theorem Aee (w : WfH h) (hl : f.frosts.length ≤ 1000000) (S : List Int) (k : Int) : Ft k { h := h,f := { frosts := f.frosts,stopped := S } } = some (!wT h f k) := by
 unfold Ft
 have e : Hg h { frosts := f.frosts,stopped := S } k = some (wT h { frosts := f.frosts,stopped := S } k) := Zl w hl k
 simp only
 rw [e]
 rfl
theorem Aeh (w : WfH h) (hl : f.frosts.length ≤ 1000000) (L S : List Int) (h2 : L.length ≤ 1000000) :
  Ok (Cd L { h := h,f := { frosts := f.frosts,stopped := S } }) (fun r => r.2.1.length = L.length ∧ r.1 ≤ L.length ∧ r.2.1.take r.1 = L.filter (wT h f) ∧ r.2.2.h = h ∧ r.2.2.f.frosts = f.frosts) := by
 have hff : L.filter (fun x => !(!wT h f x)) = L.filter (wT h f) := by
  congr 1
  funext x
  simp
 unfold Cd Cy
 rw [if_pos (by omega),Om (p := fun x => !wT h f x) (fun k x n => by
  unfold Ek
  rw [Aee w hl,Option.bind_some]) rfl]
 refine Ok.step rfl ?_
 rcases Pi (fun x => !wT h f x) L 0 with ⟨i,h1,h2',h3⟩ | ⟨h1,h2'⟩
 ·rw [h2',Option.elim_some]
  refine Ok.ite (fun c => by have := beq_iff_eq.mp c; omega) fun _ => ?_
  have e1 : w64 ((i : Int) + 1) = ((i + 1 : Nat) : Int) := by
   rw [Ax (by omega) (by omega)]
   omega
  rw [e1]
  have hh := List.findIdx?_eq_some_iff_getElem.mp h2'
  obtain ⟨g1,g2,g3⟩ := hh
  refine Ahi (p := fun x => !wT h f x) (d := 0) h2 h1 ?_ ?_ ?_ ?_
  ·intro x hx
   obtain ⟨j,hj,rfl⟩ := List.getElem_of_mem hx
   rw [List.length_take] at hj
   rw [List.getElem_take]
   have := g3 j (by omega)
   simpa using this
  ·rw [Hc h1]
   exact g2
  ·intro M i j n hM hij hj hn
   unfold Cq Cb
   simp only
   have ei : Int.toNat (i : Int) = i := by omega
   have ej : Int.toNat (j : Int) = j := by omega
   rw [ei,ej]
   refine Ok.ite (fun _ => ?_) fun c => by
    have := of_decide_eq_false c
    omega
   refine Ok.guard (by omega) (Ok.guard (by omega) ?_)
   rw [Aee w hl,Option.bind_some]
   have ej1 : w64 ((j : Int) + 1) = ((j + 1 : Nat) : Int) := by
    rw [Ax (by omega) (by omega)]
    omega
   have ei1 : w64 ((i : Int) + 1) = ((i + 1 : Nat) : Int) := by
    rw [Ax (by omega) (by omega)]
    omega
   rw [ej1,ei1]
   refine Ok.ite (fun c => ?_) fun c => ?_
   ·refine Ok.guard (by omega) (Ok.guard (by omega) (hn _ ?_))
    rw [if_neg]
    simpa using c
   ·refine hn _ ?_
    rw [if_pos]
    rw [Bool.not_eq_false'] at c
    exact c
  ·intro M i n hM hi ht
   unfold Cq
   simp only
   have ei : Int.toNat (i : Int) = i := by omega
   rw [ei,Wt]
   refine Ok.ite (fun c => by have := of_decide_eq_true c; omega) fun _ => ?_
   have hfl : (Pz M i (M.length - i) (0 : Int)).length = M.length := Agv (by omega)
   refine Ok.guard (by omega) (Ok.guard (by omega) (Ok.guard (by rw [hfl]; omega) (Ok.ret ⟨by simp only; rw [hfl,hM],hi,?_,rfl,rfl⟩)))
   simp only
   rw [AhO (by omega),ht]
   exact hff
 ·rw [h1,Option.elim_none]
  refine Ok.ite (fun _ => Ok.ret ⟨rfl,Nat.le_refl _,?_,rfl,rfl⟩) fun c => by simp at c
  simp only [List.take_length]
  symm
  rw [List.filter_eq_self]
  intro x hx
  rw [List.find?_eq_none] at h2'
  have := h2' x hx
  simpa using this
theorem thaw_ok (w : WfH h) (hs : Ks f) : Ok (Hx { h := h,f := f }) (fun r => r.1.h = h ∧ r.1.f.frosts = f.frosts ∧ r.1.f.stopped.length = f.stopped.length ∧ r.2 ≤ f.stopped.length ∧ r.1.f.stopped.take r.2 = f.stopped.filter (wT h f)) := by
 have s1 := hs.fr
 have s2 := hs.st
 unfold Hx
 simp only
 refine Ok.bind (Aeh w (by omega) f.stopped f.stopped (by omega)) fun r ⟨r1,r2,r3,r4,r5⟩ => ?_
 refine Ok.guard r1.symm (Ok.guard (by rw [r5]) (Ok.guard (by omega) (Ok.ret ⟨r4,r5,r1,r2,r3⟩)))
theorem tail_ok (w : WfH h) (hs : Ks f) {r : freezer × Nat} (r1 : r.1.h = h) (r2 : r.1.f.frosts = f.frosts) (r3 : r.1.f.stopped.length = f.stopped.length) (r4 : r.2 ≤ f.stopped.length) (r5 : r.1.f.stopped.take r.2 = f.stopped.filter (wT h f)) :
  Du { h := r.1.h,f := { frosts := r.1.f.frosts,stopped := r.1.f.stopped.take r.2 } } = some (Ii h (AcG h f),{ h := h,f := Ii h (AcG h f) }) ∧ (Ii h (AcG h f)).stopped.length = (r.1.f.stopped.take r.2).length := by
 have hs2 : Ks (AcG h f) := ⟨hs.fr,by
  have := List.length_filter_le (wT h f) f.stopped
  have := hs.st
  show (f.stopped.filter (wT h f)).length ≤ 1000
  omega⟩
 rw [r1,r2,r5]
 exact ⟨Yp w hs2,rfl⟩
theorem keepF_asc (w : WfH h) (f : Ac) : Asc (keepF h f) := ids_asc w.sorted _
theorem keepF_mem {x : Int} (w : WfH h) : x ∈ keepF h f ↔ x ∈ f.stopped ∧ wT h f x = true := by
 constructor
 ·intro hx
  obtain ⟨y,hy,e⟩ := List.mem_map.mp hx
  obtain ⟨h1,h2⟩ := List.mem_filter.mp hy
  simp only [Bool.and_eq_true] at h2
  rw [e] at h2
  refine ⟨by simpa using h2.1,?_⟩
  unfold wT
  rw [← e,AeG w.sorted h1]
  exact h2.2
 ·rintro ⟨h1,h2⟩
  obtain ⟨y,hy,e,hw⟩ := wT_has h2
  refine List.mem_map.mpr ⟨y,List.mem_filter.mpr ⟨hy,?_⟩,e⟩
  rw [e,hw,Bool.and_true]
  simpa using h1
theorem Afl (w : WfH h) (k : FzOk h f) : (f.frosts.map (·.group)).Nodup := by
 rw [k.grp]
 exact ids_nodup w.tree
theorem has_grp (k : FzOk h f) (id : Int) : Gc h.tree id = (f.frosts.find? (fun x => x.group == id)).isSome := by
 rw [Bool.eq_iff_iff,hasN_iff,List.find?_isSome]
 have : (∃ x ∈ h.tree.nodes,x.id = id) ↔ id ∈ h.tree.nodes.map (·.id) := by simp
 rw [this,← k.grp]
 simp
theorem set_wish {L : List Ap} (hn : (L.map (·.group)).Nodup) {i : Nat} (hi : i < L.length) {id : Int} {b : Bool} (e : L[i].group = id) : L.set i { group := L[i].group,want := b,frozen := L[i].frozen,changes := L[i].changes } = L.map (setW id b) := by
 apply List.ext_getElem
 ·simp
 ·intro j h1 h2
  rw [List.getElem_set,List.getElem_map]
  have hj : j < L.length := by simpa using h1
  by_cases q : i = j
  ·subst q
   rw [if_pos rfl,setW,if_pos (by simp [e])]
  ·rw [if_neg q,setW,if_neg]
   simp only [beq_iff_eq]
   intro e2
   have := List.pairwise_iff_getElem.mp hn
   rcases Nat.lt_or_gt_of_ne q with hlt | hlt
   ·exact this i j (by simpa using hi) (by simpa using hj) hlt (by simp [e,e2])
   ·exact this j i (by simpa using hj) (by simpa using hi) hlt (by simp [e,e2])
theorem Aht (hs : Ks f) (id : Int) (b : Bool) : Ks (wishF f id b) := ⟨by simpa [wishF] using hs.fr,hs.st⟩
theorem Ahs (hl : f.frosts.length ≤ 1000000) : Gn f.frosts = some f.frosts := by
 unfold Gn
 rw [if_pos (by omega)]
theorem clone_int {l : List Int} (hl : l.length ≤ 1000000) : Hl l = some l := by
 unfold Hl
 rw [if_pos (by omega)]
theorem open_t (hs : Ks f) : Oi h f = some { h := h,f := f } := by
 have s1 := hs.fr
 have s2 := hs.st
 unfold Oi
 rw [Ahs (by omega),Option.bind_some,clone_int (by omega),Option.bind_some]
theorem AgQ (w : WfH h) (k : FzOk h f) (id : Int) (b : Bool) : Nl h f id b = some (if !Gc h.tree id then (zFr,4) else if id == 1 then (zFr,9) else (setF h f id b,0)) := by
 have hs := k.small w
 have s1 := hs.fr
 have s2 := hs.st
 unfold Nl
 rw [iff_t' (Yh w hs) k,Option.bind_some,if_neg (by simp)]
 unfold Ep
 rw [if_pos (by omega),Om (p := fun x : Ap => x.group == id) (fun k x n => rfl) rfl,Option.bind_some,has_grp k]
 rcases Pi (fun x : Ap => x.group == id) f.frosts default with ⟨i,h1,h2,h3⟩ | ⟨h1,h2⟩
 ·rw [h2,Option.elim_some,h3]
  simp only [Option.isSome_some,Bool.not_true,Bool.false_eq_true,if_false]
  rw [if_neg (by simp <;> omega)]
  cases hr : (id == 1) with
  | true => rfl
  | false =>
   simp only [Bool.false_eq_true,if_false]
   rw [open_t hs,Option.bind_some]
   have hin : Int.toNat (i : Int) = i := by omega
   have hgi : f.frosts[i].group = id := by
    have := List.find?_some h3
    rw [Hc h1] at this
    simpa using this
   simp only
   rw [hin,Hc h1,set_wish (Afl w k) h1 hgi]
   apply Ok.eq
   refine Ok.guard ⟨by omega,by omega⟩ (Ok.guard h1 ?_)
   have hw := Aht hs id b
   refine Ok.bind (thaw_ok w hw) fun r ⟨r1,r2,r3,r4,r5⟩ => ?_
   obtain ⟨t1,t2⟩ := tail_ok w hw r1 r2 r3 r4 r5
   refine Ok.guard (by rw [r2]) (Ok.guard (by rw [r3]) (Ok.guard (by rw [r3]; exact r4) ?_))
   rw [t1,Option.bind_some]
   refine Ok.guard (by rw [r2]; simp [Ii,AcG,wishF]) (Ok.guard t2.symm (Ok.ret rfl))
 ·rw [h1,Option.elim_none,h2]
  rfl
theorem Afm (w : WfH h) (f : Ac) (busy : List Int) : Asc (Uh h f busy) := ids_asc w.sorted _
theorem Afr (h : Aa) (f : Ac) (busy : List Int) : (Uh h f busy).length ≤ h.tasks.length := Ahw _ _ _
theorem Step_ref36_t (w : WfH h) (k : FzOk h f) {busy : List Int} (hb : busy.length ≤ 9223372036854775807) : Aek h f busy = some (Yx h f busy,0) := by
 have hs := k.small w
 have s1 := hs.fr
 have s2 := hs.st
 have l1 := w.len
 have hl := Afr h f busy
 have hs2 : Ks { frosts := f.frosts,stopped := Uh h f busy } := ⟨hs.fr,by simp only; omega⟩
 unfold Aek
 rw [iff_t' (Aeq w hs) k,Option.bind_some,if_neg (by simp),if_pos (by omega),Jt (p := fun x : At => f.stopped.contains x.id || (wN h.tree f x.group && !busy.contains x.id)) (f := fun x : At => x.id) (r := Wx h f) (fun k x s n hs => by
  unfold Acr Ti Yl
  rw [Xu (by omega),Option.bind_some,Ub w.tree (by omega),Option.bind_some,AfL _ _ hb,Option.bind_some,if_pos hs]
  cases f.stopped.contains x.id <;> cases wN h.tree f x.group <;> cases busy.contains x.id <;> rfl) (fun _ => rfl) (by simp; omega),List.nil_append]
 unfold Wx
 have : Qv h { frosts := f.frosts,stopped := Uh h f busy } = some (Yx h f busy) := Afy w hs2
 show Option.bind (Qv h { frosts := f.frosts,stopped := Uh h f busy }) _ = _
 rw [this]
 rfl
theorem AfP (w : WfH h) (k : FzOk h f) {busy : List Int} (hb : busy.length ≤ 9223372036854775807) : Mb h f busy = some (Yx h f busy,0) := by
 have hs := k.small w
 have s1 := hs.fr
 have s2 := hs.st
 have l1 := w.len
 have hl := Afr h f busy
 have hs2 : Ks { frosts := f.frosts,stopped := Uh h f busy } := ⟨hs.fr,by simp only; omega⟩
 unfold Mb
 rw [iff_t' (Yh w hs) k,Option.bind_some,if_neg (by simp),open_t hs,Option.bind_some]
 apply Ok.eq
 refine Ok.guard (by omega) ?_
 refine Ok.range (fun pre s => s.Nodup ∧ s.length ≤ f.stopped.length + pre.length ∧ ∀ x,x ∈ s ↔ x ∈ f.stopped ∨ ∃ y ∈ pre,y.id = x ∧ wN h.tree f y.group = true ∧ busy.contains y.id = false) ⟨Afi k.asc,by simp,by simp⟩ ?_ ?_
 ·rintro pre x post s n he ⟨h1,h2,h3⟩ hn
  have hpl : pre.length + 1 ≤ h.tasks.length := by rw [he]; simp
  have hkeep : (wN h.tree f x.group = true → busy.contains x.id = false → x.id ∈ s) → Ok (n s) (fun r => r = (Yx h f busy,0)) := by
   intro hc
   refine hn _ ⟨h1,by simp; omega,fun y => ?_⟩
   rw [h3]
   constructor
   ·rintro (q | ⟨z,hz,q⟩)
    ·exact .inl q
    ·exact .inr ⟨z,by simp [hz],q⟩
   ·rintro (q | ⟨z,hz,e,q1,q2⟩)
    ·exact .inl q
    ·rcases List.mem_append.mp hz with hz | hz
     ·exact .inr ⟨z,hz,e,q1,q2⟩
     ·have : z = x := by simpa using hz
      subst this
      have := (h3 z.id).mp (hc q1 q2)
      rw [e] at this
      exact this
  unfold Vj Ln Nv
  rw [Qe w.tree (by omega),Option.bind_some]
  refine Ok.ite (fun c1 => ?_) fun c1 => by
   simp only [Bool.false_eq_true,if_false]
   exact hkeep fun e => by rw [c1] at e; simp at e
  rw [AfJ _ _ hb,Option.bind_some]
  refine Ok.ite (fun c2 => ?_) fun c2 => by
   simp only [Bool.false_eq_true,if_false]
   exact hkeep fun _ e => by rw [e] at c2; simp at c2
  rw [Mg (by simp only; omega),Option.bind_some]
  simp only
  refine Ok.ite (fun c3 => ?_) fun c3 => hkeep fun _ _ => by simpa using c3
  have hni : x.id ∉ s := by simpa using c3
  refine Ok.guard (by omega) (hn _ ⟨?_,by simp; omega,fun y => ?_⟩)
  ·rw [List.nodup_append]
   exact ⟨h1,by simp,fun a ha b hb' => by rw [List.mem_singleton.mp hb']; intro e; rw [e] at ha; exact hni ha⟩
  ·rw [List.mem_append,h3,List.mem_singleton]
   constructor
   ·rintro ((q | ⟨z,hz,q⟩) | rfl)
    ·exact .inl q
    ·exact .inr ⟨z,by simp [hz],q⟩
    ·exact .inr ⟨x,by simp,rfl,c1,by simpa using c2⟩
   ·rintro (q | ⟨z,hz,e,q1,q2⟩)
    ·exact .inl (.inl q)
    ·rcases List.mem_append.mp hz with hz | hz
     ·exact .inl (.inr ⟨z,hz,e,q1,q2⟩)
     ·have : z = x := by simpa using hz
      subst this
      exact .inr e.symm
 ·rintro s ⟨h1,h2,h3⟩
  have hsl := k.slen
  unfold Vt
  obtain ⟨M,m1,m2,m3⟩ := Sort_ok s (by omega)
  have hlen := m2.length_eq
  have hM : M = Uh h f busy := by
   refine asc_ext ?_ (Afm w f busy) fun x => ?_
   ·have hn : M.Nodup := m2.nodup_iff.mpr h1
    exact (List.Pairwise.and m3 hn).imp fun h => by omega
   ·rw [m2.mem_iff,h3]
    unfold Uh
    rw [List.mem_map]
    constructor
    ·rintro (q | ⟨z,hz,e,q1,q2⟩)
     ·obtain ⟨y,hy,e,_⟩ := wT_has (k.stp x q)
      refine ⟨y,List.mem_filter.mpr ⟨hy,?_⟩,e⟩
      rw [e]
      have : f.stopped.contains x = true := by simpa using q
      rw [this]
      rfl
     ·refine ⟨z,List.mem_filter.mpr ⟨hz,?_⟩,e⟩
      rw [q1,q2]
      simp
    ·rintro ⟨z,hz,e⟩
     obtain ⟨z1,z2⟩ := List.mem_filter.mp hz
     simp only [Bool.or_eq_true,Bool.and_eq_true,Bool.not_eq_true'] at z2
     rcases z2 with z2 | ⟨z2,z3⟩
     ·left
      rw [e] at z2
      simpa using z2
     ·exact .inr ⟨z,z1,e,z2,z3⟩
  rw [m1,Option.bind_some]
  subst hM
  refine Ok.guard hlen.symm ?_
  have hr : Du { h := h,f := { frosts := f.frosts,stopped := Uh h f busy } } = some (Yx h f busy,{ h := h,f := Yx h f busy }) := Yp w hs2
  simp only
  rw [hr,Option.bind_some]
  refine Ok.guard (by simp [Yx,Ii]) (Ok.guard rfl (Ok.ret rfl))
end
end Go.Dm
