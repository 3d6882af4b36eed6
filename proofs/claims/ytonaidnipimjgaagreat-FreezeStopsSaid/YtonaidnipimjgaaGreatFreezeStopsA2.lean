/- Texts of the proof of FreezeStops: the data machine, the models of the Go functions, their contracts. -/
import Derived.Test.YtonaidnipimjgaaGreatFreezeStopsA1
import Derived.KernelRfl
set_option linter.unusedVariables false
set_option linter.unusedSimpArgs false
/- Models of Go types and functions, printed by a program. -/
namespace Go.Dm
set_option linter.unusedVariables false
structure Al where
 group : Int
 want : Bool
 frozen : Bool
 changes : Int
 deriving Inhabited
def Bh (x : Al) : List PV := [vi x.group,vb x.want,vb x.frozen,vi x.changes]
abbrev Bi : Al := default
abbrev Du (L : List Al) : PV := Pn 4 Bh (default : Al) L
abbrev Am (L : List Al) : Body := rowOf 4 Bh (default : Al) L
abbrev Lu (L : List Al) : Nat → List PV := elems Bh (default : Al) L
def AdD (x y : Al) : Bool := ((x.group == y.group) && ((x.want == y.want) && ((x.frozen == y.frozen) && ((x.changes == y.changes) && true))))
structure Ac where
 frosts : List Al
 stopped : List Int
 deriving Inhabited
def Ai (x : Ac) : List PV := [Pn 4 Bh (default : Al) x.frosts,Pn 1 Bn 0 x.stopped]
structure freezer where
 h : Aa
 f : Ac
 deriving Inhabited
def Abw : Option Aa := (some ({ tree := ({ nodes := [({ id := 1,parent := 0,name := ByteArray.empty,control := 0,kind := 0,owner := 0 } : An),({ id := 2,parent := 1,name := (bs [97]),control := 0,kind := 0,owner := 0 } : An),({ id := 3,parent := 2,name := (bs [98]),control := 0,kind := 0,owner := 0 } : An)],next := 4 } : Af),tasks := [({ id := 1,process := 1,group := 3,user := 0 } : Au)],next := 2 } : Aa))
def Adp (k1 : Nat) (x1 : An) (s1 : List Al) (n1 : (List Al) → Option Ac) : Option Ac := (if s1.length + 1 ≤ 1073741824 then (n1 (s1 ++ [({ group := x1.id,want := false,frozen := false,changes := 0 } : Al)])) else none)
def AcM (s1 : List Al) : Option Ac := (some ({ frosts := s1,stopped := [] } : Ac))
def Xv (p0 : Aa) : Option Ac := (Option.bind (Lh p0) fun r1 => (if (!r1) then (some ({ frosts := [],stopped := [] } : Ac)) else (if p0.tree.nodes.length ≤ 9223372036854775807 then Bf Adp AcM p0.tree.nodes 0 [] else none)))
def AcE (p1 : Int) (k1 : Nat) (x1 : Al) (s1 : Unit) (n1 : Unit → Option Al) : Option Al := (if (x1.group == p1) then (some x1) else (n1 ()))
def AcA (p1 : Int) (s1 : Unit) : Option Al := (some ({ group := p1,want := false,frozen := false,changes := 0 } : Al))
def He (p0 : Ac) (p1 : Int) : Option Al := (if p0.frosts.length ≤ 9223372036854775807 then Bf (AcE p1) (AcA p1) p0.frosts 0 () else none)
def Us (p1 : Ac) (k1 : Nat) (x1 : Int) (s1 : Unit) (n1 : Unit → Option Bool) : Option Bool := (Option.bind (He p1 x1) fun r13 => (if r13.want then (some true) else (n1 ())))
def AaX (s1 : Unit) : Option Bool := (some false)
def Jp (p0 : Af) (p1 : Ac) (p2 : Int) : Option Bool := (Option.bind (Li p0 p2) fun r1 => (if r1.length ≤ 9223372036854775807 then Bf (Us p1) AaX r1 0 () else none))
def Ps (y1 : Bool) : Option Bool := (some y1)
def Hc (p0 : Aa) (p1 : Ac) (p2 : Int) : Option Bool := (Option.bind (Qs p0 p2) fun r1 => (if r1.2 then (Option.bind (Jp p0.tree p1 r1.1.group) fun r3 => (Ps r3)) else (Ps false)))
def Gm (p0 : Ac) (p1 : Int) : Option Bool := (Option.bind (Ds p0.stopped p1) fun r1 => (some r1))
def On (n1 : Unit → Option Bool) (y3 : Bool) : Option Bool := (if y3 then (some false) else (n1 ()))
def Xd (p1 : Ac) (r3 : List Int) (k1 : Nat) (x1 : Au) (s1 : Unit) (n1 : Unit → Option Bool) : Option Bool := (Option.bind (Ds r3 x1.group) fun r17 => (if r17 then (Option.bind (Gm p1 x1.id) fun r19 => ((On n1) (!r19))) else ((On n1) false)))
def AbT (s1 : Unit) : Option Bool := (some true)
def Mm (p0 : Aa) (p1 : Ac) (p2 : Int) : Option Bool := (Option.bind (Jp p0.tree p1 p2) fun r1 => (if (!r1) then (some false) else (Option.bind (Na p0.tree p2) fun r3 => (if p0.tasks.length ≤ 9223372036854775807 then Bf (Xd p1 r3) AbT p0.tasks 0 () else none))))
def Jz (n1 : Unit → Option Bool) (y10 : Bool) : Option Bool := (if y10 then (some false) else (n1 ()))
def Ve (p0 : Aa) (k1 : Nat) (x1 : Al) (s1 : Unit) (n1 : Unit → Option Bool) : Option Bool := (if k1 < p0.tree.nodes.length then (if (x1.group != (p0.tree.nodes.getD k1 (default : An)).id) then ((Jz n1) true) else (if (decide (x1.changes < 0)) then ((Jz n1) true) else ((Jz n1) (decide (x1.changes > 1099511627776))))) else none)
def Hw (n10 : Unit → Option Bool) (y13 : Bool) : Option Bool := (if y13 then (some false) else (n10 ()))
def Th (p0 : Aa) (p1 : Ac) (k10 : Nat) (x10 : Int) (s10 : Unit) (n10 : Unit → Option Bool) : Option Bool := (if (decide (((k10 : Nat) : Int) > 0)) then (if 0 ≤ (w64 (((k10 : Nat) : Int) - 1)) ∧ (w64 (((k10 : Nat) : Int) - 1)) < ((p1.stopped.length : Nat) : Int) then (if (decide (x10 ≤ (p1.stopped.getD (Int.toNat (w64 (((k10 : Nat) : Int) - 1))) 0))) then ((Hw n10) true) else (Option.bind (Hc p0 p1 x10) fun r145 => ((Hw n10) (!r145)))) else none) else (Option.bind (Hc p0 p1 x10) fun r146 => ((Hw n10) (!r146))))
def Uf (p0 : Aa) (p1 : Ac) (k13 : Nat) (x13 : Al) (s13 : Unit) (n13 : Unit → Option Bool) : Option Bool := (Option.bind (Mm p0 p1 x13.group) fun r157 => (if (x13.frozen != r157) then (some false) else (n13 ())))
def Aaa (s13 : Unit) : Option Bool := (some true)
def Uj (p0 : Aa) (p1 : Ac) (s10 : Unit) : Option Bool := (if p1.frosts.length ≤ 9223372036854775807 then Bf (Uf p0 p1) Aaa p1.frosts 0 () else none)
def Vd (p0 : Aa) (p1 : Ac) (s1 : Unit) : Option Bool := (if p1.stopped.length ≤ 9223372036854775807 then Bf (Th p0 p1) (Uj p0 p1) p1.stopped 0 () else none)
def Mv (p0 : Aa) (p1 : Ac) (y1 : Bool) : Option Bool := (if y1 then (some false) else (if p1.frosts.length ≤ 9223372036854775807 then Bf (Ve p0) (Vd p0 p1) p1.frosts 0 () else none))
def Mw (p0 : Aa) (p1 : Ac) : Option Bool := (Option.bind (Lh p0) fun r1 => (if (!r1) then ((Mv p0 p1) true) else ((Mv p0 p1) (((p1.frosts.length : Nat) : Int) != ((p0.tree.nodes.length : Nat) : Int)))))
def Yw (p0 : Al) (p1 : Int) : Option Bool := (some (p0.group == p1))
def Jf (p1c0 : Int) (k1 : Nat) (x1 : Al) (s1 : Unit) (n1 : Unit → Option Int) : Option Int := (Option.bind (Yw x1 p1c0) fun r10 => (if r10 then (some ((k1 : Nat) : Int)) else (n1 ())))
def Jg (s1 : Unit) : Option Int := (some (-1))
def Gl (p0 : List Al) (p1c0 : Int) : Option Int := (if p0.length ≤ 9223372036854775807 then Bf (Jf p1c0) Jg p0 0 () else none)
def Gf (p0 : List Al) : Option (List Al) := (if 0 + p0.length ≤ 1073741824 then (some p0) else none)
def Nt (p0 : List Al) : Option (List Al) := (some [])
def Hi (p0 : List Int) : Option (List Int) := (if 0 + p0.length ≤ 1073741824 then (some p0) else none)
def Ph (p0 : List Int) : Option (List Int) := (some [])
def Pa (p0 : Aa) (p1 : Ac) : Option freezer := (Option.bind (Gf p1.frosts) fun r1 => (Option.bind (Hi p1.stopped) fun r2 => (some ({ h := p0,f := ({ frosts := r1,stopped := r2 } : Ac) } : freezer))))
def Fs (p0 : Int) (p1 : freezer) : Option Bool := (Option.bind (Hc p1.h p1.f p0) fun r1 => (some (!r1)))
def Ei (p0 : List Int) (p1c0 : freezer) (k1 : Nat) (x1 : Int) (s1 : Unit) (n1 : Unit → Option Int) : Option Int := (Option.bind (Fs x1 ({ h := p1c0.h,f := ({ frosts := p1c0.f.frosts,stopped := p0 } : Ac) } : freezer)) fun r12 => (if r12 then (some ((k1 : Nat) : Int)) else (n1 ())))
def Gs (s1 : Unit) : Option Int := (some (-1))
def Da (p0 : List Int) (p1c0 : freezer) : Option Int := (if p0.length ≤ 9223372036854775807 then Bf (Ei p0 p1c0) Gs p0 0 () else none)
def Cd (s1 : (List Int) × Int × Int) (n1 : ((List Int) × Int × Int) → Option (Nat × (List Int) × freezer)) (y2 : (List Int) × Int) : Option (Nat × (List Int) × freezer) := (n1 (y2.1,y2.2,(w64 (s1.2.2 + 1))))
def Cr (p1c0 : freezer) (s1 : (List Int) × Int × Int) (n1 : ((List Int) × Int × Int) → Option (Nat × (List Int) × freezer)) : Option (Nat × (List Int) × freezer) := (if (decide (s1.2.2 < ((s1.1.length : Nat) : Int))) then (if 0 ≤ s1.2.2 ∧ s1.2.2 < ((s1.1.length : Nat) : Int) then (if (Int.toNat s1.2.2) < s1.1.length then (Option.bind (Fs (s1.1.getD (Int.toNat s1.2.2) 0) ({ h := p1c0.h,f := ({ frosts := p1c0.f.frosts,stopped := s1.1 } : Ac) } : freezer)) fun r16 => (if (!r16) then (if 0 ≤ s1.2.1 ∧ s1.2.1 < ((s1.1.length : Nat) : Int) then (if (Int.toNat s1.2.1) < s1.1.length then ((Cd s1 n1) ((s1.1.set (Int.toNat s1.2.1) (s1.1.getD (Int.toNat s1.2.2) 0)),(w64 (s1.2.1 + 1)))) else none) else none) else ((Cd s1 n1) (s1.1,s1.2.1)))) else none) else none) else (if 0 ≤ s1.2.1 ∧ s1.2.1 ≤ ((s1.1.length : Nat) : Int) then (if (Int.toNat s1.2.1) + (Of s1.1.length (Int.toNat s1.2.1)) ≤ s1.1.length then (if 0 ≤ s1.2.1 ∧ s1.2.1 ≤ (((Rb s1.1 (Int.toNat s1.2.1) (Of s1.1.length (Int.toNat s1.2.1)) 0).length : Nat) : Int) then (some ((Int.toNat s1.2.1),(Rb s1.1 (Int.toNat s1.2.1) (Of s1.1.length (Int.toNat s1.2.1)) 0),({ h := p1c0.h,f := ({ frosts := p1c0.f.frosts,stopped := (Rb s1.1 (Int.toNat s1.2.1) (Of s1.1.length (Int.toNat s1.2.1)) 0) } : Ac) } : freezer))) else none) else none) else none))
def Cg (p0 : List Int) (p1c0 : freezer) : Option (Nat × (List Int) × freezer) := (Option.bind (Da p0 ({ h := p1c0.h,f := ({ frosts := p1c0.f.frosts,stopped := p0 } : Ac) } : freezer)) fun r1 => (if (r1 == (-1)) then (some (p0.length,p0,({ h := p1c0.h,f := ({ frosts := p1c0.f.frosts,stopped := p0 } : Ac) } : freezer))) else (whileO (Cr p1c0) Dz (p0,r1,(w64 (r1 + 1))))))
def Ia (p0 : freezer) : Option (freezer × Nat) := (Option.bind (Cg p0.f.stopped p0) fun r1 => (if p0.f.stopped.length = r1.2.1.length then (if p0.f.frosts.length = r1.2.2.f.frosts.length then (if r1.1 ≤ r1.2.1.length then (some (({ h := r1.2.2.h,f := ({ frosts := r1.2.2.f.frosts,stopped := r1.2.1 } : Ac) } : freezer),r1.1)) else none) else none) else none))
def Gn (n1 : (List Al) → Option (Ac × freezer)) (y3 : List Al) : Option (Ac × freezer) := (n1 y3)
def Lr (p0 : freezer) (k1 : Int) (s1 : List Al) (n1 : (List Al) → Option (Ac × freezer)) : Option (Ac × freezer) := (if 0 ≤ k1 ∧ k1 < ((s1.length : Nat) : Int) then (if (Int.toNat k1) < s1.length then (Option.bind (Mm p0.h ({ frosts := s1,stopped := p0.f.stopped } : Ac) (s1.getD (Int.toNat k1) (default : Al)).group) fun r22 => (if (Int.toNat k1) < s1.length then (if (r22 != (s1.getD (Int.toNat k1) (default : Al)).frozen) then (if (Int.toNat k1) < s1.length then (if (Int.toNat k1) < s1.length then (if (Int.toNat k1) < s1.length then ((Gn n1) ((s1.set (Int.toNat k1) ({ group := (s1.getD (Int.toNat k1) (default : Al)).group,want := (s1.getD (Int.toNat k1) (default : Al)).want,frozen := r22,changes := (s1.getD (Int.toNat k1) (default : Al)).changes } : Al)).set (Int.toNat k1) ({ group := ((s1.set (Int.toNat k1) ({ group := (s1.getD (Int.toNat k1) (default : Al)).group,want := (s1.getD (Int.toNat k1) (default : Al)).want,frozen := r22,changes := (s1.getD (Int.toNat k1) (default : Al)).changes } : Al)).getD (Int.toNat k1) (default : Al)).group,want := ((s1.set (Int.toNat k1) ({ group := (s1.getD (Int.toNat k1) (default : Al)).group,want := (s1.getD (Int.toNat k1) (default : Al)).want,frozen := r22,changes := (s1.getD (Int.toNat k1) (default : Al)).changes } : Al)).getD (Int.toNat k1) (default : Al)).want,frozen := ((s1.set (Int.toNat k1) ({ group := (s1.getD (Int.toNat k1) (default : Al)).group,want := (s1.getD (Int.toNat k1) (default : Al)).want,frozen := r22,changes := (s1.getD (Int.toNat k1) (default : Al)).changes } : Al)).getD (Int.toNat k1) (default : Al)).frozen,changes := (Rk (w64 ((s1.getD (Int.toNat k1) (default : Al)).changes + 1)) 1099511627776) } : Al))) else none) else none) else none) else ((Gn n1) s1)) else none)) else none) else none)
def Ri (p0 : freezer) (s1 : List Al) : Option (Ac × freezer) := (some (({ frosts := s1,stopped := p0.f.stopped } : Ac),({ h := p0.h,f := ({ frosts := s1,stopped := p0.f.stopped } : Ac) } : freezer)))
def Fa (p0 : freezer) : Option (Ac × freezer) := (if p0.f.frosts.length ≤ 9223372036854775807 then (forO (Lr p0) (Ri p0) (Int.toNat (((p0.f.frosts.length : Nat) : Int) - 0)) 0 p0.f.frosts) else none)
def Xm (p0 : Aa) (p1 : Ac) (p2 : Int) (p3 : Bool) : Option (Ac × Int) := (Option.bind (Mw p0 p1) fun r1 => (if (!r1) then (some (({ frosts := [],stopped := [] } : Ac),1)) else (Option.bind (Gl p1.frosts p2) fun r3 => (if (decide (r3 < 0)) then (some (({ frosts := [],stopped := [] } : Ac),4)) else (if (p2 == 1) then (some (({ frosts := [],stopped := [] } : Ac),9)) else (Option.bind (Pa p0 p1) fun r6 => (if 0 ≤ r3 ∧ r3 < ((r6.f.frosts.length : Nat) : Int) then (if (Int.toNat r3) < r6.f.frosts.length then (Option.bind (Ia ({ h := r6.h,f := ({ frosts := (r6.f.frosts.set (Int.toNat r3) ({ group := (r6.f.frosts.getD (Int.toNat r3) (default : Al)).group,want := p3,frozen := (r6.f.frosts.getD (Int.toNat r3) (default : Al)).frozen,changes := (r6.f.frosts.getD (Int.toNat r3) (default : Al)).changes } : Al)),stopped := r6.f.stopped } : Ac) } : freezer)) fun r9 => (if (r6.f.frosts.set (Int.toNat r3) ({ group := (r6.f.frosts.getD (Int.toNat r3) (default : Al)).group,want := p3,frozen := (r6.f.frosts.getD (Int.toNat r3) (default : Al)).frozen,changes := (r6.f.frosts.getD (Int.toNat r3) (default : Al)).changes } : Al)).length = r9.1.f.frosts.length then (if r6.f.stopped.length = r9.1.f.stopped.length then (if r9.2 ≤ r9.1.f.stopped.length then (Option.bind (Fa ({ h := r9.1.h,f := ({ frosts := r9.1.f.frosts,stopped := (r9.1.f.stopped.take r9.2) } : Ac) } : freezer)) fun r13 => (if r9.1.f.frosts.length = r13.2.f.frosts.length then (if (r9.1.f.stopped.take r9.2).length = r13.2.f.stopped.length then (some (r13.2.f,0)) else none) else none)) else none) else none) else none)) else none) else none)))))))
def Ol (n1 : (List Int) → Option (Ac × Int)) (y5 : List Int) : Option (Ac × Int) := (n1 y5)
def Lx (x1 : Au) (s1 : List Int) (n1 : (List Int) → Option (Ac × Int)) (y6 : Bool) : Option (Ac × Int) := (if y6 then (if s1.length + 1 ≤ 1073741824 then ((Ol n1) (s1 ++ [x1.id])) else none) else ((Ol n1) s1))
def Wv (p0 : Aa) (p1 : Ac) (p2 : List Int) (r3 : freezer) (k1 : Nat) (x1 : Au) (s1 : List Int) (n1 : (List Int) → Option (Ac × Int)) : Option (Ac × Int) := (Option.bind (Jp p0.tree p1 x1.group) fun r33 => (if r33 then (Option.bind (Ds p2 x1.id) fun r35 => (if (!r35) then (Option.bind (Gm ({ frosts := r3.f.frosts,stopped := s1 } : Ac) x1.id) fun r37 => ((Lx x1 s1 n1) (!r37))) else ((Lx x1 s1 n1) false))) else ((Lx x1 s1 n1) false)))
def Ws (r3 : freezer) (s1 : List Int) : Option (Ac × Int) := (Option.bind (Mh s1) fun r40 => (if s1.length = r40.length then (Option.bind (Fa ({ h := r3.h,f := ({ frosts := r3.f.frosts,stopped := r40 } : Ac) } : freezer)) fun r42 => (if r3.f.frosts.length = r42.2.f.frosts.length then (if r40.length = r42.2.f.stopped.length then (some (r42.2.f,0)) else none) else none)) else none))
def Jl (p0 : Aa) (p1 : Ac) (p2 : List Int) : Option (Ac × Int) := (Option.bind (Mw p0 p1) fun r1 => (if (!r1) then (some (({ frosts := [],stopped := [] } : Ac),1)) else (Option.bind (Pa p0 p1) fun r3 => (if p0.tasks.length ≤ 9223372036854775807 then Bf (Wv p0 p1 p2 r3) (Ws r3) p0.tasks 0 r3.f.stopped else none))))
def Aaz (p1 : List Al) (k1 : Nat) (x1 : Al) (s1 : Unit) (n1 : Unit → Option Bool) : Option Bool := (if k1 < p1.length then (if (!(AdD x1 (p1.getD k1 (default : Al)))) then (some false) else (n1 ())) else none)
def Aed (s1 : Unit) : Option Bool := (some true)
def Wj (p0 : List Al) (p1 : List Al) : Option Bool := (if (((p0.length : Nat) : Int) != ((p1.length : Nat) : Int)) then (some false) else (if p0.length ≤ 9223372036854775807 then Bf (Aaz p1) Aed p0 0 () else none))
def Uv (p1 : List Int) (k1 : Nat) (x1 : Int) (s1 : Unit) (n1 : Unit → Option Bool) : Option Bool := (if k1 < p1.length then (if (x1 != (p1.getD k1 0)) then (some false) else (n1 ())) else none)
def Abe (s1 : Unit) : Option Bool := (some true)
def Qe (p0 : List Int) (p1 : List Int) : Option Bool := (if (((p0.length : Nat) : Int) != ((p1.length : Nat) : Int)) then (some false) else (if p0.length ≤ 9223372036854775807 then Bf (Uv p1) Abe p0 0 () else none))
def Ma (y1 : Bool) : Option Bool := (some y1)
def Jc (p0 : Ac) (p1 : Ac) : Option Bool := (Option.bind (Wj p0.frosts p1.frosts) fun r1 => (if r1 then (Option.bind (Qe p0.stopped p1.stopped) fun r3 => (Ma r3)) else (Ma false)))
def Ee (y1 : Bool) : Option Bool := (some y1)
def Ra : Option Bool := (Option.bind Abw fun r1 => (Option.bind (Xv r1) fun r4 => (Option.bind (Xm r1 r4 2 true) fun r5 => (Option.bind (Jl r1 r5.1 [1]) fun r8 => (Option.bind (Jl r1 r8.1 []) fun r11 => (Option.bind (Xv ({ tree := r1.tree,tasks := [],next := r1.next } : Aa)) fun r12 => (Option.bind (Xm ({ tree := r1.tree,tasks := [],next := r1.next } : Aa) r12 3 true) fun r13 => (if (r5.2 == 0) then (Option.bind (He r5.1 2) fun r15 => (if (!r15.frozen) then (if (r8.2 == 0) then (Option.bind (Jc r5.1 r8.1) fun r18 => (if r18 then (if (r11.2 == 0) then (Option.bind (He r11.1 2) fun r21 => (if r21.frozen then (Option.bind (He r11.1 3) fun r23 => (if r23.frozen then (Option.bind (He r11.1 3) fun r25 => (if (r25.changes == 1) then (Option.bind (He r11.1 1) fun r27 => (if (!r27.frozen) then (Option.bind (Gm r11.1 1) fun r29 => (if r29 then (if (r13.2 == 0) then (Option.bind (He r13.1 3) fun r32 => (Ee r32.frozen)) else (Ee false)) else (Ee false))) else (Ee false))) else (Ee false))) else (Ee false))) else (Ee false))) else (Ee false)) else (Ee false))) else (Ee false)) else (Ee false))) else (Ee false)))))))))
def Ki (n1 : (Aq × (List Int)) → Option ((List Int) × Aq)) (y5 : Aq × (List Int)) : Option ((List Int) × Aq) := (n1 (y5.1,y5.2))
def Ih (x1 : Au) (s1 : Aq × (List Int)) (n1 : (Aq × (List Int)) → Option ((List Int) × Aq)) (y6 : Aq × Bool) : Option ((List Int) × Aq) := (if y6.2 then (if s1.2.length + 1 ≤ 1073741824 then ((Ki n1) (y6.1,(s1.2 ++ [x1.id]))) else none) else ((Ki n1) (y6.1,s1.2)))
def Rp (p2 : Bool) (k1 : Nat) (x1 : Au) (s1 : Aq × (List Int)) (n1 : (Aq × (List Int)) → Option ((List Int) × Aq)) : Option ((List Int) × Aq) := (if p2 then ((Ih x1 s1 n1) (s1.1,true)) else (Option.bind (Bu s1.1 4) fun r14 => ((Ih x1 s1 n1) (r14.2,(decide (r14.1 > 0))))))
def Xh (s1 : Aq × (List Int)) : Option ((List Int) × Aq) := (some (s1.2,s1.1))
def Jx (p0 : Aq) (p1 : Aa) (p2 : Bool) : Option ((List Int) × Aq) := (if p1.tasks.length ≤ 9223372036854775807 then Bf (Rp p2) Xh p1.tasks 0 (p0,[]) else none)
def Pt (y1 : Bool) : Option Bool := (some y1)
def Ls (p0 : Af) (p1 : Ac) (p2 : Int) : Option Bool := (Option.bind (Oc p0) fun r1 => (if r1 then (Option.bind (Jp p0 p1 p2) fun r3 => (Pt r3)) else (Pt false)))
def Aef (p1 : Int) (k1 : Nat) (x1 : Al) (s1 : Unit) (n1 : Unit → Option Al) : Option Al := (if (x1.group == p1) then (some x1) else (n1 ()))
def Ael (p1 : Int) (s1 : Unit) : Option Al := (some ({ group := p1,want := false,frozen := false,changes := 0 } : Al))
def Tb (p0 : Ac) (p1 : Int) : Option Al := (if p0.frosts.length ≤ 9223372036854775807 then Bf (Aef p1) (Ael p1) p0.frosts 0 () else none)
def Kc (p0 : Ac) (p1 : Int) : Option Bool := (Option.bind (Mk p0.stopped p1) fun r1 => (some r1))
def Vk (p1 : Ac) (k1 : Nat) (x1 : Int) (s1 : Unit) (n1 : Unit → Option Bool) : Option Bool := (Option.bind (Tb p1 x1) fun r13 => (if r13.want then (some true) else (n1 ())))
def Abm (s1 : Unit) : Option Bool := (some false)
def Gx (p0 : Af) (p1 : Ac) (p2 : Int) : Option Bool := (Option.bind (Fv p0 p2) fun r1 => (if r1.length ≤ 9223372036854775807 then Bf (Vk p1) Abm r1 0 () else none))
def Qi (n1 : (List Int) → Option (List Int)) (y5 : List Int) : Option (List Int) := (n1 y5)
def Pz (x1 : Au) (s1 : List Int) (n1 : (List Int) → Option (List Int)) (y6 : Bool) : Option (List Int) := (if y6 then (if s1.length + 1 ≤ 1073741824 then ((Qi n1) (s1 ++ [x1.id])) else none) else ((Qi n1) s1))
def Yp (p0 : Aa) (p1 : Ac) (k1 : Nat) (x1 : Au) (s1 : List Int) (n1 : (List Int) → Option (List Int)) : Option (List Int) := (Option.bind (Kc p1 x1.id) fun r19 => (if r19 then (Option.bind (Gx p0.tree p1 x1.group) fun r21 => ((Pz x1 s1 n1) r21)) else ((Pz x1 s1 n1) false)))
def Yx (s1 : List Int) : Option (List Int) := (some s1)
def Ic (p0 : Aa) (p1 : Ac) : Option (List Int) := (if p0.tasks.length ≤ 9223372036854775807 then Bf (Yp p0 p1) Yx p0.tasks 0 [] else none)
def Oi (n1 : Unit → Option Bool) (y3 : Bool) : Option Bool := (if y3 then (some false) else (n1 ()))
def Wo (p0 : Aa) (p1 : Ac) (p2 : Int) (k1 : Nat) (x1 : Au) (s1 : Unit) (n1 : Unit → Option Bool) : Option Bool := (Option.bind (Fv p0.tree x1.group) fun r20 => (Option.bind (Mk r20 p2) fun r21 => (if r21 then (Option.bind (Kc p1 x1.id) fun r23 => ((Oi n1) (!r23))) else ((Oi n1) false))))
def AbW (s1 : Unit) : Option Bool := (some true)
def Oz (p0 : Aa) (p1 : Ac) (p2 : Int) : Option Bool := (Option.bind (Gx p0.tree p1 p2) fun r1 => (if (!r1) then (some false) else (if p0.tasks.length ≤ 9223372036854775807 then Bf (Wo p0 p1 p2) AbW p0.tasks 0 () else none)))
def Lt (s1 : List Al) (n1 : (List Al) → Option Ac) (y3 : Al) : Option Ac := (if s1.length + 1 ≤ 1073741824 then (n1 (s1 ++ [y3])) else none)
def Wp (p0 : Aa) (p1 : Ac) (k1 : Nat) (x1 : Al) (s1 : List Al) (n1 : (List Al) → Option Ac) : Option Ac := (Option.bind (Oz p0 p1 x1.group) fun r12 => (if (r12 != x1.frozen) then ((Lt s1 n1) ({ group := x1.group,want := x1.want,frozen := r12,changes := (Rk (w64 (x1.changes + 1)) 1099511627776) } : Al)) else ((Lt s1 n1) x1)))
def Acl (p1 : Ac) (s1 : List Al) : Option Ac := (some ({ frosts := s1,stopped := p1.stopped } : Ac))
def Gk (p0 : Aa) (p1 : Ac) : Option Ac := (if p1.stopped.length ≤ 1073741824 then (if p1.frosts.length ≤ 9223372036854775807 then Bf (Wp p0 p1) (Acl p1) p1.frosts 0 [] else none) else none)
def Nr (s1 : List Al) (n1 : (List Al) → Option (Ac × Int)) (y3 : Al) : Option (Ac × Int) := (if s1.length + 1 ≤ 1073741824 then (n1 (s1 ++ [y3])) else none)
def Vb (p1 : Ac) (k1 : Nat) (x1 : An) (s1 : List Al) (n1 : (List Al) → Option (Ac × Int)) : Option (Ac × Int) := (Option.bind (Tb p1 x1.id) fun r20 => (if r20.want then ((Nr s1 n1) ({ group := r20.group,want := (r20.group != 1),frozen := r20.frozen,changes := (maxI 0 (Rk r20.changes 1099511627776)) } : Al)) else ((Nr s1 n1) ({ group := r20.group,want := false,frozen := r20.frozen,changes := (maxI 0 (Rk r20.changes 1099511627776)) } : Al))))
def Rd (p0 : Aa) (p1 : Ac) (s1 : List Al) : Option (Ac × Int) := (Option.bind (Ic p0 ({ frosts := s1,stopped := p1.stopped } : Ac)) fun r24 => (Option.bind (Gk p0 ({ frosts := s1,stopped := r24 } : Ac)) fun r26 => (some (r26,0))))
def Nh (p0 : Aa) (p1 : Ac) : Option (Ac × Int) := (Option.bind (Fn p0) fun r1 => (if (!r1) then (some (({ frosts := [],stopped := [] } : Ac),1)) else (if p0.tree.nodes.length ≤ 9223372036854775807 then Bf (Vb p1) (Rd p0 p1) p0.tree.nodes 0 [] else none)))
def Wi (p0 : Aa) : Option Ac := (Option.bind (Nh p0 ({ frosts := [],stopped := [] } : Ac)) fun r1 => (some r1.1))
def Kz (n1 : Unit → Option Bool) (y10 : Bool) : Option Bool := (if y10 then (some false) else (n1 ()))
def Xe (p0 : Aa) (k1 : Nat) (x1 : Al) (s1 : Unit) (n1 : Unit → Option Bool) : Option Bool := (if k1 < p0.tree.nodes.length then (if (x1.group != (p0.tree.nodes.getD k1 (default : An)).id) then ((Kz n1) true) else (if (decide (x1.changes < 0)) then ((Kz n1) true) else ((Kz n1) (decide (x1.changes > 1099511627776))))) else none)
def Ho (n10 : Unit → Option Bool) (y13 : Bool) : Option Bool := (if y13 then (some false) else (n10 ()))
def Vj (p0 : Aa) (p1 : Ac) (k10 : Nat) (x10 : Int) (s10 : Unit) (n10 : Unit → Option Bool) : Option Bool := (Option.bind (Gu p0 x10) fun r174 => (if (!r174.2) then ((Ho n10) true) else (if (decide (((k10 : Nat) : Int) > 0)) then (if 0 ≤ (w64 (((k10 : Nat) : Int) - 1)) ∧ (w64 (((k10 : Nat) : Int) - 1)) < ((p1.stopped.length : Nat) : Int) then (if (decide (x10 ≤ (p1.stopped.getD (Int.toNat (w64 (((k10 : Nat) : Int) - 1))) 0))) then ((Ho n10) true) else (Option.bind (Gx p0.tree p1 r174.1.group) fun r179 => ((Ho n10) (!r179)))) else none) else (Option.bind (Gx p0.tree p1 r174.1.group) fun r180 => ((Ho n10) (!r180))))))
def Uu (p0 : Aa) (p1 : Ac) (k13 : Nat) (x13 : Al) (s13 : Unit) (n13 : Unit → Option Bool) : Option Bool := (Option.bind (Oz p0 p1 x13.group) fun r193 => (if (x13.frozen != r193) then (some false) else (n13 ())))
def Abp (s13 : Unit) : Option Bool := (some true)
def Uw (p0 : Aa) (p1 : Ac) (s10 : Unit) : Option Bool := (if p1.frosts.length ≤ 9223372036854775807 then Bf (Uu p0 p1) Abp p1.frosts 0 () else none)
def Wr (p0 : Aa) (p1 : Ac) (s1 : Unit) : Option Bool := (if p1.stopped.length ≤ 9223372036854775807 then Bf (Vj p0 p1) (Uw p0 p1) p1.stopped 0 () else none)
def Oo (p0 : Aa) (p1 : Ac) (y1 : Bool) : Option Bool := (if y1 then (some false) else (if p1.frosts.length ≤ 9223372036854775807 then Bf (Xe p0) (Wr p0 p1) p1.frosts 0 () else none))
def Ox (p0 : Aa) (p1 : Ac) : Option Bool := (Option.bind (Fn p0) fun r1 => (if (!r1) then ((Oo p0 p1) true) else ((Oo p0 p1) (((p1.frosts.length : Nat) : Int) != ((p0.tree.nodes.length : Nat) : Int)))))
def Qa (n1 : (List Int) → Option (Ac × Int)) (y5 : List Int) : Option (Ac × Int) := (n1 y5)
def Nj (x1 : Au) (s1 : List Int) (n1 : (List Int) → Option (Ac × Int)) (y6 : Bool) : Option (Ac × Int) := (if y6 then (if s1.length + 1 ≤ 1073741824 then ((Qa n1) (s1 ++ [x1.id])) else none) else ((Qa n1) s1))
def Za (p0 : Aa) (p1 : Ac) (p2 : List Int) (k1 : Nat) (x1 : Au) (s1 : List Int) (n1 : (List Int) → Option (Ac × Int)) : Option (Ac × Int) := (Option.bind (Kc p1 x1.id) fun r24 => (if r24 then ((Nj x1 s1 n1) true) else (Option.bind (Gx p0.tree p1 x1.group) fun r26 => (if r26 then (Option.bind (Mk p2 x1.id) fun r28 => ((Nj x1 s1 n1) (!r28))) else ((Nj x1 s1 n1) false)))))
def Ub (p0 : Aa) (p1 : Ac) (s1 : List Int) : Option (Ac × Int) := (Option.bind (Gk p0 ({ frosts := p1.frosts,stopped := s1 } : Ac)) fun r32 => (some (r32,0)))
def Tl (p0 : Aa) (p1 : Ac) (p2 : List Int) : Option (Ac × Int) := (Option.bind (Ox p0 p1) fun r1 => (if (!r1) then (some (({ frosts := [],stopped := [] } : Ac),1)) else (if p0.tasks.length ≤ 9223372036854775807 then Bf (Za p0 p1 p2) (Ub p0 p1) p0.tasks 0 [] else none)))
def Sf (s1 : (List Al) × Int) (n1 : ((List Al) × Int) → Option (Ac × Int)) (y2 : List Al) : Option (Ac × Int) := (n1 (y2,(w64 (s1.2 + 1))))
def Vt (p0 : Aa) (p1 : Ac) (p2 : Int) (p3 : Bool) (s1 : (List Al) × Int) (n1 : ((List Al) × Int) → Option (Ac × Int)) : Option (Ac × Int) := (if (decide (s1.2 < ((s1.1.length : Nat) : Int))) then (if 0 ≤ s1.2 ∧ s1.2 < ((s1.1.length : Nat) : Int) then (if (Int.toNat s1.2) < s1.1.length then (if ((s1.1.getD (Int.toNat s1.2) (default : Al)).group == p2) then (if 0 ≤ s1.2 ∧ s1.2 < ((s1.1.length : Nat) : Int) then (if (Int.toNat s1.2) < s1.1.length then ((Sf s1 n1) (s1.1.set (Int.toNat s1.2) ({ group := (s1.1.getD (Int.toNat s1.2) (default : Al)).group,want := p3,frozen := (s1.1.getD (Int.toNat s1.2) (default : Al)).frozen,changes := (s1.1.getD (Int.toNat s1.2) (default : Al)).changes } : Al))) else none) else none) else ((Sf s1 n1) s1.1)) else none) else none) else (Option.bind (Ic p0 ({ frosts := s1.1,stopped := p1.stopped } : Ac)) fun r24 => (Option.bind (Gk p0 ({ frosts := s1.1,stopped := r24 } : Ac)) fun r26 => (some (r26,0)))))
def Vv (p0 : Aa) (p1 : Ac) (p2 : Int) (p3 : Bool) : Option (Ac × Int) := (Option.bind (Ox p0 p1) fun r1 => (if (!r1) then (some (({ frosts := [],stopped := [] } : Ac),1)) else (Option.bind (Fo p0.tree p2) fun r3 => (if (!r3) then (some (({ frosts := [],stopped := [] } : Ac),4)) else (if (p2 == 1) then (some (({ frosts := [],stopped := [] } : Ac),9)) else (if p1.frosts.length ≤ 1073741824 then (whileO (Vt p0 p1 p2 p3) Dz (p1.frosts,0)) else none))))))
def Ip (s1 : Aq × Ac × Int) (n1 : (Aq × Ac × Int) → Option (Ac × Aq)) (y3 : Aq × Ac) : Option (Ac × Aq) := (n1 (y3.1,y3.2,(w64 (s1.2.2 - 1))))
def Fy (s1 : Aq × Ac × Int) (n1 : (Aq × Ac × Int) → Option (Ac × Aq)) (y4 : Aq × Ac × Int) : Option (Ac × Aq) := (if (y4.2.2 == 0) then ((Ip s1 n1) (y4.1,y4.2.1)) else ((Ip s1 n1) (y4.1,s1.2.1)))
def Pj (p1 : Aa) (s1 : Aq × Ac × Int) (n1 : (Aq × Ac × Int) → Option (Ac × Aq)) : Option (Ac × Aq) := (if (decide (s1.2.2 > 0)) then (Option.bind (Jx s1.1 p1 false) fun r17 => (Option.bind (Tl p1 s1.2.1 r17.1) fun r18 => (Option.bind (Ez r17.2 2) fun r19 => (if r19.1 then (Option.bind (Gv r19.2 p1.tree) fun r21 => (Option.bind (Bu r21.2 3) fun r22 => (Option.bind (Vv p1 s1.2.1 r21.1 (decide (r22.1 > 0))) fun r23 => ((Fy s1 n1) (r22.2,r23.1,r23.2))))) else ((Fy s1 n1) (r19.2,r18.1,r18.2)))))) else (some (s1.2.1,s1.1)))
def Ke (p0 : Aq) (p1 : Aa) (p2 : Int) : Option (Ac × Aq) := (Option.bind (Wi p1) fun r1 => (Option.bind (Bu p0 (w64 (p2 + 1))) fun r2 => (whileO (Pj p1) Dz (r2.2,r1,r2.1))))
def Pi (r5 : Aa × Aq) (r6 : Ac × Aq) (r8 : Ac × Int) (k1 : Nat) (x1 : An) (s1 : Unit) (n1 : Unit → Option Bool) : Option Bool := (Option.bind (He r8.1 x1.id) fun r118 => (Option.bind (Ls r5.1.tree r6.1 x1.id) fun r119 => (if (r118.frozen != r119) then (some false) else (n1 ()))))
def Fm (r10 : Ac × Int) (x4 : Au) (n4 : Unit → Option Bool) (y17 : Bool) : Option Bool := (Option.bind (Gm r10.1 x4.id) fun r159 => (if (r159 != y17) then (some false) else (n4 ())))
def Pg (r5 : Aa × Aq) (r6 : Ac × Aq) (r7 : (List Int) × Aq) (r10 : Ac × Int) (k4 : Nat) (x4 : Au) (s4 : Unit) (n4 : Unit → Option Bool) : Option Bool := (Option.bind (Gm r6.1 x4.id) fun r154 => (if r154 then ((Fm r10 x4 n4) true) else (Option.bind (Ls r5.1.tree r6.1 x4.group) fun r156 => (if r156 then (Option.bind (Mk r7.1 x4.id) fun r158 => ((Fm r10 x4 n4) (!r158))) else ((Fm r10 x4 n4) false)))))
def Hx (y18 : Bool) : Option Bool := (some y18)
def Pf (r5 : Aa × Aq) (r8 : Ac × Int) (s4 : Unit) : Option Bool := (Option.bind (Jl r5.1 r8.1 []) fun r163 => (if (r163.2 == 0) then (Option.bind (Jc r163.1 r8.1) fun r165 => (if r165 then (Option.bind Ra fun r167 => (Hx r167)) else (Hx false))) else (Hx false)))
def Pl (r5 : Aa × Aq) (r6 : Ac × Aq) (r7 : (List Int) × Aq) (r8 : Ac × Int) (r10 : Ac × Int) (s1 : Unit) : Option Bool := (if r5.1.tasks.length ≤ 9223372036854775807 then Bf (Pg r5 r6 r7 r10) (Pf r5 r8) r5.1.tasks 0 () else none)
def Kj (p0 : List Int) : Option Bool := (Option.bind (Xo p0) fun r1 => (if (!r1) then (Option.bind Ra fun r3 => (some r3)) else (Option.bind (Acy p0) fun r4 => (Option.bind (Io r4 6 6) fun r5 => (Option.bind (Ke r5.2 r5.1 6) fun r6 => (Option.bind (Jx r6.2 r5.1 false) fun r7 => (Option.bind (Jl r5.1 r6.1 []) fun r8 => (Option.bind (Jl r5.1 r6.1 r7.1) fun r10 => (if ((r8.2 != 0) || (r10.2 != 0)) then (some false) else (if r5.1.tree.nodes.length ≤ 9223372036854775807 then Bf (Pi r5 r6 r8) (Pl r5 r6 r7 r8 r10) r5.1.tree.nodes 0 () else none))))))))))
end Go.Dm

/- Plain theory, part 1: models that return, loops. -/
namespace Go.Dm
def Ok {α : Type} (m : Option α) (Q : α → Prop) : Prop := ∃ a,m = some a ∧ Q a
section
variable {α β γ σ : Type} {Q : β → Prop}
theorem Ok.ret {b : β} (h : Q b) : Ok (some b) Q := ⟨b,rfl,h⟩
theorem Ok.bind {m : Option α} {f : α → Option β} {P : α → Prop} (h : Ok m P) (k : ∀ a,P a → Ok (f a) Q) : Ok (Option.bind m f) Q := by
 obtain ⟨a,rfl,ha⟩ := h
 exact k a ha
theorem Ok.step {m : Option α} {f : α → Option β} {a : α} (h : m = some a) (k : Ok (f a) Q) : Ok (Option.bind m f) Q := by
 subst h
 exact k
theorem Ok.eq {m : Option β} {b : β} (h : Ok m (· = b)) : m = some b := by
 obtain ⟨a,rfl,rfl⟩ := h
 rfl
theorem Ok.of_eq {m : Option β} {b : β} (h : m = some b) (hb : Q b) : Ok m Q := ⟨b,h,hb⟩
theorem Ok.mono {m : Option β} {P : β → Prop} (h : Ok m P) (k : ∀ b,P b → Q b) : Ok m Q := by
 obtain ⟨a,rfl,ha⟩ := h
 exact ⟨a,rfl,k a ha⟩
theorem Ok.guard {c : Prop} [Decidable c] {t : Option β} (hc : c) (h : Ok t Q) : Ok (if c then t else none) Q := by
 rw [if_pos hc]
 exact h
theorem Ok.ite {c : Bool} {t e : Option β} (ht : c = true → Ok t Q) (he : c = false → Ok e Q) : Ok (if c then t else e) Q := by
 cases c
 ·exact he rfl
 ·exact ht rfl
theorem Ok.range {body : Nat → α → σ → (σ → Option β) → Option β} {done : σ → Option β} {xs : List α} {s0 : σ} (I : List α → σ → Prop) (h0 : I [] s0)
  (step : ∀ pre x post s n,xs = pre ++ x :: post → I pre s → (∀ s',I (pre ++ [x]) s' → Ok (n s') Q) → Ok (body pre.length x s n) Q)
  (fin : ∀ s,I xs s → Ok (done s) Q) : Ok (Bf body done xs 0 s0) Q := by
 have key : ∀ (post pre : List α) (s : σ),xs = pre ++ post → I pre s → Ok (Bf body done post pre.length s) Q := by
  intro post
  induction post with
  | nil =>
   intro pre s he hi
   have : xs = pre := by simpa using he
   subst this
   exact fin s hi
  | cons x post ih =>
   intro pre s he hi
   refine step pre x post s _ he hi fun s' hi' => ?_
   have := ih (pre ++ [x]) s' (by simpa using he) hi'
   simpa using this
 exact key xs [] s0 rfl h0
theorem Ok.for {body : Int → σ → (σ → Option β) → Option β} {done : σ → Option β} {m : Nat} {a : Int} {s0 : σ} (I : Nat → σ → Prop) (h0 : I 0 s0)
  (step : ∀ (j : Nat) s n,j < m → I j s → (∀ s',I (j + 1) s' → Ok (n s') Q) → Ok (body (a + j) s n) Q)
  (fin : ∀ s,I m s → Ok (done s) Q) : Ok (forO body done m a s0) Q := by
 have key : ∀ (r j : Nat) (s : σ),j + r = m → I j s → Ok (forO body done r (a + j) s) Q := by
  intro r
  induction r with
  | zero =>
   intro j s he hi
   obtain rfl : j = m := by omega
   exact fin s hi
  | succ r ih =>
   intro j s he hi
   refine step j s _ (by omega) hi fun s' hi' => ?_
   have := ih (j + 1) s' (by omega) hi'
   have e : a + (j : Int) + 1 = a + ((j + 1 : Nat) : Int) := by omega
   rw [e]
   exact this
 have := key m 0 s0 (by omega) h0
 simpa using this
theorem Ok.while {body : σ → (σ → Option β) → Option β} {s0 : σ} (I : σ → Prop) (mu : σ → Nat) (h0 : I s0) (hf : mu s0 < Dz)
  (step : ∀ s n,I s → (∀ s',I s' → mu s' < mu s → Ok (n s') Q) → Ok (body s n) Q) : Ok (whileO body Dz s0) Q := by
 have key : ∀ (f : Nat) (s : σ),I s → mu s < f → Ok (whileO body f s) Q := by
  intro f
  induction f with
  | zero => intro s _ h; omega
  | succ f ih =>
   intro s hi hm
   exact step s _ hi fun s' hi' hm' => ih s' hi' (by omega)
 exact key Dz s0 h0 hf
end
theorem Db : Dz = 1099511627776 := rfl
theorem Ay {n : Int} (h1 : -9223372036854775808 ≤ n) (h2 : n ≤ 9223372036854775807) : w64 n = n := Zy h1 h2
theorem Ij {α : Type} {l : List α} {i : Nat} {d : α} (h : i < l.length) : l.getD i d = l[i] := by
 simp [List.getD_eq_getElem?_getD,h]
theorem AeR {α : Type} {l : List α} {i : Nat} {d : α} (h : i < l.length) : l.getD i d ∈ l := by
 rw [Ij h]
 exact List.getElem_mem h
theorem AbR {α : Type} {pre post : List α} {x d : α} : (pre ++ x :: post).getD pre.length d = x := by
 simp [List.getD_eq_getElem?_getD]
theorem Sj {α : Type} {pre post : List α} {x y d : α} : (pre ++ [y] ++ x :: post).getD pre.length d = y := by
 simp [List.getD_eq_getElem?_getD]
theorem Hy {α β : Type} {p : α → Bool} {f : α → β} {z : β} {xs : List α} {body : Nat → α → Unit → (Unit → Option β) → Option β} {done : Unit → Option β}
  (hb : ∀ k x n,body k x () n = if p x then some (f x) else n ()) (hd : done () = some z) : Bf body done xs 0 () = some ((xs.find? p).elim z f) := by
 have key : ∀ k,Bf body done xs k () = some ((xs.find? p).elim z f) := by
  induction xs with
  | nil => intro k; simp [Bf,hd]
  | cons x r ih =>
   intro k
   rw [Bf,hb,List.find?_cons]
   cases hp : p x
   ·simpa using ih (k + 1)
   ·simp
 exact key 0
theorem Ik {α β γ : Type} {p : α → Bool} {f : α → γ} {xs : List α} {s0 : List γ} {r : List γ → Option β} {body : Nat → α → List γ → (List γ → Option β) → Option β} {done : List γ → Option β}
  (hb : ∀ k x s n,s.length + 1 ≤ 1073741824 → body k x s n = if p x then n (s ++ [f x]) else n s) (hd : ∀ s,done s = r s) (hl : s0.length + xs.length ≤ 1073741824) : Bf body done xs 0 s0 = r (s0 ++ (xs.filter p).map f) := by
 have key : ∀ k s,s.length + xs.length ≤ 1073741824 → Bf body done xs k s = r (s ++ (xs.filter p).map f) := by
  clear hl
  induction xs with
  | nil => intro k s _; simp [Bf,hd]
  | cons x q ih =>
   intro k s hl
   simp only [List.length_cons] at hl
   rw [Bf,hb _ _ _ _ (by omega),List.filter_cons]
   cases hp : p x
   ·simpa using ih (k + 1) s (by omega)
   ·simp only [if_true]
    rw [ih (k + 1) (s ++ [f x]) (by simp; omega)]
    simp
 exact key 0 s0 hl
end Go.Dm

/- Plain theory, part 2: names, trees. -/
namespace Go.Dm
def Nn (c : Int) : Bool := (((((decide (c ≥ 97)) && (decide (c ≤ 122))) || ((decide (c ≥ 65)) && (decide (c ≤ 90)))) || ((decide (c ≥ 48)) && (decide (c ≤ 57)))) || (c == 95)) || (c == 45)
def Ef (s : ByteArray) : Bool := decide (0 < s.size) && decide (s.size ≤ 32) && (((Bo s 0 : Nat) : Int) != 45) && (Hu s).all Nn
theorem AbU (s : ByteArray) : Qz s = some (Ef s) := by
 apply Ok.eq
 unfold Qz
 refine Ok.ite (fun h => ?_) fun h => ?_
 ·refine Ok.ret ?_
  have : s.size = 0 := by simpa using h
  simp [Ef,this]
 have h0 : 0 < s.size := by
  have : ¬ ((s.size : Nat) : Int) = 0 := by simpa using h
  omega
 refine Ok.ite (fun h => ?_) fun h => ?_
 ·refine Ok.ret ?_
  have : ¬ s.size ≤ 32 := by
   have := of_decide_eq_true h
   omega
  simp [Ef,this]
 have h32 : s.size ≤ 32 := by
  have := of_decide_eq_false h
  omega
 refine Ok.guard h0 ?_
 unfold Nm
 refine Ok.ite (fun h => ?_) fun h => ?_
 ·refine Ok.ret ?_
  simp only [Ef,bne,h]
  simp
 refine Ok.guard (by omega) ?_
 refine Ok.for (fun j _ => ((Hu s).take j).all Nn = true) (by simp) ?_ ?_
 ·intro j _ n hj hi hn
  have hj' : j < s.size := by omega
  unfold Zf
  refine Ok.guard (by omega) ?_
  have e : Int.toNat (0 + (j : Int)) = j := by omega
  rw [e]
  have hb : (Hu s)[j]? = some ((Bo s j : Nat) : Int) := by simp [Hu,hj']
  refine Ok.ite (fun h => ?_) fun h => ?_
  ·refine Ok.ret ?_
   have hc : Nn ((Bo s j : Nat) : Int) = false := by simpa only [Nn,Bool.not_eq_true'] using h
   have : (Hu s).all Nn = false := by
    rw [List.all_eq_false]
    exact ⟨_,List.mem_of_getElem? hb,by simp [hc]⟩
   simp [Ef,this]
  ·refine hn () ?_
   have hc : Nn ((Bo s j : Nat) : Int) = true := by simpa only [Nn,Bool.not_eq_false'] using h
   rw [List.take_add_one,List.all_append,hi,hb]
   simp [hc]
 ·intro _ hi
  refine Ok.ret ?_
  have : (Hu s).length ≤ Int.toNat (((s.size : Nat) : Int) - 0) := by rw [Ou]; omega
  rw [List.take_of_length_le this] at hi
  simp only [Ef,bne,h,hi]
  simp [h0,h32]
theorem AgI (a : ByteArray) : Dr a a = true := by simp [Dr]
def upR : List An → Int → List Int
 | [],_ => []
 | x :: r,id => if x.id == id then id :: upR r x.parent else upR r id
def upT (t : Af) (id : Int) : List Int := upR t.nodes.reverse id
theorem Oe (l : List An) (id : Int) : (upR l id).length ≤ l.length := by
 induction l generalizing id with
 | nil => simp [upR]
 | cons x r ih =>
  rw [upR]
  split
  ·have := ih x.parent
   simp; omega
  ·have := ih id
   simp; omega
theorem Afg (t : Af) (id : Int) (hl : t.nodes.length ≤ 1000000) : Yg t id = some (upT t id) := by
 apply Ok.eq
 unfold Yg
 rw [Ay (by omega) (by omega)]
 refine Ok.while (fun s => ∃ m : Nat,s.2.2 = (m : Int) - 1 ∧ m ≤ t.nodes.length ∧ s.1.length + m ≤ t.nodes.length ∧ s.1 ++ upR (t.nodes.take m).reverse s.2.1 = upT t id) (fun s => (s.2.2 + 1).toNat) ?_ ?_ ?_
 ·exact ⟨t.nodes.length,rfl,by omega,by simp,by simp [upT]⟩
 ·rw [Db]; simp only []; omega
 rintro ⟨o,i,c⟩ n ⟨m,hc,hm,hlen,he⟩ hn
 simp only at hc hlen he hn
 unfold Adb
 simp only
 refine Ok.ite (fun h => ?_) fun h => ?_
 ·have hpos := of_decide_eq_true h
  obtain ⟨q,rfl⟩ : ∃ q,m = q + 1 := ⟨m - 1,by omega⟩
  have hcq : c = (q : Int) := by omega
  subst hcq
  have hq : q < t.nodes.length := by omega
  refine Ok.guard (by omega) ?_
  have et : t.nodes.take (q + 1) = t.nodes.take q ++ [t.nodes.getD q default] := by
   rw [List.take_add_one,Ij hq]
   simp [hq]
  rw [et,List.reverse_append,List.reverse_cons,List.reverse_nil,List.nil_append,List.singleton_append,upR] at he
  have eq : Int.toNat (q : Int) = q := by omega
  rw [eq]
  have hw : w64 ((q : Int) - 1) = (q : Int) - 1 := Ay (by omega) (by omega)
  refine Ok.ite (fun h => ?_) fun h => ?_
  ·refine Ok.guard (by omega) ?_
   refine Ok.guard (by omega) ?_
   unfold Td
   simp only
   rw [hw]
   rw [if_pos h] at he
   refine hn _ ⟨q,rfl,by omega,by simp; omega,?_⟩ (by simp only; omega)
   simpa using he
  ·unfold Td
   simp only
   rw [hw]
   rw [if_neg (by rw [h]; simp)] at he
   exact hn _ ⟨q,rfl,by omega,by simp only; omega,he⟩ (by simp only; omega)
 ·have := of_decide_eq_false h
  have : m = 0 := by omega
  subst this
  refine Ok.ret ?_
  simpa [upR] using he
def Jy (pre : List An) (x : An) : Bool :=
 (x.kind == 0 || x.kind == 1) && decide (0 ≤ x.control) && decide (x.control ≤ 31) && decide (0 ≤ x.owner) && decide (x.owner ≤ 1048576) &&
 match pre.getLast? with
 | none => x.id == 1 && x.parent == 0 && Dr x.name ByteArray.empty && x.kind == 0
 | some y => decide (y.id < x.id) && Ef x.name && pre.any (fun k => k.id == x.parent) && pre.all (fun k => !(k.parent == x.parent && Dr k.name x.name))
theorem Ahu (t : Af) (pre post : List An) (x : An) (he : t.nodes = pre ++ x :: post) (hl : t.nodes.length ≤ 1000000) : Vy t (pre.length : Int) = some (Jy pre x) := by
 have hlen : pre.length < t.nodes.length := by rw [he]; simp
 apply Ok.eq
 unfold Vy
 refine Ok.guard (by omega) ?_
 have ex : t.nodes.getD (Int.toNat (pre.length : Int)) default = x := by
  rw [he]
  have : Int.toNat (pre.length : Int) = pre.length := by omega
  rw [this]
  exact AbR
 rw [ex]
 refine Ok.ite (fun h => ?_) fun h => ?_
 ·refine Ok.ret ?_
  simp only [Jy]
  simp only [Bool.or_eq_true,Bool.and_eq_true,bne_iff_ne,decide_eq_true_eq] at h
  rcases h with (((⟨h1,h2⟩ | h) | h) | h) | h
  ·simp [h1,h2]
  ·have : ¬ 0 ≤ x.control := by omega
   simp [this]
  ·have : ¬ x.control ≤ 31 := by omega
   simp [this]
  ·have : ¬ 0 ≤ x.owner := by omega
   simp [this]
  ·have : ¬ x.owner ≤ 1048576 := by omega
   simp [this]
 simp only [Bool.or_eq_false_iff,Bool.and_eq_false_imp,bne_iff_ne,decide_eq_false_iff_not,bne_eq_false_iff_eq] at h
 obtain ⟨⟨⟨⟨hk,h2⟩,h3⟩,h4⟩,h5⟩ := h
 have hk' : (x.kind == 0 || x.kind == 1) = true := by
  by_cases q : x.kind = 0
  ·simp [q]
  ·simp [hk q]
 have a2 : 0 ≤ x.control := by omega
 have a3 : x.control ≤ 31 := by omega
 have a4 : 0 ≤ x.owner := by omega
 have a5 : x.owner ≤ 1048576 := by omega
 refine Ok.ite (fun h => ?_) fun h => ?_
 ·refine Ok.ret ?_
  have : pre = [] := by
   have : pre.length = 0 := by
    have : (pre.length : Int) = 0 := by simpa using h
    omega
   exact List.length_eq_zero_iff.mp this
  subst this
  simp [Jy,hk',a2,a3,a4,a5]
 have hp : 0 < pre.length := by
  have : ¬ (pre.length : Int) = 0 := by simpa using h
  omega
 obtain ⟨pr,y,rfl⟩ : ∃ pr y,pre = pr ++ [y] := by
  have hne : pre ≠ [] := by intro e; simp [e] at hp
  exact ⟨pre.dropLast,pre.getLast hne,(List.dropLast_concat_getLast hne).symm⟩
 have hw : w64 (((pr ++ [y]).length : Int) - 1) = (pr.length : Int) := by
  rw [Ay (by simp) (by simp; simp at hlen; omega)]
  simp
 rw [hw]
 refine Ok.guard (by simp at hlen; omega) ?_
 have ey : t.nodes.getD (Int.toNat (pr.length : Int)) default = y := by
  rw [he]
  have : Int.toNat (pr.length : Int) = pr.length := by omega
  rw [this]
  exact Sj
 rw [ey]
 have eB : Jy (pr ++ [y]) x = (decide (y.id < x.id) && Ef x.name && (pr ++ [y]).any (fun k => k.id == x.parent) && (pr ++ [y]).all (fun k => !(k.parent == x.parent && Dr k.name x.name))) := by
  simp [Jy,hk',a2,a3,a4,a5]
 refine Ok.ite (fun h => ?_) fun h => ?_
 ·refine Ok.ret ?_
  have : ¬ y.id < x.id := by
   have := of_decide_eq_true h
   omega
  rw [eB]
  simp [this]
 have hy : y.id < x.id := by
  have := of_decide_eq_false h
  omega
 refine Ok.step (AbU _) ?_
 unfold Si
 refine Ok.ite (fun h => ?_) fun h => ?_
 ·refine Ok.ret ?_
  have : Ef x.name = false := by simpa using h
  rw [eB]
  simp [this]
 have hv : Ef x.name = true := by simpa using h
 have hr : Jy (pr ++ [y]) x = ((pr ++ [y]).any (fun k => k.id == x.parent) && (pr ++ [y]).all (fun k => !(k.parent == x.parent && Dr k.name x.name))) := by
  rw [eB]
  simp [hy,hv]
 rw [hr]
 generalize pr ++ [y] = P at *
 refine Ok.guard (by omega) ?_
 refine Ok.for (fun j s => s = (P.take j).any (fun k => k.id == x.parent) ∧ (P.take j).all (fun k => !(k.parent == x.parent && Dr k.name x.name)) = true) (by simp) ?_ ?_
 ·intro j s n hj hI hn
  have hj' : j < P.length := by omega
  have ej : Int.toNat (0 + (j : Int)) = j := by omega
  have ez : t.nodes.getD j default = P[j] := by
   rw [he]
   simp [List.getD_eq_getElem?_getD,List.getElem?_append,hj']
  have tk : P.take (j + 1) = P.take j ++ [P[j]] := by
   rw [List.take_add_one]; simp [hj']
  have hbad : (P[j].parent == x.parent && Dr P[j].name x.name) = true → (P.any (fun k => k.id == x.parent) && P.all (fun k => !(k.parent == x.parent && Dr k.name x.name))) = false := by
   intro hb
   have : P.all (fun k => !(k.parent == x.parent && Dr k.name x.name)) = false := by
    rw [List.all_eq_false]
    exact ⟨P[j],List.getElem_mem hj',by rw [hb]; simp⟩
   rw [this,Bool.and_false]
  have hJ : ∀ b : Bool,b = (P.take (j + 1)).any (fun k => k.id == x.parent) → Ok (Pd t (P.length : Int) (0 + (j : Int)) n b) (· = (P.any (fun k => k.id == x.parent) && P.all (fun k => !(k.parent == x.parent && Dr k.name x.name)))) := by
   intro b hb
   unfold Pd
   refine Ok.guard (by omega) ?_
   rw [ej,ez,ex]
   have good : (P[j].parent == x.parent && Dr P[j].name x.name) = false → Ok (n b) (· = (P.any (fun k => k.id == x.parent) && P.all (fun k => !(k.parent == x.parent && Dr k.name x.name)))) := by
    intro hb'
    refine hn _ ⟨hb,?_⟩
    rw [tk,List.all_append,hI.2]
    simp only [List.all_cons,List.all_nil,hb']
    rfl
   refine Ok.ite (fun h => ?_) fun h => ?_
   ·refine Ok.guard (by omega) ?_
    unfold Pb
    refine Ok.ite (fun h' => ?_) fun h' => ?_
    ·exact Ok.ret (hbad (by rw [h,h']; rfl)).symm
    ·exact good (by rw [h,h']; rfl)
   ·unfold Pb
    exact good (by rw [h]; rfl)
  unfold AaJ
  have ea : (P.take (j + 1)).any (fun k => k.id == x.parent) = (s || (P[j].id == x.parent)) := by
   rw [tk,List.any_append,← hI.1]; simp
  refine Ok.ite (fun h => ?_) fun h => ?_
  ·refine hJ _ ?_
   rw [ea,h]
   rfl
  ·refine Ok.guard (by omega) ?_
   rw [ej,ez,ex]
   refine hJ _ ?_
   rw [ea,h]
   rfl
 ·intro s hI
  refine Ok.ret ?_
  have : P.take (Int.toNat ((P.length : Int) - 0)) = P := List.take_of_length_le (by omega)
  rw [this] at hI
  rw [hI.2,Bool.and_true]
  exact hI.1
end Go.Dm

/- Plain theory, part 3: trees that Check accepts. -/
namespace Go.Dm
structure WfT (t : Af) : Prop where
 len1 : 1 ≤ t.nodes.length
 len2 : t.nodes.length ≤ 64
 node : ∀ pre x post,t.nodes = pre ++ x :: post → Jy pre x = true
 depth : ∀ x ∈ t.nodes,(upT t x.id).length ≤ 9
 last : (t.nodes.getD (t.nodes.length - 1) default).id < t.next
 nextLe : t.next ≤ 2147483648
theorem Xc (t : Af) : Ok (Jj t) (fun b => b = true ↔ WfT t) := by
 unfold Jj
 refine Ok.ite (fun h => ?_) fun h => ?_
 ·refine Ok.ret ?_
  simp only [Bool.or_eq_true,decide_eq_true_eq] at h
  refine ⟨fun e => by simp at e,fun w => ?_⟩
  have := w.len1
  have := w.len2
  omega
 simp only [Bool.or_eq_false_iff,decide_eq_false_iff_not] at h
 have l1 : 1 ≤ t.nodes.length := by omega
 have l2 : t.nodes.length ≤ 64 := by omega
 refine Ok.guard (by omega) ?_
 refine Ok.range (fun pre _ => ∀ q x p,pre = q ++ x :: p → Jy q x = true) (by intro q x p e; simp at e) ?_ ?_
 ·intro pre x post s n he hI hn
  unfold Yh
  refine Ok.step (Ahu t pre post x he (by omega)) ?_
  refine Ok.ite (fun h => ?_) fun h => ?_
  ·refine Ok.ret ⟨fun e => by simp at e,fun w => ?_⟩
   have := w.node pre x post he
   simp [this] at h
  ·refine hn () fun q y p e => ?_
   rcases List.eq_nil_or_concat p with rfl | ⟨p',z,rfl⟩
   ·have e2 : pre = q ∧ x = y := by
     have := List.append_inj' (s₁ := pre) (t₁ := [x]) (s₂ := q) (t₂ := [y]) (by simpa using e) rfl
     exact ⟨this.1,by simpa using this.2⟩
    rw [← e2.1,← e2.2]
    simpa using h
   ·have e2 : pre ++ [x] = (q ++ y :: p') ++ [z] := by simpa using e
    have := List.append_inj' e2 rfl
    exact hI q y p' this.1
 ·intro _ hI
  unfold Zn
  refine Ok.guard (by omega) ?_
  refine Ok.range (fun pre _ => ∀ x ∈ pre,(upT t x.id).length ≤ 9) (by simp) ?_ ?_
  ·intro pre x post s n he hJ hn
   unfold Zj
   refine Ok.step (Afg t x.id (by omega)) ?_
   refine Ok.ite (fun h => ?_) fun h => ?_
   ·refine Ok.ret ⟨fun e => by simp at e,fun w => ?_⟩
    have := w.depth x (by rw [he]; simp)
    have := of_decide_eq_true h
    omega
   ·refine hn () fun y hy => ?_
    have hd := of_decide_eq_false h
    rcases List.mem_append.mp hy with hy | hy
    ·exact hJ y hy
    ·obtain rfl : y = x := by simpa using hy
     omega
  ·intro _ hJ
   unfold Yq Qc
   have hw : w64 ((t.nodes.length : Int) - 1) = ((t.nodes.length - 1 : Nat) : Int) := by
    rw [Ay (by omega) (by omega)]
    omega
   rw [hw]
   refine Ok.guard (by omega) ?_
   have : Int.toNat ((t.nodes.length - 1 : Nat) : Int) = t.nodes.length - 1 := by omega
   rw [this]
   refine Ok.ite (fun h => ?_) fun h => ?_
   ·refine Ok.ret ⟨fun e => ?_,fun w => ?_⟩
    ·exact ⟨l1,l2,hI,hJ,by simpa using h,by simpa using e⟩
    ·simpa using w.nextLe
   ·refine Ok.ret ⟨fun e => by simp at e,fun w => ?_⟩
    have := w.last
    have := of_decide_eq_false h
    omega
theorem Zs {t : Af} (h : WfT t) : Jj t = some true := by
 obtain ⟨b,hb,e⟩ := Xc t
 rw [hb,e.mpr h]
theorem Ahj {t : Af} (h : ¬ WfT t) : Jj t = some false := by
 obtain ⟨b,hb,e⟩ := Xc t
 cases b
 ·exact hb
 ·exact absurd (e.mp rfl) h
def zN : An := { id := 0,parent := 0,name := ByteArray.empty,control := 0,kind := 0,owner := 0 }
def Um (t : Af) (id : Int) : Option An := t.nodes.find? (fun x => x.id == id)
def Gz (t : Af) (id : Int) : Bool := (Um t id).isSome
theorem Oy {t : Af} (h : WfT t) (id : Int) : Df t id = some ((Um t id).elim (zN,false) (fun x => (x,true))) := by
 unfold Df
 rw [Zs h]
 have := h.len2
 simp only [Option.bind_some,Bool.not_true,Bool.false_eq_true,if_false]
 rw [if_pos (by omega)]
 exact Hy (fun k x n => rfl) rfl
theorem AaN {t : Af} (h : ¬ WfT t) (id : Int) : Df t id = some (zN,false) := by
 unfold Df
 rw [Ahj h]
 rfl
theorem Me {t : Af} (h : WfT t) (id : Int) : Fo t id = some (Gz t id) := by
 unfold Fo
 rw [Oy h,Option.bind_some]
 unfold Gz
 cases Um t id <;> rfl
theorem Afk {t : Af} (h : ¬ WfT t) (id : Int) : Fo t id = some false := by
 unfold Fo
 rw [AaN h]
 rfl
def ancN (t : Af) (id : Int) : List Int := if Gz t id then upT t id else []
theorem Od {t : Af} (h : WfT t) (id : Int) : Fv t id = some (ancN t id) := by
 unfold Fv ancN
 rw [Me h]
 have := h.len2
 cases Gz t id
 ·rfl
 ·simp [Afg t id (by omega)]
def Jh (t : Af) (id : Int) : List Int := (t.nodes.filter (fun x => x.parent == id)).map (·.id)
theorem Aal {t : Af} (h : WfT t) (id : Int) : Hh t id = some (if Gz t id then Jh t id else []) := by
 unfold Hh
 rw [Me h]
 have := h.len2
 cases Gz t id
 ·rfl
 ·simp only [Option.bind_some,Bool.not_true,Bool.false_eq_true,if_false,if_true]
  rw [if_pos (by omega)]
  refine (Ik (p := fun x : An => x.parent == id) (f := fun x : An => x.id) (r := some) ?_ (fun _ => rfl) (by simp; omega)).trans (by simp [Jh])
  intro k x s n hs
  unfold Ts Md
  rw [if_pos hs]
theorem Ahw {t : Af} (h : WfT t) (id : Int) : Ua t id = some (w64 (((ancN t id).length : Int) - 1)) := by
 unfold Ua
 rw [Od h]
 rfl
theorem Tn (t : Af) (h : t.nodes.length ≤ 1073741824) : Nx t = some t := by
 unfold Nx
 simp
 omega
end Go.Dm

/- Plain theory, part 4: the nodes of a tree, one behind the other. -/
namespace Go.Dm
theorem Ji {α : Type} (L : List α) : L = [] ∨ ∃ P x,L = P ++ [x] := by
 rcases List.eq_nil_or_concat L with h | ⟨P,x,h⟩
 ·exact .inl h
 ·exact .inr ⟨P,x,by simpa using h⟩
structure Rf (x : An) : Prop where
 kind : x.kind = 0 ∨ x.kind = 1
 c1 : 0 ≤ x.control
 c2 : x.control ≤ 31
 o1 : 0 ≤ x.owner
 o2 : x.owner ≤ 1048576
structure Aah (x : An) : Prop where
 id : x.id = 1
 parent : x.parent = 0
 name : Dr x.name ByteArray.empty = true
 kind : x.kind = 0
structure NodeS (pre : List An) (x : An) : Prop where
 lt : ∀ y ∈ pre,y.id < x.id
 valid : Ef x.name = true
 parent : ∃ y ∈ pre,y.id = x.parent
 fresh : ∀ y ∈ pre,y.parent = x.parent → Dr y.name x.name = false
inductive WfP : List An → Prop
 | root (x : An) : Rf x → Aah x → WfP [x]
 | snoc (L : List An) (x : An) : WfP L → Rf x → NodeS L x → WfP (L ++ [x])
theorem nodeV_of {pre : List An} {x : An} (h : Jy pre x = true) : Rf x := by
 simp only [Jy,Bool.and_eq_true,Bool.or_eq_true,beq_iff_eq,decide_eq_true_eq] at h
 exact ⟨h.1.1.1.1.1,h.1.1.1.1.2,h.1.1.1.2,h.1.1.2,h.1.2⟩
theorem WfP.pos {L : List An} (h : WfP L) : 0 < L.length := by
 cases h <;> simp
theorem wfP_of {L : List An} (hn : 1 ≤ L.length) (h : ∀ pre x post,L = pre ++ x :: post → Jy pre x = true) : WfP L := by
 have key : ∀ (n : Nat) (M : List An),M.length = n → 1 ≤ M.length → (∀ pre x post,M = pre ++ x :: post → Jy pre x = true) → WfP M ∧ ∀ y,M.getLast? = some y → ∀ z ∈ M,z.id ≤ y.id := by
  intro n
  induction n with
  | zero => intro M hM h1; omega
  | succ n ih =>
   intro M hM h1 hB
   rcases Ji M with rfl | ⟨P,x,rfl⟩
   ·simp at hM
   have hx : Jy P x = true := hB P x [] (by simp)
   have hv := nodeV_of hx
   rcases Ji P with rfl | ⟨P',y,rfl⟩
   ·simp only [Jy,List.getLast?_nil,Bool.and_eq_true,beq_iff_eq] at hx
    refine ⟨.root x hv ⟨hx.2.1.1.1,hx.2.1.1.2,hx.2.1.2,hx.2.2⟩,?_⟩
    intro y hy z hz
    simp at hy hz
    subst hy hz
    exact Int.le_refl _
   ·obtain ⟨w,hl⟩ := ih (P' ++ [y]) (by simp at hM ⊢; omega) (by simp) (fun pre u post e => hB pre u (post ++ [x]) (by rw [e]; simp))
    have hl := hl y (by simp)
    simp only [Jy,List.getLast?_append,List.getLast?_singleton,Option.some_or,Bool.and_eq_true,decide_eq_true_eq,List.any_eq_true,List.all_eq_true,beq_iff_eq] at hx
    obtain ⟨_,⟨⟨hlt,hval⟩,hpar⟩,hfr⟩ := hx
    have hs : NodeS (P' ++ [y]) x := by
     refine ⟨fun z hz => ?_,hval,hpar,fun z hz hp => ?_⟩
     ·have := hl z hz
      omega
     ·have := hfr z hz
      simpa [hp] using this
    refine ⟨.snoc _ x w hv hs,?_⟩
    intro u hu z hz
    have hu : u = x := by simpa [eq_comm] using hu
    subst hu
    rcases List.mem_append.mp hz with hz | hz
    ·have := hs.lt z hz
     omega
    ·simp at hz
     subst hz
     exact Int.le_refl _
 exact (key _ L rfl hn h).1
theorem AgX {x : An} (v : Rf x) (r : Aah x) : Jy [] x = true := by
 have := v.kind
 simp [Jy,v.c1,v.c2,v.o1,v.o2,r.id,r.parent,r.name,r.kind]
theorem AgV {L : List An} {x : An} (hL : 0 < L.length) (v : Rf x) (r : NodeS L x) : Jy L x = true := by
 rcases Ji L with rfl | ⟨P,y,rfl⟩
 ·simp at hL
 simp only [Jy,List.getLast?_append,List.getLast?_singleton,Option.some_or,Bool.and_eq_true,decide_eq_true_eq,List.any_eq_true,List.all_eq_true,beq_iff_eq,Bool.or_eq_true]
 refine ⟨⟨⟨⟨⟨v.kind,v.c1⟩,v.c2⟩,v.o1⟩,v.o2⟩,⟨⟨r.lt y (by simp),r.valid⟩,r.parent⟩,fun z hz => ?_⟩
 by_cases hp : z.parent = x.parent
 ·simp [r.fresh z hz hp]
 ·simp [hp]
theorem WfP.split {L : List An} (h : WfP L) : ∀ pre x post,L = pre ++ x :: post → Jy pre x = true := by
 induction h with
 | root x v r =>
  intro pre y post e
  have : pre = [] ∧ y = x := by
   cases pre with
   | nil => simp at e; exact ⟨rfl,e.1.symm⟩
   | cons a q => simp at e
  rw [this.1,this.2]
  exact AgX v r
 | snoc L x w v s ih =>
  intro pre y post e
  rcases Ji post with rfl | ⟨p',z,rfl⟩
  ·have := List.append_inj' (s₁ := L) (t₁ := [x]) (s₂ := pre) (t₂ := [y]) (by simpa using e) rfl
   have e2 : x = y := by simpa using this.2
   rw [← this.1,← e2]
   exact AgV w.pos v s
  ·have e2 : L ++ [x] = (pre ++ y :: p') ++ [z] := by simpa using e
   have := List.append_inj' e2 rfl
   exact ih pre y p' this.1
theorem WfP.sorted {L : List An} (h : WfP L) : L.Pairwise (fun a b => a.id < b.id) := by
 induction h with
 | root x v r => simp
 | snoc L x w v s ih =>
  rw [List.pairwise_append]
  exact ⟨ih,by simp,fun a ha b hb => by simp at hb; subst hb; exact s.lt a ha⟩
theorem WfP.val {L : List An} (h : WfP L) : ∀ x ∈ L,Rf x := by
 induction h with
 | root x v r => intro y hy; simp at hy; subst hy; exact v
 | snoc L x w v s ih =>
  intro y hy
  rcases List.mem_append.mp hy with hy | hy
  ·exact ih y hy
  ·simp at hy; subst hy; exact v
theorem WfP.first {L : List An} (h : WfP L) : ∃ x r,L = x :: r ∧ Aah x := by
 induction h with
 | root x v r => exact ⟨x,[],rfl,r⟩
 | snoc L x w v s ih =>
  obtain ⟨y,r,rfl,hr⟩ := ih
  exact ⟨y,r ++ [x],rfl,hr⟩
theorem WfP.ge1 {L : List An} (h : WfP L) : ∀ x ∈ L,1 ≤ x.id := by
 induction h with
 | root x v r => intro y hy; simp at hy; subst hy; rw [r.id]; omega
 | snoc L x w v s ih =>
  intro y hy
  rcases List.mem_append.mp hy with hy | hy
  ·exact ih y hy
  ·simp at hy; subst hy
   obtain ⟨z,hz,_⟩ := s.parent
   have := ih z hz
   have := s.lt z hz
   omega
theorem WfP.par {L : List An} (h : WfP L) : ∀ x ∈ L,(x.id = 1 ∧ Aah x) ∨ (1 ≤ x.parent ∧ x.parent < x.id ∧ (∃ y ∈ L,y.id = x.parent) ∧ Ef x.name = true) := by
 induction h with
 | root x v r => intro y hy; simp at hy; subst hy; exact .inl ⟨r.id,r⟩
 | snoc L x w v s ih =>
  intro y hy
  rcases List.mem_append.mp hy with hy | hy
  ·rcases ih y hy with h | ⟨h1,h2,⟨z,hz,he⟩,h3⟩
   ·exact .inl h
   ·exact .inr ⟨h1,h2,⟨z,by simp [hz],he⟩,h3⟩
  ·simp at hy; subst hy
   obtain ⟨z,hz,he⟩ := s.parent
   refine .inr ⟨?_,?_,⟨z,by simp [hz],he⟩,s.valid⟩
   ·have := w.ge1 z hz
    omega
   ·have := s.lt z hz
    omega
theorem Afo {L : List An} (h : L.Pairwise (fun a b => a.id < b.id)) {x y : An} (hx : x ∈ L) (hy : y ∈ L) (e : x.id = y.id) : x = y := by
 induction L with
 | nil => simp at hx
 | cons a r ih =>
  rw [List.pairwise_cons] at h
  rcases List.mem_cons.mp hx with ex | hx' <;> rcases List.mem_cons.mp hy with ey | hy'
  ·rw [ex,ey]
  ·have := h.1 y hy'; rw [ex] at e; omega
  ·have := h.1 x hx'; rw [ey] at e; omega
  ·exact ih h.2 hx' hy'
theorem Vx {t : Af} {id : Int} {x : An} (h : Um t id = some x) : x ∈ t.nodes ∧ x.id = id :=
 ⟨List.mem_of_find?_eq_some h,by have := List.find?_some h; simpa using this⟩
theorem hasN_iff {t : Af} {id : Int} : Gz t id = true ↔ ∃ x ∈ t.nodes,x.id = id := by
 unfold Gz Um
 rw [List.find?_isSome]
 simp
theorem Wz {A B : List An} {id : Int} (h : ∀ x ∈ A,x.id ≠ id) : upR (A ++ B) id = upR B id := by
 induction A with
 | nil => rfl
 | cons a r ih =>
  rw [List.cons_append,upR,if_neg (by simpa using h a (by simp))]
  exact ih fun x hx => h x (by simp [hx])
theorem AeL {A : List An} {id : Int} (h : ∀ x ∈ A,x.id ≠ id) : upR A id = [] := by
 have := Wz (B := []) h
 simpa [upR] using this
theorem WfP.up {L : List An} (h : WfP L) : ∀ x ∈ L,upR L.reverse x.id = x.id :: upR L.reverse x.parent := by
 induction h with
 | root x v r =>
  intro y hy
  simp at hy
  subst hy
  simp [upR,r.parent,r.id]
 | snoc L x w v s ih =>
  intro y hy
  rw [List.reverse_append,List.reverse_cons,List.reverse_nil,List.nil_append,List.singleton_append]
  rcases List.mem_append.mp hy with hy | hy
  ·have hlt := s.lt y hy
   have hp : y.parent < x.id := by
    rcases w.par y hy with ⟨h1,r⟩ | ⟨_,h2,_⟩
    ·rw [r.parent]; have := w.ge1 y hy; omega
    ·omega
   rw [upR,if_neg (by simp; omega),upR,if_neg (by simp; omega)]
   exact ih y hy
  ·simp at hy
   subst hy
   obtain ⟨z,hz,he⟩ := s.parent
   have := s.lt z hz
   rw [upR,if_pos (by simp),upR,if_neg (by simp; omega)]
theorem WfT.p {t : Af} (h : WfT t) : WfP t.nodes := wfP_of h.len1 h.node
theorem WfT.sorted {t : Af} (h : WfT t) : t.nodes.Pairwise (fun a b => a.id < b.id) := h.p.sorted
theorem WfT.up {t : Af} (h : WfT t) {x : An} (hx : x ∈ t.nodes) : upT t x.id = x.id :: upT t x.parent := h.p.up x hx
theorem WfT.next {t : Af} (h : WfT t) : ∀ x ∈ t.nodes,x.id < t.next := by
 have hl := h.last
 have h1 := h.len1
 have hs := h.sorted
 intro x hx
 obtain ⟨i,hi,rfl⟩ := List.getElem_of_mem hx
 rw [Ij (by omega)] at hl
 by_cases e : i = t.nodes.length - 1
 ·subst e; exact hl
 ·have := List.pairwise_iff_getElem.mp hs i (t.nodes.length - 1) hi (by omega) (by omega)
  omega
theorem WfT.root {t : Af} (h : WfT t) : ∃ x r,t.nodes = x :: r ∧ Aah x := h.p.first
theorem WfT.mk' {t : Af} (hp : WfP t.nodes) (h2 : t.nodes.length ≤ 64) (hd : ∀ x ∈ t.nodes,(upT t x.id).length ≤ 9) (hn : ∀ x ∈ t.nodes,x.id < t.next) (hl : t.next ≤ 2147483648) : WfT t := by
 refine ⟨hp.pos,h2,hp.split,hd,hn _ (AeR ?_),hl⟩
 have := hp.pos
 omega
end Go.Dm

/- Plain theory, part 5: dice; trees that grow and shrink. -/
namespace Go.Dm
structure Bx (d : Aq) : Prop where
 a0 : 0 ≤ d.atF
 a1 : d.atF ≤ (d.l.length : Int)
 l : d.l.length ≤ 600
theorem dice_roll {l : List Int} (h : l.length ≤ 600) : Bx { l := l,atF := 0 } := ⟨by simp,by simp,h⟩
theorem AaZ {d : Aq} (h : Bx d) (n : Int) (hn : n ≤ 1000000) : Ok (Bu d n) (fun r => Bx r.2 ∧ 0 ≤ r.1 ∧ (r.1 < n ∨ (n < 1 ∧ r.1 = 0))) := by
 have h0 := h.a0
 have h1 := h.a1
 have hl := h.l
 unfold Bu
 refine Ok.ite (fun c => ?_) fun c => ?_
 ·simp only [Bool.or_eq_true,decide_eq_true_eq] at c
  refine Ok.ret ⟨h,by simp,?_⟩
  show (0 : Int) < n ∨ (n < 1 ∧ (0 : Int) = 0)
  omega
 simp only [Bool.or_eq_false_iff,decide_eq_false_iff_not] at c
 have e1 : w64 (d.atF + 1) = d.atF + 1 := Ay (by omega) (by omega)
 have e2 : w64 (d.atF + 1 - 1) = d.atF := by
  rw [Ay (by omega) (by omega)]
  omega
 have hd : Bx { l := d.l,atF := d.atF + 1 } := ⟨by simp only; omega,by simp only; omega,hl⟩
 rw [e1,e2]
 refine Ok.guard (by omega) ?_
 refine Ok.guard (by omega) ?_
 generalize d.l.getD d.atF.toNat 0 = x
 have b1 : Int.tmod x n < n := Int.tmod_lt_of_pos x (by omega)
 have b2 : -n < Int.tmod x n := by
  have := Int.tmod_lt_of_pos (-x) (show 0 < n by omega)
  rw [Int.neg_tmod] at this
  omega
 unfold Ld
 rw [e1]
 refine Ok.ite (fun c2 => ?_) fun c2 => ?_
 ·have := of_decide_eq_true c2
  rw [Ay (by omega) (by omega)]
  refine Ok.ret ⟨hd,?_,?_⟩ <;> simp only <;> omega
 ·have := of_decide_eq_false c2
  refine Ok.ret ⟨hd,?_,?_⟩ <;> simp only <;> omega
theorem Gb {d : Aq} (h : Bx d) (n : Int) (h1 : 1 ≤ n) (hn : n ≤ 1000000) : Ok (Bu d n) (fun r => Bx r.2 ∧ 0 ≤ r.1 ∧ r.1 < n) :=
 (AaZ h n hn).mono fun r ⟨a,b,c⟩ => ⟨a,b,by omega⟩
theorem Uq {d : Aq} (h : Bx d) (n : Int) (hn : n ≤ 1000000) : Ok (Ez d n) (fun r => Bx r.2) := by
 unfold Ez
 exact Ok.bind (AaZ h n hn) fun r hr => Ok.ret hr.1
theorem Aiz : ∀ s ∈ [(bs [97]),(bs [98]),(bs [99]),(bs [119,101,98]),(bs [100,98,45,49]),(bs [88,95,57])],Ef s = true := by
 intro s hs
 have : ([(bs [97]),(bs [98]),(bs [99]),(bs [119,101,98]),(bs [100,98,45,49]),(bs [88,95,57])].all Ef) = true := by kernel_rfl
 exact List.all_eq_true.mp this s hs
theorem Name_ok {d : Aq} (h : Bx d) : Ok (No d) (fun r => Bx r.2 ∧ Ef r.1 = true) := by
 unfold No
 refine Ok.bind (Gb h 6 (by omega) (by omega)) fun r ⟨h1,h2,h3⟩ => ?_
 refine Ok.guard ⟨h2,h3⟩ ?_
 have hlt : r.1.toNat < [(bs [97]),(bs [98]),(bs [99]),(bs [119,101,98]),(bs [100,98,45,49]),(bs [88,95,57])].length := by simp only [List.length_cons,List.length_nil]; omega
 refine Ok.guard hlt (Ok.ret ⟨h1,Aiz _ (AeR hlt)⟩)
theorem AbH {d : Aq} (h : Bx d) (t : Af) (ht : t.nodes.length ≤ 1000000) : Ok (Gv d t) (fun r => Bx r.2) := by
 unfold Gv
 refine Ok.bind (Uq h 15 (by omega)) fun r hr => ?_
 have hJ : ∀ b : Bool,(b = false → 0 < t.nodes.length) → Ok (Ig t r b) (fun r => Bx r.2) := by
  intro b hb
  unfold Ig
  refine Ok.ite (fun _ => ?_) fun c => ?_
  ·exact Ok.bind (AaZ hr 9 (by omega)) fun q hq => Ok.ret hq.1
  ·have := hb c
   refine Ok.bind (Gb hr _ (by omega) (by omega)) fun q hq => ?_
   exact Ok.guard ⟨hq.2.1,hq.2.2⟩ (Ok.ret hq.1)
 refine Ok.ite (fun _ => ?_) fun _ => ?_
 ·exact hJ true (by simp)
 ·refine hJ _ fun hb => ?_
  have : ¬ ((t.nodes.length : Nat) : Int) = 0 := by simpa using hb
  omega
theorem Ags {d : Aq} (h : Bx d) (t : Aa) (ht : t.tasks.length ≤ 1000000) : Ok (Is d t) (fun r => Bx r.2) := by
 unfold Is
 refine Ok.bind (Uq h 15 (by omega)) fun r hr => ?_
 have hJ : ∀ b : Bool,(b = false → 0 < t.tasks.length) → Ok (Ir t r b) (fun r => Bx r.2) := by
  intro b hb
  unfold Ir
  refine Ok.ite (fun _ => ?_) fun c => ?_
  ·exact Ok.bind (AaZ hr 9 (by omega)) fun q hq => Ok.ret hq.1
  ·have := hb c
   refine Ok.bind (Gb hr _ (by omega) (by omega)) fun q hq => ?_
   exact Ok.guard ⟨hq.2.1,hq.2.2⟩ (Ok.ret hq.1)
 refine Ok.ite (fun _ => ?_) fun _ => ?_
 ·exact hJ true (by simp)
 ·refine hJ _ fun hb => ?_
  have : ¬ ((t.tasks.length : Nat) : Int) = 0 := by simpa using hb
  omega
theorem Agt {d : Aq} (h : Bx d) : Ok (Hm d) (fun r => Bx r.2 ∧ -1 ≤ r.1 ∧ r.1 ≤ 32) := by
 unfold Hm
 refine Ok.bind (Gb h 9 (by omega) (by omega)) fun r ⟨h1,h2,h3⟩ => ?_
 refine Ok.guard ⟨h2,h3⟩ ?_
 have hlt : r.1.toNat < [(1 : Int),9,31,2,25,4,0,32,(-1)].length := by simp only [List.length_cons,List.length_nil]; omega
 refine Ok.guard hlt (Ok.ret ⟨h1,?_⟩)
 have hm := AeR (d := (0 : Int)) hlt
 have : ∀ x ∈ [(1 : Int),9,31,2,25,4,0,32,(-1)],-1 ≤ x ∧ x ≤ 32 := by decide
 exact this _ hm
def zT : Af := { nodes := [],next := 0 }
def addT (t : Af) (p : Int) (s : ByteArray) : Af × Int × Int :=
 if !Ef s then (zT,0,1) else if !Gz t p then (zT,0,4) else if t.nodes.any (fun x => x.parent == p && Dr x.name s) then (zT,0,5)
 else if decide (9 ≤ (upT t p).length) || decide (64 ≤ t.nodes.length) || decide (2147483647 < t.next) then (zT,0,7)
 else ({ nodes := t.nodes ++ [{ id := t.next,parent := p,name := s,control := 0,kind := 0,owner := 0 }],next := t.next + 1 },t.next,0)
theorem Aji {t : Af} (h : WfT t) (p : Int) (s : ByteArray) : Yl t p s = some (addT t p s) := by
 apply Ok.eq
 have h2 := h.len2
 have hnx := h.nextLe
 unfold Yl
 refine Ok.step (Zs h) ?_
 simp only [Bool.not_true,Bool.false_eq_true,if_false]
 refine Ok.step (AbU s) ?_
 unfold Tx addT
 refine Ok.ite (fun c => ?_) fun c => ?_
 ·rw [if_pos c]; exact Ok.ret rfl
 rw [if_neg (c := (!Ef s) = true) (by rw [c]; simp)]
 refine Ok.step (Me h p) ?_
 refine Ok.ite (fun c => ?_) fun c => ?_
 ·rw [if_pos c]; exact Ok.ret rfl
 rw [if_neg (c := (!Gz t p) = true) (by rw [c]; simp)]
 have hp : Gz t p = true := by simpa using c
 refine Ok.guard (by omega) ?_
 refine Ok.range (fun pre _ => pre.any (fun x => x.parent == p && Dr x.name s) = false) rfl ?_ ?_
 ·intro pre x post u n he hI hn
  unfold Abz
  refine Ok.ite (fun c => ?_) fun c => ?_
  ·refine Ok.ret ?_
   rw [if_pos]
   ·rfl
   ·rw [he,List.any_append,List.any_cons,c]
    simp
  ·refine hn () ?_
   rw [List.any_append,hI,List.any_cons,c]
   rfl
 ·intro _ hI
  rw [if_neg (by rw [hI]; simp)]
  unfold Abu
  refine Ok.step (Ahw h p) ?_
  have ea : ancN t p = upT t p := by simp [ancN,hp]
  have hb : (upT t p).length ≤ 64 := by
   have := Oe t.nodes.reverse p
   simp at this
   unfold upT
   omega
  rw [ea,Ay (by omega) (by omega)]
  have hJ1 : ∀ c,(c = true → (decide (9 ≤ (upT t p).length) || decide (64 ≤ t.nodes.length) || decide (2147483647 < t.next)) = true) → (c = false → (decide (9 ≤ (upT t p).length) || decide (64 ≤ t.nodes.length) || decide (2147483647 < t.next)) = false) →
    Ok (Ob t p s c) (· = if decide (9 ≤ (upT t p).length) || decide (64 ≤ t.nodes.length) || decide (2147483647 < t.next) then (zT,0,7)
 else ({ nodes := t.nodes ++ [{ id := t.next,parent := p,name := s,control := 0,kind := 0,owner := 0 }],next := t.next + 1 },t.next,0)) := by
   intro c ht hf
   unfold Ob
   refine Ok.ite (fun c => ?_) fun c => ?_
   ·rw [if_pos (ht c)]; exact Ok.ret rfl
   ·rw [if_neg (by rw [hf c]; simp)]
    refine Ok.step (Tn t (by omega)) ?_
    refine Ok.guard (by omega) ?_
    have hn0 : 0 < t.next := by
     obtain ⟨x,r,e,hr⟩ := h.root
     have := h.next x (by rw [e]; simp)
     rw [hr.id] at this
     omega
    rw [Ay (by omega) (by omega)]
    exact Ok.ret rfl
  refine Ok.ite (fun c => ?_) fun c => ?_
  ·have := of_decide_eq_true c
   refine hJ1 true (fun _ => ?_) (by simp)
   have : 9 ≤ (upT t p).length := by omega
   simp [this]
  ·have h9 := of_decide_eq_false c
   refine Ok.ite (fun c => ?_) fun c => ?_
   ·have := of_decide_eq_true c
    refine hJ1 true (fun _ => ?_) (by simp)
    have : 64 ≤ t.nodes.length := by omega
    simp [this]
   ·have h64 := of_decide_eq_false c
    have a : ¬ 9 ≤ (upT t p).length := by omega
    have b : ¬ 64 ≤ t.nodes.length := by omega
    refine hJ1 _ (fun c => ?_) fun c => ?_
    ·have := of_decide_eq_true c
     have : 2147483647 < t.next := by omega
     simp [this]
    ·have := of_decide_eq_false c
     have : ¬ 2147483647 < t.next := by omega
     simp [this,a,b]
theorem Adt {L : List An} {x : An} {id : Int} (h : x.id ≠ id) : upR (L ++ [x]).reverse id = upR L.reverse id := by
 rw [List.reverse_append]
 exact Wz (A := [x].reverse) (by simpa using h)
theorem addT_wf {t : Af} (h : WfT t) {p : Int} {s : ByteArray} {r : Af × Int × Int} (e : addT t p s = r) (hr : r.2.2 = 0) : WfT r.1 := by
 have h2 := h.len2
 unfold addT at e
 split at e
 ·subst e; simp at hr
 split at e
 ·subst e; simp at hr
 split at e
 ·subst e; simp at hr
 split at e
 ·subst e; simp at hr
 rename_i hv hh ha hc
 subst e
 have hv' : Ef s = true := by simpa using hv
 have hh' : Gz t p = true := by simpa using hh
 obtain ⟨y,hy,hyp⟩ := hasN_iff.mp hh'
 simp only [Bool.or_eq_true,decide_eq_true_eq,not_or] at hc
 have ha' : ∀ x ∈ t.nodes,x.parent = p → Dr x.name s = false := by
  intro x hx hp
  cases hb : Dr x.name s
  ·rfl
  ·exact absurd (List.any_eq_true.mpr ⟨x,hx,by simp [hp,hb]⟩) ha
 have hnext := h.next
 refine WfT.mk' (.snoc _ _ h.p ⟨.inl rfl,by simp,by simp,by simp,by simp⟩ ⟨hnext,hv',⟨y,hy,hyp⟩,ha'⟩) (by simp; omega) ?_ ?_ (by simp only; omega)
 ·intro x hx
  rcases List.mem_append.mp hx with hx | hx
  ·have := h.depth x hx
   unfold upT at this ⊢
   simp only
   have hlt := hnext x hx
   rw [Adt (by simp only; omega)]
   exact this
  ·simp at hx
   subst hx
   unfold upT
   simp only [List.reverse_append,List.reverse_cons,List.reverse_nil,List.nil_append,List.singleton_append]
   rw [upR,if_pos (by simp)]
   have := hc.1.1
   unfold upT at this
   simp; omega
 ·intro x hx
  simp only
  rcases List.mem_append.mp hx with hx | hx
  ·have := hnext x hx
   omega
  ·simp at hx
   subst hx
   simp only
   omega
end Go.Dm

/- Plain theory, part 6: nodes that are removed or replaced; made trees. -/
namespace Go.Dm
def AdJ (t : Af) (id : Int) : Af × Int :=
 if !Gz t id then (zT,4) else if id == 1 then (zT,9) else if decide (0 < (Jh t id).length) then (zT,6)
 else ({ nodes := t.nodes.filter (fun x => x.id != id),next := t.next },0)
theorem AgW {t : Af} (h : WfT t) (id : Int) : Rt t id = some (AdJ t id) := by
 apply Ok.eq
 have h2 := h.len2
 unfold Rt AdJ
 refine Ok.step (Zs h) ?_
 simp only [Bool.not_true,Bool.false_eq_true,if_false]
 refine Ok.step (Me h id) ?_
 refine Ok.ite (fun c => ?_) fun c => ?_
 ·rw [if_pos c]; exact Ok.ret rfl
 rw [if_neg (c := (!Gz t id) = true) (by rw [c]; simp)]
 have hp : Gz t id = true := by simpa using c
 refine Ok.ite (fun c => ?_) fun c => ?_
 ·rw [if_pos c]; exact Ok.ret rfl
 rw [if_neg (c := (id == 1) = true) (by rw [c]; simp)]
 refine Ok.step (Aal h id) ?_
 rw [if_pos hp]
 refine Ok.ite (fun c => ?_) fun c => ?_
 ·have := of_decide_eq_true c
  have : 0 < (Jh t id).length := by omega
  rw [if_pos (c := decide (0 < (Jh t id).length) = true) (by simp [this])]; exact Ok.ret rfl
 have := of_decide_eq_false c
 have : ¬ 0 < (Jh t id).length := by omega
 rw [if_neg (c := decide (0 < (Jh t id).length) = true) (by simp [this])]
 refine Ok.guard (by omega) ?_
 have e := Ik (p := fun x : An => x.id != id) (f := fun x : An => x) (xs := t.nodes) (s0 := []) (r := Sn t) (body := Sr id) (done := Sn t) (fun k x s n hs => by
  unfold Sr Oj
  rw [if_pos hs]) (fun _ => rfl) (by simp; omega)
 rw [e]
 refine Ok.ret ?_
 simp
theorem AiI {A : List An} {id k : Int} (hk : k ≠ id) (h : ∀ x ∈ A,x.parent ≠ id) : upR (A.filter (fun x => x.id != id)) k = upR A k := by
 induction A generalizing k with
 | nil => rfl
 | cons a r ih =>
  have hr : ∀ x ∈ r,x.parent ≠ id := fun x hx => h x (by simp [hx])
  rw [List.filter_cons]
  by_cases e : a.id = id
  ·rw [if_neg (by simp [e]),ih hk hr,upR,if_neg (by simp; omega)]
  ·rw [if_pos (by simp [e]),upR,upR]
   by_cases q : a.id = k
   ·rw [if_pos (by simp [q]),if_pos (by simp [q]),ih (h a (by simp)) hr]
   ·rw [if_neg (by simp [q]),if_neg (by simp [q]),ih hk hr]
theorem WfP.remove {L : List An} (h : WfP L) {id : Int} (h1 : id ≠ 1) (hk : ∀ x ∈ L,x.parent ≠ id) : WfP (L.filter (fun x => x.id != id)) := by
 induction h with
 | root x v r =>
  have : (x.id != id) = true := by simp [r.id]; omega
  simp only [List.filter_cons,this,if_true,List.filter_nil]
  exact .root x v r
 | snoc L x w v s ih =>
  have hw := ih fun y hy => hk y (by simp [hy])
  rw [List.filter_append]
  by_cases e : x.id = id
  ·have : [x].filter (fun x => x.id != id) = [] := by simp [e]
   rw [this,List.append_nil]
   exact hw
  ·have : [x].filter (fun x => x.id != id) = [x] := by simp [e]
   rw [this]
   refine .snoc _ x hw v ⟨fun y hy => s.lt y (List.mem_filter.mp hy).1,s.valid,?_,fun y hy => s.fresh y (List.mem_filter.mp hy).1⟩
   obtain ⟨y,hy,hyp⟩ := s.parent
   refine ⟨y,List.mem_filter.mpr ⟨hy,?_⟩,hyp⟩
   have := hk x (by simp)
   simp only [bne_iff_ne]
   omega
theorem AiH {t : Af} (h : WfT t) {id : Int} {r : Af × Int} (e : AdJ t id = r) (hr : r.2 = 0) : WfT r.1 := by
 have h2 := h.len2
 unfold AdJ at e
 split at e
 ·subst e; simp at hr
 split at e
 ·subst e; simp at hr
 split at e
 ·subst e; simp at hr
 rename_i hh h1 hk
 subst e
 have h1' : id ≠ 1 := by simpa using h1
 have hk' : ∀ x ∈ t.nodes,x.parent ≠ id := by
  intro x hx hp
  have hk : ¬ 0 < (Jh t id).length := by simpa using hk
  have : x.id ∈ Jh t id := by
   unfold Jh
   exact List.mem_map.mpr ⟨x,List.mem_filter.mpr ⟨hx,by simp [hp]⟩,rfl⟩
  have := List.length_pos_of_mem this
  omega
 refine WfT.mk' (h.p.remove h1' hk') (Nat.le_trans (List.length_filter_le _ _) h2) ?_ (fun x hx => h.next x (List.mem_filter.mp hx).1) h.nextLe
 intro x hx
 have hx' := List.mem_filter.mp hx
 have := h.depth x hx'.1
 unfold upT at this ⊢
 simp only
 rw [← List.filter_reverse,AiI (by simpa using hx'.2) (fun y hy => hk' y (by simpa using hy))]
 exact this
def Wq (x y : An) : An := if y.id == x.id then x else y
def setT (t : Af) (x : An) : Af := { nodes := t.nodes.map (Wq x),next := t.next }
theorem AaD (t : Af) (x : An) (hl : t.nodes.length ≤ 1000000) : Sy t x = some (setT t x) := by
 apply Ok.eq
 unfold Sy
 refine Ok.step (Tn t (by omega)) ?_
 refine Ok.while (fun s => ∃ m : Nat,s.2 = (m : Int) ∧ m ≤ t.nodes.length ∧ s.1 = (t.nodes.take m).map (Wq x) ++ t.nodes.drop m) (fun s => (((t.nodes.length : Nat) : Int) - s.2).toNat) ?_ ?_ ?_
 ·exact ⟨0,rfl,by omega,by simp⟩
 ·rw [Db]; simp only; omega
 rintro ⟨L,c⟩ n ⟨m,hc,hm,he⟩ hn
 simp only at hc he hn
 subst hc
 have hlen : L.length = t.nodes.length := by
  rw [he]; simp; omega
 unfold Abt Tk
 simp only
 rw [hlen]
 refine Ok.ite (fun c => ?_) fun c => ?_
 ·have hlt := of_decide_eq_true c
  have hlt' : m < t.nodes.length := by omega
  have em : Int.toNat (m : Int) = m := by omega
  rw [em]
  refine Ok.guard (by omega) ?_
  refine Ok.guard hlt' ?_
  have hw : w64 ((m : Int) + 1) = ((m + 1 : Nat) : Int) := by
   rw [Ay (by omega) (by omega)]; omega
  have hd : t.nodes.drop m = t.nodes[m] :: t.nodes.drop (m + 1) := List.drop_eq_getElem_cons hlt'
  have hg : L.getD m default = t.nodes[m] := by
   rw [he,hd,List.getD_eq_getElem?_getD,List.getElem?_append_right (by simp; omega)]
   have : m - (List.map (Wq x) (List.take m t.nodes)).length = 0 := by simp; omega
   rw [this]
   rfl
  have ht : (t.nodes.take (m + 1)).map (Wq x) ++ t.nodes.drop (m + 1) = (t.nodes.take m).map (Wq x) ++ Wq x t.nodes[m] :: t.nodes.drop (m + 1) := by
   have : t.nodes.take (m + 1) = t.nodes.take m ++ [t.nodes[m]] := by
    rw [List.take_add_one]; simp [hlt']
   rw [this,List.map_append,List.append_assoc]
   rfl
  have hml : (List.map (Wq x) (List.take m t.nodes)).length = m := by
   rw [List.length_map,List.length_take]; omega
  rw [hg,hw]
  refine Ok.ite (fun c => ?_) fun c => ?_
  ·refine Ok.guard (by omega) ?_
   refine Ok.guard hlt' ?_
   refine hn _ ⟨m + 1,rfl,by omega,?_⟩ (by simp only; omega)
   simp only
   rw [ht,he,hd,List.set_append_right _ _ (by omega),hml,Nat.sub_self,List.set_cons_zero,Wq,if_pos c]
  ·refine hn _ ⟨m + 1,rfl,by omega,?_⟩ (by simp only; omega)
   simp only
   rw [ht,he,hd]
   simp [Wq,c]
 ·have := of_decide_eq_false c
  obtain rfl : m = t.nodes.length := by omega
  refine Ok.ret ?_
  simp [he,setT]
theorem upR_map {A : List An} {f : An → An} {k : Int} (h : ∀ y ∈ A,(f y).id = y.id ∧ (f y).parent = y.parent) : upR (A.map f) k = upR A k := by
 induction A generalizing k with
 | nil => rfl
 | cons a r ih =>
  have h1 := h a (by simp)
  rw [List.map_cons,upR,upR,h1.1,h1.2,ih fun y hy => h y (by simp [hy]),ih fun y hy => h y (by simp [hy])]
theorem WfP.map {L : List An} (h : WfP L) {f : An → An} (hf : ∀ y ∈ L,(f y).id = y.id ∧ (f y).parent = y.parent ∧ (f y).name = y.name ∧ Rf (f y) ∧ (y.id = 1 → (f y).kind = 0)) : WfP (L.map f) := by
 induction h with
 | root x v r =>
  obtain ⟨h1,h2,h3,h4,h5⟩ := hf x (by simp)
  exact .root _ h4 ⟨by rw [h1,r.id],by rw [h2,r.parent],by rw [h3,r.name],h5 r.id⟩
 | snoc L x w v s ih =>
  have hw := ih fun y hy => hf y (by simp [hy])
  obtain ⟨h1,h2,h3,h4,h5⟩ := hf x (by simp)
  have hL : ∀ y ∈ L,(f y).id = y.id ∧ (f y).parent = y.parent ∧ (f y).name = y.name := fun y hy => by
   obtain ⟨a,b,c,_⟩ := hf y (by simp [hy])
   exact ⟨a,b,c⟩
  rw [List.map_append,List.map_cons,List.map_nil]
  refine .snoc _ _ hw h4 ⟨?_,by rw [h3]; exact s.valid,?_,?_⟩
  ·intro y hy
   obtain ⟨z,hz,rfl⟩ := List.mem_map.mp hy
   rw [(hL z hz).1,h1]
   exact s.lt z hz
  ·obtain ⟨z,hz,hzp⟩ := s.parent
   exact ⟨f z,List.mem_map.mpr ⟨z,hz,rfl⟩,by rw [(hL z hz).1,h2,hzp]⟩
  ·intro y hy
   obtain ⟨z,hz,rfl⟩ := List.mem_map.mp hy
   rw [(hL z hz).2.1,(hL z hz).2.2,h2,h3]
   exact s.fresh z hz
theorem WfT.map {t : Af} (h : WfT t) {f : An → An} (hf : ∀ y ∈ t.nodes,(f y).id = y.id ∧ (f y).parent = y.parent ∧ (f y).name = y.name ∧ Rf (f y) ∧ (y.id = 1 → (f y).kind = 0)) : WfT { nodes := t.nodes.map f,next := t.next } := by
 refine WfT.mk' (h.p.map hf) (by simp; exact h.len2) ?_ ?_ h.nextLe
 ·intro x hx
  obtain ⟨z,hz,rfl⟩ := List.mem_map.mp hx
  have := h.depth z hz
  unfold upT at this ⊢
  simp only
  rw [← List.map_reverse,upR_map (fun y hy => ⟨(hf y (by simpa using hy)).1,(hf y (by simpa using hy)).2.1⟩),(hf z hz).1]
  exact this
 ·intro x hx
  obtain ⟨z,hz,rfl⟩ := List.mem_map.mp hx
  simp only
  rw [(hf z hz).1]
  exact h.next z hz
theorem setT_wf {t : Af} (h : WfT t) {x y : An} (hy : y ∈ t.nodes) (h1 : x.id = y.id) (h2 : x.parent = y.parent) (h3 : x.name = y.name) (h4 : Rf x) (h5 : y.id = 1 → x.kind = 0) : WfT (setT t x) := by
 refine h.map fun z hz => ?_
 unfold Wq
 by_cases e : z.id = x.id
 ·obtain rfl : z = y := Afo h.sorted hz hy (by omega)
  rw [if_pos (by simp [e])]
  exact ⟨h1,h2,h3,h4,h5⟩
 ·rw [if_neg (by simpa using e)]
  refine ⟨rfl,rfl,rfl,h.p.val z hz,fun q => ?_⟩
  rcases h.p.par z hz with ⟨_,r⟩ | ⟨a,b,_⟩
  ·exact r.kind
  ·omega
def newT : Af := { nodes := [{ id := 1,parent := 0,name := ByteArray.empty,control := 0,kind := 0,owner := 0 }],next := 2 }
theorem Aii : Zk = some newT := rfl
theorem newT_wf : WfT newT := by
 refine WfT.mk' (.root _ ⟨.inl rfl,by simp,by simp,by simp,by simp⟩ ⟨rfl,rfl,AgI _,rfl⟩) (by simp [newT]) ?_ ?_ (by simp [newT])
 ·intro x hx
  have := Oe newT.nodes.reverse x.id
  simp [newT] at this
  simp [upT,newT]
  omega
 ·intro x hx
  simp [newT] at hx
  subst hx
  simp [newT]
theorem Tree_ok {d : Aq} (h : Bx d) (n : Int) (h0 : 0 ≤ n) (h1 : n ≤ 1000) : Ok (Mx d n) (fun r => WfT r.1 ∧ Bx r.2) := by
 unfold Mx
 refine Ok.step Aii ?_
 rw [Ay (by omega) (by omega)]
 refine Ok.bind (Gb h (n + 1) (by omega) (by omega)) fun r ⟨a1,a2,a3⟩ => ?_
 refine Ok.while (fun s => Bx s.1 ∧ WfT s.2.1 ∧ s.2.2 ≤ 2000) (fun s => s.2.2.toNat) ⟨a1,newT_wf,by simp only; omega⟩ (by rw [Db]; simp only; omega) ?_
 rintro ⟨d,t,c⟩ k ⟨b1,b2,b3⟩ hk
 simp only at b1 b2 b3 hk
 unfold Ss
 simp only
 refine Ok.ite (fun c1 => ?_) fun c1 => ?_
 ·have hc := of_decide_eq_true c1
  have l1 := b2.len1
  have l2 := b2.len2
  refine Ok.bind (Gb b1 _ (by omega) (by omega)) fun r2 ⟨q1,q2,q3⟩ => ?_
  refine Ok.guard ⟨q2,q3⟩ ?_
  refine Ok.bind (Name_ok q1) fun r3 ⟨u1,u2⟩ => ?_
  refine Ok.step (Aji b2 _ _) ?_
  have hw : w64 (c - 1) = c - 1 := Ay (by omega) (by omega)
  have hJ3 : ∀ y : Aq × Af,Bx y.1 → WfT y.2 → Ok (Hj (d,t,c) k y) (fun r => WfT r.1 ∧ Bx r.2) := by
   intro y hy1 hy2
   unfold Hj
   simp only
   rw [hw]
   exact hk _ ⟨hy1,hy2,by simp only; omega⟩ (by simp only; omega)
  have hJ4 : ∀ y : Af,WfT y → Ok (Je (d,t,c) k r3 y) (fun r => WfT r.1 ∧ Bx r.2) := by
   intro y hy
   unfold Je
   refine Ok.bind (Uq u1 6 (by omega)) fun r4 hr4 => ?_
   refine Ok.ite (fun _ => ?_) fun _ => ?_
   ·have y1 := hy.len1
    have y2 := hy.len2
    refine Ok.bind (Gb hr4 _ (by omega) (by omega)) fun r5 ⟨v1,v2,v3⟩ => ?_
    refine Ok.guard ⟨v2,v3⟩ ?_
    refine Ok.step (AgW hy _) ?_
    refine Ok.ite (fun c2 => ?_) fun _ => ?_
    ·exact hJ3 _ v1 (AiH hy rfl (by simpa using c2))
    ·exact hJ3 _ v1 hy
   ·exact hJ3 _ hr4 hy
  refine Ok.ite (fun c2 => ?_) fun _ => ?_
  ·exact hJ4 _ (addT_wf b2 rfl (by simpa using c2))
  ·exact hJ4 _ b2
 ·exact Ok.ret ⟨b2,b1⟩
end Go.Dm

/- Plain theory, part 7: hierarchies that Check accepts. -/
namespace Go.Dm
def zK : Au := { id := 0,process := 0,group := 0,user := 0 }
def Er (L : List Au) (id : Int) : Option Au := L.find? (fun x => x.id == id)
theorem Agc (L : List Au) (p : Int) (hl : L.length ≤ 1000000) : Ry L p = some ((Er L p).elim (zK,false) (fun x => (x,x.process == p))) := by
 unfold Ry
 rw [if_pos (by omega)]
 exact Hy (fun k x n => rfl) rfl
structure TaskV (h : Aa) (x : Au) : Prop where
 pos : 1 ≤ x.id
 grp : Gz h.tree x.group = true
 u1 : 0 ≤ x.user
 u2 : x.user ≤ 1048576
 ldr : ∃ p,Er h.tasks x.process = some p ∧ p.process = x.process ∧ p.user = x.user
structure WfH (h : Aa) : Prop where
 tree : WfT h.tree
 len : h.tasks.length ≤ 128
 n1 : 1 ≤ h.next
 n2 : h.next ≤ 2147483648
 sorted : h.tasks.Pairwise (fun a b => a.id < b.id)
 lt : ∀ x ∈ h.tasks,x.id < h.next
 val : ∀ x ∈ h.tasks,TaskV h x
theorem Ace (h : Aa) : Ok (Fn h) (fun b => b = true ↔ WfH h) := by
 have bad : ¬ WfH h → Ok (some false) (fun b => b = true ↔ WfH h) := fun hn => Ok.ret ⟨fun e => by simp at e,fun w => absurd w hn⟩
 unfold Fn
 refine Ok.bind (Xc h.tree) fun b hb => ?_
 unfold Ht
 refine Ok.ite (fun c => ?_) fun c => ?_
 ·have : ¬ WfT h.tree := fun w => by have := hb.mpr w; simp [this] at c
  exact bad fun w => this w.tree
 have wt : WfT h.tree := hb.mp (by simpa using c)
 refine Ok.ite (fun c => ?_) fun c => ?_
 ·have := of_decide_eq_true c
  exact bad fun w => by have := w.len; omega
 have hl : h.tasks.length ≤ 128 := by
  have := of_decide_eq_false c
  omega
 refine Ok.ite (fun c => ?_) fun c => ?_
 ·have := of_decide_eq_true c
  exact bad fun w => by have := w.n1; omega
 have hn1 := of_decide_eq_false c
 refine Ok.ite (fun c => ?_) fun c => ?_
 ·have := of_decide_eq_true c
  exact bad fun w => by have := w.n2; omega
 have hn2 := of_decide_eq_false c
 have loop : (∀ x ∈ h.tasks.getLast?,x.id < h.next) → Ok (if h.tasks.length ≤ 9223372036854775807 then Bf (Tp h) Yi h.tasks 0 () else none) (fun b => b = true ↔ WfH h) := by
  intro hlast
  refine Ok.guard (by omega) ?_
  refine Ok.range (fun pre _ => pre.Pairwise (fun a b => a.id < b.id) ∧ ∀ x ∈ pre,TaskV h x) (by simp) ?_ ?_
  ·intro pre x post s n he hI hn
   have hx : x ∈ h.tasks := by rw [he]; simp
   unfold Tp
   refine Ok.step (Agc h.tasks x.process (by omega)) ?_
   have hJt : ¬ WfH h → Ok (Ch n true) (fun b => b = true ↔ WfH h) := bad
   refine Ok.ite (fun c => ?_) fun c => ?_
   ·have := of_decide_eq_true c
    exact hJt fun w => by have := (w.val x hx).pos; omega
   have hpos := of_decide_eq_false c
   have tail : (∀ y ∈ pre,y.id < x.id) → Ok (Option.bind (Fo h.tree x.group) fun r51 => (if (!r51) then ((Ch n) true) else (if (decide (x.user < 0)) then ((Ch n) true) else (if (decide (x.user > 1048576)) then ((Ch n) true) else (if (!((Er h.tasks x.process).elim (zK,false) (fun y => (y,y.process == x.process))).2) then ((Ch n) true) else ((Ch n) (((Er h.tasks x.process).elim (zK,false) (fun y => (y,y.process == x.process))).1.user != x.user))))))) (fun b => b = true ↔ WfH h) := by
    intro hlt
    refine Ok.step (Me wt x.group) ?_
    refine Ok.ite (fun c => ?_) fun c => ?_
    ·exact hJt fun w => by have := (w.val x hx).grp; simp [this] at c
    have hg : Gz h.tree x.group = true := by simpa using c
    refine Ok.ite (fun c => ?_) fun c => ?_
    ·have := of_decide_eq_true c
     exact hJt fun w => by have := (w.val x hx).u1; omega
    have hu1 := of_decide_eq_false c
    refine Ok.ite (fun c => ?_) fun c => ?_
    ·have := of_decide_eq_true c
     exact hJt fun w => by have := (w.val x hx).u2; omega
    have hu2 := of_decide_eq_false c
    cases hk : Er h.tasks x.process with
    | none =>
     simp only [Option.elim_none]
     exact hJt fun w => by
      obtain ⟨p,hp,_⟩ := (w.val x hx).ldr
      rw [hk] at hp
      simp at hp
    | some p =>
     simp only [Option.elim_some]
     refine Ok.ite (fun c => ?_) fun c => ?_
     ·exact hJt fun w => by
       obtain ⟨q,hq,hq2,_⟩ := (w.val x hx).ldr
       rw [hk] at hq
       obtain rfl : p = q := by simpa using hq
       simp [hq2] at c
     have hp2 : p.process = x.process := by simpa using c
     unfold Ch
     refine Ok.ite (fun c => ?_) fun c => ?_
     ·refine bad fun w => ?_
      obtain ⟨q,hq,_,hq3⟩ := (w.val x hx).ldr
      rw [hk] at hq
      obtain rfl : p = q := by simpa using hq
      simp [hq3] at c
     have hp3 : p.user = x.user := by simpa using c
     refine hn () ⟨?_,?_⟩
     ·rw [List.pairwise_append]
      exact ⟨hI.1,by simp,fun a ha b hb => by simp at hb; subst hb; exact hlt a ha⟩
     ·intro y hy
      rcases List.mem_append.mp hy with hy | hy
      ·exact hI.2 y hy
      ·obtain rfl : y = x := by simpa using hy
       exact ⟨by omega,hg,by omega,by omega,p,hk,hp2,hp3⟩
   refine Ok.ite (fun c => ?_) fun c => ?_
   ·have hk := of_decide_eq_true c
    rcases Ji pre with rfl | ⟨pr,y,rfl⟩
    ·simp at hk
    have hw : w64 (((pr ++ [y]).length : Int) - 1) = (pr.length : Int) := by
     have : (pr ++ [y]).length ≤ h.tasks.length := by rw [he]; simp
     rw [Ay (by omega) (by omega)]
     simp
    have hle : pr.length < h.tasks.length := by rw [he]; simp
    have ey : h.tasks.getD (Int.toNat (pr.length : Int)) default = y := by
     rw [he,show Int.toNat (pr.length : Int) = pr.length by omega]
     exact Sj
    rw [hw,ey]
    refine Ok.guard (by omega) ?_
    refine Ok.ite (fun c => ?_) fun c => ?_
    ·have := of_decide_eq_true c
     refine hJt fun w => ?_
     have hs := w.sorted
     rw [he,List.pairwise_append] at hs
     have := hs.2.2 y (by simp) x (by simp)
     omega
    ·have hyx := of_decide_eq_false c
     refine tail fun z hz => ?_
     rcases List.mem_append.mp hz with hz | hz
     ·have := hI.1
      rw [List.pairwise_append] at this
      have := this.2.2 z hz y (by simp)
      omega
     ·obtain rfl : z = y := by simpa using hz
      omega
   ·have hk := of_decide_eq_false c
    have : pre = [] := List.length_eq_zero_iff.mp (by omega)
    subst this
    exact tail (by simp)
  ·intro _ hI
   refine Ok.ret ⟨fun _ => ⟨wt,hl,by omega,by omega,hI.1,?_,hI.2⟩,fun _ => rfl⟩
   intro x hx
   rcases Ji h.tasks with e | ⟨P,y,e⟩
   ·rw [e] at hx; simp at hx
   ·have hy := hlast y (by rw [e]; simp)
    have hp := hI.1
    rw [e] at hp hx
    rw [List.pairwise_append] at hp
    rcases List.mem_append.mp hx with hx | hx
    ·have := hp.2.2 x hx y (by simp)
     omega
    ·obtain rfl : x = y := by simpa using hx
     exact hy
 refine Ok.ite (fun c => ?_) fun c => ?_
 ·have hpos := of_decide_eq_true c
  have hw : w64 ((h.tasks.length : Int) - 1) = ((h.tasks.length - 1 : Nat) : Int) := by
   rw [Ay (by omega) (by omega)]
   omega
  rw [hw]
  refine Ok.guard (by omega) ?_
  have : Int.toNat ((h.tasks.length - 1 : Nat) : Int) = h.tasks.length - 1 := by omega
  rw [this,Ij (by omega)]
  refine Ok.ite (fun c => ?_) fun c => ?_
  ·have := of_decide_eq_true c
   exact bad fun w => by have := w.lt _ (List.getElem_mem (show h.tasks.length - 1 < h.tasks.length by omega)); omega
  ·have := of_decide_eq_false c
   refine loop fun x hx => ?_
   rw [List.getLast?_eq_getElem?] at hx
   have e : h.tasks[h.tasks.length - 1]? = some h.tasks[h.tasks.length - 1] := List.getElem?_eq_getElem (by omega)
   rw [e] at hx
   obtain rfl : h.tasks[h.tasks.length - 1] = x := by simpa using hx
   omega
 ·have := of_decide_eq_false c
  have e : h.tasks = [] := List.length_eq_zero_iff.mp (by omega)
  exact loop (by rw [e]; simp)
theorem Hv {h : Aa} (w : WfH h) : Fn h = some true := by
 obtain ⟨b,hb,e⟩ := Ace h
 rw [hb,e.mpr w]
theorem Ys {h : Aa} (w : ¬ WfH h) : Fn h = some false := by
 obtain ⟨b,hb,e⟩ := Ace h
 cases b
 ·exact hb
 ·exact absurd (e.mp rfl) w
theorem Rv {h : Aa} (w : WfH h) (id : Int) : Gu h id = some ((Er h.tasks id).elim (zK,false) (fun x => (x,true))) := by
 unfold Gu
 rw [Hv w]
 have := w.len
 simp only [Option.bind_some,Bool.not_true,Bool.false_eq_true,if_false]
 rw [if_pos (by omega)]
 exact Hy (fun k x n => rfl) rfl
theorem Aie {h : Aa} (w : ¬ WfH h) (id : Int) : Gu h id = some (zK,false) := by
 unfold Gu
 rw [Ys w]
 rfl
def tasksK (h : Aa) (g : Int) : List Int := (h.tasks.filter (fun x => x.group == g)).map (·.id)
theorem Aht {h : Aa} (w : WfH h) (g : Int) : Hs h g = some (tasksK h g) := by
 unfold Hs
 rw [Hv w]
 have := w.len
 simp only [Option.bind_some,Bool.not_true,Bool.false_eq_true,if_false]
 rw [if_pos (by omega)]
 refine (Ik (p := fun x : Au => x.group == g) (f := fun x : Au => x.id) (r := some) ?_ (fun _ => rfl) (by simp; omega)).trans (by simp [tasksK])
 intro k x s n hs
 unfold Zl Qn
 rw [if_pos hs]
theorem AhJ {h : Aa} (w : ¬ WfH h) (g : Int) : Hs h g = some [] := by
 unfold Hs
 rw [Ys w]
 rfl
theorem Aec {L : List Au} (h : L.Pairwise (fun a b => a.id < b.id)) {x y : Au} (hx : x ∈ L) (hy : y ∈ L) (e : x.id = y.id) : x = y := by
 induction L with
 | nil => simp at hx
 | cons a r ih =>
  rw [List.pairwise_cons] at h
  rcases List.mem_cons.mp hx with ex | hx' <;> rcases List.mem_cons.mp hy with ey | hy'
  ·rw [ex,ey]
  ·have := h.1 y hy'; rw [ex] at e; omega
  ·have := h.1 x hx'; rw [ey] at e; omega
  ·exact ih h.2 hx' hy'
theorem Tc {L : List Au} {id : Int} {x : Au} (h : Er L id = some x) : x ∈ L ∧ x.id = id :=
 ⟨List.mem_of_find?_eq_some h,by have := List.find?_some h; simpa using this⟩
theorem AdN {L : List Au} (hs : L.Pairwise (fun a b => a.id < b.id)) {x : Au} (h : x ∈ L) : Er L x.id = some x := by
 unfold Er
 cases hf : L.find? (fun y => y.id == x.id) with
 | none =>
  rw [List.find?_eq_none] at hf
  have := hf x h
  simp at this
 | some y =>
  have h1 := List.mem_of_find?_eq_some hf
  have h2 := List.find?_some hf
  rw [Aec hs h1 h (by simpa using h2)]
theorem getK_iff {L : List Au} (hs : L.Pairwise (fun a b => a.id < b.id)) {id : Int} {x : Au} : Er L id = some x ↔ x ∈ L ∧ x.id = id :=
 ⟨Tc,fun ⟨h1,h2⟩ => by rw [← h2]; exact AdN hs h1⟩
end Go.Dm

/- Plain theory, part 8: tasks that come, go and move. -/
namespace Go.Dm
theorem Aez {α : Type} {M : List α} {m : Nat} {d : α} (h : m < M.length) : M.set m (M.getD m d) = M := by
 rw [Ij h]
 exact List.set_getElem_self h
theorem AgK {α R : Type} {f : α → α} {L : List α} {d : α} {body : List α × Int → (List α × Int → Option R) → Option R} {ret : List α → Option R} (hl : L.length ≤ 1000000)
  (hb : ∀ (M : List α) (m : Nat) n,M.length = L.length → m < L.length → body (M,(m : Int)) n = n (M.set m (f (M.getD m d)),((m + 1 : Nat) : Int)))
  (hr : ∀ (M : List α) n,M.length = L.length → body (M,(L.length : Int)) n = ret M) : whileO body Dz (L,0) = ret (L.map f) := by
 have key : ∀ (r m F : Nat),m + r = L.length → r < F → whileO body F ((L.take m).map f ++ L.drop m,(m : Int)) = ret (L.map f) := by
  intro r
  induction r with
  | zero =>
   intro m F hm hF
   obtain ⟨F,rfl⟩ : ∃ G,F = G + 1 := ⟨F - 1,by omega⟩
   obtain rfl : m = L.length := by omega
   rw [whileO,hr _ _ (by simp)]
   simp
  | succ r ih =>
   intro m F hm hF
   obtain ⟨F,rfl⟩ : ∃ G,F = G + 1 := ⟨F - 1,by omega⟩
   have hlt : m < L.length := by omega
   rw [whileO,hb _ _ _ (by simp; omega) hlt]
   have hd : L.drop m = L[m] :: L.drop (m + 1) := List.drop_eq_getElem_cons hlt
   have hml : (List.map f (List.take m L)).length = m := by
    rw [List.length_map,List.length_take]; omega
   have hg : ((L.take m).map f ++ L.drop m).getD m d = L[m] := by
    rw [hd,List.getD_eq_getElem?_getD,List.getElem?_append_right (by omega),hml,Nat.sub_self]
    rfl
   have ht : (L.take (m + 1)).map f ++ L.drop (m + 1) = (L.take m).map f ++ f L[m] :: L.drop (m + 1) := by
    have : L.take (m + 1) = L.take m ++ [L[m]] := by
     rw [List.take_add_one]; simp [hlt]
    rw [this,List.map_append,List.append_assoc]
    rfl
   rw [hg,hd,List.set_append_right _ _ (by omega),hml,Nat.sub_self,List.set_cons_zero,← ht]
   exact ih (m + 1) F (by omega) (by omega)
 have := key L.length 0 Dz (by omega) (by rw [Db]; omega)
 simpa using this
def zH : Aa := { tree := zT,tasks := [],next := 0 }
theorem Ul (h : Aa) (h1 : h.tree.nodes.length ≤ 1000000) (h2 : h.tasks.length ≤ 1000000) : Nw h = some h := by
 unfold Nw
 rw [Tn _ (by omega),Option.bind_some,if_pos (by omega)]
def addK (h : Aa) (x : Au) : Aa × Int × Int :=
 if decide (128 ≤ h.tasks.length) || decide (2147483647 < h.next) then (zH,0,7)
 else ({ tree := h.tree,tasks := h.tasks ++ [{ id := h.next,process := if x.process == 0 then h.next else x.process,group := x.group,user := x.user }],next := h.next + 1 },h.next,0)
theorem Afq {h : Aa} (w : WfH h) (x : Au) : Va h x = some (addK h x) := by
 have hl := w.len
 have h2 := w.tree.len2
 have hn := w.n1
 have hm := w.n2
 apply Ok.eq
 unfold Va addK
 refine Ok.ite (fun c => ?_) fun c => ?_
 ·simp only [Bool.or_eq_true,decide_eq_true_eq] at c
  rw [if_pos]
  ·exact Ok.ret rfl
  ·simp only [Bool.or_eq_true,decide_eq_true_eq]
   omega
 ·simp only [Bool.or_eq_false_iff,decide_eq_false_iff_not] at c
  rw [if_neg]
  ·refine Ok.step (Ul h (by omega) (by omega)) ?_
   unfold Ue
   rw [Ay (by omega) (by omega)]
   refine Ok.ite (fun c => ?_) fun c => ?_
   ·rw [if_pos (c := (x.process == 0) = true) c]
    exact Ok.guard (by omega) (Ok.ret rfl)
   ·rw [if_neg (c := (x.process == 0) = true) (by rw [c]; simp)]
    exact Ok.guard (by omega) (Ok.ret rfl)
  ·simp only [Bool.or_eq_true,decide_eq_true_eq]
   omega
theorem AaQ {L M : List Au} {p : Int} : Er (L ++ M) p = (Er L p).or (Er M p) := by
 unfold Er
 rw [List.find?_append]
theorem addK_wf {h : Aa} (w : WfH h) {x : Au} (hg : Gz h.tree x.group = true) (u1 : 0 ≤ x.user) (u2 : x.user ≤ 1048576) (hp : x.process = 0 ∨ x ∈ h.tasks) {r : Aa × Int × Int} (e : addK h x = r) (hr : r.2.2 = 0) : WfH r.1 := by
 have hl := w.len
 have hn := w.n1
 have hm := w.n2
 unfold addK at e
 split at e
 ·subst e; simp at hr
 rename_i hc
 simp only [Bool.or_eq_true,decide_eq_true_eq,not_or] at hc
 subst e
 have hlt := w.lt
 refine ⟨w.tree,by simp; omega,by simp only; omega,by simp only; omega,?_,?_,?_⟩
 ·rw [List.pairwise_append]
  exact ⟨w.sorted,by simp,fun a ha b hb => by simp at hb; subst hb; exact hlt a ha⟩
 ·intro y hy
  simp only
  rcases List.mem_append.mp hy with hy | hy
  ·have := hlt y hy
   omega
  ·simp at hy; subst hy; simp only; omega
 ·intro y hy
  rcases List.mem_append.mp hy with hy | hy
  ·have v := w.val y hy
   obtain ⟨p,q1,q2,q3⟩ := v.ldr
   exact ⟨v.pos,v.grp,v.u1,v.u2,p,by simp only; rw [AaQ,q1]; rfl,q2,q3⟩
  ·rw [List.mem_singleton] at hy
   subst hy
   refine ⟨by simp only; omega,hg,u1,u2,?_⟩
   simp only
   have hq : (x.process = 0 ∧ (if (x.process == 0) = true then h.next else x.process) = h.next) ∨ (x.process ≠ 0 ∧ (if (x.process == 0) = true then h.next else x.process) = x.process) := by
    by_cases h0 : x.process = 0
    ·exact .inl ⟨h0,by rw [if_pos (by simp [h0])]⟩
    ·exact .inr ⟨h0,by rw [if_neg (by simpa using h0)]⟩
   generalize (if (x.process == 0) = true then h.next else x.process) = q at hq
   rcases hq with ⟨h0,rfl⟩ | ⟨h0,rfl⟩
   ·refine ⟨{ id := h.next,process := h.next,group := x.group,user := x.user },?_,rfl,rfl⟩
    rw [AaQ]
    have : Er h.tasks h.next = none := by
     unfold Er
     rw [List.find?_eq_none]
     intro z hz
     have := hlt z hz
     simp; omega
    rw [this]
    simp [Er]
   ·have v := w.val x (by rcases hp with h | h; exact absurd h h0; exact h)
    obtain ⟨p,q1,q2,q3⟩ := v.ldr
    exact ⟨p,by rw [AaQ,q1]; rfl,q2,q3⟩
def AfD (h : Aa) (g u : Int) : Aa × Int × Int :=
 if decide (u < 0) || decide (1048576 < u) then (zH,0,1) else if !Gz h.tree g then (zH,0,4) else addK h { id := 0,process := 0,group := g,user := u }
theorem AhB {h : Aa} (w : WfH h) (g u : Int) : Tq h g u = some (AfD h g u) := by
 apply Ok.eq
 unfold Tq AfD
 refine Ok.step (Hv w) ?_
 simp only [Bool.not_true,Bool.false_eq_true,if_false]
 unfold Mt
 by_cases h1 : u < 0
 ·simp only [h1,decide_true,if_true,Bool.true_or]
  exact Ok.ret rfl
 by_cases h2 : u > 1048576
 ·have : 1048576 < u := by omega
  simp only [h2,decide_true,if_true,Bool.or_true,ite_self]
  exact Ok.ret rfl
 ·have h3 : ¬ 1048576 < u := by omega
  simp only [h1,h2,decide_false,Bool.or_self,Bool.false_eq_true,if_false]
  refine Ok.step (Me w.tree g) ?_
  refine Ok.ite (fun c => ?_) fun c => ?_
  ·rw [if_pos c]; exact Ok.ret rfl
  ·rw [if_neg (c := (!Gz h.tree g) = true) (by rw [c]; simp)]
   refine Ok.step (Afq w _) (Ok.ret rfl)
theorem spawnK_wf {h : Aa} (w : WfH h) {g u : Int} {r : Aa × Int × Int} (e : AfD h g u = r) (hr : r.2.2 = 0) : WfH r.1 := by
 unfold AfD at e
 split at e
 ·subst e; simp at hr
 split at e
 ·subst e; simp at hr
 rename_i h1 h2
 simp only [Bool.or_eq_true,decide_eq_true_eq,not_or] at h1
 exact addK_wf w (by simpa using h2) (by simp only; omega) (by simp only; omega) (.inl rfl) e hr
def Afv (h : Aa) (k : Int) : Aa × Int × Int := (Er h.tasks k).elim (zH,0,4) (addK h)
theorem AhN {h : Aa} (w : WfH h) (k : Int) : Tw h k = some (Afv h k) := by
 apply Ok.eq
 unfold Tw Afv
 refine Ok.step (Hv w) ?_
 simp only [Bool.not_true,Bool.false_eq_true,if_false]
 refine Ok.step (Rv w k) ?_
 cases Er h.tasks k with
 | none => exact Ok.ret rfl
 | some x =>
  simp only [Option.elim_some,Bool.not_true,Bool.false_eq_true,if_false]
  exact Ok.step (Afq w _) (Ok.ret rfl)
theorem cloneK_wf {h : Aa} (w : WfH h) {k : Int} {r : Aa × Int × Int} (e : Afv h k = r) (hr : r.2.2 = 0) : WfH r.1 := by
 unfold Afv at e
 cases hk : Er h.tasks k with
 | none => rw [hk] at e; subst e; simp at hr
 | some x =>
  rw [hk] at e
  obtain ⟨hx,_⟩ := Tc hk
  have v := w.val x hx
  exact addK_wf w v.grp v.u1 v.u2 (.inr hx) e hr
def exitK (h : Aa) (k : Int) : Aa × Int :=
 (Er h.tasks k).elim (zH,4) fun _ => ({ tree := h.tree,tasks := h.tasks.filter (fun x => x.id != k && x.process != k),next := h.next },0)
theorem Aio {h : Aa} (w : WfH h) (k : Int) : Wn h k = some (exitK h k) := by
 have hl := w.len
 have h2 := w.tree.len2
 apply Ok.eq
 unfold Wn exitK
 refine Ok.step (Hv w) ?_
 simp only [Bool.not_true,Bool.false_eq_true,if_false]
 refine Ok.step (Rv w k) ?_
 cases Er h.tasks k with
 | none => exact Ok.ret rfl
 | some x =>
  simp only [Option.elim_some,Bool.not_true,Bool.false_eq_true,if_false]
  refine Ok.step (Tn _ (by omega)) ?_
  refine Ok.guard (by omega) ?_
  have e := Ik (p := fun x : Au => x.id != k && x.process != k) (f := fun x : Au => x) (xs := h.tasks) (s0 := []) (r := Vs h h.tree) (body := Vo k) (done := Vs h h.tree) (fun k x s n hs => by
   unfold Vo Sa
   rw [if_pos hs]) (fun _ => rfl) (by simp; omega)
  rw [e]
  refine Ok.ret ?_
  simp
theorem exitK_wf {h : Aa} (w : WfH h) {k : Int} {r : Aa × Int} (e : exitK h k = r) (hr : r.2 = 0) : WfH r.1 := by
 unfold exitK at e
 cases hk : Er h.tasks k with
 | none => rw [hk] at e; subst e; simp at hr
 | some x =>
  rw [hk] at e
  subst e
  have hs : (h.tasks.filter (fun x => x.id != k && x.process != k)).Pairwise (fun a b => a.id < b.id) := w.sorted.sublist List.filter_sublist
  refine ⟨w.tree,Nat.le_trans (List.length_filter_le _ _) w.len,w.n1,w.n2,hs,fun y hy => w.lt y (List.mem_filter.mp hy).1,fun y hy => ?_⟩
  obtain ⟨hy,hc⟩ := List.mem_filter.mp hy
  have v := w.val y hy
  obtain ⟨p,q1,q2,q3⟩ := v.ldr
  obtain ⟨m1,m2⟩ := Tc q1
  simp only [Bool.and_eq_true,bne_iff_ne] at hc
  refine ⟨v.pos,v.grp,v.u1,v.u2,p,?_,q2,q3⟩
  refine (getK_iff hs).mpr ⟨List.mem_filter.mpr ⟨m1,?_⟩,m2⟩
  simp only [Bool.and_eq_true,bne_iff_ne]
  omega
def putK (k g : Int) (y : Au) : Au := if y.id == k then { id := y.id,process := y.process,group := g,user := y.user } else y
def Afu (h : Aa) (k g : Int) : Aa × Int :=
 if (Er h.tasks k).isSome && Gz h.tree g then ({ tree := h.tree,tasks := h.tasks.map (putK k g),next := h.next },0) else (zH,4)
theorem AhF {h : Aa} (w : WfH h) (k g : Int) : Tj h k g = some (Afu h k g) := by
 have hl := w.len
 have h2 := w.tree.len2
 apply Ok.eq
 unfold Tj Afu
 refine Ok.step (Hv w) ?_
 simp only [Bool.not_true,Bool.false_eq_true,if_false]
 refine Ok.step (Rv w k) ?_
 cases hk : Er h.tasks k with
 | none => exact Ok.ret rfl
 | some x =>
  simp only [Option.elim_some,Bool.not_true,Bool.false_eq_true,if_false,Option.isSome_some,Bool.true_and]
  refine Ok.step (Me w.tree g) ?_
  unfold Py
  refine Ok.ite (fun c => ?_) fun c => ?_
  ·rw [if_neg (by simpa using c)]; exact Ok.ret rfl
  ·rw [if_pos (c := Gz h.tree g = true) (by simpa using c)]
   refine Ok.step (Ul h (by omega) (by omega)) ?_
   have e := AgK (f := putK k g) (L := h.tasks) (d := default) (body := Qm k g h) (ret := fun M => some (({ tree := h.tree,tasks := M,next := h.next } : Aa),0)) (by omega) (fun M m n hM hm => by
    unfold Qm Qt
    simp only
    have em : Int.toNat (m : Int) = m := by omega
    rw [em,if_pos (by simp; omega),if_pos (by omega),if_pos (by omega),Ay (by omega) (by omega)]
    have ew : (m : Int) + 1 = ((m + 1 : Nat) : Int) := by omega
    rw [ew]
    by_cases hc : (M.getD m default).id = k
    ·rw [if_pos (by rw [hc]; simp),if_pos (by omega),if_pos (by omega),putK,if_pos (by rw [hc]; simp)]
    ·have hc' : ((M.getD m default).id == k) = false := by simpa using hc
     rw [if_neg (by rw [hc']; simp),putK,if_neg (by rw [hc']; simp),Aez (by omega)]) (fun M n hM => by
    unfold Qm
    simp only
    rw [hM,if_neg (by simp)])
   rw [e]
   exact Ok.ret rfl
theorem Lv (k g : Int) (y : Au) : (putK k g y).id = y.id ∧ (putK k g y).process = y.process ∧ (putK k g y).user = y.user := by
 unfold putK
 split <;> exact ⟨rfl,rfl,rfl⟩
theorem getK_map {L : List Au} {f : Au → Au} (hf : ∀ y ∈ L,(f y).id = y.id) {p : Int} : Er (L.map f) p = (Er L p).map f := by
 induction L with
 | nil => rfl
 | cons a r ih =>
  unfold Er at *
  rw [List.map_cons,List.find?_cons,List.find?_cons,hf a (by simp)]
  cases (a.id == p)
  ·exact ih fun y hy => hf y (by simp [hy])
  ·rfl
theorem placeK_wf {h : Aa} (w : WfH h) {k g : Int} {r : Aa × Int} (e : Afu h k g = r) (hr : r.2 = 0) : WfH r.1 := by
 unfold Afu at e
 split at e
 case isFalse => subst e; simp at hr
 rename_i hc
 subst e
 simp only [Bool.and_eq_true] at hc
 refine ⟨w.tree,by simp; exact w.len,w.n1,w.n2,?_,?_,?_⟩
 ·rw [List.pairwise_map]
  refine w.sorted.imp fun h => ?_
  rw [(Lv k g _).1,(Lv k g _).1]
  exact h
 ·intro y hy
  obtain ⟨z,hz,rfl⟩ := List.mem_map.mp hy
  rw [(Lv k g _).1]
  exact w.lt z hz
 ·intro y hy
  obtain ⟨z,hz,rfl⟩ := List.mem_map.mp hy
  have v := w.val z hz
  obtain ⟨p,q1,q2,q3⟩ := v.ldr
  refine ⟨by rw [(Lv k g _).1]; exact v.pos,?_,by rw [(Lv k g _).2.2]; exact v.u1,by rw [(Lv k g _).2.2]; exact v.u2,putK k g p,?_,?_,?_⟩
  ·unfold putK
   split
   ·exact hc.2
   ·exact v.grp
  ·simp only
   rw [getK_map (fun y _ => (Lv k g y).1),(Lv k g _).2.1,q1]
   rfl
  ·rw [(Lv k g _).2.1,(Lv k g _).2.1,q2]
  ·rw [(Lv k g _).2.2,(Lv k g _).2.2,q3]
end Go.Dm

/- Plain theory, part 9: made hierarchies. -/
namespace Go.Dm
abbrev Tot {α : Type} (m : Option α) : Prop := Ok m (fun _ => True)
theorem Eu (t : Af) (id : Int) : Tot (Df t id) := by
 by_cases h : WfT t
 ·exact Ok.of_eq (Oy h id) trivial
 ·exact Ok.of_eq (AaN h id) trivial
theorem AhK (t : Af) (id : Int) : Tot (Fo t id) := by
 unfold Fo
 exact Ok.bind (Eu t id) fun _ _ => Ok.ret trivial
theorem AcJ (t : Af) (id : Int) : (Jh t id).length ≤ t.nodes.length := by
 unfold Jh
 rw [List.length_map]
 exact List.length_filter_le _ _
theorem Xg (t : Af) (id : Int) : Ok (Hh t id) (fun l => l.length ≤ 64) := by
 by_cases h : WfT t
 ·refine Ok.of_eq (Aal h id) ?_
  have := AcJ t id
  have := h.len2
  split
  ·omega
  ·simp
 ·unfold Hh
  refine Ok.step (Afk h id) ?_
  exact Ok.ret (by simp)
theorem Aip (t : Af) (id : Int) : (ancN t id).length ≤ t.nodes.length := by
 unfold ancN
 have := Oe t.nodes.reverse id
 simp at this
 split
 ·exact this
 ·simp
theorem AcP (t : Af) (id : Int) : Ok (Fv t id) (fun l => l.length ≤ 64) := by
 by_cases h : WfT t
 ·refine Ok.of_eq (Od h id) ?_
  have := Aip t id
  have := h.len2
  omega
 ·unfold Fv
  refine Ok.step (Afk h id) ?_
  exact Ok.ret (by simp)
theorem Aci (h : Aa) (id : Int) : Tot (Gu h id) := by
 by_cases w : WfH h
 ·exact Ok.of_eq (Rv w id) trivial
 ·exact Ok.of_eq (Aie w id) trivial
theorem Re (h : Aa) (id : Int) : Tot (Hs h id) := by
 by_cases w : WfH h
 ·exact Ok.of_eq (Aht w id) trivial
 ·exact Ok.of_eq (AhJ w id) trivial
theorem Ta {α β : Type} {body : Nat → α → Unit → (Unit → Option β) → Option β} {done : Unit → Option β} {xs : List α} (hb : ∀ k x n,Tot (n ()) → Tot (body k x () n)) (hd : Tot (done ())) : Tot (Bf body done xs 0 ()) :=
 Ok.range (fun _ _ => True) trivial (fun _ _ _ _ _ _ _ hn => hb _ _ _ (hn () trivial)) (fun _ _ => hd)
theorem Afr (t : Af) (id : Int) : Tot (Sh t id) := by
 unfold Sh
 refine Ok.bind (Eu _ _) fun _ _ => Ok.ite (fun _ => Ok.ret trivial) fun _ => ?_
 exact Ok.bind (Eu _ _) fun _ _ => Ok.ite (fun _ => Ok.ret trivial) fun _ => Ok.ret trivial
theorem Wa (t : Af) (id : Int) : Tot (Kx t id) := by
 unfold Kx
 have hJ : ∀ r y,Tot (Iz r y) := fun r y => by
  unfold Iz Lc
  exact Ok.ite (fun _ => Ok.ret trivial) fun _ => Ok.ret trivial
 refine Ok.bind (Eu _ _) fun _ _ => Ok.ite (fun _ => Ok.ret trivial) fun _ => Ok.ite (fun _ => ?_) fun _ => hJ _ _
 exact Ok.bind (Afr _ _) fun _ _ => hJ _ _
theorem Acc (h : Aa) : Ok (Rh h) (fun b => b = true → WfH h) := by
 unfold Rh
 by_cases w : WfH h
 ·have := w.tree.len2
  refine Ok.step (Hv w) (Ok.guard (by omega) ?_)
  refine Ok.mono (P := fun _ => True) ?_ fun _ _ _ => w
  refine Ta (fun k x n hn => ?_) (Ok.ret trivial)
  unfold Zr
  have hJ : ∀ b,Tot (Jt n b) := fun b => by
   unfold Jt
   exact Ok.ite (fun _ => Ok.ret trivial) fun _ => hn
  refine Ok.bind (Wa _ _) fun _ _ => Ok.ite (fun _ => hJ _) fun _ => Ok.ite (fun _ => Ok.ite (fun _ => ?_) fun _ => hJ _) fun _ => hJ _
  exact Ok.bind (Re _ _) fun _ _ => hJ _
 ·exact Ok.step (Ys w) (Ok.ret fun e => by simp at e)
theorem Pu (t : Af) (id : Int) : Tot (Ks t id) := by
 unfold Ks
 refine Ok.bind (AcP _ _) fun l hl => Ok.guard (by omega) ?_
 refine Ta (fun k x n hn => ?_) (Ok.ret trivial)
 unfold Wx
 exact Ok.bind (Eu _ _) fun _ _ => Ok.ite (fun _ => Ok.ret trivial) fun _ => hn
theorem Ti (t : Af) (id : Int) (b : Bool) : Tot (Ml t id b) := by
 unfold Ml
 refine Ok.ite (fun _ => Ok.ret trivial) fun _ => ?_
 refine Ok.bind (Xg _ _) fun l hl => Ok.guard (by omega) ?_
 refine Ta (fun k x n hn => ?_) (Ok.ret trivial)
 unfold AaO
 exact Ok.bind (Eu _ _) fun _ _ => Ok.ite (fun _ => Ok.ret trivial) fun _ => hn
theorem Age {t : Af} (w : WfT t) : ∀ (n : Nat) (id : Int),id.toNat < n → Tot (Kn n t id) := by
 intro n
 induction n with
 | zero => intro id h; omega
 | succ n ih =>
  intro id hlt
  unfold Kn Qx
  refine Ok.step (Oy w id) ?_
  cases hg : Um t id with
  | none => exact Ok.ret trivial
  | some x =>
   obtain ⟨hx,hxi⟩ := Vx hg
   simp only [Option.elim_some,Bool.not_true,Bool.false_eq_true,if_false]
   refine Ok.ite (fun _ => Ok.ret trivial) fun _ => ?_
   refine Ok.step (Oy w x.parent) ?_
   cases hp : Um t x.parent with
   | none => exact Ti t id false
   | some p =>
    obtain ⟨hpm,hpi⟩ := Vx hp
    simp only [Option.elim_some,if_true]
    refine Ok.ite (fun _ => Ti _ _ _) fun _ => ?_
    refine Ok.bind (ih p.id ?_) fun _ _ => Ti _ _ _
    have g1 := w.p.ge1 p hpm
    rcases w.p.par x hx with ⟨_,r⟩ | ⟨a,b,_⟩
    ·have := r.parent; omega
    ·omega
theorem Oh (t : Af) (id : Int) : Tot (Mf t id) := by
 by_cases w : WfT t
 ·by_cases hid : id.toNat < Dz
  ·exact Age w Dz id hid
  ·unfold Mf
   rw [Db] at *
   unfold Kn Qx
   refine Ok.step (Oy w id) ?_
   cases hg : Um t id with
   | none => exact Ok.ret trivial
   | some x =>
    obtain ⟨hx,hxi⟩ := Vx hg
    have := w.next x hx
    have := w.nextLe
    omega
 ·unfold Mf
  rw [Db]
  unfold Kn Qx
  exact Ok.step (AaN w id) (Ok.ret trivial)
theorem Nc (h : Aa) : Ok (Kv h) (fun b => b = true → WfH h) := by
 unfold Kv
 refine Ok.bind (Acc h) fun b hb => ?_
 refine Ok.ite (fun _ => Ok.ret fun e => by simp at e) fun c => ?_
 have w : WfH h := hb (by simpa using c)
 have := w.len
 have := w.tree.len2
 refine Ok.mono (P := fun _ => True) ?_ fun _ _ _ => w
 refine Ok.guard (by omega) (Ta (fun k x n hn => ?_) ?_)
 ·unfold AaE
  refine Ok.bind (Aci _ _) fun _ _ => Ok.bind (Pu _ _) fun _ _ => Ok.bind (Pu _ _) fun _ _ => ?_
  exact Ok.ite (fun _ => Ok.ret trivial) fun _ => hn
 ·unfold AaC
  refine Ok.guard (by omega) (Ta (fun k x n hn => ?_) (Ok.ret trivial))
  have h18 : ∀ b,Tot (Jm n b) := fun b => by
   unfold Jm
   exact Ok.ite (fun _ => Ok.ret trivial) fun _ => hn
  have h17 : ∀ r b,Tot (Ll h x n r b) := fun r b => by
   unfold Ll
   refine Ok.ite (fun _ => Ok.ret trivial) fun _ => Ok.ite (fun _ => Ok.ite (fun _ => Ok.ite (fun _ => h18 _) fun _ => ?_) fun _ => ?_) fun _ => h18 _
   ·exact Ok.bind (Oh _ _) fun _ _ => h18 _
   ·exact Ok.bind (Oh _ _) fun _ _ => h18 _
  unfold AaF
  refine Ok.bind (Eu _ _) fun _ _ => Ok.bind (Oh _ _) fun _ _ => ?_
  refine Ok.ite (fun _ => Ok.ite (fun _ => h17 _ _) fun _ => ?_) fun _ => h17 _ _
  exact Ok.bind (Re _ _) fun _ _ => h17 _ _
theorem Agv (h : Aa) (id a d : Int) : Tot (Ud h id a d) := by
 unfold Ud
 refine Ok.bind (Acc h) fun b hb => ?_
 have hf : Tot (Ib h id a d true) := Ok.ret trivial
 refine Ok.ite (fun _ => hf) fun c => ?_
 have w : WfH h := hb (by simpa using c)
 have := w.len
 have := w.tree.len2
 have hJ4 : ∀ r b,Tot (Lk h a d r b) := fun r b => by
  unfold Lk
  refine Ok.ite (fun _ => Ok.ret trivial) fun _ => ?_
  refine Ok.step (Ul h (by omega) (by omega)) ?_
  exact Ok.step (AaD h.tree _ (by omega)) (Ok.ret trivial)
 have hJ : ∀ b,Tot (Ib h id a d b) := fun b => by
  unfold Ib
  refine Ok.ite (fun _ => Ok.ret trivial) fun _ => ?_
  refine Ok.bind (Eu _ _) fun r _ => Ok.ite (fun _ => Ok.ret trivial) fun _ => ?_
  refine Ok.bind (Wa _ _) fun _ _ => Ok.ite (fun _ => Ok.ret trivial) fun _ => ?_
  refine Ok.bind (Xg _ _) fun l hl => Ok.guard (by omega) (Ta (fun k x n hn => ?_) ?_)
  ·unfold Zb
   exact Ok.bind (Eu _ _) fun _ _ => Ok.ite (fun _ => Ok.ret trivial) fun _ => hn
  ·unfold Zt
   refine Ok.ite (fun _ => Ok.ite (fun _ => ?_) fun _ => hJ4 _ _) fun _ => hJ4 _ _
   exact Ok.bind (Re _ _) fun _ _ => hJ4 _ _
 unfold Yj
 refine Ok.step rfl (Ok.ite (fun _ => hf) fun _ => Ok.step rfl (Ok.ite (fun _ => hf) fun _ => hJ _))
theorem Agk (h : Aa) (id a d : Int) : Ok (Rw h id a d) (fun r => r.2 = 0 → WfH r.1) := by
 unfold Rw
 have bad : ∀ (x : Aa) (n : Int),n ≠ 0 → Ok (some (x,n)) (fun r : Aa × Int => r.2 = 0 → WfH r.1) := fun x n hn => Ok.ret fun e => absurd e hn
 refine Ok.bind (Nc h) fun _ _ => Ok.ite (fun _ => bad _ _ (by decide)) fun _ => ?_
 refine Ok.bind (Agv _ _ _ _) fun r _ => Ok.ite (fun c => bad _ _ (by simpa using c)) fun _ => ?_
 refine Ok.bind (Nc r.1) fun b hb => Ok.ite (fun _ => bad _ _ (by decide)) fun c => ?_
 exact Ok.ret fun _ => hb (by simpa using c)
theorem AfJ (h : Aa) (id : Int) : Ok (Qf h id) (fun r => r.2 = 0 → WfH r.1) := by
 unfold Qf
 have bad : ∀ (x : Aa) (n : Int),n ≠ 0 → Ok (some (x,n)) (fun r : Aa × Int => r.2 = 0 → WfH r.1) := fun x n hn => Ok.ret fun e => absurd e hn
 refine Ok.bind (Nc h) fun b hb => Ok.ite (fun _ => bad _ _ (by decide)) fun c => ?_
 have w : WfH h := hb (by simpa using c)
 have := w.len
 have := w.tree.len2
 have hJ : ∀ r b,Ok (Ja h id r b) (fun r => r.2 = 0 → WfH r.1) := fun r b => by
  unfold Ja
  refine Ok.ite (fun _ => bad _ _ (by decide)) fun _ => Ok.ite (fun _ => bad _ _ (by decide)) fun _ => ?_
  refine Ok.step (Ul h (by omega) (by omega)) (Ok.step (AaD h.tree _ (by omega)) ?_)
  refine Ok.bind (Re _ _) fun _ _ => ?_
  unfold Ng
  refine Ok.ite (fun _ => bad _ _ (by decide)) fun _ => ?_
  refine Ok.bind (Nc _) fun b hb => Ok.ite (fun _ => bad _ _ (by decide)) fun c => ?_
  exact Ok.ret fun _ => hb (by simpa using c)
 refine Ok.bind (Eu _ _) fun _ _ => Ok.ite (fun _ => bad _ _ (by decide)) fun _ => Ok.ite (fun _ => bad _ _ (by decide)) fun _ => ?_
 refine Ok.bind (Eu _ _) fun _ _ => Ok.bind (Oh _ _) fun _ _ => Ok.ite (fun _ => hJ _ _) fun _ => Ok.ite (fun _ => hJ _ _) fun _ => hJ _ _
theorem Aay (h : Aa) (g : Int) : Tot (Pc h g) := by
 unfold Pc
 refine Ok.bind (Nc h) fun b hb => Ok.ite (fun _ => Ok.ret trivial) fun c => ?_
 refine Ok.bind (Eu _ _) fun _ _ => Ok.ite (fun _ => Ok.ret trivial) fun _ => ?_
 refine Ok.bind (Oh _ _) fun _ _ => Ok.ite (fun _ => Ok.ret trivial) fun _ => Ok.ite (fun _ => Ok.ret trivial) fun _ => Ok.ret trivial
theorem AbP (h : Aa) (k g : Int) : Ok (Kl h k g) (fun r => r.2 = 0 → WfH r.1) := by
 unfold Kl
 have bad : ∀ (x : Aa) (n : Int),n ≠ 0 → Ok (some (x,n)) (fun r : Aa × Int => r.2 = 0 → WfH r.1) := fun x n hn => Ok.ret fun e => absurd e hn
 refine Ok.bind (Nc h) fun b hb => Ok.ite (fun _ => bad _ _ (by decide)) fun c => ?_
 have w : WfH h := hb (by simpa using c)
 have hJ : ∀ r b,Ok (Gw h k g r b) (fun r => r.2 = 0 → WfH r.1) := fun r b => by
  unfold Gw
  refine Ok.ite (fun _ => bad _ _ (by decide)) fun _ => ?_
  refine Ok.bind (Aay _ _) fun _ _ => Ok.ite (fun c => bad _ _ (by simpa using c)) fun _ => ?_
  refine Ok.bind (Pu _ _) fun _ _ => Ok.bind (Pu _ _) fun _ _ => Ok.ite (fun _ => bad _ _ (by decide)) fun _ => ?_
  exact Ok.step (AhF w k g) (Ok.ret fun e => placeK_wf w rfl e)
 refine Ok.bind (Aci _ _) fun _ _ => Ok.ite (fun _ => hJ _ _) fun _ => Ok.bind (AhK _ _) fun _ _ => hJ _ _
theorem step_ok {d : Aq} (hd : Bx d) {h : Aa} (w : WfH h) : Ok (Nf d h) (fun r => WfH r.1 ∧ Bx r.2) := by
 have l1 := w.len
 have l2 := w.tree.len2
 unfold Nf
 refine Ok.bind (AbH hd h.tree (by omega)) fun r1 h1 => Ok.bind (AaZ h1 5 (by omega)) fun r2 h2 => ?_
 have hJ1 : ∀ y : Aq × Aa,Bx y.1 → WfH y.2 → Ok (Gj y) (fun r => WfH r.1 ∧ Bx r.2) := fun y a b => Ok.ret ⟨b,a⟩
 have hJ : ∀ b,Ok (Ix h r1 r2 b) (fun r => WfH r.1 ∧ Bx r.2) := fun b => by
  unfold Ix
  refine Ok.ite (fun _ => ?_) fun _ => Ok.ite (fun _ => ?_) fun _ => Ok.ite (fun _ => ?_) fun _ => hJ1 _ h2.1 w
  ·refine Ok.bind (Agt h2.1) fun r3 h3 => Ok.bind (Agk _ _ _ _) fun r4 h4 => Ok.ite (fun c => ?_) fun _ => hJ1 _ h3.1 w
   exact Ok.ret ⟨h4 (by simpa using c),h3.1⟩
  ·refine Ok.bind (AfJ _ _) fun r4 h4 => Ok.ite (fun c => ?_) fun _ => hJ1 _ h2.1 w
   exact Ok.ret ⟨h4 (by simpa using c),h2.1⟩
  ·refine Ok.step (Oy w.tree _) (Ok.ite (fun c => ?_) fun _ => hJ1 _ h2.1 w)
   cases hg : Um h.tree r1.1 with
   | none => rw [hg] at c; simp at c
   | some x =>
    obtain ⟨hx,hxi⟩ := Vx hg
    simp only [Option.elim_some]
    refine Ok.bind (Gb h2.1 3 (by omega) (by omega)) fun r3 h3 => ?_
    refine Ok.step (AaD _ _ (by omega)) (hJ1 _ h3.1 ?_)
    have v := w.tree.p.val x hx
    have wt := setT_wf w.tree (x := { id := x.id,parent := x.parent,name := x.name,control := x.control,kind := x.kind,owner := r3.1 }) hx rfl rfl rfl ⟨v.kind,v.c1,v.c2,h3.2.1,by simp only; omega⟩ (fun e => by
     rcases w.tree.p.par x hx with ⟨_,r⟩ | ⟨a,b,_⟩
     ·exact r.kind
     ·omega)
    refine ⟨wt,w.len,w.n1,w.n2,w.sorted,w.lt,fun y hy => ?_⟩
    have u := w.val y hy
    refine ⟨u.pos,?_,u.u1,u.u2,u.ldr⟩
    obtain ⟨z,hz,hzi⟩ := hasN_iff.mp u.grp
    refine hasN_iff.mpr ⟨Wq _ z,List.mem_map.mpr ⟨z,hz,rfl⟩,?_⟩
    unfold Wq
    split
    ·rename_i q
     have q : z.id = x.id := by simpa using q
     simp only
     omega
    ·exact hzi
 exact Ok.ite (fun _ => hJ _) fun _ => hJ _
theorem AhL {d : Aq} (hd : Bx d) (n m : Int) (n0 : 0 ≤ n) (n1 : n ≤ 100) (m0 : 0 ≤ m) (m1 : m ≤ 100) : Ok (Io d n m) (fun r => WfH r.1 ∧ Bx r.2) := by
 unfold Io
 refine Ok.step (a := { tree := newT,tasks := [],next := 1 }) rfl ?_
 refine Ok.bind (Tree_ok hd n n0 (by omega)) fun r1 ⟨w1,h1⟩ => ?_
 rw [Ay (by omega) (by omega)]
 refine Ok.bind (Gb h1 (n + 3) (by omega) (by omega)) fun r2 ⟨h2,a1,a2⟩ => ?_
 refine Ok.while (fun s => Bx s.1 ∧ WfH s.2.1 ∧ s.2.2 ≤ 2000) (fun s => s.2.2.toNat) ⟨h2,?_,by simp only; omega⟩ (by rw [Db]; simp only; omega) ?_
 ·exact ⟨w1,by simp,by simp,by simp,by simp,by simp,by simp⟩
 rintro ⟨d,h,c⟩ k ⟨b1,b2,b3⟩ hk
 simp only at b1 b2 b3 hk
 unfold Nb
 simp only
 refine Ok.ite (fun c1 => ?_) fun _ => ?_
 ·have hc := of_decide_eq_true c1
  refine Ok.bind (step_ok b1 b2) fun r3 h3 => ?_
  rw [Ay (by omega) (by omega)]
  exact hk _ ⟨h3.2,h3.1,by simp only; omega⟩ (by simp only; omega)
 rw [Ay (by omega) (by omega)]
 refine Ok.bind (Gb b1 (m + 1) (by omega) (by omega)) fun r3 ⟨h3,a3,a4⟩ => ?_
 clear hk
 refine Ok.while (fun s => Bx s.1 ∧ WfH s.2.1 ∧ s.2.2 ≤ 2000) (fun s => s.2.2.toNat) ⟨h3,b2,by simp only; omega⟩ (by rw [Db]; simp only; omega) ?_
 clear b1 b2 b3
 rintro ⟨d,h,c⟩ k ⟨b1,b2,b3⟩ hk
 simp only at b1 b2 b3 hk
 unfold Np
 simp only
 refine Ok.ite (fun c1 => ?_) fun _ => Ok.ret ⟨b2,b1⟩
 have hc := of_decide_eq_true c1
 have l1 := b2.len
 have l2 := b2.tree.len2
 have hw : w64 (c - 1) = c - 1 := Ay (by omega) (by omega)
 have hJ13 : ∀ y : Aq × Aa,Bx y.1 → WfH y.2 → Ok (Dg (d,h,c) k y) (fun r => WfH r.1 ∧ Bx r.2) := fun y y1 y2 => by
  unfold Dg
  simp only
  rw [hw]
  exact hk _ ⟨y1,y2,by simp only; omega⟩ (by simp only; omega)
 have hJ16 : ∀ y : Aq × Aa,Bx y.1 → WfH y.2 → Ok (En (d,h,c) k y) (fun r => WfH r.1 ∧ Bx r.2) := fun y y1 y2 => by
  unfold En
  refine Ok.bind (Uq y1 8 (by omega)) fun r4 h4 => Ok.ite (fun _ => ?_) fun _ => hJ13 _ h4 y2
  have := y2.len
  refine Ok.bind (Ags h4 _ (by omega)) fun r5 h5 => Ok.step (Aio y2 _) (Ok.ite (fun c => ?_) fun _ => hJ13 _ h5 y2)
  exact hJ13 _ h5 (exitK_wf y2 rfl (by simpa using c))
 have hJ15 : ∀ y : Aq × Aa,Bx y.1 → WfH y.2 → Ok (Eo (d,h,c) k y) (fun r => WfH r.1 ∧ Bx r.2) := fun y y1 y2 => by
  unfold Eo
  refine Ok.bind (Uq y1 4 (by omega)) fun r4 h4 => Ok.ite (fun _ => ?_) fun _ => hJ16 _ h4 y2
  have := y2.len
  have := y2.tree.len2
  refine Ok.bind (Ags h4 _ (by omega)) fun r5 h5 => Ok.bind (AbH h5 _ (by omega)) fun r6 h6 => Ok.bind (AbP _ _ _) fun r7 h7 => Ok.ite (fun c => ?_) fun _ => hJ16 _ h6 y2
  exact hJ16 _ h6 (h7 (by simpa using c))
 have hJ14 : ∀ (r : Int × Aq) (y : Aa),Bx r.2 → WfH y → Ok (Fu (d,h,c) k r y) (fun r => WfH r.1 ∧ Bx r.2) := fun r y y1 y2 => by
  unfold Fu
  refine Ok.bind (Uq y1 3 (by omega)) fun r4 h4 => Ok.ite (fun _ => ?_) fun _ => hJ15 _ h4 y2
  have := y2.len
  refine Ok.bind (Ags h4 _ (by omega)) fun r5 h5 => Ok.step (AhN y2 _) (Ok.ite (fun c => ?_) fun _ => hJ15 _ h5 y2)
  exact hJ15 _ h5 (cloneK_wf y2 rfl (by simpa using c))
 refine Ok.bind (AbH b1 _ (by omega)) fun r4 h4 => Ok.bind (Aay _ _) fun _ _ => Ok.ite (fun _ => hJ13 _ h4 b2) fun _ => ?_
 refine Ok.bind (Gb h4 3 (by omega) (by omega)) fun r5 h5 => Ok.step (AhB b2 _ _) (Ok.ite (fun c => ?_) fun _ => hJ14 _ _ h5.1 b2)
 exact hJ14 _ _ h5.1 (spawnK_wf b2 rfl (by simpa using c))
end Go.Dm

/- Plain theory, part 10: the program's own Check of trees. -/
namespace Go.Dm
theorem Aes (bs : ByteArray) (i : Nat) (r : List UInt8) : ByteArray.toList.loop bs i r = r.reverse ++ bs.data.toList.drop i := by
 by_cases h : i < bs.size
 ·rw [ByteArray.toList.loop,if_pos h,Aes bs (i + 1)]
  have hd : bs.data.toList.drop i = bs.get! i :: bs.data.toList.drop (i + 1) := by
   rw [List.drop_eq_getElem_cons (show i < bs.data.toList.length from h)]
   congr 1
   have : bs.get! i = bs.data[i]! := rfl
   rw [this,getElem!_pos bs.data i h]
   simp
  rw [hd]
  simp
 ·rw [ByteArray.toList.loop,if_neg h,List.drop_of_length_le (by simpa using h)]
  simp
termination_by bs.size - i
theorem AiB (bs : ByteArray) : bs.toList = bs.data.toList := by
 unfold ByteArray.toList
 rw [Aes]
 simp
theorem beqS_eq {a b : ByteArray} (h : Dr a b = true) : a = b := by
 simp only [Dr,beq_iff_eq,AiB] at h
 exact ByteArray.ext (Array.toList_inj.mp h)
theorem Aib {c : Int} (h0 : 0 ≤ c) (h : c ≤ 31) : Eb .i64 c 31 = 0 := by
 have : ∀ n : Fin 32,Eb .i64 ((n.val : Nat) : Int) 31 = 0 := by decide
 have := this ⟨c.toNat,by omega⟩
 simpa [Int.toNat_of_nonneg h0] using this
theorem AhA {c : Int} (h : 31 < c) (hc : c < 9223372036854775808) : Eb .i64 c 31 ≠ 0 := by
 obtain ⟨n,rfl⟩ : ∃ n : Nat,c = (n : Int) := ⟨c.toNat,by omega⟩
 intro e
 unfold Eb at e
 have hb : IntKind.i64.bits = 64 := rfl
 rw [hb] at e
 generalize hx : (BitVec.ofInt 64 (n : Int) &&& ~~~(BitVec.ofInt 64 31)) = x at e
 have hn : ∀ i,5 ≤ i → n.testBit i = false := by
  intro i hi
  by_cases h63 : i < 63
  ·have h0 : x.toNat < 2 ^ 64 := x.isLt
   have hle : x.toNat ≤ n := by
    rw [← hx,BitVec.toNat_and]
    refine Nat.le_trans Nat.and_le_left ?_
    rw [BitVec.ofInt_natCast,BitVec.toNat_ofNat]
    exact Nat.mod_le _ _
   have hw : IntKind.i64.wrap ((x.toNat : Nat) : Int) = ((x.toNat : Nat) : Int) := Zy (by omega) (by omega)
   rw [hw] at e
   have hx0 : x = 0#64 := by
    apply BitVec.eq_of_toNat_eq
    simp
    omega
   have : x.getLsbD i = false := by rw [hx0]; simp
   rw [← hx,BitVec.getLsbD_and,BitVec.getLsbD_not] at this
   have h31 : (BitVec.ofInt 64 31).getLsbD i = false := by
    have : (BitVec.ofInt 64 31) = BitVec.ofNat 64 31 := rfl
    rw [this,BitVec.getLsbD_ofNat]
    have : Nat.testBit 31 i = false := Nat.testBit_lt_two_pow (Nat.lt_of_lt_of_le (by decide : 31 < 2 ^ 5) (Nat.pow_le_pow_right (by decide) hi))
    simp [this]
   rw [h31] at this
   have e2 : (BitVec.ofInt 64 (n : Int)).getLsbD i = n.testBit i := by
    rw [BitVec.ofInt_natCast,BitVec.getLsbD_ofNat]
    simp
    omega
   rw [e2] at this
   have h64 : i < 64 := by omega
   simpa [h64] using this
  ·exact Nat.testBit_lt_two_pow (Nat.lt_of_lt_of_le (show n < 2 ^ 63 by omega) (Nat.pow_le_pow_right (by decide) (by omega)))
 have : n < 2 ^ 5 := Nat.lt_pow_two_of_testBit n hn
 omega
theorem AgQ (s : ByteArray) (h : s.size ≤ 9223372036854775807) : Uk s = some (Ef s) := by
 apply Ok.eq
 unfold Uk
 refine Ok.guard (by rw [Ou]; exact h) ?_
 refine Ok.range (fun pre _ => pre.all Nn = true) rfl ?_ ?_
 ·intro pre x post _ n e hI hn
  unfold Zg Xt
  refine Ok.step rfl ?_
  refine Ok.ite (fun c => ?_) fun c => ?_
  ·refine Ok.ret ?_
   have : (Hu s).all Nn = false := by
    rw [e,List.all_append,List.all_cons]
    have : Nn x = false := by simpa only [Nn,Bool.not_eq_true'] using c
    simp [this]
   simp [Ef,this]
  ·refine hn () ?_
   have : Nn x = true := by simpa only [Nn,Bool.not_eq_false'] using c
   rw [List.all_append,hI]
   simp [this]
 ·intro _ hI
  unfold Yo Ni
  refine Ok.ite (fun c => ?_) fun c => ?_
  ·have hs : 0 < s.size := by
    rcases Nat.eq_zero_or_pos s.size with h0 | h0
    ·exfalso
     have : s = ByteArray.empty := by
      apply ByteArray.ext
      apply Array.ext
      ·exact h0
      ·intro i h1 h2
       simp at h2
     rw [this] at c
     simp [AgI] at c
    ·exact h0
   refine Ok.ite (fun c2 => ?_) fun c2 => ?_
   ·have := of_decide_eq_true c2
    refine Ok.guard hs (Ok.ret ?_)
    have h32 : s.size ≤ 32 := by omega
    simp [Ef,hs,h32,hI]
   ·have := of_decide_eq_false c2
    refine Ok.ret ?_
    have h32 : ¬ s.size ≤ 32 := by omega
    simp [Ef,h32]
  ·refine Ok.ret ?_
   have : s.size = 0 := by
    rw [beqS_eq (a := s) (b := ByteArray.empty) (by simpa using c)]
    rfl
   simp [Ef,this]
end Go.Dm

/- Plain theory, part 11: the program's Check of trees is the document's. -/
namespace Go.Dm
def NodeM (x : An) : Prop := x.name.size ≤ 9223372036854775807 ∧ x.control < 9223372036854775808
theorem Ahz {pre : List An} {y x : An} (hl : pre.length ≤ 1000000) (hx : NodeM x) :
  Vw (pre ++ [y]) x = some (decide (y.id < x.id) && Ef x.name && (x.kind == 0 || x.kind == 1) && (pre ++ [y]).any (fun k => k.id == x.parent) && (pre ++ [y]).all (fun k => !(k.parent == x.parent && Dr k.name x.name))) := by
 apply Ok.eq
 unfold Vw
 have hw : w64 (((pre ++ [y]).length : Int) - 1) = (pre.length : Int) := by
  rw [Ay (by simp) (by simp; omega)]
  simp
 have ey : (pre ++ [y]).getD (Int.toNat (pre.length : Int)) default = y := by
  rw [show Int.toNat (pre.length : Int) = pre.length by omega]
  exact AbR (post := [])
 rw [hw,ey]
 refine Ok.guard (by simp; omega) ?_
 refine Ok.ite (fun c => ?_) fun c => ?_
 ·have := of_decide_eq_true c
  have : ¬ y.id < x.id := by omega
  refine Ok.ret ?_
  simp [this]
 have hlt : y.id < x.id := by
  have := of_decide_eq_false c
  omega
 refine Ok.step (AgQ _ hx.1) ?_
 refine Ok.ite (fun c => ?_) fun c => ?_
 ·refine Ok.ret ?_
  have : Ef x.name = false := by simpa using c
  simp [this]
 have hv : Ef x.name = true := by simpa using c
 have hloop : (x.kind == 0 || x.kind == 1) = true → Ok (Jk (pre ++ [y]) x false) (· = (decide (y.id < x.id) && Ef x.name && (x.kind == 0 || x.kind == 1) && (pre ++ [y]).any (fun k => k.id == x.parent) && (pre ++ [y]).all (fun k => !(k.parent == x.parent && Dr k.name x.name)))) := by
  intro hk
  rw [hk,hv]
  simp only [hlt,decide_true,Bool.and_self,Bool.true_and]
  have hlp : (pre ++ [y]).length ≤ 9223372036854775807 := by simp; omega
  generalize pre ++ [y] = P at *
  unfold Jk
  refine Ok.guard hlp ?_
  refine Ok.range (fun pre s => s = pre.any (fun k => k.id == x.parent) ∧ pre.all (fun k => !(k.parent == x.parent && Dr k.name x.name)) = true) ⟨rfl,rfl⟩ ?_ ?_
  ·intro q z post s n e hI hn
   unfold AaP
   refine Ok.ite (fun c => ?_) fun c => ?_
   ·refine Ok.ret ?_
    have : P.all (fun k => !(k.parent == x.parent && Dr k.name x.name)) = false := by
     rw [e,List.all_append,List.all_cons,c]
     simp
    rw [this,Bool.and_false]
   ·refine hn _ ⟨?_,?_⟩
    ·rw [List.any_append,← hI.1]
     simp
    ·rw [List.all_append,hI.2,List.all_cons,c]
     rfl
  ·intro s hI
   refine Ok.ret ?_
   rw [hI.2,Bool.and_true]
   exact hI.1
 have hbad : (x.kind == 0 || x.kind == 1) = false → Ok (Jk (pre ++ [y]) x true) (· = (decide (y.id < x.id) && Ef x.name && (x.kind == 0 || x.kind == 1) && (pre ++ [y]).any (fun k => k.id == x.parent) && (pre ++ [y]).all (fun k => !(k.parent == x.parent && Dr k.name x.name)))) := by
  intro hk
  refine Ok.ret ?_
  rw [hk]
  simp
 refine Ok.ite (fun c => ?_) fun c => ?_
 ·have h0 : ¬ x.kind = 0 := by simpa using c
  by_cases h1 : x.kind = 1
  ·have : (x.kind != 1) = false := by simp [h1]
   rw [this]
   exact hloop (by simp [h1])
  ·have : (x.kind != 1) = true := by simpa using h1
   rw [this]
   exact hbad (by simp [h0,h1])
 ·exact hloop (by
   have : x.kind = 0 := by simpa using c
   simp [this])
theorem nodes_pre {L pre post : List An} {x : An} (h : WfP L) (e : L = pre ++ x :: post) (hp : pre ≠ []) : WfP pre ∧ Rf x ∧ NodeS pre x := by
 induction h generalizing post with
 | root z v r =>
  exfalso
  have : (pre ++ x :: post).length = 1 := by rw [← e]; rfl
  simp at this
  have := List.length_pos_iff.mpr hp
  omega
 | snoc L z w v s ih =>
  rcases Ji post with rfl | ⟨p',u,rfl⟩
  ·have := List.append_inj' (s₁ := L) (t₁ := [z]) (s₂ := pre) (t₂ := [x]) (by simpa using e) rfl
   obtain ⟨rfl,e2⟩ := this
   obtain rfl : z = x := by simpa using e2
   exact ⟨w,v,s⟩
  ·have e2 : L ++ [z] = (pre ++ x :: p') ++ [u] := by simpa using e
   have := List.append_inj' e2 rfl
   exact ih this.1
theorem up_pre {L pre post : List An} (h : WfP L) (e : L = pre ++ post) (hp : WfP pre) {x : An} (hx : x ∈ pre) : upR L.reverse x.id = upR pre.reverse x.id := by
 rw [e,List.reverse_append]
 refine Wz fun y hy => ?_
 have hs := h.sorted
 rw [e,List.pairwise_append] at hs
 have := hs.2.2 x hx y (by simpa using hy)
 omega
theorem Acd (t : Af) (hm : ∀ x ∈ t.nodes,NodeM x) : Ok (Oc t) (fun b => b = true ↔ WfT t) := by
 have bad : ¬ WfT t → Ok (some false) (fun b => b = true ↔ WfT t) := fun hn => Ok.ret ⟨fun e => by simp at e,fun w => absurd w hn⟩
 unfold Oc
 refine Ok.ite (fun c => ?_) fun c => ?_
 ·have := of_decide_eq_true c
  exact bad fun w => by have := w.len1; omega
 have l1 := of_decide_eq_false c
 refine Ok.ite (fun c => ?_) fun c => ?_
 ·have := of_decide_eq_true c
  exact bad fun w => by have := w.len2; omega
 have l2 := of_decide_eq_false c
 refine Ok.guard (by omega) ?_
 unfold Aak
 refine Ok.step rfl ?_
 unfold Nq
 have hroot0 : WfT t → ((((t.nodes.getD 0 default).id == 1 && (t.nodes.getD 0 default).parent == 0) && Dr (t.nodes.getD 0 default).name ByteArray.empty) && (t.nodes.getD 0 default).kind == 0) = true := by
  intro w
  obtain ⟨x,r,e,hr⟩ := w.root
  rw [e]
  simp [hr.id,hr.parent,hr.name,hr.kind]
 refine Ok.ite (fun c => ?_) fun c => ?_
 ·exact bad fun w => by rw [hroot0 w] at c; simp at c
 have hR : Aah (t.nodes.getD 0 default) := by
  simp only [Bool.not_eq_false',Bool.and_eq_true,beq_iff_eq] at c
  exact ⟨c.1.1.1,c.1.1.2,c.1.2,c.2⟩
 refine Ok.guard (by omega) ?_
 refine Ok.range (fun pre s => (pre = [] ∧ ∀ i,s.get i = 0) ∨ (WfP pre ∧ (∀ y ∈ pre,s.get y.id = ((upR pre.reverse y.id).length : Int) - 1 ∧ (upR pre.reverse y.id).length ≤ 9) ∧ ∀ i,(∀ y ∈ pre,y.id ≠ i) → s.get i = 0)) (.inl ⟨rfl,fun i => rfl⟩) ?_ ?_
 ·intro pre x post s n he hI hn
  have hxm : x ∈ t.nodes := by rw [he]; simp
  have hJ : ∀ b,(b = true → ¬ WfT t) → (b = false → Rf x ∧ (pre ≠ [] → NodeS pre x)) → (Rf x → pre = [] → Aah x) → Ok (Ge pre.length x s n b) (fun b => b = true ↔ WfT t) := by
   intro b hbt hbf hroot
   unfold Ge
   refine Ok.ite (fun c => bad (hbt c)) fun c => ?_
   obtain ⟨hv,hs⟩ := hbf c
   unfold Qr
   rcases hI with ⟨rfl,hz⟩ | ⟨hw,hd,hz⟩
   ·simp only [List.length_nil,Int.ofNat_eq_natCast,Int.cast_ofNat_Int,gt_iff_lt,Int.lt_irrefl,decide_false,Bool.false_eq_true,if_false]
    rw [hz]
    simp only [Int.reduceLT,decide_false,Bool.false_eq_true,if_false]
    have hr := hroot hv rfl
    refine hn _ (.inr ⟨.root x hv hr,?_,fun i _ => hz i⟩)
    intro y hy
    obtain rfl : y = x := by simpa using hy
    rw [hz]
    simp [upR,hr.parent]
   ·have hne : pre ≠ [] := by
     intro e
     have := hw.pos
     simp [e] at this
    have hs := hs hne
    have hpos := hw.pos
    have hgt : decide (((pre.length : Nat) : Int) > 0) = true := by simp; omega
    rw [hgt]
    simp only [if_true]
    obtain ⟨p,hp,hpp⟩ := hs.parent
    have hdp := hd p hp
    rw [hpp] at hdp
    have hup : upR (pre ++ [x]).reverse x.id = x.id :: upR pre.reverse x.parent := by
     rw [List.reverse_append,List.reverse_cons,List.reverse_nil,List.nil_append,List.singleton_append,upR,if_pos (by simp)]
    have hgx : (s.set x.id (w64 (s.get x.parent + 1))).get x.id = ((upR pre.reverse x.parent).length : Int) := by
     rw [AaI,if_pos rfl,hdp.1,Ay (by omega) (by omega)]
     omega
    have hwx : WfP (pre ++ [x]) := .snoc pre x hw hv hs
    refine Ok.ite (fun c => ?_) fun c => ?_
    ·refine bad fun w => ?_
     have := of_decide_eq_true c
     rw [hgx] at this
     have hdx := w.depth x hxm
     unfold upT at hdx
     rw [up_pre w.p (show t.nodes = (pre ++ [x]) ++ post by rw [he]; simp) hwx (by simp),hup] at hdx
     simp at hdx
     omega
    ·have hle := of_decide_eq_false c
     rw [hgx] at hle
     refine hn _ (.inr ⟨hwx,?_,?_⟩)
     ·intro y hy
      rcases List.mem_append.mp hy with hy | hy
      ·have hlt := hs.lt y hy
       rw [AaI,if_neg (by omega),Adt (by omega)]
       exact hd y hy
      ·obtain rfl : y = x := by simpa using hy
       rw [hgx,hup]
       simp
       omega
     ·intro i hi
      have := hi x (by simp)
      rw [AaI,if_neg (by omega)]
      exact hz i fun y hy => hi y (by simp [hy])
  have hroot : Rf x → pre = [] → Aah x := by
   intro _ e
   subst e
   rw [he] at hR
   exact hR
  unfold Zi
  have hbad : ∀ P : Prop,(WfT t → P) → ¬ P → Ok (Ge pre.length x s n true) (fun b => b = true ↔ WfT t) := fun P h1 h2 => hJ true (fun _ w => h2 (h1 w)) (by simp) hroot
  refine Ok.ite (fun c => ?_) fun c => ?_
  ·have := of_decide_eq_true c
   exact hbad (0 ≤ x.control) (fun w => (w.p.val x hxm).c1) (by omega)
  have c1 := of_decide_eq_false c
  refine Ok.ite (fun c => ?_) fun c => ?_
  ·refine hbad (x.control ≤ 31) (fun w => (w.p.val x hxm).c2) fun h => ?_
   rw [Aib (by omega) h] at c
   simp at c
  have c2 : x.control ≤ 31 := by
   by_cases h : x.control ≤ 31
   ·exact h
   ·have := AhA (c := x.control) (by omega) (hm x hxm).2
    have c' : Eb .i64 x.control 31 = 0 := by simpa using c
    exact absurd c' this
  refine Ok.ite (fun c => ?_) fun c => ?_
  ·have := of_decide_eq_true c
   exact hbad (0 ≤ x.owner) (fun w => (w.p.val x hxm).o1) (by omega)
  have o1 := of_decide_eq_false c
  refine Ok.ite (fun c => ?_) fun c => ?_
  ·have := of_decide_eq_true c
   exact hbad (x.owner ≤ 1048576) (fun w => (w.p.val x hxm).o2) (by omega)
  have o2 := of_decide_eq_false c
  refine Ok.ite (fun c => ?_) fun c => ?_
  ·have hk := of_decide_eq_true c
   have hle : pre.length ≤ t.nodes.length := by rw [he]; simp
   refine Ok.guard (by omega) ?_
   have ht : t.nodes.take pre.length = pre := by rw [he]; simp
   rw [ht]
   rcases Ji pre with rfl | ⟨pr,y,rfl⟩
   ·simp at hk
   have hw : WfP (pr ++ [y]) := by
    rcases hI with ⟨e,_⟩ | ⟨h,_⟩
    ·simp at e
    ·exact h
   refine Ok.step (Ahz (by simp at hle; omega) (hm x hxm)) ?_
   refine hJ _ ?_ ?_ hroot
   ·intro hb w
    obtain ⟨_,v,s⟩ := nodes_pre w.p he (by simp)
    have a1 := s.lt y (by simp)
    have a2 := s.valid
    have a3 : (x.kind == 0 || x.kind == 1) = true := by
     rcases v.kind with h | h <;> simp [h]
    have a4 : (pr ++ [y]).any (fun k => k.id == x.parent) = true := by
     obtain ⟨p,hp,hpp⟩ := s.parent
     exact List.any_eq_true.mpr ⟨p,hp,by simp [hpp]⟩
    have a5 : (pr ++ [y]).all (fun k => !(k.parent == x.parent && Dr k.name x.name)) = true := by
     rw [List.all_eq_true]
     intro k hk
     by_cases q : k.parent = x.parent
     ·simp [s.fresh k hk q]
     ·simp [q]
    simp only [a1,a2,a3,a4,a5,decide_true] at hb
    simp at hb
   ·intro hb
    simp only [Bool.not_eq_false',Bool.and_eq_true,decide_eq_true_eq,List.any_eq_true,List.all_eq_true,beq_iff_eq,Bool.or_eq_true] at hb
    obtain ⟨⟨⟨⟨a1,a2⟩,a3⟩,a4⟩,a5⟩ := hb
    refine ⟨⟨a3,by omega,c2,by omega,by omega⟩,fun _ => ⟨?_,a2,a4,?_⟩⟩
    ·intro z hz
     have hs := hw.sorted
     rw [List.pairwise_append] at hs
     rcases List.mem_append.mp hz with hz | hz
     ·have := hs.2.2 z hz y (by simp)
      omega
     ·obtain rfl : z = y := by simpa using hz
      exact a1
    ·intro z hz hp
     have := a5 z hz
     simpa [hp] using this
  ·have hk := of_decide_eq_false c
   have e : pre = [] := List.length_eq_zero_iff.mp (by omega)
   refine hJ false (by simp) (fun _ => ⟨?_,fun h => absurd e h⟩) hroot
   subst e
   rw [he] at hR
   exact ⟨.inl hR.kind,by omega,c2,by omega,by omega⟩
 ·intro s hI
  unfold Yt Ow
  have hw : w64 ((t.nodes.length : Int) - 1) = ((t.nodes.length - 1 : Nat) : Int) := by
   rw [Ay (by omega) (by omega)]
   omega
  rw [hw]
  refine Ok.guard (by omega) ?_
  have : Int.toNat ((t.nodes.length - 1 : Nat) : Int) = t.nodes.length - 1 := by omega
  rw [this]
  rcases hI with ⟨e,_⟩ | ⟨hp,hd,_⟩
  ·rw [e] at l1; simp at l1
  refine Ok.ite (fun c => ?_) fun c => ?_
  ·have hc := of_decide_eq_true c
   refine Ok.ret ⟨fun e => ?_,fun w => ?_⟩
   ·exact ⟨by omega,by omega,hp.split,fun x hx => (hd x hx).2,hc,by simpa using e⟩
   ·simpa using w.nextLe
  ·have := of_decide_eq_false c
   exact bad fun w => by have := w.last; omega
theorem WfP.names {L : List An} (h : WfP L) : ∀ x ∈ L,NodeM x := by
 intro x hx
 have v := h.val x hx
 refine ⟨?_,by have := v.c2; omega⟩
 rcases h.par x hx with ⟨_,r⟩ | ⟨_,_,_,hv⟩
 ·rw [beqS_eq r.name]
  decide
 ·simp only [Ef,Bool.and_eq_true,decide_eq_true_eq] at hv
  omega
theorem AhP {t : Af} (w : WfT t) : Oc t = some true := by
 obtain ⟨b,hb,e⟩ := Acd t w.p.names
 rw [hb,e.mpr w]
end Go.Dm

/- Plain theory, part 12: subtrees. -/
namespace Go.Dm
theorem Ru {α : Type} {p : α → Bool} {xs : List α} {body : Nat → α → Unit → (Unit → Option Int) → Option Int} {done : Unit → Option Int}
  (hb : ∀ k x n,body k x () n = if p x then some ((k : Nat) : Int) else n ()) (hd : done () = some (-1)) : Bf body done xs 0 () = some ((xs.findIdx? p).elim (-1) (fun i => (i : Int))) := by
 have key : ∀ (ys : List α) (k : Nat),Bf body done ys k () = some ((ys.findIdx? p).elim (-1) (fun i => ((i + k : Nat) : Int))) := by
  intro ys
  induction ys with
  | nil => intro k; simp [Bf,hd]
  | cons x r ih =>
   intro k
   rw [Bf,hb,List.findIdx?_cons]
   cases hp : p x
   ·simp only [Bool.false_eq_true,if_false]
    rw [ih (k + 1)]
    cases r.findIdx? p with
    | none => rfl
    | some i =>
     simp only [Option.map_some,Option.elim_some]
     congr 2
     omega
   ·simp
 have := key xs 0
 simpa using this
theorem Te {α : Type} (p : α → Bool) (xs : List α) (d : α) :
  (∃ i,i < xs.length ∧ xs.findIdx? p = some i ∧ xs.find? p = some (xs.getD i d)) ∨ (xs.findIdx? p = none ∧ xs.find? p = none) := by
 induction xs with
 | nil => exact .inr ⟨rfl,rfl⟩
 | cons x r ih =>
  rw [List.findIdx?_cons,List.find?_cons]
  cases hp : p x
  ·rcases ih with ⟨i,h1,h2,h3⟩ | ⟨h1,h2⟩
   ·refine .inl ⟨i + 1,by simp; omega,?_,?_⟩
    ·simp [h2]
    ·simpa using h3
   ·refine .inr ⟨?_,?_⟩
    ·simp [h1]
    ·simpa using h2
  ·exact .inl ⟨0,by simp,by simp,by simp⟩
theorem AiF (h : Aa) (id : Int) (hl : h.tasks.length ≤ 1000000) : Aba h id = some ((h.tasks.findIdx? (fun x => x.id == id)).elim (-1) (fun i => (i : Int))) := by
 unfold Aba Fq
 rw [if_pos (by omega),Ru (p := fun x : Au => x.id == id) (fun k x n => rfl) rfl]
 rfl
theorem AcZ (h : Aa) (id : Int) (hl : h.tasks.length ≤ 1000000) : Qs h id = some ((Er h.tasks id).elim (zK,false) (fun x => (x,true))) := by
 unfold Qs Er
 rw [AiF h id hl,Option.bind_some]
 rcases Te (fun x : Au => x.id == id) h.tasks default with ⟨i,h1,h2,h3⟩ | ⟨h1,h2⟩
 ·rw [h2,h3,Option.elim_some,Option.elim_some,if_neg (by simp),if_pos (by omega),show Int.toNat (i : Int) = i by omega]
 ·rw [h1,h2]
  rfl
theorem Adm (t : Af) (id : Int) (hl : t.nodes.length ≤ 1000000) : Nv t id = some ((t.nodes.findIdx? (fun x => x.id == id)).elim (-1) (fun i => (i : Int))) := by
 unfold Nv Fd
 rw [if_pos (by omega),Ru (p := fun x : An => x.id == id) (fun k x n => rfl) rfl]
 rfl
theorem Agb (t : Af) (id : Int) (hl : t.nodes.length ≤ 1000000) : Rx t id = some ((Um t id).elim (zN,false) (fun x => (x,true))) := by
 unfold Rx Um
 rw [Adm t id hl,Option.bind_some]
 rcases Te (fun x : An => x.id == id) t.nodes default with ⟨i,h1,h2,h3⟩ | ⟨h1,h2⟩
 ·rw [h2,h3,Option.elim_some,Option.elim_some,if_neg (by simp),if_pos (by omega),show Int.toNat (i : Int) = i by omega]
 ·rw [h1,h2]
  rfl
theorem AbY (t : Af) (id : Int) (hl : t.nodes.length ≤ 1000000) : Ok (Nv t id) (fun i => decide (i < 0) = !Gz t id ∧ decide (i ≥ 0) = Gz t id) := by
 refine Ok.of_eq (Adm t id hl) ?_
 unfold Gz Um
 rcases Te (fun x : An => x.id == id) t.nodes default with ⟨i,h1,h2,h3⟩ | ⟨h1,h2⟩
 ·rw [h2,h3]
  have : ¬ (i : Int) < 0 := by omega
  simp [this]
 ·rw [h1,h2]
  simp
theorem AcR (t : Af) (id : Int) (hl : t.nodes.length ≤ 1000000) : Mb t id = some (Jh t id) := by
 unfold Mb
 rw [if_pos (by omega)]
 refine (Ik (p := fun x : An => x.parent == id) (f := fun x : An => x.id) (r := some) ?_ (fun _ => rfl) (by simp; omega)).trans (by simp [Jh])
 intro k x s n hs
 unfold Rl Kf
 rw [if_pos hs]
theorem AeI {α : Type} [DecidableEq α] : ∀ {l m : List α},l.Nodup → (∀ x ∈ l,x ∈ m) → l.length ≤ m.length
 | [],_,_,_ => by simp
 | a :: r,m,hn,hs => by
  rw [List.nodup_cons] at hn
  have ha := hs a (by simp)
  have := AeI (l := r) (m := m.erase a) hn.2 fun x hx => by
   have hne : x ≠ a := fun e => hn.1 (by rw [← e]; exact hx)
   rw [List.mem_erase_of_ne hne]
   exact hs x (by simp [hx])
  rw [List.length_erase_of_mem ha] at this
  have := List.length_pos_of_mem ha
  simp
  omega
theorem WfT.id_pos {t : Af} (w : WfT t) {x : An} (h : x ∈ t.nodes) : 1 ≤ x.id := w.p.ge1 x h
theorem WfT.par_lt {t : Af} (w : WfT t) {x : An} (h : x ∈ t.nodes) : x.parent < x.id := by
 rcases w.p.par x h with ⟨h1,r⟩ | ⟨_,h2,_⟩
 ·rw [r.parent]; omega
 ·exact h2
theorem Pe {t : Af} {x k : Int} (h : k ∈ upT t x) : ∃ n ∈ t.nodes,n.id = x := by
 by_cases e : ∃ n ∈ t.nodes,n.id = x
 ·exact e
 ·have : upT t x = [] := AeL fun n hn hx => e ⟨n,by simpa using hn,hx⟩
  rw [this] at h
  simp at h
theorem WfT.induct {t : Af} (w : WfT t) {P : An → Prop} (step : ∀ x ∈ t.nodes,(∀ y ∈ t.nodes,y.id = x.parent → P y) → P x) : ∀ x ∈ t.nodes,P x := by
 have key : ∀ (n : Nat),∀ x ∈ t.nodes,x.id.toNat < n → P x := by
  intro n
  induction n with
  | zero => intro x _ h; omega
  | succ n ih =>
   intro x hx h
   refine step x hx fun y hy e => ih y hy ?_
   have := w.par_lt hx
   have := w.id_pos hx
   omega
 intro x hx
 exact key _ x hx (Nat.lt_succ_self _)
theorem up_le {t : Af} (w : WfT t) : ∀ x ∈ t.nodes,∀ k ∈ upT t x.id,k ≤ x.id := by
 refine w.induct fun x hx ih k hk => ?_
 rw [w.up hx] at hk
 rcases List.mem_cons.mp hk with rfl | hk
 ·exact Int.le_refl _
 ·obtain ⟨y,hy,e⟩ := Pe hk
  rw [← e] at hk
  have := ih y hy e k hk
  have := w.par_lt hx
  omega
theorem Agq {t : Af} (w : WfT t) {x : An} (hx : x ∈ t.nodes) : x.id ∈ upT t x.id := by
 rw [w.up hx]
 simp
theorem up_mem {t : Af} (w : WfT t) : ∀ x ∈ t.nodes,∀ k ∈ upT t x.id,∃ n ∈ t.nodes,n.id = k := by
 refine w.induct fun x hx ih k hk => ?_
 rw [w.up hx] at hk
 rcases List.mem_cons.mp hk with rfl | hk
 ·exact ⟨x,hx,rfl⟩
 ·obtain ⟨y,hy,e⟩ := Pe hk
  rw [← e] at hk
  exact ih y hy e k hk
theorem Ahv {t : Af} (w : WfT t) {k y : Int} (h2 : k ∈ upT t y) : ∀ x ∈ t.nodes,y ∈ upT t x.id → k ∈ upT t x.id := by
 refine w.induct fun x hx ih h1 => ?_
 have e := w.up hx
 rw [e] at h1
 rcases List.mem_cons.mp h1 with rfl | h1
 ·exact h2
 ·rw [e]
  obtain ⟨z,hz,ez⟩ := Pe h1
  rw [← ez] at h1
  have := ih z hz ez h1
  rw [ez] at this
  exact List.mem_cons_of_mem _ this
theorem up_child {t : Af} (w : WfT t) {y : Int} : ∀ x ∈ t.nodes,y ∈ upT t x.id → x.id = y ∨ ∃ c ∈ Jh t y,c ∈ upT t x.id := by
 refine w.induct fun x hx ih h1 => ?_
 have e := w.up hx
 rw [e] at h1
 rcases List.mem_cons.mp h1 with rfl | h1
 ·exact .inl rfl
 ·obtain ⟨z,hz,ez⟩ := Pe h1
  rw [← ez] at h1
  refine .inr ?_
  rcases ih z hz ez h1 with h | ⟨c,hc,hcu⟩
  ·refine ⟨x.id,?_,Agq w hx⟩
   unfold Jh
   exact List.mem_map.mpr ⟨x,List.mem_filter.mpr ⟨hx,by simp; omega⟩,rfl⟩
  ·refine ⟨c,hc,?_⟩
   rw [e]
   rw [ez] at hcu
   exact List.mem_cons_of_mem _ hcu
theorem kids_iff {t : Af} {y c : Int} : c ∈ Jh t y ↔ ∃ x ∈ t.nodes,x.parent = y ∧ x.id = c := by
 unfold Jh
 constructor
 ·intro h
  obtain ⟨x,hx,e⟩ := List.mem_map.mp h
  obtain ⟨h1,h2⟩ := List.mem_filter.mp hx
  exact ⟨x,h1,by simpa using h2,e⟩
 ·rintro ⟨x,h1,h2,h3⟩
  exact List.mem_map.mpr ⟨x,List.mem_filter.mpr ⟨h1,by simp [h2]⟩,h3⟩
theorem Agz {t : Af} (w : WfT t) : (t.nodes.map (·.id)).Nodup := by
 have := w.sorted
 unfold List.Nodup
 rw [List.pairwise_map]
 exact this.imp fun h => by omega
theorem AiM {t : Af} (w : WfT t) (y : Int) : (Jh t y).Nodup := by
 unfold Jh List.Nodup
 rw [List.pairwise_map]
 exact (w.sorted.sublist List.filter_sublist).imp fun h => by omega
theorem Aeb {t : Af} (w : WfT t) (k : Int) : Ok (Na t k) (fun l => l.Nodup ∧ l.length ≤ t.nodes.length ∧ ∀ x,x ∈ l ↔ k ∈ upT t x) := by
 have l2 := w.len2
 unfold Na
 refine Ok.bind (AbY t k (by omega)) fun i hi => ?_
 refine Ok.ite (fun c => ?_) fun c => ?_
 ·refine Ok.ret ⟨List.nodup_nil,by simp,fun x => ⟨fun h => by simp at h,fun h => ?_⟩⟩
  exfalso
  have hno : Gz t k = false := by
   rw [hi.1] at c
   simpa using c
  obtain ⟨n,hn,e⟩ := Pe h
  rw [← e] at h
  obtain ⟨m,hm,em⟩ := up_mem w n hn k h
  have := hasN_iff.mpr ⟨m,hm,em⟩
  rw [this] at hno
  simp at hno
 have hk : Gz t k = true := by
  rw [hi.1] at c
  simpa using c
 obtain ⟨kn,hkn,hke⟩ := hasN_iff.mp hk
 let I : List Int × List Int → Prop := fun s => (s.1 ++ s.2).Nodup ∧ (∀ z ∈ s.1 ++ s.2,k ∈ upT t z) ∧ (∀ z ∈ s.1 ++ s.2,z = k ∨ ∃ n ∈ t.nodes,n.id = z ∧ n.parent ∈ s.1) ∧ (∀ x,k ∈ upT t x → x ∈ s.1 ∨ ∃ y ∈ s.2,y ∈ upT t x)
 have hbound : ∀ s,I s → s.1.length + s.2.length ≤ t.nodes.length := by
  intro s hs
  have := AeI hs.1 (m := t.nodes.map (·.id)) fun z hz => by
   obtain ⟨n,hn,e⟩ := Pe (hs.2.1 z hz)
   exact List.mem_map.mpr ⟨n,hn,e⟩
  simpa using this
 refine Ok.while I (fun s => t.nodes.length - s.1.length) ?_ (by rw [Db]; simp only [List.length_nil]; omega) ?_
 ·refine ⟨by simp,?_,?_,?_⟩
  ·intro z hz
   obtain rfl : z = k := by simpa using hz
   rw [← hke]
   exact Agq w hkn
  ·intro z hz
   exact .inl (by simpa using hz)
  ·intro x hx
   exact .inr ⟨k,by simp,hx⟩
 rintro ⟨out,todo⟩ n hI hn
 have hb := hbound _ hI
 obtain ⟨i1,i2,i3,i4⟩ := hI
 simp only at hb i1 i2 i3 i4 hn
 unfold Sw
 simp only
 cases todo with
 | nil =>
  simp only [List.length_nil,gt_iff_lt,Int.cast_ofNat_Int,Int.lt_irrefl,decide_false,Bool.false_and,Bool.false_eq_true,if_false]
  refine Ok.ret ⟨by simpa using i1,by simpa using hb,fun x => ⟨fun h => i2 x (by simpa using h),fun h => ?_⟩⟩
  rcases i4 x h with h | ⟨y,hy,_⟩
  ·exact h
  ·simp at hy
 | cons y rest =>
  simp only [List.length_cons] at hb
  have hc : (decide (((((y :: rest).length : Nat) : Int)) > 0) && decide (((out.length : Nat) : Int) < ((t.nodes.length : Nat) : Int))) = true := by
   simp only [List.length_cons,Bool.and_eq_true,decide_eq_true_eq]
   omega
  rw [if_pos hc]
  refine Ok.guard (by simp) (Ok.guard (by omega) (Ok.guard (by simp) ?_))
  have ey : (y :: rest).getD 0 0 = y := rfl
  rw [ey]
  refine Ok.step (AcR t y (by omega)) (Ok.guard (by simp) ?_)
  have hsub : Of (y :: rest).length 1 = rest.length := rfl
  rw [hsub]
  have hkl := AcJ t y
  refine Ok.guard (by omega) ?_
  have ed : (y :: rest).drop 1 = rest := rfl
  rw [ed]
  have hyk := i2 y (by simp)
  have hyn : y ∉ out := by
   rw [List.nodup_append] at i1
   intro h
   exact i1.2.2 y h y (by simp) rfl
  have hyr : y ∉ rest := by
   rw [List.nodup_append,List.nodup_cons] at i1
   exact i1.2.1.1
  have hnew : ∀ c ∈ Jh t y,c ∉ out ∧ c ∉ rest ∧ c ≠ y := by
   intro c hc
   obtain ⟨cn,hcn,hcp,hce⟩ := kids_iff.mp hc
   have hlt := w.par_lt hcn
   have hck : c ≠ k := by
    rintro rfl
    obtain ⟨yn,hyn2,hye⟩ := Pe hyk
    rw [← hye] at hyk
    have := up_le w yn hyn2 _ hyk
    omega
   have hno : c ∉ out ++ (y :: rest) := by
    intro hm
    rcases i3 c hm with h | ⟨m,hm1,hm2,hm3⟩
    ·exact hck h
    ·obtain rfl : m = cn := Afo w.sorted hm1 hcn (by omega)
     rw [hcp] at hm3
     exact hyn hm3
   exact ⟨fun h => hno (by simp [h]),fun h => hno (by simp [h]),by omega⟩
  refine hn _ ⟨?_,?_,?_,?_⟩ (by simp only [List.length_append,List.length_cons,List.length_nil]; omega)
  ·simp only
   rw [List.nodup_append] at i1 ⊢
   obtain ⟨n1,n2,n3⟩ := i1
   rw [List.nodup_cons] at n2
   refine ⟨?_,?_,?_⟩
   ·rw [List.nodup_append]
    exact ⟨n1,by simp,fun a ha b hb => by
     obtain rfl : b = y := by simpa using hb
     exact fun e => hyn (e ▸ ha)⟩
   ·rw [List.nodup_append]
    exact ⟨AiM w y,n2.2,fun a ha b hb e => (hnew a ha).2.1 (e ▸ hb)⟩
   ·intro a ha b hb e
    subst e
    rcases List.mem_append.mp ha with ha | ha
    ·rcases List.mem_append.mp hb with hb | hb
     ·exact (hnew a hb).1 ha
     ·exact n3 a ha a (by simp [hb]) rfl
    ·obtain rfl : a = y := by simpa using ha
     rcases List.mem_append.mp hb with hb | hb
     ·exact (hnew a hb).2.2 rfl
     ·exact hyr hb
  ·intro z hz
   simp only [List.mem_append,List.mem_cons,List.not_mem_nil,or_false] at hz
   rcases hz with (hz | rfl) | hz | hz
   ·exact i2 z (by simp [hz])
   ·exact hyk
   ·obtain ⟨cn,hcn,hcp,hce⟩ := kids_iff.mp hz
    rw [← hce]
    refine Ahv w hyk cn hcn ?_
    rw [w.up hcn,hcp]
    obtain ⟨yn,hyn2,hye⟩ := Pe hyk
    rw [← hye]
    exact List.mem_cons_of_mem _ (Agq w hyn2)
   ·exact i2 z (by simp [hz])
  ·intro z hz
   simp only [List.mem_append,List.mem_cons,List.not_mem_nil,or_false] at hz
   have lift : (z = k ∨ ∃ n ∈ t.nodes,n.id = z ∧ n.parent ∈ out) → (z = k ∨ ∃ n ∈ t.nodes,n.id = z ∧ n.parent ∈ out ++ [y]) := by
    rintro (h | ⟨n,h1,h2,h3⟩)
    ·exact .inl h
    ·exact .inr ⟨n,h1,h2,by simp [h3]⟩
   rcases hz with (hz | rfl) | hz | hz
   ·exact lift (i3 z (by simp [hz]))
   ·exact lift (i3 z (by simp))
   ·obtain ⟨cn,hcn,hcp,hce⟩ := kids_iff.mp hz
    exact .inr ⟨cn,hcn,hce,by simp [hcp]⟩
   ·exact lift (i3 z (by simp [hz]))
  ·intro x hx
   rcases i4 x hx with h | ⟨z,hz,hzx⟩
   ·exact .inl (by simp [h])
   ·rcases List.mem_cons.mp hz with rfl | hz
    ·obtain ⟨xn,hxn,hxe⟩ := Pe hzx
     rw [← hxe] at hzx ⊢
     rcases up_child w xn hxn hzx with h | ⟨c,hc,hcx⟩
     ·exact .inl (by simp [h])
     ·exact .inr ⟨c,by simp [hc],hcx⟩
    ·exact .inr ⟨z,by simp [hz],hzx⟩
end Go.Dm

/- Plain theory, part 13: the program's Check of hierarchies; counts; moves. -/
namespace Go.Dm
theorem Agm (h : Aa) (x : Au) (l1 : h.tasks.length ≤ 1000000) (l2 : h.tree.nodes.length ≤ 1000000) :
  Ok (Sd h x) (fun b => b = true ↔ (0 ≤ x.user ∧ x.user ≤ 1048576 ∧ Gz h.tree x.group = true ∧ ∃ p,Er h.tasks x.process = some p ∧ p.process = x.process ∧ p.user = x.user)) := by
 unfold Sd Hf
 refine Ok.step (AcZ h x.process l1) ?_
 have no : ∀ {P : Prop},¬ P → Ok (some false) (fun b => b = true ↔ P) := fun hn => Ok.ret ⟨fun e => by simp at e,fun w => absurd w hn⟩
 refine Ok.ite (fun c => ?_) fun c => ?_
 rotate_left
 ·have := of_decide_eq_false c
  exact no fun w => by omega
 have u1 := of_decide_eq_true c
 refine Ok.ite (fun c => ?_) fun c => ?_
 rotate_left
 ·have := of_decide_eq_false c
  exact no fun w => by omega
 have u2 := of_decide_eq_true c
 cases hk : Er h.tasks x.process with
 | none =>
  exact no fun w => by
   obtain ⟨_,_,_,p,hp,_⟩ := w
   simp at hp
 | some p =>
  obtain ⟨hp1,hp2⟩ := Tc hk
  simp only [Option.elim_some,if_true]
  refine Ok.ite (fun c => ?_) fun c => ?_
  rotate_left
  ·exact no fun w => by
    obtain ⟨_,_,_,q,hq,hq2,_⟩ := w
    obtain rfl : p = q := by simpa using hq
    have : ¬ p.process = p.id := by simpa using c
    omega
  have c1 : p.process = p.id := by simpa using c
  refine Ok.ite (fun c => ?_) fun c => ?_
  rotate_left
  ·exact no fun w => by
    obtain ⟨_,_,_,q,hq,_,hq3⟩ := w
    obtain rfl : p = q := by simpa using hq
    have : ¬ p.user = x.user := by simpa using c
    omega
  have c2 : p.user = x.user := by simpa using c
  refine Ok.bind (AbY h.tree x.group l2) fun i hi => Ok.ret ?_
  rw [hi.2]
  constructor
  ·intro hh
   exact ⟨u1,u2,hh,p,rfl,by omega,c2⟩
  ·intro w
   exact w.2.2.1
theorem AfF (h : Aa) (hm : ∀ x ∈ h.tree.nodes,NodeM x) : Ok (Lh h) (fun b => b = true ↔ WfH h) := by
 have bad : ¬ WfH h → Ok (some false) (fun b => b = true ↔ WfH h) := fun hn => Ok.ret ⟨fun e => by simp at e,fun w => absurd w hn⟩
 unfold Lh
 refine Ok.ite (fun c => ?_) fun c => ?_
 ·have := of_decide_eq_true c
  exact bad fun w => by have := w.len; omega
 have l1 := of_decide_eq_false c
 refine Ok.ite (fun c => ?_) fun c => ?_
 ·have := of_decide_eq_true c
  exact bad fun w => by have := w.n2; omega
 have n2 := of_decide_eq_false c
 refine Ok.bind (Acd h.tree hm) fun b hb => ?_
 unfold Kw
 refine Ok.ite (fun c => ?_) fun c => ?_
 ·refine bad fun w => ?_
  have := hb.mpr w.tree
  rw [this] at c
  simp at c
 have wt : WfT h.tree := hb.mp (by simpa using c)
 have l2 := wt.len2
 refine Ok.guard (by omega) ?_
 refine Ok.range (fun pre s => 0 ≤ s ∧ (∀ y ∈ pre,y.id ≤ s) ∧ (s = 0 ∨ ∃ y ∈ pre,y.id = s) ∧ pre.Pairwise (fun a b => a.id < b.id) ∧ ∀ x ∈ pre,TaskV h x) (by simp) ?_ ?_
 ·rintro pre x post s n he ⟨i0,i1,i2,i3,i4⟩ hn
  have hx : x ∈ h.tasks := by rw [he]; simp
  unfold Vc Nl
  refine Ok.ite (fun c => ?_) fun c => ?_
  ·have hle := of_decide_eq_true c
   refine bad fun w => ?_
   rcases i2 with rfl | ⟨y,hy,e⟩
   ·have := (w.val x hx).pos
    omega
   ·have hs := w.sorted
    rw [he,List.pairwise_append] at hs
    have := hs.2.2 y hy x (by simp)
    omega
  have hgt := of_decide_eq_false c
  refine Ok.bind (Agm h x (by omega) (by omega)) fun b hb => ?_
  refine Ok.ite (fun c => ?_) fun c => ?_
  ·refine bad fun w => ?_
   have v := w.val x hx
   have := hb.mpr ⟨v.u1,v.u2,v.grp,v.ldr⟩
   rw [this] at c
   simp at c
  ·obtain ⟨a1,a2,a3,a4⟩ := hb.mp (by simpa using c)
   refine hn _ ⟨by omega,?_,.inr ⟨x,by simp,rfl⟩,?_,?_⟩
   ·intro y hy
    rcases List.mem_append.mp hy with hy | hy
    ·have := i1 y hy
     omega
    ·obtain rfl : y = x := by simpa using hy
     exact Int.le_refl _
   ·rw [List.pairwise_append]
    refine ⟨i3,by simp,fun a ha b hb => ?_⟩
    obtain rfl : b = x := by simpa using hb
    have := i1 a ha
    omega
   ·intro y hy
    rcases List.mem_append.mp hy with hy | hy
    ·exact i4 y hy
    ·obtain rfl : y = x := by simpa using hy
     exact ⟨by omega,a3,a1,a2,a4⟩
 ·rintro s ⟨i0,i1,i2,i3,i4⟩
  refine Ok.ret ⟨fun e => ?_,fun w => ?_⟩
  ·have hlt : s < h.next := by
    have := of_decide_eq_true e
    omega
   exact ⟨wt,by omega,by omega,by omega,i3,fun x hx => by have := i1 x hx; omega,i4⟩
  ·rcases i2 with rfl | ⟨y,hy,e⟩
   ·have := w.n1
    simp; omega
   ·have := w.lt y hy
    simp; omega
theorem Agr {h : Aa} (w : WfH h) : Lh h = some true := by
 obtain ⟨b,hb,e⟩ := AfF h w.tree.p.names
 rw [hb,e.mpr w]
theorem Aev (l : List Int) (x : Int) (hl : l.length ≤ 1000000) : Ds l x = some (l.contains x) := by
 unfold Ds Lm
 rw [if_pos (by omega),Ru (p := fun y : Int => x == y) (fun k y n => rfl) rfl,Option.bind_some]
 rcases Te (fun y : Int => x == y) l 0 with ⟨i,h1,h2,h3⟩ | ⟨h1,h2⟩
 ·rw [h2]
  have hm := List.mem_of_find?_eq_some h3
  have he := List.find?_some h3
  have : l.contains x = true := by
   rw [List.contains_iff_mem]
   have : x = l.getD i 0 := by simpa using he
   rw [this]
   exact hm
  rw [this]
  simp
 ·rw [h1]
  have : l.contains x = false := by
   rw [List.find?_eq_none] at h2
   cases hc : l.contains x
   ·rfl
   ·rw [List.contains_iff_mem] at hc
    have := h2 x hc
    simp at this
  rw [this]
  simp
theorem AaM (l : List Int) (x : Int) (hl : l.length ≤ 1000000) : Mk l x = some (l.contains x) := by
 unfold Mk
 rw [if_pos (by omega),Hy (p := fun y : Int => y == x) (f := fun _ => true) (z := false) (fun k y n => rfl) rfl]
 congr 1
 cases hf : l.find? (fun y => y == x) with
 | none =>
  rw [List.find?_eq_none] at hf
  cases hc : l.contains x
  ·rfl
  ·rw [List.contains_iff_mem] at hc
   have := hf x hc
   simp at this
 | some y =>
  have hm := List.mem_of_find?_eq_some hf
  have he := List.find?_some hf
  have : y = x := by simpa using he
  rw [this] at hm
  simp [hm]
end Go.Dm

/- Plain theory, part 14: the document's subtrees and counts; ancestors. -/
namespace Go.Dm
end Go.Dm

/- Plain theory, part 20: the library's sort leaves an ascending list as it is. -/
namespace Go.Dm
theorem Jw (a b : Int) : Cs a b = some (decide (a < b)) := by
 unfold Cs Ot Ky
 simp
theorem lens_pos : (List.range 1001).all (fun n => (Su (IntKind.u64.wrap (n : Int))).any (fun k => n == 0 || decide (1 ≤ k))) = true := by decide +kernel
theorem AhQ {n : Nat} (hn : n ≤ 1000) : Ok (Su (IntKind.u64.wrap (n : Int))) (fun _ => True) := by
 have := List.all_eq_true.mp lens_pos n (by rw [List.mem_range]; omega)
 cases hb : Su (IntKind.u64.wrap (n : Int)) with
 | none => rw [hb] at this; simp at this
 | some k => exact ⟨k,rfl,trivial⟩
theorem AfZ {L : List Au} (h : L.Pairwise (fun a b => a.id < b.id)) (p : Au → Bool) : ((L.filter p).map (·.id)).Pairwise (· < ·) := by
 rw [List.pairwise_map]
 exact h.filter p
end Go.Dm

/- Plain theory, part 26: rows that are permuted within a range; insertion sort. -/
namespace Go.Dm
structure RP (a b : Nat) (L M : List Int) : Prop where
 len : M.length = L.length
 out : ∀ i,i < a ∨ b ≤ i → M.getD i 0 = L.getD i 0
 mem : ∀ i,a ≤ i → i < b → ∃ j,a ≤ j ∧ j < b ∧ M.getD i 0 = L.getD j 0
 perm : M.Perm L
theorem RP.refl (a b : Nat) (L : List Int) : RP a b L L := ⟨rfl,fun _ _ => rfl,fun i h1 h2 => ⟨i,h1,h2,rfl⟩,.refl _⟩
theorem RP.trans {a b : Nat} {L M N : List Int} (h : RP a b L M) (k : RP a b M N) : RP a b L N := by
 refine ⟨k.len.trans h.len,fun i hi => (k.out i hi).trans (h.out i hi),fun i h1 h2 => ?_,k.perm.trans h.perm⟩
 obtain ⟨j,j1,j2,e⟩ := k.mem i h1 h2
 obtain ⟨q,q1,q2,e2⟩ := h.mem j j1 j2
 exact ⟨q,q1,q2,e.trans e2⟩
theorem RP.widen {a b c d : Nat} {L M : List Int} (h : RP a b L M) (h1 : c ≤ a) (h2 : b ≤ d) : RP c d L M := by
 refine ⟨h.len,fun i hi => h.out i (by omega),fun i i1 i2 => ?_,h.perm⟩
 by_cases q : a ≤ i ∧ i < b
 ·obtain ⟨j,j1,j2,e⟩ := h.mem i q.1 q.2
  exact ⟨j,by omega,by omega,e⟩
 ·exact ⟨i,i1,i2,h.out i (by omega)⟩
theorem RP.all {a b : Nat} {L M : List Int} (h : RP a b L M) {P : Int → Prop} (hp : ∀ i,a ≤ i → i < b → P (L.getD i 0)) : ∀ i,a ≤ i → i < b → P (M.getD i 0) := by
 intro i h1 h2
 obtain ⟨j,j1,j2,e⟩ := h.mem i h1 h2
 rw [e]
 exact hp j j1 j2
theorem Agf {α : Type} {l : List α} {i : Nat} {a d : α} (h : i < l.length) : (l.set i a).getD i d = a := by
 simp [List.getD_eq_getElem?_getD,h]
def Dl (L : List Int) (i j : Nat) : List Int := (L.set i (L.getD j 0)).set j (L.getD i 0)
theorem Adg (L : List Int) (i j : Nat) : (Dl L i j).length = L.length := by simp [Dl]
theorem Ahr {L : List Int} {i j : Nat} {x : Int} (hi : i < L.length) : (L.set i x).getD j 0 = if j = i then x else L.getD j 0 := by
 by_cases e : j = i
 ·subst e
  rw [if_pos rfl]
  exact Agf hi
 ·rw [if_neg e,List.getD_eq_getElem?_getD,List.getElem?_set_ne (fun h => e h.symm),← List.getD_eq_getElem?_getD]
theorem Hn {L : List Int} {i j k : Nat} (hi : i < L.length) (hj : j < L.length) : (Dl L i j).getD k 0 = if k = j then L.getD i 0 else if k = i then L.getD j 0 else L.getD k 0 := by
 unfold Dl
 rw [Ahr (by simpa using hj),Ahr hi]
theorem AiQ {L : List Int} {i j : Nat} (hi : i < L.length) (hj : j < L.length) : (Dl L i j).Perm L := by
 have h := Array.swap_perm (xs := L.toArray) (i := i) (j := j) (by simpa using hi) (by simpa using hj)
 have e : (L.toArray.swap i j (by simpa using hi) (by simpa using hj)).toList = Dl L i j := by
  unfold Dl
  rw [Ij hi,Ij hj]
  simp [Array.swap]
 have := Array.perm_iff_toList_perm.mp h
 rw [e] at this
 simpa using this
theorem RP.swap {a b : Nat} {L : List Int} {i j : Nat} (hb : b ≤ L.length) (i1 : a ≤ i) (i2 : i < b) (j1 : a ≤ j) (j2 : j < b) : RP a b L (Dl L i j) := by
 have hi : i < L.length := by omega
 have hj : j < L.length := by omega
 refine ⟨Adg L i j,fun k hk => ?_,fun k k1 k2 => ?_,AiQ hi hj⟩
 ·rw [Hn hi hj,if_neg (by omega),if_neg (by omega)]
 ·rw [Hn hi hj]
  split
  ·exact ⟨i,i1,i2,rfl⟩
  ·split
   ·exact ⟨j,j1,j2,rfl⟩
   ·exact ⟨k,k1,k2,rfl⟩
def Fw (a b : Nat) (L : List Int) : Prop := ∀ p q,a ≤ p → p < q → q < b → L.getD p 0 ≤ L.getD q 0
theorem Aic {L : List Int} {a b : Nat} (hab : a ≤ b) (hb : b ≤ L.length) (hl : L.length ≤ 1000000) : Ok (Dx L (a : Int) (b : Int)) (fun M => RP a b L M ∧ Fw a b M) := by
 unfold Dx
 have e1 : w64 ((a : Int) + 1) = ((a + 1 : Nat) : Int) := by
  rw [Ay (by omega) (by omega)]
  omega
 rw [e1]
 refine Ok.guard (by omega) ?_
 have em : Int.toNat ((b : Int) - ((a + 1 : Nat) : Int)) = b - (a + 1) := by omega
 rw [em]
 refine Ok.for (fun j s => RP a b L s ∧ Fw a (a + 1 + j) s) ⟨.refl _ _ _,fun p q h1 h2 h3 => by omega⟩ ?_ ?_
 ·intro j s n hj ⟨i1,i2⟩ hn
  have hs := i1.len
  have ei : ((a + 1 : Nat) : Int) + (j : Int) = ((a + 1 + j : Nat) : Int) := by omega
  rw [ei]
  unfold Hb
  refine Ok.while (fun q => ∃ k : Nat,q.2 = (k : Int) ∧ a ≤ k ∧ k ≤ a + 1 + j ∧ RP a b L q.1 ∧ (∀ p r,a ≤ p → p < r → r ≤ a + 1 + j → p ≠ k → r ≠ k → q.1.getD p 0 ≤ q.1.getD r 0) ∧ (∀ r,k < r → r ≤ a + 1 + j → q.1.getD k 0 ≤ q.1.getD r 0)) (fun q => q.2.toNat) ?_ ?_ ?_
  ·refine ⟨a + 1 + j,rfl,by omega,by omega,i1,fun p r h1 h2 h3 h4 h5 => i2 p r h1 h2 (by omega),fun r h1 h2 => by omega⟩
  ·rw [Db]
   simp only
   omega
  ·rintro ⟨M,x⟩ nn ⟨k,hx,k1,k2,rp,hA,hB⟩ hnn
   simp only at hx rp hA hB
   subst hx
   have hM := rp.len
   have ek : Int.toNat (k : Int) = k := by omega
   have fin : (k = a ∨ ¬ M.getD k 0 < M.getD (k - 1) 0) → Ok (n M) (fun M => RP a b L M ∧ Fw a b M) := by
    intro hstop
    refine hn M ⟨rp,fun p q h1 h2 h3 => ?_⟩
    by_cases hp : p = k
    ·subst hp
     exact hB q h2 (by omega)
    by_cases hq : q = k
    ·subst hq
     rcases hstop with h | h
     ·omega
     ·by_cases hp2 : p = q - 1
      ·subst hp2
       omega
      ·have := hA p (q - 1) h1 (by omega) (by omega) hp (by omega)
       omega
    exact hA p q h1 h2 (by omega) hp hq
   unfold Gy Dh
   simp only
   refine Ok.ite (fun c => ?_) fun c => ?_
   ·have c := of_decide_eq_true c
    have hw : w64 ((k : Int) - 1) = ((k - 1 : Nat) : Int) := by
     rw [Ay (by omega) (by omega)]
     omega
    have ek1 : Int.toNat ((k - 1 : Nat) : Int) = k - 1 := by omega
    rw [hw,ek,ek1,Jw]
    refine Ok.guard (by omega) (Ok.guard (by omega) (Ok.guard (by omega) (Ok.guard (by omega) ?_)))
    refine Ok.step rfl ?_
    refine Ok.ite (fun c2 => ?_) fun c2 => ?_
    ·have c2 := of_decide_eq_true c2
     refine Ok.guard (by omega) (Ok.guard (by omega) (Ok.guard (by omega) (Ok.guard (by omega) (Ok.guard (by omega) (Ok.guard (by omega) (Ok.guard (by omega) (Ok.guard (by omega) ?_)))))))
     have hkl : k < M.length := by omega
     have hk1 : k - 1 < M.length := by omega
     have hg : ∀ r,(Dl M k (k - 1)).getD r 0 = if r = k - 1 then M.getD k 0 else if r = k then M.getD (k - 1) 0 else M.getD r 0 := fun r => Hn hkl hk1
     refine hnn (Dl M k (k - 1),((k - 1 : Nat) : Int)) ⟨k - 1,rfl,by omega,by omega,rp.trans (RP.swap (by omega) (by omega) (by omega) (by omega) (by omega)),?_,?_⟩ (by simp only; omega)
     ·intro p r h1 h2 h3 h4 h5
      simp only
      rw [hg,hg,if_neg h4,if_neg h5]
      by_cases hp : p = k
      ·rw [if_pos hp,if_neg (by omega)]
       exact hA (k - 1) r (by omega) (by omega) h3 (by omega) (by omega)
      ·rw [if_neg hp]
       by_cases hr : r = k
       ·rw [if_pos hr]
        exact hA p (k - 1) h1 (by omega) (by omega) hp (by omega)
       ·rw [if_neg hr]
        exact hA p r h1 h2 h3 hp hr
     ·intro r h1 h2
      simp only
      rw [hg,hg,if_pos rfl,if_neg (by omega)]
      by_cases hr : r = k
      ·rw [if_pos hr]
       omega
      ·rw [if_neg hr]
       exact hB r (by omega) h2
    ·exact fin (.inr (of_decide_eq_false c2))
   ·have c := of_decide_eq_false c
    simp only [Bool.false_eq_true,if_false]
    exact fin (.inl (by omega))
 ·intro s ⟨i1,i2⟩
  refine Ok.ret ⟨i1,fun p q h1 h2 h3 => i2 p q h1 h2 (by omega)⟩
end Go.Dm

/- Plain theory, part 27: the library's partitions. -/
namespace Go.Dm
def PartQ (L : List Int) (a b : Nat) (r : Int × Bool × List Int) : Prop :=
 ∃ m : Nat,r.1 = (m : Int) ∧ a ≤ m ∧ m < b ∧ RP a b L r.2.2 ∧ (∀ k,a ≤ k → k < m → r.2.2.getD k 0 ≤ r.2.2.getD m 0) ∧ (∀ k,m < k → k < b → r.2.2.getD m 0 ≤ r.2.2.getD k 0)
structure PartI (L : List Int) (a b : Nat) (M : List Int) (i j : Nat) : Prop where
 rp : RP a b L M
 i1 : a + 1 ≤ i
 ij : i ≤ j + 1
 jb : j < b
 ja : a ≤ j
 lo : ∀ k,a + 1 ≤ k → k < i → M.getD k 0 < M.getD a 0
 hi : ∀ k,j < k → k < b → ¬ M.getD k 0 < M.getD a 0
theorem PartI.fin {L M : List Int} {a b i j : Nat} (hb : b ≤ L.length) (h : PartI L a b M i j) (hij : j < i) (t : Bool) : PartQ L a b ((j : Int),t,Dl M j a) := by
 have hM := h.rp.len
 have h1 := h.i1
 have h2 := h.ij
 have h3 := h.jb
 have h4 := h.ja
 have hj : j < M.length := by omega
 have ha : a < M.length := by omega
 have hg : ∀ r,(Dl M j a).getD r 0 = if r = a then M.getD j 0 else if r = j then M.getD a 0 else M.getD r 0 := fun r => Hn hj ha
 have hmid : (Dl M j a).getD j 0 = M.getD a 0 := by
  rw [hg]
  split
  ·rename_i e
   rw [e]
  ·rw [if_pos rfl]
 refine ⟨j,rfl,h4,h3,h.rp.trans (RP.swap (by omega) (by omega) (by omega) (by omega) (by omega)),?_,?_⟩
 ·intro k k1 k2
  simp only
  rw [hmid,hg]
  split
  ·have := h.lo j (by omega) (by omega)
   omega
  ·rw [if_neg (by omega)]
   have := h.lo k (by omega) (by omega)
   omega
 ·intro k k1 k2
  simp only
  rw [hmid,hg,if_neg (by omega),if_neg (by omega)]
  have := h.hi k k1 k2
  omega
theorem PartI.swap {L M : List Int} {a b i j : Nat} (hb : b ≤ L.length) (h : PartI L a b M i j) (hij : i ≤ j) (hi : ¬ M.getD i 0 < M.getD a 0) (hj : M.getD j 0 < M.getD a 0) : PartI L a b (Dl M i j) (i + 1) (j - 1) := by
 have hM := h.rp.len
 have h1 := h.i1
 have h3 := h.jb
 have hne : i ≠ j := fun e => by subst e; exact hi hj
 have hil : i < M.length := by omega
 have hjl : j < M.length := by omega
 have hg : ∀ r,(Dl M i j).getD r 0 = if r = j then M.getD i 0 else if r = i then M.getD j 0 else M.getD r 0 := fun r => Hn hil hjl
 have ha : (Dl M i j).getD a 0 = M.getD a 0 := by rw [hg,if_neg (by omega),if_neg (by omega)]
 refine ⟨h.rp.trans (RP.swap (by omega) (by omega) (by omega) (by omega) (by omega)),by omega,by omega,by omega,by omega,?_,?_⟩
 ·intro k k1 k2
  rw [ha,hg]
  by_cases e : k = i
  ·rw [if_neg (by omega),if_pos e]
   exact hj
  ·rw [if_neg (by omega),if_neg e]
   exact h.lo k k1 (by omega)
 ·intro k k1 k2
  rw [ha,hg]
  by_cases e : k = j
  ·rw [if_pos e]
   exact hi
  ·rw [if_neg e,if_neg (by omega)]
   exact h.hi k (by omega) k2
theorem PartI.incI {L M : List Int} {a b i j : Nat} (h : PartI L a b M i j) (hij : i ≤ j) (hi : M.getD i 0 < M.getD a 0) : PartI L a b M (i + 1) j := by
 refine ⟨h.rp,by have := h.i1; omega,by omega,h.jb,h.ja,fun k k1 k2 => ?_,h.hi⟩
 by_cases e : k = i
 ·subst e
  exact hi
 ·exact h.lo k k1 (by omega)
theorem PartI.decJ {L M : List Int} {a b i j : Nat} (h : PartI L a b M i j) (hij : i ≤ j) (hj : ¬ M.getD j 0 < M.getD a 0) : PartI L a b M i (j - 1) := by
 have h1 := h.i1
 have h3 := h.jb
 refine ⟨h.rp,by omega,by omega,by omega,by omega,h.lo,fun k k1 k2 => ?_⟩
 by_cases e : k = j
 ·subst e
  exact hj
 ·exact h.hi k (by omega) k2
theorem part_loop {L : List Int} {a b : Nat} (hb : b ≤ L.length) (hl : L.length ≤ 1000000) {M0 : List Int} {i0 j0 : Nat} (h0 : PartI L a b M0 i0 j0) : Ok (whileO (Gc (a : Int)) Dz (M0,(i0 : Int),(j0 : Int))) (PartQ L a b) := by
 have ea : Int.toNat (a : Int) = a := by omega
 refine Ok.while (fun s => ∃ i j : Nat,s.2.1 = (i : Int) ∧ s.2.2 = (j : Int) ∧ PartI L a b s.1 i j) (fun s => (s.2.2 + 1 - s.2.1).toNat) ⟨i0,j0,rfl,rfl,h0⟩ (by rw [Db]; have := h0.jb; simp only; omega) ?_
 rintro ⟨M,x,y⟩ n ⟨i,j,hx,hy,h⟩ hn
 simp only at hx hy h
 subst hx hy
 unfold Gc
 simp only
 refine Ok.while (fun q => ∃ k : Nat,q = (k : Int) ∧ i ≤ k ∧ PartI L a b M k j) (fun q => ((j : Int) + 1 - q).toNat) ⟨i,rfl,Nat.le_refl _,h⟩ (by rw [Db]; have := h.jb; omega) ?_
 rintro q n1 ⟨k,rfl,hik,hk⟩ hn1
 have hM := hk.rp.len
 have hjb := hk.jb
 have hka := hk.i1
 have hja := hk.ja
 have ek : Int.toNat (k : Int) = k := by omega
 have second : ((k : Int) ≤ (j : Int) → ¬ M.getD k 0 < M.getD a 0) → Ok (whileO (Ga (a : Int) (M,(i : Int),(j : Int)) n (k : Int)) Dz (j : Int)) (PartQ L a b) := by
  intro hstop
  refine Ok.while (fun q => ∃ m : Nat,q = (m : Int) ∧ PartI L a b M k m ∧ m ≤ j) (fun q => q.toNat) ⟨j,rfl,hk,Nat.le_refl _⟩ (by rw [Db]; omega) ?_
  rintro q n2 ⟨m,rfl,hm,hmj⟩ hn2
  have hmb := hm.jb
  have hma := hm.ja
  have hkm := hm.ij
  have em : Int.toNat (m : Int) = m := by omega
  unfold Ga Ek
  simp only
  rw [ea,em,ek]
  refine Ok.ite (fun c => ?_) fun c => ?_
  ·have c := of_decide_eq_true c
   refine Ok.guard (by omega) (Ok.guard (by omega) (Ok.guard (by omega) (Ok.guard (by omega) ?_)))
   refine Ok.step (Jw _ _) ?_
   refine Ok.ite (fun c2 => ?_) fun c2 => ?_
   ·have c2 : ¬ M.getD m 0 < M.getD a 0 := by simpa using c2
    have hw : w64 ((m : Int) - 1) = ((m - 1 : Nat) : Int) := by
     rw [Ay (by omega) (by omega)]
     omega
    rw [hw]
    exact hn2 _ ⟨m - 1,rfl,hm.decJ (by omega) c2,by omega⟩ (by omega)
   ·have c2 : M.getD m 0 < M.getD a 0 := by
     rw [Bool.not_eq_false'] at c2
     exact of_decide_eq_true c2
    refine Ok.ite (fun c3 => by have := of_decide_eq_true c3; omega) fun _ => ?_
    refine Ok.guard (by omega) (Ok.guard (by omega) (Ok.guard (by omega) (Ok.guard (by omega) (Ok.guard (by omega) (Ok.guard (by omega) (Ok.guard (by omega) (Ok.guard (by omega) ?_)))))))
    have w1 : w64 ((k : Int) + 1) = ((k + 1 : Nat) : Int) := by
     rw [Ay (by omega) (by omega)]
     omega
    have w2 : w64 ((m : Int) - 1) = ((m - 1 : Nat) : Int) := by
     rw [Ay (by omega) (by omega)]
     omega
    rw [w1,w2]
    have hsw := hm.swap hb (by omega) (hstop (by omega)) c2
    exact hn (Dl M k m,_,_) ⟨k + 1,m - 1,rfl,rfl,hsw⟩ (by simp only; omega)
  ·have c := of_decide_eq_false c
   simp only [Bool.false_eq_true,if_false]
   refine Ok.ite (fun _ => ?_) fun c3 => by have := of_decide_eq_false c3; omega
   refine Ok.guard (by omega) (Ok.guard (by omega) (Ok.guard (by omega) (Ok.guard (by omega) (Ok.guard (by omega) (Ok.guard (by omega) (Ok.guard (by omega) (Ok.guard (by omega) (Ok.ret ?_))))))))
   exact hm.fin hb (by omega) false
 unfold Hr Em
 simp only
 rw [ea,ek]
 refine Ok.ite (fun c => ?_) fun c => ?_
 ·have c := of_decide_eq_true c
  refine Ok.guard (by omega) (Ok.guard (by omega) (Ok.guard (by omega) (Ok.guard (by omega) ?_)))
  refine Ok.step (Jw _ _) ?_
  refine Ok.ite (fun c2 => ?_) fun c2 => second fun _ => of_decide_eq_false c2
  have c2 := of_decide_eq_true c2
  have hw : w64 ((k : Int) + 1) = ((k + 1 : Nat) : Int) := by
   rw [Ay (by omega) (by omega)]
   omega
  rw [hw]
  exact hn1 _ ⟨k + 1,rfl,by omega,hk.incI (by omega) c2⟩ (by omega)
 ·have c := of_decide_eq_false c
  simp only [Bool.false_eq_true,if_false]
  exact second fun e => absurd e c
theorem AhO {L : List Int} {a b p : Nat} (hab : a + 1 < b) (hb : b ≤ L.length) (hl : L.length ≤ 1000000) (p1 : a ≤ p) (p2 : p < b) : Ok (Fh L (a : Int) (b : Int) (p : Int)) (PartQ L a b) := by
 have ea : Int.toNat (a : Int) = a := by omega
 have ep : Int.toNat (p : Int) = p := by omega
 have wa : w64 ((a : Int) + 1) = ((a + 1 : Nat) : Int) := by
  rw [Ay (by omega) (by omega)]
  omega
 have wb : w64 ((b : Int) - 1) = ((b - 1 : Nat) : Int) := by
  rw [Ay (by omega) (by omega)]
  omega
 have rp0 : RP a b L (Dl L a p) := RP.swap hb (Nat.le_refl _) (by omega) p1 p2
 generalize hS : Dl L a p = S at rp0
 have hS' : (L.set a (L.getD p 0)).set p (L.getD a 0) = S := hS
 have hlen := rp0.len
 have h0 : PartI L a b S (a + 1) (b - 1) := ⟨rp0,by omega,by omega,by omega,by omega,fun k k1 k2 => by omega,fun k k1 k2 => by omega⟩
 unfold Fh
 rw [ea,ep,wa]
 refine Ok.guard (by omega) (Ok.guard (by omega) (Ok.guard (by omega) (Ok.guard (by omega) (Ok.guard (by omega) (Ok.guard (by omega) (Ok.guard (by omega) (Ok.guard (by omega) ?_)))))))
 refine Ok.while (fun q => ∃ k : Nat,q = (k : Int) ∧ PartI L a b S k (b - 1)) (fun q => ((b : Int) - q).toNat) ⟨a + 1,rfl,h0⟩ (by rw [Db]; omega) ?_
 rintro q n1 ⟨k,rfl,hk⟩ hn1
 have hka := hk.i1
 have ek : Int.toNat (k : Int) = k := by omega
 have second : (k ≤ b - 1 → ¬ S.getD k 0 < S.getD a 0) → Ok (whileO (Fz L (a : Int) (p : Int) (k : Int)) Dz ((b - 1 : Nat) : Int)) (PartQ L a b) := by
  intro hstop
  refine Ok.while (fun q => ∃ m : Nat,q = (m : Int) ∧ PartI L a b S k m ∧ m ≤ b - 1) (fun q => q.toNat) ⟨b - 1,rfl,hk,Nat.le_refl _⟩ (by rw [Db]; omega) ?_
  rintro q n2 ⟨m,rfl,hm,hmj⟩ hn2
  have hmb := hm.jb
  have hma := hm.ja
  have hkm := hm.ij
  have em : Int.toNat (m : Int) = m := by omega
  unfold Fz Eh
  rw [ea,em,ek,ep,hS']
  refine Ok.ite (fun c => ?_) fun c => ?_
  ·have c := of_decide_eq_true c
   refine Ok.guard (by omega) (Ok.guard (by omega) (Ok.guard (by omega) (Ok.guard (by omega) ?_)))
   refine Ok.step (Jw _ _) ?_
   refine Ok.ite (fun c2 => ?_) fun c2 => ?_
   ·have c2 : ¬ S.getD m 0 < S.getD a 0 := by simpa using c2
    have hw : w64 ((m : Int) - 1) = ((m - 1 : Nat) : Int) := by
     rw [Ay (by omega) (by omega)]
     omega
    rw [hw]
    exact hn2 _ ⟨m - 1,rfl,hm.decJ (by omega) c2,by omega⟩ (by omega)
   ·have c2 : S.getD m 0 < S.getD a 0 := by
     rw [Bool.not_eq_false'] at c2
     exact of_decide_eq_true c2
    refine Ok.ite (fun c3 => by have := of_decide_eq_true c3; omega) fun _ => ?_
    refine Ok.guard (by omega) (Ok.guard (by omega) (Ok.guard (by omega) (Ok.guard (by omega) (Ok.guard (by omega) (Ok.guard (by omega) (Ok.guard (by omega) (Ok.guard (by omega) ?_)))))))
    have w1 : w64 ((k : Int) + 1) = ((k + 1 : Nat) : Int) := by
     rw [Ay (by omega) (by omega)]
     omega
    have w2 : w64 ((m : Int) - 1) = ((m - 1 : Nat) : Int) := by
     rw [Ay (by omega) (by omega)]
     omega
    rw [w1,w2]
    exact part_loop hb hl (hm.swap hb (by omega) (hstop (by omega)) c2)
  ·have c := of_decide_eq_false c
   simp only [Bool.false_eq_true,if_false]
   refine Ok.ite (fun _ => ?_) fun c3 => by have := of_decide_eq_false c3; omega
   refine Ok.guard (by omega) (Ok.guard (by omega) (Ok.guard (by omega) (Ok.guard (by omega) (Ok.guard (by omega) (Ok.guard (by omega) (Ok.guard (by omega) (Ok.guard (by omega) (Ok.ret ?_))))))))
   exact hm.fin hb (by omega) true
 unfold Il El
 rw [wb,ea,ek,ep,hS']
 refine Ok.ite (fun c => ?_) fun c => ?_
 ·have c := of_decide_eq_true c
  refine Ok.guard (by omega) (Ok.guard (by omega) (Ok.guard (by omega) (Ok.guard (by omega) ?_)))
  refine Ok.step (Jw _ _) ?_
  refine Ok.ite (fun c2 => ?_) fun c2 => second fun _ => of_decide_eq_false c2
  have c2 := of_decide_eq_true c2
  have hw : w64 ((k : Int) + 1) = ((k + 1 : Nat) : Int) := by
   rw [Ay (by omega) (by omega)]
   omega
  rw [hw]
  exact hn1 _ ⟨k + 1,rfl,hk.incI (by omega) c2⟩ (by omega)
 ·have c := of_decide_eq_false c
  simp only [Bool.false_eq_true,if_false]
  exact second fun e => by omega
structure PartF (L : List Int) (a b : Nat) (v : Int) (M : List Int) (i j : Nat) : Prop where
 rp : RP a b L M
 pv : M.getD a 0 = v
 i1 : a + 1 ≤ i
 ij : i ≤ j + 1
 jb : j < b
 ja : a ≤ j
 lo : ∀ k,a + 1 ≤ k → k < i → ¬ v < M.getD k 0
 hi : ∀ k,j < k → k < b → v < M.getD k 0
theorem Aea {L : List Int} {a b p : Nat} (hab : a + 1 < b) (hb : b ≤ L.length) (hl : L.length ≤ 1000000) (p1 : a ≤ p) (p2 : p < b) :
  Ok (Dp L (a : Int) (b : Int) (p : Int)) (fun r => ∃ m : Nat,r.1 = (m : Int) ∧ a + 1 ≤ m ∧ m ≤ b ∧ RP a b L r.2 ∧ (∀ k,a ≤ k → k < m → r.2.getD k 0 ≤ L.getD p 0) ∧ (∀ k,m ≤ k → k < b → L.getD p 0 < r.2.getD k 0)) := by
 have ea : Int.toNat (a : Int) = a := by omega
 have ep : Int.toNat (p : Int) = p := by omega
 have wa : w64 ((a : Int) + 1) = ((a + 1 : Nat) : Int) := by
  rw [Ay (by omega) (by omega)]
  omega
 have wb : w64 ((b : Int) - 1) = ((b - 1 : Nat) : Int) := by
  rw [Ay (by omega) (by omega)]
  omega
 have rp0 : RP a b L (Dl L a p) := RP.swap hb (Nat.le_refl _) (by omega) p1 p2
 have hpv : (Dl L a p).getD a 0 = L.getD p 0 := by
  rw [Hn (by omega) (by omega)]
  split
  ·rename_i e
   rw [e]
  ·rw [if_pos rfl]
 unfold Dp
 rw [ea,ep,wa,wb]
 refine Ok.guard (by omega) (Ok.guard (by omega) (Ok.guard (by omega) (Ok.guard (by omega) (Ok.guard (by omega) (Ok.guard (by omega) (Ok.guard (by omega) (Ok.guard (by omega) ?_)))))))
 refine Ok.while (fun s => ∃ i j : Nat,s.2.2 = (i : Int) ∧ s.2.1 = (j : Int) ∧ PartF L a b (L.getD p 0) s.1 i j) (fun s => (s.2.1 + 1 - s.2.2).toNat) ⟨a + 1,b - 1,rfl,rfl,⟨rp0,hpv,by omega,by omega,by omega,by omega,fun k k1 k2 => by omega,fun k k1 k2 => by omega⟩⟩ (by rw [Db]; simp only; omega) ?_
 rintro ⟨M,y,x⟩ n ⟨i,j,hx,hy,h⟩ hn
 simp only at hx hy h
 subst hx hy
 unfold Gq
 simp only
 refine Ok.while (fun q => ∃ k : Nat,q = (k : Int) ∧ i ≤ k ∧ PartF L a b (L.getD p 0) M k j) (fun q => ((j : Int) + 1 - q).toNat) ⟨i,rfl,Nat.le_refl _,h⟩ (by rw [Db]; have := h.jb; omega) ?_
 rintro q n1 ⟨k,rfl,hik,hk⟩ hn1
 have hM := hk.rp.len
 have hjb := hk.jb
 have hka := hk.i1
 have hja := hk.ja
 have hpv := hk.pv
 have ek : Int.toNat (k : Int) = k := by omega
 have second : ((k : Int) ≤ (j : Int) → L.getD p 0 < M.getD k 0) → Ok (whileO (Et (a : Int) (M,(j : Int),(i : Int)) n (k : Int)) Dz (j : Int)) (fun r => ∃ m : Nat,r.1 = (m : Int) ∧ a + 1 ≤ m ∧ m ≤ b ∧ RP a b L r.2 ∧ (∀ k,a ≤ k → k < m → r.2.getD k 0 ≤ L.getD p 0) ∧ (∀ k,m ≤ k → k < b → L.getD p 0 < r.2.getD k 0)) := by
  intro hstop
  refine Ok.while (fun q => ∃ m : Nat,q = (m : Int) ∧ PartF L a b (L.getD p 0) M k m ∧ m ≤ j) (fun q => q.toNat) ⟨j,rfl,hk,Nat.le_refl _⟩ (by rw [Db]; omega) ?_
  rintro q n2 ⟨m,rfl,hm,hmj⟩ hn2
  have hmb := hm.jb
  have hma := hm.ja
  have hkm := hm.ij
  have em : Int.toNat (m : Int) = m := by omega
  unfold Et Dd
  simp only
  rw [ea,em,ek]
  refine Ok.ite (fun c => ?_) fun c => ?_
  ·have c := of_decide_eq_true c
   refine Ok.guard (by omega) (Ok.guard (by omega) (Ok.guard (by omega) (Ok.guard (by omega) ?_)))
   refine Ok.step (Jw _ _) ?_
   refine Ok.ite (fun c2 => ?_) fun c2 => ?_
   ·have c2 := of_decide_eq_true c2
    have hw : w64 ((m : Int) - 1) = ((m - 1 : Nat) : Int) := by
     rw [Ay (by omega) (by omega)]
     omega
    rw [hw]
    refine hn2 _ ⟨m - 1,rfl,⟨hm.rp,hm.pv,hm.i1,by omega,by omega,by omega,hm.lo,fun r r1 r2 => ?_⟩,by omega⟩ (by omega)
    by_cases e : r = m
    ·subst e
     omega
    ·exact hm.hi r (by omega) r2
   ·have c2 := of_decide_eq_false c2
    refine Ok.ite (fun c3 => by have := of_decide_eq_true c3; omega) fun _ => ?_
    refine Ok.guard (by omega) (Ok.guard (by omega) (Ok.guard (by omega) (Ok.guard (by omega) (Ok.guard (by omega) (Ok.guard (by omega) (Ok.guard (by omega) (Ok.guard (by omega) ?_)))))))
    have w1 : w64 ((k : Int) + 1) = ((k + 1 : Nat) : Int) := by
     rw [Ay (by omega) (by omega)]
     omega
    have w2 : w64 ((m : Int) - 1) = ((m - 1 : Nat) : Int) := by
     rw [Ay (by omega) (by omega)]
     omega
    rw [w1,w2]
    have hst := hstop (by omega)
    have hne : k ≠ m := fun e => by subst e; omega
    have hg : ∀ r,(Dl M k m).getD r 0 = if r = m then M.getD k 0 else if r = k then M.getD m 0 else M.getD r 0 := fun r => Hn (by omega) (by omega)
    refine hn (Dl M k m,_,_) ⟨k + 1,m - 1,rfl,rfl,⟨hm.rp.trans (RP.swap (by omega) (by omega) (by omega) (by omega) (by omega)),?_,by omega,by omega,by omega,by omega,?_,?_⟩⟩ (by simp only; omega)
    ·rw [hg,if_neg (by omega),if_neg (by omega)]
     exact hpv
    ·intro r r1 r2
     rw [hg]
     by_cases e : r = k
     ·rw [if_neg (by omega),if_pos e]
      omega
     ·rw [if_neg (by omega),if_neg e]
      exact hm.lo r r1 (by omega)
    ·intro r r1 r2
     rw [hg]
     by_cases e : r = m
     ·rw [if_pos e]
      exact hst
     ·rw [if_neg e,if_neg (by omega)]
      exact hm.hi r (by omega) r2
  ·have c := of_decide_eq_false c
   simp only [Bool.false_eq_true,if_false]
   refine Ok.ite (fun _ => Ok.ret ⟨k,rfl,by omega,by omega,hm.rp,fun r r1 r2 => ?_,fun r r1 r2 => hm.hi r (by omega) r2⟩) fun c3 => by have := of_decide_eq_false c3; omega
   by_cases e : r = a
   ·subst e
    simp only
    omega
   ·have := hm.lo r (by omega) r2
    simp only
    omega
 unfold Gr Dc
 simp only
 rw [ea,ek]
 refine Ok.ite (fun c => ?_) fun c => ?_
 ·have c := of_decide_eq_true c
  refine Ok.guard (by omega) (Ok.guard (by omega) (Ok.guard (by omega) (Ok.guard (by omega) ?_)))
  refine Ok.step (Jw _ _) ?_
  refine Ok.ite (fun c2 => ?_) fun c2 => ?_
  ·have c2 : ¬ M.getD a 0 < M.getD k 0 := by simpa using c2
   have hw : w64 ((k : Int) + 1) = ((k + 1 : Nat) : Int) := by
    rw [Ay (by omega) (by omega)]
    omega
   rw [hw]
   refine hn1 _ ⟨k + 1,rfl,by omega,⟨hk.rp,hk.pv,by omega,by omega,hk.jb,hk.ja,fun r r1 r2 => ?_,hk.hi⟩⟩ (by omega)
   by_cases e : r = k
   ·subst e
    omega
   ·exact hk.lo r r1 (by omega)
  ·have c2 : M.getD a 0 < M.getD k 0 := by
    rw [Bool.not_eq_false'] at c2
    exact of_decide_eq_true c2
   exact second fun _ => by omega
 ·have c := of_decide_eq_false c
  simp only [Bool.false_eq_true,if_false]
  exact second fun e => absurd e c
end Go.Dm

/- Plain theory, part 28: the library's heap sort. -/
namespace Go.Dm
def AdB (a lo hi : Nat) (M : List Int) : Prop := ∀ c,1 ≤ c → c < hi → lo ≤ (c - 1) / 2 → M.getD (a + c) 0 ≤ M.getD (a + (c - 1) / 2) 0
theorem Aex {L : List Int} {a b lo hi : Nat} (hb : b ≤ L.length) (hl : L.length ≤ 1000000) (hhi : a + hi ≤ b) (hlo : lo ≤ 1000000) (hpre : AdB a (lo + 1) hi L) :
  Ok (Ec L (lo : Int) (hi : Int) (a : Int)) (fun M => RP a (a + hi) L M ∧ AdB a lo hi M) := by
 unfold Ec
 refine Ok.while (fun s => ∃ r : Nat,s.2 = (r : Int) ∧ lo ≤ r ∧ r ≤ 1000000 ∧ RP a (a + hi) L s.1 ∧ (∀ c,1 ≤ c → c < hi → lo ≤ (c - 1) / 2 → (c - 1) / 2 ≠ r → s.1.getD (a + c) 0 ≤ s.1.getD (a + (c - 1) / 2) 0) ∧
  (1 ≤ r → lo ≤ (r - 1) / 2 → ∀ c,1 ≤ c → c < hi → (c - 1) / 2 = r → s.1.getD (a + c) 0 ≤ s.1.getD (a + (r - 1) / 2) 0)) (fun s => 1000001 - s.2.toNat) ?_ (by rw [Db]; omega) ?_
 ·exact ⟨lo,rfl,Nat.le_refl _,hlo,.refl _ _ _,fun c c1 c2 c3 c4 => hpre c c1 c2 (by omega),fun h1 h2 => by omega⟩
 rintro ⟨M,x⟩ n ⟨r,hx,r1,r2,rp,hA,hB⟩ hn
 simp only at hx rp hA hB
 subst hx
 have hM := rp.len
 have w1 : w64 ((w64 (2 * (r : Int))) + 1) = ((2 * r + 1 : Nat) : Int) := by
  rw [Ay (n := 2 * (r : Int)) (by omega) (by omega),Ay (by omega) (by omega)]
  omega
 have w2 : w64 (((2 * r + 1 : Nat) : Int) + 1) = ((2 * r + 2 : Nat) : Int) := by
  rw [Ay (by omega) (by omega)]
  omega
 unfold Iv
 simp only
 rw [w1,w2]
 refine Ok.ite (fun c => ?_) fun c => ?_
 ·have c := of_decide_eq_true c
  refine Ok.ret ⟨rp,fun d d1 d2 d3 => hA d d1 d2 d3 (by omega)⟩
 have c := of_decide_eq_false c
 have hr : 2 * r + 1 < hi := by omega
 have hJ4 : ∀ m : Nat,m < hi → (m = 2 * r + 1 ∨ m = 2 * r + 2) → (∀ d,1 ≤ d → d < hi → (d - 1) / 2 = r → M.getD (a + d) 0 ≤ M.getD (a + m) 0) → Ok (Di (a : Int) (M,(r : Int)) n (m : Int)) (fun M => RP a (a + hi) L M ∧ AdB a lo hi M) := by
  intro m hm hmc hmax
  have e1 : w64 ((a : Int) + (r : Int)) = ((a + r : Nat) : Int) := by
   rw [Ay (by omega) (by omega)]
   omega
  have e2 : w64 ((a : Int) + (m : Int)) = ((a + m : Nat) : Int) := by
   rw [Ay (by omega) (by omega)]
   omega
  have e3 : Int.toNat ((a + r : Nat) : Int) = a + r := by omega
  have e4 : Int.toNat ((a + m : Nat) : Int) = a + m := by omega
  unfold Di
  simp only
  rw [e1,e2,e3,e4]
  refine Ok.guard (by omega) (Ok.guard (by omega) (Ok.guard (by omega) (Ok.guard (by omega) ?_)))
  refine Ok.step (Jw _ _) ?_
  refine Ok.ite (fun c2 => ?_) fun c2 => ?_
  ·have c2 : ¬ M.getD (a + r) 0 < M.getD (a + m) 0 := by simpa using c2
   refine Ok.ret ⟨rp,fun d d1 d2 d3 => ?_⟩
   by_cases e : (d - 1) / 2 = r
   ·rw [e]
    have := hmax d d1 d2 e
    omega
   ·exact hA d d1 d2 d3 e
  ·have c2 : M.getD (a + r) 0 < M.getD (a + m) 0 := by
    rw [Bool.not_eq_false'] at c2
    exact of_decide_eq_true c2
   refine Ok.guard (by omega) (Ok.guard (by omega) (Ok.guard (by omega) (Ok.guard (by omega) (Ok.guard (by omega) (Ok.guard (by omega) (Ok.guard (by omega) (Ok.guard (by omega) ?_)))))))
   have hg : ∀ q,(Dl M (a + r) (a + m)).getD q 0 = if q = a + m then M.getD (a + r) 0 else if q = a + r then M.getD (a + m) 0 else M.getD q 0 := fun q => Hn (by omega) (by omega)
   refine hn (Dl M (a + r) (a + m),(m : Int)) ⟨m,rfl,by omega,by omega,rp.trans (RP.swap (by omega) (by omega) (by omega) (by omega) (by omega)),?_,?_⟩ (by simp only; omega)
   ·intro d d1 d2 d3 d4
    simp only
    rw [hg,hg]
    by_cases ep : (d - 1) / 2 = r
    ·rw [if_neg (c := a + (d - 1) / 2 = a + m) (by omega),if_pos (c := a + (d - 1) / 2 = a + r) (by omega)]
     by_cases ed : d = m
     ·rw [if_pos (by omega)]
      omega
     ·rw [if_neg (by omega),if_neg (by omega)]
      exact hmax d d1 d2 ep
    ·rw [if_neg (c := a + (d - 1) / 2 = a + m) (by omega),if_neg (c := a + (d - 1) / 2 = a + r) (by omega),if_neg (c := a + d = a + m) (by omega)]
     by_cases ed : d = r
     ·rw [if_pos (by omega)]
      have := hB (by omega) (by omega) m (by omega) hm (by omega)
      rw [ed]
      exact this
     ·rw [if_neg (by omega)]
      exact hA d d1 d2 d3 ep
   ·intro _ _ d d1 d2 d3
    simp only
    have hpm : (m - 1) / 2 = r := by omega
    rw [hpm,hg,hg,if_neg (by omega),if_neg (by omega),if_neg (by omega),if_pos rfl]
    have := hA d d1 d2 (by omega) (by omega)
    rw [d3] at this
    exact this
 unfold Ew
 simp only
 have e5 : w64 ((a : Int) + ((2 * r + 1 : Nat) : Int)) = ((a + (2 * r + 1) : Nat) : Int) := by
  rw [Ay (by omega) (by omega)]
  omega
 have e6 : w64 (((a + (2 * r + 1) : Nat) : Int) + 1) = ((a + (2 * r + 2) : Nat) : Int) := by
  rw [Ay (by omega) (by omega)]
  omega
 have e7 : Int.toNat ((a + (2 * r + 1) : Nat) : Int) = a + (2 * r + 1) := by omega
 have e8 : Int.toNat ((a + (2 * r + 2) : Nat) : Int) = a + (2 * r + 2) := by omega
 rw [w1,w2,e5,e6,e7,e8]
 refine Ok.ite (fun c2 => ?_) fun c2 => ?_
 ·have c2 := of_decide_eq_true c2
  refine Ok.guard (by omega) (Ok.guard (by omega) (Ok.guard (by omega) (Ok.guard (by omega) ?_)))
  refine Ok.step (Jw _ _) ?_
  refine Ok.ite (fun c3 => hJ4 (2 * r + 2) (by omega) (.inr rfl) fun d d1 d2 d3 => ?_) fun c3 => hJ4 (2 * r + 1) (by omega) (.inl rfl) fun d d1 d2 d3 => ?_
  ·have c3 := of_decide_eq_true c3
   by_cases e : d = 2 * r + 2
   ·rw [e]
    omega
   ·have : d = 2 * r + 1 := by omega
    rw [this]
    omega
  ·have c3 := of_decide_eq_false c3
   by_cases e : d = 2 * r + 1
   ·rw [e]
    omega
   ·have : d = 2 * r + 2 := by omega
    rw [this]
    omega
 ·have c2 := of_decide_eq_false c2
  simp only [Bool.false_eq_true,if_false]
  refine hJ4 (2 * r + 1) (by omega) (.inl rfl) fun d d1 d2 d3 => ?_
  have : d = 2 * r + 1 := by omega
  rw [this]
  omega
theorem heap_max {a hi : Nat} {M : List Int} (h : AdB a 0 hi M) : ∀ c,c < hi → M.getD (a + c) 0 ≤ M.getD a 0 := by
 intro c
 induction c using Nat.strongRecOn with
 | ind c ih =>
  intro hc
  by_cases e : c = 0
  ·subst e
   simp
  ·have h1 := h c (by omega) hc (by omega)
   have h2 := ih ((c - 1) / 2) (by omega) (by omega)
   omega
theorem Aid {L : List Int} {a b : Nat} (hab : a < b) (hb : b ≤ L.length) (hl : L.length ≤ 1000000) : Ok (Fp L (a : Int) (b : Int)) (fun M => RP a b L M ∧ Fw a b M) := by
 have wn : w64 ((b : Int) - (a : Int)) = ((b - a : Nat) : Int) := by
  rw [Ay (by omega) (by omega)]
  omega
 have wn1 : w64 (((b - a : Nat) : Int) - 1) = ((b - a - 1 : Nat) : Int) := by
  rw [Ay (by omega) (by omega)]
  omega
 have wh : w64 (Int.tdiv ((b - a - 1 : Nat) : Int) 2) = (((b - a - 1) / 2 : Nat) : Int) := by
  rw [Int.tdiv_eq_ediv_of_nonneg (by omega),Ay (by omega) (by omega)]
  omega
 have ea : Int.toNat (a : Int) = a := by omega
 unfold Fp
 rw [wn,wn1,wh]
 refine Ok.while (fun s => ∃ k : Nat,s.2 = (k : Int) - 1 ∧ k ≤ 1000000 ∧ RP a b L s.1 ∧ AdB a k (b - a) s.1) (fun s => (s.2 + 1).toNat) ?_ ?_ ?_
 ·exact ⟨(b - a - 1) / 2 + 1,by simp only; omega,by omega,.refl _ _ _,fun c c1 c2 c3 => by omega⟩
 ·rw [Db]
  simp only
  omega
 rintro ⟨M,x⟩ n ⟨k,hx,hk,rp,hp⟩ hn
 simp only at hx rp hp
 subst hx
 have hM := rp.len
 unfold It
 simp only
 refine Ok.ite (fun c => ?_) fun c => ?_
 ·have c := of_decide_eq_true c
  have ek : (k : Int) - 1 = ((k - 1 : Nat) : Int) := by omega
  rw [wn,ek]
  refine Ok.bind (Aex (b := b) (by omega) (by omega) (by omega) (by omega) (by rw [show k - 1 + 1 = k by omega]; exact hp)) fun N ⟨rn,hn2⟩ => ?_
  refine Ok.guard rn.len.symm (hn _ ⟨k - 1,?_,by omega,rp.trans (by rw [show a + (b - a) = b by omega] at rn; exact rn),hn2⟩ ?_)
  ·simp only
   rw [Ay (by omega) (by omega)]
  ·simp only
   rw [Ay (by omega) (by omega)]
   omega
 ·have c := of_decide_eq_false c
  have k0 : k = 0 := by omega
  subst k0
  rw [wn,wn1]
  clear hn
  refine Ok.while (fun s => ∃ k : Nat,s.2 = (k : Int) - 1 ∧ k ≤ b - a ∧ RP a b L s.1 ∧ AdB a 0 k s.1 ∧ (∀ p q,k ≤ p → p < q → q < b - a → s.1.getD (a + p) 0 ≤ s.1.getD (a + q) 0) ∧ (∀ p q,p < k → k ≤ q → q < b - a → s.1.getD (a + p) 0 ≤ s.1.getD (a + q) 0)) (fun s => (s.2 + 1).toNat) ?_ ?_ ?_
  ·exact ⟨b - a,by simp only; omega,Nat.le_refl _,rp,hp,fun p q h1 h2 h3 => by omega,fun p q h1 h2 h3 => by omega⟩
  ·rw [Db]
   simp only
   omega
  clear rp hp hM hk c
  rintro ⟨M,x⟩ n ⟨k,hx,hk,rp,hp,h1,h2⟩ hn
  simp only at hx rp hp h1 h2
  subst hx
  have hM := rp.len
  unfold Iw
  simp only
  refine Ok.ite (fun c => ?_) fun c => ?_
  ·have c := of_decide_eq_true c
   obtain ⟨i,rfl⟩ : ∃ i,k = i + 1 := ⟨k - 1,by omega⟩
   have ek : ((i + 1 : Nat) : Int) - 1 = (i : Int) := by omega
   have e1 : w64 ((a : Int) + (i : Int)) = ((a + i : Nat) : Int) := by
    rw [Ay (by omega) (by omega)]
    omega
   have e2 : Int.toNat ((a + i : Nat) : Int) = a + i := by omega
   rw [ek,e1,e2,ea]
   refine Ok.guard (by omega) (Ok.guard (by omega) (Ok.guard (by omega) (Ok.guard (by omega) (Ok.guard (by omega) (Ok.guard (by omega) (Ok.guard (by omega) (Ok.guard (by omega) ?_)))))))
   have hS : (M.set a (M.getD (a + i) 0)).set (a + i) (M.getD a 0) = Dl M a (a + i) := rfl
   rw [hS]
   have hg : ∀ q,(Dl M a (a + i)).getD q 0 = if q = a + i then M.getD a 0 else if q = a then M.getD (a + i) 0 else M.getD q 0 := fun q => Hn (by omega) (by omega)
   have hmax := heap_max hp
   have hsl := Adg M a (a + i)
   have rps : RP a b M (Dl M a (a + i)) := RP.swap (by omega) (by omega) (by omega) (by omega) (by omega)
   generalize Dl M a (a + i) = S at *
   refine Ok.bind (Aex (L := S) (a := a) (b := b) (lo := 0) (hi := i) (by omega) (by omega) (by omega) (by omega) (fun d d1 d2 d3 => ?_)) fun N ⟨rn,hn2⟩ => ?_
   ·rw [hg,hg,if_neg (by omega),if_neg (by omega),if_neg (by omega),if_neg (by omega)]
    exact hp d d1 (by omega) (by omega)
   refine Ok.guard rn.len.symm ?_
   have hwi : w64 ((i : Int) - 1) = (i : Int) - 1 := Ay (by omega) (by omega)
   rw [hwi]
   have hout : ∀ q,i ≤ q → N.getD (a + q) 0 = S.getD (a + q) 0 := fun q hq => rn.out (a + q) (by omega)
   have hSi : S.getD (a + i) 0 = M.getD a 0 := by rw [hg,if_pos rfl]
   have hSq : ∀ q,i < q → S.getD (a + q) 0 = M.getD (a + q) 0 := fun q hq => by rw [hg,if_neg (by omega),if_neg (by omega)]
   have hSp : ∀ v : Int,(∀ p,p < i + 1 → M.getD (a + p) 0 ≤ v) → ∀ p,p < i → N.getD (a + p) 0 ≤ v := by
    intro v hv p hp'
    refine rn.all (P := fun z => z ≤ v) (fun r r1 r2 => ?_) (a + p) (by omega) (by omega)
    rw [hg]
    split
    ·exact hv 0 (by omega)
    ·split
     ·exact hv i (by omega)
     ·have := hv (r - a) (by omega)
      rw [show a + (r - a) = r by omega] at this
      exact this
   refine hn _ ⟨i,rfl,by omega,rp.trans (rps.trans (rn.widen (Nat.le_refl _) (by omega))),hn2,?_,?_⟩ (by simp only; omega)
   ·intro p q p1 p2 p3
    simp only
    rw [hout p p1,hout q (by omega),hSq q (by omega)]
    by_cases e : p = i
    ·rw [e,hSi]
     have := h2 0 q (by omega) (by omega) p3
     simpa using this
    ·rw [hSq p (by omega)]
     exact h1 p q (by omega) p2 p3
   ·intro p q p1 p2 p3
    simp only
    rw [hout q p2]
    by_cases e : q = i
    ·rw [e,hSi]
     exact hSp _ (fun r hr => hmax r hr) p p1
    ·rw [hSq q (by omega)]
     exact hSp _ (fun r hr => h2 r q hr (by omega) p3) p p1
  ·have c := of_decide_eq_false c
   have k0 : k = 0 := by omega
   subst k0
   refine Ok.ret ⟨rp,fun p q p1 p2 p3 => ?_⟩
   have := h1 (p - a) (q - a) (by omega) (by omega) (by omega)
   rw [show a + (p - a) = p by omega,show a + (q - a) = q by omega] at this
   exact this
end Go.Dm

/- Plain theory, part 29: the library's sort sorts. -/
namespace Go.Dm
theorem kand_le {x y : Int} (h0 : 0 ≤ y) (h1 : y < 18446744073709551616) : 0 ≤ kand .u64 x y ∧ kand .u64 x y ≤ y := by
 unfold kand
 have hb : IntKind.u64.bits = 64 := rfl
 rw [hb]
 obtain ⟨n,rfl⟩ : ∃ n : Nat,y = (n : Int) := ⟨y.toNat,by omega⟩
 have hn : n < 2 ^ 64 := by omega
 have hle : (BitVec.ofInt 64 x &&& BitVec.ofInt 64 (n : Int)).toNat ≤ n := by
  rw [BitVec.toNat_and]
  refine Nat.le_trans Nat.and_le_right ?_
  rw [BitVec.ofInt_natCast,BitVec.toNat_ofNat]
  exact Nat.mod_le _ _
 have hw : IntKind.u64.wrap (((BitVec.ofInt 64 x &&& BitVec.ofInt 64 (n : Int)).toNat : Nat) : Int) = (((BitVec.ofInt 64 x &&& BitVec.ofInt 64 (n : Int)).toNat : Nat) : Int) := by
  generalize (BitVec.ofInt 64 x &&& BitVec.ofInt 64 (n : Int)).toNat = q at *
  have : IntKind.u64.wrap (q : Int) = (q : Int) % 18446744073709551616 := rfl
  rw [this]
  omega
 rw [hw]
 omega
theorem pow2_all : (List.range 1001).all (fun n => (Gd (n : Int)).any (fun k => n == 0 || (decide ((n : Int) < k) && decide (k ≤ 2 * (n : Int)) && (IntKind.u64.wrap (k - 1) == k - 1)))) = true := by decide +kernel
theorem pow2_ok {n : Nat} (h0 : 0 < n) (hn : n ≤ 1000) : Ok (Gd (n : Int)) (fun k => (n : Int) < k ∧ k ≤ 2 * (n : Int) ∧ IntKind.u64.wrap (k - 1) = k - 1) := by
 have := List.all_eq_true.mp pow2_all n (by rw [List.mem_range]; omega)
 cases hb : Gd (n : Int) with
 | none => rw [hb] at this; simp at this
 | some k =>
  rw [hb] at this
  simp only [Option.any_some,Bool.or_eq_true,beq_iff_eq,Bool.and_eq_true,decide_eq_true_eq] at this
  rcases this with h | ⟨⟨h1,h2⟩,h3⟩
  ·omega
  ·exact ⟨k,rfl,h1,h2,h3⟩
def InR (a b : Nat) (x : Int) : Prop := ∃ n : Nat,x = (n : Int) ∧ a ≤ n ∧ n < b
theorem Acp {L : List Int} {a b : Nat} (hb : b ≤ L.length) {x y : Int} (hx : InR a b x) (hy : InR a b y) (c : Int) : Ok (Dq L x y c) (fun r => InR a b r.1 ∧ InR a b r.2.1) := by
 obtain ⟨n,rfl,n1,n2⟩ := hx
 obtain ⟨m,rfl,m1,m2⟩ := hy
 unfold Dq
 refine Ok.guard (by omega) (Ok.guard (by omega) ?_)
 refine Ok.step (Jw _ _) ?_
 exact Ok.ite (fun _ => Ok.ret ⟨⟨m,rfl,m1,m2⟩,⟨n,rfl,n1,n2⟩⟩) fun _ => Ok.ret ⟨⟨n,rfl,n1,n2⟩,⟨m,rfl,m1,m2⟩⟩
theorem AgC {L : List Int} {a b : Nat} (hb : b ≤ L.length) {x y z : Int} (hx : InR a b x) (hy : InR a b y) (hz : InR a b z) (c : Int) : Ok (Ey L x y z c) (fun r => InR a b r.1) := by
 unfold Ey
 refine Ok.bind (Acp hb hx hy c) fun r ⟨r1,r2⟩ => ?_
 refine Ok.bind (Acp hb r2 hz _) fun s ⟨s1,s2⟩ => ?_
 refine Ok.bind (Acp hb r1 s1 _) fun t ⟨t1,t2⟩ => ?_
 exact Ok.ret t2
theorem AaK {L : List Int} {a b : Nat} (hb : b ≤ L.length) (hl : L.length ≤ 1000000) {n : Nat} (n1 : a + 1 ≤ n) (n2 : n + 1 < b) (c : Int) : Ok (Cj L (n : Int) c) (fun r => InR a b r.1) := by
 unfold Cj
 have e1 : w64 ((n : Int) - 1) = ((n - 1 : Nat) : Int) := by
  rw [Ay (by omega) (by omega)]
  omega
 have e2 : w64 ((n : Int) + 1) = ((n + 1 : Nat) : Int) := by
  rw [Ay (by omega) (by omega)]
  omega
 rw [e1,e2]
 refine Ok.bind (AgC (a := a) (b := b) hb ⟨n - 1,rfl,by omega,by omega⟩ ⟨n,rfl,by omega,by omega⟩ ⟨n + 1,rfl,by omega,by omega⟩ c) fun r hr => ?_
 exact Ok.ret hr
theorem AfW {L : List Int} {a b : Nat} (hab : a + 12 < b) (hb : b ≤ L.length) (hl : L.length ≤ 1000000) : Ok (Ep L (a : Int) (b : Int)) (fun r => InR a b r.1) := by
 unfold Ep
 have wn : w64 ((b : Int) - (a : Int)) = ((b - a : Nat) : Int) := by
  rw [Ay (by omega) (by omega)]
  omega
 have wq : w64 (Int.tdiv ((b - a : Nat) : Int) 4) = (((b - a) / 4 : Nat) : Int) := by
  rw [Int.tdiv_eq_ediv_of_nonneg (by omega),Ay (by omega) (by omega)]
  omega
 rw [wn,wq]
 have hq : 3 ≤ (b - a) / 4 := by omega
 have hq2 : 4 * ((b - a) / 4) ≤ b - a := by omega
 generalize (b - a) / 4 = q at *
 have m1 : w64 ((a : Int) + w64 ((q : Int) * 1)) = ((a + q : Nat) : Int) := by
  rw [Ay (n := (q : Int) * 1) (by omega) (by omega),Ay (by omega) (by omega)]
  omega
 have m2 : w64 ((a : Int) + w64 ((q : Int) * 2)) = ((a + 2 * q : Nat) : Int) := by
  rw [Ay (n := (q : Int) * 2) (by omega) (by omega),Ay (by omega) (by omega)]
  omega
 have m3 : w64 ((a : Int) + w64 ((q : Int) * 3)) = ((a + 3 * q : Nat) : Int) := by
  rw [Ay (n := (q : Int) * 3) (by omega) (by omega),Ay (by omega) (by omega)]
  omega
 rw [m1,m2,m3]
 have hJ1 : ∀ y : Int × Int,InR a b y.2 → Ok (Cy y) (fun r => InR a b r.1) := by
  intro y hy
  unfold Cy
  exact Ok.ite (fun _ => Ok.ret hy) fun _ => Ok.ite (fun _ => Ok.ret hy) fun _ => Ok.ret hy
 have hJ2 : ∀ y : Int × Int × Int × Int,InR a b y.2.1 → InR a b y.2.2.1 → InR a b y.2.2.2 → Ok (Cz L y) (fun r => InR a b r.1) := by
  intro y h1 h2 h3
  unfold Cz
  exact Ok.bind (AgC hb h1 h2 h3 _) fun r hr => hJ1 _ hr
 refine Ok.ite (fun _ => ?_) fun c => ?_
 ·refine Ok.ite (fun c => ?_) fun _ => ?_
  ·have := of_decide_eq_true c
   refine Ok.bind (AaK (a := a) (b := b) (n := a + q) hb hl (by omega) (by omega) 0) fun r hr => ?_
   refine Ok.bind (AaK (a := a) (b := b) (n := a + 2 * q) hb hl (by omega) (by omega) _) fun s hs => ?_
   refine Ok.bind (AaK (a := a) (b := b) (n := a + 3 * q) hb hl (by omega) (by omega) _) fun t ht => ?_
   exact hJ2 _ hr hs ht
  ·exact hJ2 _ ⟨_,rfl,by omega,by omega⟩ ⟨_,rfl,by omega,by omega⟩ ⟨_,rfl,by omega,by omega⟩
 ·exact hJ1 _ ⟨_,rfl,by omega,by omega⟩
theorem AiP {L : List Int} {a b : Nat} (hab : a < b) (hb : b ≤ L.length) (hl : L.length ≤ 1000000) : Ok (Eg L (a : Int) (b : Int)) (fun M => RP a b L M) := by
 unfold Eg
 have wb : w64 ((b : Int) - 1) = ((b - 1 : Nat) : Int) := by
  rw [Ay (by omega) (by omega)]
  omega
 rw [wb]
 refine Ok.while (fun s => ∃ i j : Nat,s.2.1 = (i : Int) ∧ s.2.2 = (j : Int) ∧ a ≤ i ∧ j < b ∧ i ≤ j + 1 ∧ RP a b L s.1) (fun s => (s.2.2 + 1 - s.2.1).toNat) ⟨a,b - 1,rfl,rfl,Nat.le_refl _,by omega,by omega,.refl _ _ _⟩ (by rw [Db]; simp only; omega) ?_
 rintro ⟨M,x,y⟩ n ⟨i,j,hx,hy,h1,h2,h3,rp⟩ hn
 simp only at hx hy rp
 subst hx hy
 have hM := rp.len
 have ei : Int.toNat (i : Int) = i := by omega
 have ej : Int.toNat (j : Int) = j := by omega
 unfold Hk
 simp only
 rw [ei,ej]
 refine Ok.ite (fun c => ?_) fun _ => Ok.ret rp
 have c := of_decide_eq_true c
 have w1 : w64 ((i : Int) + 1) = ((i + 1 : Nat) : Int) := by
  rw [Ay (by omega) (by omega)]
  omega
 have w2 : w64 ((j : Int) - 1) = ((j - 1 : Nat) : Int) := by
  rw [Ay (by omega) (by omega)]
  omega
 rw [w1,w2]
 refine Ok.guard (by omega) (Ok.guard (by omega) (Ok.guard (by omega) (Ok.guard (by omega) (Ok.guard (by omega) (Ok.guard (by omega) (Ok.guard (by omega) (Ok.guard (by omega) ?_)))))))
 exact hn (Dl M i j,_,_) ⟨i + 1,j - 1,rfl,rfl,by omega,by omega,by omega,rp.trans (RP.swap (by omega) (by omega) (by omega) (by omega) (by omega))⟩ (by simp only; omega)
theorem break_ok {L : List Int} {a b : Nat} (hab : a + 12 < b) (hb : b ≤ L.length) (hl : L.length ≤ 1000) : Ok (Dw L (a : Int) (b : Int)) (fun M => RP a b L M) := by
 unfold Dw
 have wn : w64 ((b : Int) - (a : Int)) = ((b - a : Nat) : Int) := by
  rw [Ay (by omega) (by omega)]
  omega
 rw [wn]
 refine Ok.ite (fun _ => ?_) fun _ => Ok.ret (.refl _ _ _)
 refine Ok.bind (pow2_ok (n := b - a) (by omega) (by omega)) fun k ⟨k1,k2,k3⟩ => ?_
 have wq : w64 (Int.tdiv ((b - a : Nat) : Int) 4) = (((b - a) / 4 : Nat) : Int) := by
  rw [Int.tdiv_eq_ediv_of_nonneg (by omega),Ay (by omega) (by omega)]
  omega
 rw [wq]
 have hq : 3 ≤ (b - a) / 4 := by omega
 have hq2 : 4 * ((b - a) / 4) ≤ b - a := by omega
 generalize hqd : (b - a) / 4 = q at *
 have m2 : w64 ((a : Int) + w64 ((q : Int) * 2)) = ((a + 2 * q : Nat) : Int) := by
  rw [Ay (n := (q : Int) * 2) (by omega) (by omega),Ay (by omega) (by omega)]
  omega
 have m3 : w64 (((a + 2 * q : Nat) : Int) - 1) = ((a + 2 * q - 1 : Nat) : Int) := by
  rw [Ay (by omega) (by omega)]
  omega
 have m4 : w64 (((a + 2 * q : Nat) : Int) + 1) = ((a + 2 * q + 1 : Nat) : Int) := by
  rw [Ay (by omega) (by omega)]
  omega
 rw [m2,m3]
 refine Ok.while (fun s => ∃ i : Nat,s.2.2 = (i : Int) ∧ a ≤ i ∧ i ≤ a + 2 * q + 2 ∧ RP a b L s.1) (fun s => ((a + 2 * q + 2 : Nat) : Int).toNat - s.2.2.toNat) ⟨a + 2 * q - 1,rfl,by omega,by omega,.refl _ _ _⟩ (by rw [Db]; simp only; omega) ?_
 rintro ⟨M,r,x⟩ n ⟨i,hx,i1,i2,rp⟩ hn
 simp only at hx rp
 subst hx
 have hM := rp.len
 have ei : Int.toNat (i : Int) = i := by omega
 unfold Ha
 simp only
 rw [wn,wq,m2,m4]
 refine Ok.ite (fun c => ?_) fun _ => Ok.ret rp
 have c := of_decide_eq_true c
 unfold Ko
 refine Ok.step rfl ?_
 simp only
 rw [k3]
 have hkl := kand_le (x := (kxor .u64 (kxor .u64 (kxor .u64 r (kshl .u64 r 13)) (kshr .u64 (kxor .u64 r (kshl .u64 r 13)) 7)) (kshl .u64 (kxor .u64 (kxor .u64 r (kshl .u64 r 13)) (kshr .u64 (kxor .u64 r (kshl .u64 r 13)) 7)) 17))) (y := k - 1) (by omega) (by omega)
 generalize kand .u64 (kxor .u64 (kxor .u64 (kxor .u64 r (kshl .u64 r 13)) (kshr .u64 (kxor .u64 r (kshl .u64 r 13)) 7)) (kshl .u64 (kxor .u64 (kxor .u64 r (kshl .u64 r 13)) (kshr .u64 (kxor .u64 r (kshl .u64 r 13)) 7)) 17)) (k - 1) = z at *
 generalize kxor .u64 (kxor .u64 (kxor .u64 r (kshl .u64 r 13)) (kshr .u64 (kxor .u64 r (kshl .u64 r 13)) 7)) (kshl .u64 (kxor .u64 (kxor .u64 r (kshl .u64 r 13)) (kshr .u64 (kxor .u64 r (kshl .u64 r 13)) 7)) 17) = r'
 have hJ : ∀ o : Nat,o < b - a → Ok (Cp (a : Int) (M,r,(i : Int)) n (r',r') (o : Int)) (fun M => RP a b L M) := by
  intro o ho
  unfold Cp
  simp only
  have e1 : w64 ((a : Int) + (o : Int)) = ((a + o : Nat) : Int) := by
   rw [Ay (by omega) (by omega)]
   omega
  have e2 : Int.toNat ((a + o : Nat) : Int) = a + o := by omega
  have e3 : w64 ((i : Int) + 1) = ((i + 1 : Nat) : Int) := by
   rw [Ay (by omega) (by omega)]
   omega
  rw [e1,e2,e3,ei]
  refine Ok.guard (by omega) (Ok.guard (by omega) (Ok.guard (by omega) (Ok.guard (by omega) (Ok.guard (by omega) (Ok.guard (by omega) (Ok.guard (by omega) (Ok.guard (by omega) ?_)))))))
  exact hn (Dl M i (a + o),_,_) ⟨i + 1,rfl,by omega,by omega,rp.trans (RP.swap (by omega) (by omega) (by omega) (by omega) (by omega))⟩ (by simp only; omega)
 have hz : w64 z = z := Ay (by omega) (by omega)
 rw [hz]
 refine Ok.ite (fun c2 => ?_) fun c2 => ?_
 ·have c2 := of_decide_eq_true c2
  have e : w64 (z - ((b - a : Nat) : Int)) = ((z - ((b - a : Nat) : Int)).toNat : Int) := by
   rw [Ay (by omega) (by omega)]
   omega
  rw [e]
  exact hJ _ (by omega)
 ·have c2 := of_decide_eq_false c2
  have e : z = ((z.toNat : Nat) : Int) := by omega
  rw [e]
  exact hJ _ (by omega)
def lowR (a b : Nat) (L : List Int) : Prop := 0 < a → ∀ k,a ≤ k → k < b → L.getD (a - 1) 0 ≤ L.getD k 0
theorem lowR.rp {a b : Nat} {L M : List Int} (h : lowR a b L) (r : RP a b L M) : lowR a b M := by
 intro h0 k k1 k2
 rw [r.out (a - 1) (by omega)]
 exact r.all (P := fun z => L.getD (a - 1) 0 ≤ z) (fun i i1 i2 => h h0 i i1 i2) k k1 k2
theorem Aje {L : List Int} {a b : Nat} (hab : a + 12 < b) (hb : b ≤ L.length) (hl : L.length ≤ 1000000) (hlow0 : lowR a b L) :
  Ok (Ct L (a : Int) (b : Int)) (fun r => RP a b L r.2 ∧ (r.1 = true → Fw a b r.2)) := by
 unfold Ct
 have e1 : w64 ((a : Int) + 1) = ((a + 1 : Nat) : Int) := by
  rw [Ay (by omega) (by omega)]
  omega
 rw [e1]
 refine Ok.for (fun _ s => ∃ i : Nat,s.2 = (i : Int) ∧ a + 1 ≤ i ∧ i ≤ b ∧ RP a b L s.1 ∧ Fw a i s.1) ⟨a + 1,rfl,Nat.le_refl _,by omega,.refl _ _ _,fun p q h1 h2 h3 => by omega⟩ ?_ ?_
 ·rintro j ⟨M,x⟩ n hj ⟨i0,hx,i01,i02,rp,hs0⟩ hn
  simp only at hx rp hs0
  subst hx
  have hM := rp.len
  unfold Fk
  simp only
  refine Ok.while (fun q => ∃ i : Nat,q = (i : Int) ∧ a + 1 ≤ i ∧ i ≤ b ∧ Fw a i M) (fun q => b - q.toNat) ⟨i0,rfl,i01,i02,hs0⟩ (by rw [Db]; omega) ?_
  clear hs0
  rintro q nn ⟨i,rfl,h1,h2,hs⟩ hnn
  have hw : w64 ((i : Int) - 1) = ((i - 1 : Nat) : Int) := by
   rw [Ay (by omega) (by omega)]
   omega
  have ei : Int.toNat (i : Int) = i := by omega
  have ei1 : Int.toNat ((i - 1 : Nat) : Int) = i - 1 := by omega
  have stop : (i = b ∨ (i < b ∧ M.getD i 0 < M.getD (i - 1) 0)) → Ok (Bv (a : Int) (b : Int) (M,(i0 : Int)) n (i : Int) nn false) (fun r => RP a b L r.2 ∧ (r.1 = true → Fw a b r.2)) := by
   intro hstop
   unfold Bv
   simp only [Bool.false_eq_true,if_false]
   refine Ok.ite (fun c => ?_) fun c => ?_
   ·have c : (i : Int) = (b : Int) := by simpa using c
    have : i = b := by omega
    subst this
    exact Ok.ret ⟨rp,fun _ => hs⟩
   have c : ¬ (i : Int) = (b : Int) := by simpa using c
   have hib : i < b := by omega
   have hlt : M.getD i 0 < M.getD (i - 1) 0 := by
    rcases hstop with h | h
    ·omega
    ·exact h.2
   refine Ok.ite (fun _ => Ok.ret ⟨rp,fun e => by simp at e⟩) fun _ => ?_
   rw [hw,ei,ei1]
   refine Ok.guard (by omega) (Ok.guard (by omega) (Ok.guard (by omega) (Ok.guard (by omega) (Ok.guard (by omega) (Ok.guard (by omega) (Ok.guard (by omega) (Ok.guard (by omega) ?_)))))))
   have hS : (M.set i (M.getD (i - 1) 0)).set (i - 1) (M.getD i 0) = Dl M i (i - 1) := rfl
   rw [hS]
   have hg : ∀ r,(Dl M i (i - 1)).getD r 0 = if r = i - 1 then M.getD i 0 else if r = i then M.getD (i - 1) 0 else M.getD r 0 := fun r => Hn (by omega) (by omega)
   have rps : RP a b M (Dl M i (i - 1)) := RP.swap (by omega) (by omega) (by omega) (by omega) (by omega)
   generalize Dl M i (i - 1) = S at *
   have hJ15 : ∀ N : List Int,RP a b L N → Fw a i N → Ok (Bq (b : Int) n (i : Int) N) (fun r => RP a b L r.2 ∧ (r.1 = true → Fw a b r.2)) := by
    intro N rN hsN
    have hN := rN.len
    have done : ∀ K : List Int,RP a b L K → Fw a i K → Ok (Bw n (K,(i : Int))) (fun r => RP a b L r.2 ∧ (r.1 = true → Fw a b r.2)) := by
     intro K rK hK
     unfold Bw
     exact hn _ ⟨i,rfl,h1,h2,rK,hK⟩
    unfold Bq
    refine Ok.ite (fun _ => ?_) fun _ => done N rN hsN
    have w1 : w64 ((i : Int) + 1) = ((i + 1 : Nat) : Int) := by
     rw [Ay (by omega) (by omega)]
     omega
    rw [w1]
    refine Ok.guard (by omega) ?_
    rw [show Int.toNat ((b : Int) - ((i + 1 : Nat) : Int)) = b - (i + 1) by omega]
    refine Ok.for (fun _ K => RP a b L K ∧ Fw a i K) ⟨rN,hsN⟩ ?_ fun K ⟨rK,hK⟩ => done K rK hK
    intro t K nk ht ⟨rK,hK⟩ hnk
    have hKl := rK.len
    have et : ((i + 1 : Nat) : Int) + (t : Int) = ((i + 1 + t : Nat) : Int) := by omega
    have et1 : w64 (((i + 1 + t : Nat) : Int) - 1) = ((i + t : Nat) : Int) := by
     rw [Ay (by omega) (by omega)]
     omega
    have et2 : Int.toNat ((i + 1 + t : Nat) : Int) = i + 1 + t := by omega
    have et3 : Int.toNat ((i + t : Nat) : Int) = i + t := by omega
    rw [et]
    unfold Fg
    rw [et1,et2,et3]
    refine Ok.guard (by omega) (Ok.guard (by omega) (Ok.guard (by omega) (Ok.guard (by omega) ?_)))
    refine Ok.step (Jw _ _) ?_
    refine Ok.ite (fun _ => done K rK hK) fun _ => ?_
    refine Ok.guard (by omega) (Ok.guard (by omega) (Ok.guard (by omega) (Ok.guard (by omega) (Ok.guard (by omega) (Ok.guard (by omega) (Ok.guard (by omega) (Ok.guard (by omega) ?_)))))))
    refine hnk (Dl K (i + 1 + t) (i + t)) ⟨rK.trans (RP.swap (by omega) (by omega) (by omega) (by omega) (by omega)),fun p q p1 p2 p3 => ?_⟩
    rw [Hn (by omega) (by omega),Hn (by omega) (by omega),if_neg (by omega),if_neg (by omega),if_neg (by omega),if_neg (by omega)]
    exact hK p q p1 p2 p3
   have rS := rp.trans rps
   have hSl := rS.len
   refine Ok.ite (fun _ => ?_) fun c5 => ?_
   ·refine Ok.while (fun q => ∃ k : Nat,q.2 = (k : Int) ∧ a ≤ k ∧ k + 1 ≤ i ∧ RP a b L q.1 ∧ (∀ p r,a ≤ p → p < r → r < i → p ≠ k → r ≠ k → q.1.getD p 0 ≤ q.1.getD r 0) ∧ (∀ r,k < r → r < i → q.1.getD k 0 ≤ q.1.getD r 0)) (fun q => q.2.toNat) ?_ (by rw [Db]; simp only; omega) ?_
    ·refine ⟨i - 1,rfl,by omega,by omega,rS,fun p r p1 p2 p3 p4 p5 => ?_,fun r r1 r2 => by omega⟩
     simp only
     rw [hg,hg,if_neg p4,if_neg p5,if_neg (by omega),if_neg (by omega)]
     exact hs p r p1 p2 p3
    ·rintro ⟨K,y⟩ n3 ⟨k,hy,k1,k2,rK,hA,hB⟩ hn3
     simp only at hy rK hA hB
     subst hy
     have hKl := rK.len
     have fin : (k = a ∨ ¬ K.getD k 0 < K.getD (k - 1) 0) → Ok (Bq (b : Int) n (i : Int) K) (fun r => RP a b L r.2 ∧ (r.1 = true → Fw a b r.2)) := by
      intro hstop
      refine hJ15 K rK fun p q p1 p2 p3 => ?_
      by_cases hp : p = k
      ·subst hp
       exact hB q p2 p3
      by_cases hq : q = k
      ·subst hq
       rcases hstop with h | h
       ·omega
       ·by_cases hp2 : p = q - 1
        ·subst hp2
         omega
        ·have := hA p (q - 1) p1 (by omega) (by omega) hp (by omega)
         omega
      exact hA p q p1 p2 p3 hp hq
     have ek : Int.toNat (k : Int) = k := by omega
     unfold Fe
     simp only
     refine Ok.ite (fun c6 => ?_) fun c6 => ?_
     ·have c6 := of_decide_eq_true c6
      have wk : w64 ((k : Int) - 1) = ((k - 1 : Nat) : Int) := by
       rw [Ay (by omega) (by omega)]
       omega
      have ek1 : Int.toNat ((k - 1 : Nat) : Int) = k - 1 := by omega
      rw [wk,ek,ek1]
      refine Ok.guard (by omega) (Ok.guard (by omega) (Ok.guard (by omega) (Ok.guard (by omega) ?_)))
      refine Ok.step (Jw _ _) ?_
      refine Ok.ite (fun c7 => fin (.inr (by simpa using c7))) fun c7 => ?_
      have c7 : K.getD k 0 < K.getD (k - 1) 0 := by
       rw [Bool.not_eq_false'] at c7
       exact of_decide_eq_true c7
      have hka : a < k := by
       by_cases e : k = a
       ·exfalso
        subst e
        have h3 := hlow0.rp rK (by omega) k (Nat.le_refl _) (by omega)
        omega
       ·omega
      refine Ok.guard (by omega) (Ok.guard (by omega) (Ok.guard (by omega) (Ok.guard (by omega) (Ok.guard (by omega) (Ok.guard (by omega) (Ok.guard (by omega) (Ok.guard (by omega) ?_)))))))
      have hgk : ∀ r,(Dl K k (k - 1)).getD r 0 = if r = k - 1 then K.getD k 0 else if r = k then K.getD (k - 1) 0 else K.getD r 0 := fun r => Hn (by omega) (by omega)
      refine hn3 (Dl K k (k - 1),((k - 1 : Nat) : Int)) ⟨k - 1,rfl,by omega,by omega,rK.trans (RP.swap (by omega) (by omega) (by omega) (by omega) (by omega)),?_,?_⟩ (by simp only; omega)
      ·intro p r p1 p2 p3 p4 p5
       simp only
       rw [hgk,hgk,if_neg p4,if_neg p5]
       by_cases hp : p = k
       ·rw [if_pos hp,if_neg (by omega)]
        exact hA (k - 1) r (by omega) (by omega) p3 (by omega) (by omega)
       ·rw [if_neg hp]
        by_cases hr : r = k
        ·rw [if_pos hr]
         exact hA p (k - 1) p1 (by omega) (by omega) hp (by omega)
        ·rw [if_neg hr]
         exact hA p r p1 p2 p3 hp hr
      ·intro r r1 r2
       simp only
       rw [hgk,hgk,if_pos rfl,if_neg (by omega)]
       by_cases hr : r = k
       ·rw [if_pos hr]
        omega
       ·rw [if_neg hr]
        exact hB r (by omega) r2
     ·have c6 := of_decide_eq_false c6
      exact fin (.inl (by omega))
   ·have c5 := of_decide_eq_false c5
    rw [Ay (by omega) (by omega)] at c5
    exact hJ15 S rS fun p q p1 p2 p3 => by omega
  unfold Ff
  simp only
  refine Ok.ite (fun c => ?_) fun c => ?_
  ·have c := of_decide_eq_true c
   rw [hw,ei,ei1]
   refine Ok.guard (by omega) (Ok.guard (by omega) (Ok.guard (by omega) (Ok.guard (by omega) ?_)))
   refine Ok.step (Jw _ _) ?_
   cases hlt : decide (M.getD i 0 < M.getD (i - 1) 0) with
   | true => exact stop (.inr ⟨by omega,of_decide_eq_true hlt⟩)
   | false =>
    have hlt := of_decide_eq_false hlt
    unfold Bv
    have w1 : w64 ((i : Int) + 1) = ((i + 1 : Nat) : Int) := by
     rw [Ay (by omega) (by omega)]
     omega
    simp only [Bool.not_false,if_true]
    rw [w1]
    refine hnn _ ⟨i + 1,rfl,by omega,by omega,fun p q p1 p2 p3 => ?_⟩ (by omega)
    by_cases e : q = i
    ·subst e
     by_cases e2 : p = q - 1
     ·subst e2
      omega
     ·have := hs p (q - 1) p1 (by omega) (by omega)
      omega
    ·exact hs p q p1 p2 (by omega)
  ·have c := of_decide_eq_false c
   exact stop (.inl (by omega))
 ·rintro ⟨M,x⟩ ⟨i,_,_,_,rp,_⟩
  exact Ok.ret ⟨rp,fun e => by simp at e⟩
def outR (a b c d : Nat) (L : List Int) : Prop := ∀ p q,a ≤ p → p < q → q < b → ¬ (c ≤ p ∧ q < d) → L.getD p 0 ≤ L.getD q 0
theorem outR.rp {a b c d : Nat} {L M : List Int} (h : outR a b c d L) (hc : a ≤ c) (hd : d ≤ b) (r : RP c d L M) : outR a b c d M := by
 intro p q p1 p2 p3 p4
 by_cases hp : c ≤ p ∧ p < d
 ·have hq : d ≤ q := by omega
  rw [r.out q (.inr hq)]
  exact r.all (P := fun z => z ≤ L.getD q 0) (fun i i1 i2 => h i q (by omega) (by omega) p3 (by omega)) p hp.1 hp.2
 ·rw [r.out p (by omega)]
  by_cases hq : c ≤ q ∧ q < d
  ·exact r.all (P := fun z => L.getD p 0 ≤ z) (fun i i1 i2 => h p i p1 (by omega) (by omega) (by omega)) q hq.1 hq.2
  ·rw [r.out q (by omega)]
   exact h p q p1 p2 p3 p4
theorem pdq_F : ∀ (fuel : Nat) {L : List Int} {a b : Nat} (lim : Int),b - a < fuel → a ≤ b → b ≤ L.length → L.length ≤ 1000 → lowR a b L → Ok (Ca fuel L (a : Int) (b : Int) lim) (fun M => RP a b L M ∧ Fw a b M) := by
 intro fuel
 induction fuel with
 | zero => intro L a b lim h; omega
 | succ fuel ih =>
  intro L a b lim hf hab hb hl hlow
  rw [Ca]
  unfold Hd
  refine Ok.while (fun s => ∃ c d : Nat,s.2.1 = (c : Int) ∧ s.2.2.1 = (d : Int) ∧ a ≤ c ∧ c ≤ d ∧ d ≤ b ∧ RP a b L s.1 ∧ outR a b c d s.1) (fun s => (s.2.2.1 - s.2.1).toNat) ⟨a,b,rfl,rfl,Nat.le_refl _,hab,Nat.le_refl _,.refl _ _ _,fun p q h1 h2 h3 h4 => by omega⟩ (by rw [Db]; simp only; omega) ?_
  rintro ⟨M,x,y,lm,wb,wp⟩ n ⟨c,d,hx,hy,c1,c2,c3,rp,ho⟩ hn
  simp only at hx hy rp ho
  subst hx hy
  have hM := rp.len
  have hlowc : lowR c d M := by
   intro h0 k k1 k2
   by_cases e : c = a
   ·subst e
    exact hlow.rp rp h0 k k1 (by omega)
   ·exact ho (c - 1) k (by omega) (by omega) (by omega) (by omega)
  have done : ∀ N,RP c d M N → Fw c d N → RP a b L N ∧ Fw a b N := by
   intro N rN hs
   refine ⟨rp.trans (rN.widen c1 c3),fun p q p1 p2 p3 => ?_⟩
   by_cases e : c ≤ p ∧ q < d
   ·exact hs p q e.1 p2 e.2
   ·exact ho.rp c1 c3 rN p q p1 p2 p3 e
  have wn : w64 ((d : Int) - (c : Int)) = ((d - c : Nat) : Int) := by
   rw [Ay (by omega) (by omega)]
   omega
  unfold Js
  simp only
  rw [wn]
  refine Ok.ite (fun _ => ?_) fun cc => ?_
  ·refine Ok.bind (Aic c2 (by omega) (by omega)) fun N ⟨rN,hs⟩ => ?_
   exact Ok.guard rN.len.symm (Ok.ret (done N rN hs))
  have cc := of_decide_eq_false cc
  have hcd : c + 12 < d := by omega
  refine Ok.ite (fun _ => ?_) fun _ => ?_
  ·refine Ok.bind (Aid (by omega) (by omega) (by omega)) fun N ⟨rN,hs⟩ => ?_
   exact Ok.guard rN.len.symm (Ok.ret (done N rN hs))
  have hJ8 : ∀ (N : List Int) (l2 : Int),RP c d M N → Ok (Dv (Ca fuel) (M,(c : Int),(d : Int),lm,wb,wp) n (N,l2)) (fun M => RP a b L M ∧ Fw a b M) := by
   intro N l2 rN
   have hN := rN.len
   have hJ9 : ∀ (K : List Int) (pv hint : Int),RP c d M K → InR c d pv → Ok (Dt (Ca fuel) (M,(c : Int),(d : Int),lm,wb,wp) n (N,l2) (K,pv,hint)) (fun M => RP a b L M ∧ Fw a b M) := by
    intro K pv hint rK hpv
    have hK := rK.len
    have hJ10 : ∀ U : List Int,RP c d M U → Ok (Dj (Ca fuel) (M,(c : Int),(d : Int),lm,wb,wp) n (N,l2) (K,pv,hint) U) (fun M => RP a b L M ∧ Fw a b M) := by
     intro U rU
     have hU := rU.len
     obtain ⟨p,rfl,p1,p2⟩ := hpv
     have hlowU := hlowc.rp rU
     have hJ11 : ∀ e : Bool,(e = true → 0 < c ∧ ¬ U.getD (c - 1) 0 < U.getD p 0) → Ok (Dk (Ca fuel) (M,(c : Int),(d : Int),lm,wb,wp) n (N,l2) (K,(p : Int),hint) U e) (fun M => RP a b L M ∧ Fw a b M) := by
      intro e he
      unfold Dk
      simp only
      refine Ok.ite (fun ce => ?_) fun _ => ?_
      ·-- many equal ones
       obtain ⟨hc0,hle⟩ := he ce
       refine Ok.bind (Aea (by omega) (by omega) (by omega) p1 p2) fun r ⟨m,hr,m1,m2,rr,hlo,hhi⟩ => ?_
       refine Ok.guard rr.len.symm ?_
       have rMr := rU.trans rr
       rw [hr]
       refine hn _ ⟨m,d,rfl,rfl,by omega,by omega,c3,rp.trans (rMr.widen c1 c3),?_⟩ (by simp only; omega)
       have hor := ho.rp c1 c3 rMr
       have hlowr := hlowU.rp rr
       intro u v u1 u2 u3 u4
       simp only
       by_cases hin : c ≤ u ∧ v < d
       ·have hu : u < m := by omega
        have h1 := hlo u hin.1 hu
        by_cases hv : v < m
        ·have h2 := hlowr hc0 v (by omega) (by omega)
         rw [rr.out (c - 1) (by omega)] at h2
         omega
        ·have h2 := hhi v (by omega) hin.2
         omega
       ·exact hor u v u1 u2 u3 hin
      ·refine Ok.bind (AhO (by omega) (by omega) (by omega) p1 p2) fun r ⟨m,hr,m1,m2,rr,hlo,hhi⟩ => ?_
       have rMr := rU.trans rr
       have hrl := rMr.len
       refine Ok.guard rr.len.symm ?_
       have hor := ho.rp c1 c3 rMr
       have hlowr := hlowU.rp rr
       rw [hr]
       have w1 : w64 ((m : Int) + 1) = ((m + 1 : Nat) : Int) := by
        rw [Ay (by omega) (by omega)]
        omega
       refine Ok.ite (fun _ => ?_) fun _ => ?_
       ·-- the left part first
        refine Ok.bind (ih (L := r.2.2) (a := c) (b := m) l2 (by omega) m1 (by omega) (by omega) (fun h0 k k1 k2 => hlowr h0 k k1 (by omega))) fun S ⟨rS,hs⟩ => ?_
        refine Ok.guard rS.len.symm ?_
        rw [w1]
        refine hn _ ⟨m + 1,d,rfl,rfl,by omega,by omega,c3,rp.trans ((rMr.trans (rS.widen (Nat.le_refl _) (by omega))).widen c1 c3),?_⟩ (by simp only; omega)
        have horS := hor.rp c1 c3 (rS.widen (Nat.le_refl _) (by omega))
        intro u v u1 u2 u3 u4
        simp only
        by_cases hin : c ≤ u ∧ v < d
        ·have hum : u ≤ m := by omega
         have hSm : ∀ k,m ≤ k → S.getD k 0 = r.2.2.getD k 0 := fun k hk => rS.out k (.inr hk)
         have hSlo : ∀ k,c ≤ k → k < m → S.getD k 0 ≤ r.2.2.getD m 0 := fun k k1 k2 => rS.all (P := fun z => z ≤ r.2.2.getD m 0) (fun i i1 i2 => hlo i i1 i2) k k1 k2
         by_cases hv : v < m
         ·exact hs u v hin.1 u2 hv
         ·rw [hSm v (by omega)]
          have hvm : r.2.2.getD m 0 ≤ r.2.2.getD v 0 := by
           by_cases e2 : v = m
           ·rw [e2]
            exact Int.le_refl _
           ·exact hhi v (by omega) hin.2
          by_cases e3 : u = m
          ·rw [e3,hSm m (Nat.le_refl _)]
           exact hvm
          ·have := hSlo u hin.1 (by omega)
           omega
        ·exact horS u v u1 u2 u3 hin
       ·-- the right part first
        rw [w1]
        refine Ok.bind (ih (L := r.2.2) (a := m + 1) (b := d) l2 (by omega) (by omega) (by omega) (by omega) (fun h0 k k1 k2 => by
         have := hhi k (by omega) k2
         simpa using this)) fun S ⟨rS,hs⟩ => ?_
        refine Ok.guard rS.len.symm ?_
        refine hn _ ⟨c,m,rfl,rfl,c1,m1,by omega,rp.trans ((rMr.trans (rS.widen (by omega) (Nat.le_refl _))).widen c1 c3),?_⟩ (by simp only; omega)
        have horS := hor.rp c1 c3 (rS.widen (by omega) (Nat.le_refl _))
        intro u v u1 u2 u3 u4
        simp only
        by_cases hin : c ≤ u ∧ v < d
        ·have hSm : ∀ k,k ≤ m → S.getD k 0 = r.2.2.getD k 0 := fun k hk => rS.out k (.inl (by omega))
         have hShi : ∀ k,m < k → k < d → r.2.2.getD m 0 ≤ S.getD k 0 := fun k k1 k2 => rS.all (P := fun z => r.2.2.getD m 0 ≤ z) (fun i i1 i2 => hhi i (by omega) i2) k (by omega) k2
         by_cases hu : m < u
         ·exact hs u v (by omega) u2 hin.2
         ·rw [hSm u (by omega)]
          have hum : r.2.2.getD u 0 ≤ r.2.2.getD m 0 := by
           by_cases e2 : u = m
           ·rw [e2]
            exact Int.le_refl _
           ·exact hlo u hin.1 (by omega)
          by_cases e3 : v = m
          ·rw [e3,hSm m (Nat.le_refl _)]
           exact hum
          ·have := hShi v (by omega) hin.2
           omega
        ·exact horS u v u1 u2 u3 hin
     unfold Dj
     simp only
     refine Ok.ite (fun ce => ?_) fun _ => hJ11 false fun e => by simp at e
     have ce := of_decide_eq_true ce
     have wc : w64 ((c : Int) - 1) = ((c - 1 : Nat) : Int) := by
      rw [Ay (by omega) (by omega)]
      omega
     have ec : Int.toNat ((c - 1 : Nat) : Int) = c - 1 := by omega
     have ep : Int.toNat (p : Int) = p := by omega
     rw [wc,ec,ep]
     refine Ok.guard (by omega) (Ok.guard (by omega) (Ok.guard (by omega) (Ok.guard (by omega) ?_)))
     refine Ok.step (Jw _ _) (hJ11 _ fun e => ⟨by omega,?_⟩)
     simpa using e
    unfold Dt
    simp only
    refine Ok.ite (fun _ => ?_) fun _ => hJ10 K rK
    refine Ok.bind (Aje hcd (by omega) (by omega) (hlowc.rp rK)) fun r ⟨rr,hs⟩ => ?_
    refine Ok.guard rr.len.symm ?_
    exact Ok.ite (fun e => Ok.ret (done _ (rK.trans rr) (hs e))) fun _ => hJ10 _ (rK.trans rr)
   unfold Dv
   simp only
   refine Ok.bind (AfW hcd (by omega) (by omega)) fun r hr => ?_
   refine Ok.ite (fun _ => ?_) fun _ => hJ9 N r.1 r.2 rN hr
   refine Ok.bind (AiP (by omega) (by omega) (by omega)) fun K rK => ?_
   refine Ok.guard rK.len.symm (hJ9 _ _ _ (rN.trans rK) ?_)
   obtain ⟨p,hp,p1,p2⟩ := hr
   rw [hp,Ay (n := (d : Int) - 1) (by omega) (by omega),Ay (n := (p : Int) - (c : Int)) (by omega) (by omega),Ay (by omega) (by omega)]
   exact ⟨d - 1 - (p - c),by omega,by omega,by omega⟩
  refine Ok.ite (fun _ => ?_) fun _ => hJ8 M _ (.refl _ _ _)
  refine Ok.bind (break_ok hcd (by omega) (by omega)) fun N rN => ?_
  exact Ok.guard rN.len.symm (hJ8 _ _ rN)
theorem Sort_ok (L : List Int) (hl : L.length ≤ 1000) : Ok (Mh L) (fun M => M.Perm L ∧ M.Pairwise (· ≤ ·)) := by
 unfold Mh
 refine Ok.bind (AhQ hl) fun k _ => ?_
 unfold Kp
 have h := pdq_F Dz (L := L) (a := 0) (b := L.length) k (by rw [Db]; omega) (by omega) (Nat.le_refl _) hl (fun h => by omega)
 refine Ok.bind h fun M ⟨rp,hs⟩ => Ok.guard rp.len.symm (Ok.ret ⟨rp.perm,?_⟩)
 rw [List.pairwise_iff_getElem]
 intro i j hi hj hij
 have := hs i j (by omega) hij (by have := rp.len; omega)
 rw [Ij hi,Ij hj] at this
 exact this
end Go.Dm

/- Plain theory, part 15: counts. -/
namespace Go.Dm
theorem Adl {t : Af} (w : WfT t) (id : Int) : Li t id = some (upT t id) := by
 apply Ok.eq
 have l2 := w.len2
 unfold Li
 refine Ok.guard (by omega) ?_
 refine Ok.range (fun pre s => s.1 ++ upT t s.2 = upT t id ∧ s.1.length = pre.length) ⟨by simp,rfl⟩ ?_ ?_
 ·rintro pre x post ⟨o,c⟩ n he ⟨i1,i2⟩ hn
  simp only at i1 i2
  unfold Px Jv
  refine Ok.step (Agb t c (by omega)) ?_
  cases hg : Um t c with
  | none =>
   refine Ok.ret ?_
   have : upT t c = [] := AeL fun y hy e => by
    unfold Um at hg
    rw [List.find?_eq_none] at hg
    have := hg y (by simpa using hy)
    simp [e] at this
   rw [this] at i1
   simpa using i1
  | some y =>
   obtain ⟨hy,hyc⟩ := Vx hg
   have hp : pre.length < t.nodes.length := by rw [he]; simp
   simp only [Option.elim_some,Bool.not_true,Bool.false_eq_true,if_false]
   refine Ok.guard (by omega) (hn _ ⟨?_,by simp [i2]⟩)
   simp only
   rw [← i1,← hyc,w.up hy]
   simp
 ·rintro ⟨o,c⟩ ⟨i1,i2⟩
  simp only at i1 i2
  refine Ok.ret ?_
  have hlen := Oe t.nodes.reverse id
  rw [List.length_reverse] at hlen
  change (upT t id).length ≤ t.nodes.length at hlen
  rw [← i1] at hlen
  have : (upT t c).length = 0 := by
   rw [List.length_append] at hlen
   omega
  have : upT t c = [] := List.length_eq_zero_iff.mp this
  rw [this] at i1
  simpa using i1
end Go.Dm

/- Plain theory, part 16: made counts. -/
namespace Go.Dm
theorem AgY {α : Type} {l : List α} {i : Nat} {a d : α} (h : i < l.length) : (l.set i a).getD i d = a := by
 simp [List.getD_eq_getElem?_getD,h]
end Go.Dm

/- Plain theory, part 17: room and refusals. -/
namespace Go.Dm
end Go.Dm

/- Plain theory, part 18: sums of counts. -/
namespace Go.Dm
end Go.Dm

/- Plain theory, part 19: charges, limits; the document's functions on counts. -/
namespace Go.Dm
end Go.Dm

/- Plain theory, part 21: what changes leave as it is; sizes of made hierarchies. -/
namespace Go.Dm
end Go.Dm

/- Plain theory, part 22: the program's changes of hierarchies are the document's. -/
namespace Go.Dm
theorem AhZ {α : Type} {L : List α} {a n : Nat} {x : α} (h : a + n ≤ L.length) : (Rb L a n x).length = L.length := by
 simp only [Rb,List.length_append,List.length_take,List.length_replicate,List.length_drop]
 omega
theorem AiG {α : Type} {L : List α} {a n : Nat} {x : α} (h : a ≤ L.length) : (Rb L a n x).take a = L.take a := by
 unfold Rb
 rw [List.take_append_of_le_length (by rw [List.length_take]; omega),List.take_take,Nat.min_self]
theorem Aik {α R : Type} {p : α → Bool} {L : List α} {d : α} (hl : L.length ≤ 1000000) {body : List α × Int × Int → (List α × Int × Int → Option R) → Option R} {Q : R → Prop} {i0 : Nat} (hi0 : i0 < L.length) (h0 : ∀ x ∈ L.take i0,p x = false) (hp : p (L.getD i0 d) = true)
  (hb : ∀ (M : List α) (i j : Nat) n,M.length = L.length → i < j → j < L.length → (∀ s,(s = if p (M.getD j d) then (M,(i : Int),((j + 1 : Nat) : Int)) else (M.set i (M.getD j d),((i + 1 : Nat) : Int),((j + 1 : Nat) : Int))) → Ok (n s) Q) → Ok (body (M,(i : Int),(j : Int)) n) Q)
  (hr : ∀ (M : List α) (i : Nat) n,M.length = L.length → i ≤ L.length → M.take i = L.filter (fun x => !p x) → Ok (body (M,(i : Int),(L.length : Int)) n) Q) : Ok (whileO body Dz (L,(i0 : Int),((i0 + 1 : Nat) : Int))) Q := by
 refine Ok.while (fun s => ∃ i j : Nat,s.2.1 = (i : Int) ∧ s.2.2 = (j : Int) ∧ i < j ∧ j ≤ L.length ∧ s.1.length = L.length ∧ s.1.take i = (L.take j).filter (fun x => !p x) ∧ s.1.drop j = L.drop j) (fun s => L.length - s.2.2.toNat) ?_ ?_ ?_
 ·refine ⟨i0,i0 + 1,rfl,rfl,by omega,by omega,rfl,?_,rfl⟩
  have e : L.take (i0 + 1) = L.take i0 ++ [L.getD i0 d] := by
   rw [List.take_add_one,Ij hi0]
   simp [hi0]
  rw [e,List.filter_append,List.filter_eq_self.mpr fun x hx => by simp [h0 x hx]]
  simp only [hp,Bool.not_true,List.filter_cons,Bool.false_eq_true,if_false,List.filter_nil,List.append_nil]
 ·rw [Db]
  omega
 ·rintro ⟨M,x,y⟩ n ⟨i,j,e1,e2,hij,hj,hM,ht,hd⟩ hn
  simp only at e1 e2 hM ht hd
  subst e1 e2
  by_cases hjl : j < L.length
  ·refine hb M i j n hM hij hjl fun s hs => ?_
   have hMj : M.getD j d = L.getD j d := by
    have := congrArg List.head? hd
    rw [List.head?_drop,List.head?_drop] at this
    rw [List.getD_eq_getElem?_getD,List.getD_eq_getElem?_getD,this]
   have e : L.take (j + 1) = L.take j ++ [L.getD j d] := by
    rw [List.take_add_one,Ij hjl]
    simp [hjl]
   have hd' : M.drop (j + 1) = L.drop (j + 1) := by
    have := congrArg (List.drop 1) hd
    rw [List.drop_drop,List.drop_drop] at this
    exact this
   cases hpj : p (M.getD j d) with
   | true =>
    rw [hpj,if_pos rfl] at hs
    subst hs
    refine hn _ ⟨i,j + 1,rfl,rfl,by omega,by omega,hM,?_,hd'⟩ (by simp only; omega)
    simp only
    rw [ht,e,List.filter_append,← hMj,List.filter_cons,hpj]
    simp
   | false =>
    rw [hpj,if_neg (by simp)] at hs
    subst hs
    refine hn _ ⟨i + 1,j + 1,rfl,rfl,by omega,by omega,by simp [hM],?_,?_⟩ (by simp only; omega)
    ·simp only
     rw [e,List.filter_append,← hMj,← ht]
     have hi : i < M.length := by omega
     rw [List.take_add_one,List.filter_cons,hpj,List.take_set_of_le (Nat.le_refl _),List.getElem?_set_self hi]
     rfl
    ·simp only
     rw [List.drop_set_of_lt (by omega),hd']
  ·obtain rfl : j = L.length := by omega
   refine hr M i n hM (by omega) ?_
   rw [ht,List.take_length]
end Go.Dm

/- Plain theory, part 23: spoiled hierarchies; hierarchies that are refused. -/
namespace Go.Dm
end Go.Dm

/- Plain theory, part 24: kinds of groups, domains, what fits. -/
namespace Go.Dm
theorem find6 {h : Aa} (w : WfH h) (id : Int) : Gu h id = some ((Er h.tasks id).getD zK,(Er h.tasks id).isSome) := by
 rw [Rv w]
 cases Er h.tasks id <;> rfl
theorem findC {h : Aa} (w : WfH h) (id : Int) : Qs h id = some ((Er h.tasks id).getD zK,(Er h.tasks id).isSome) := by
 have := w.len
 rw [AcZ h id (by omega)]
 cases Er h.tasks id <;> rfl
theorem ancN_up {t : Af} (id : Int) : ancN t id = upT t id := by
 unfold ancN
 cases hg : Gz t id with
 | true => rfl
 | false =>
  have : upT t id = [] := AeL fun y hy e => by
   have := hasN_iff.mpr ⟨y,by simpa using hy,e⟩
   rw [hg] at this
   simp at this
  rw [this]
  rfl
theorem Yy {α : Type} {P : α → Prop} {pre : List α} {x : α} (h1 : ∀ y ∈ pre,P y) (h2 : P x) : ∀ y ∈ pre ++ [x],P y := by
 intro y hy
 rcases List.mem_append.mp hy with hy | hy
 ·exact h1 y hy
 ·obtain rfl : y = x := by simpa using hy
  exact h2
end Go.Dm

/- Plain theory, part 25: forks that are counted. -/
namespace Go.Dm
end Go.Dm

/- Plain theory, part 39: ascending lists; Sorted of the sets; Compact of lists that do not fall. -/
namespace Go.Dm
abbrev Asc (L : List Int) : Prop := L.Pairwise (· < ·)
theorem AfO : ∀ {A B : List Int},Asc A → Asc B → (∀ x,x ∈ A ↔ x ∈ B) → A = B
 | [],B,_,_,h => by
  cases B with
  | nil => rfl
  | cons b B => exact absurd ((h b).mpr (by simp)) (by simp)
 | a :: A,[],_,_,h => absurd ((h a).mp (by simp)) (by simp)
 | a :: A,b :: B,ha,hb,h => by
  rw [Asc,List.pairwise_cons] at ha hb
  have hab : a = b := by
   rcases List.mem_cons.mp ((h a).mp (by simp)) with e | e
   ·exact e
   ·rcases List.mem_cons.mp ((h b).mpr (by simp)) with e' | e'
    ·exact e'.symm
    ·have h1 := hb.1 a e
     have h2 := ha.1 b e'
     omega
  subst hab
  congr 1
  refine AfO ha.2 hb.2 fun x => ?_
  have hx := h x
  simp only [List.mem_cons] at hx
  constructor
  ·intro hm
   rcases hx.mp (.inr hm) with e | e
   ·have := ha.1 x hm
    omega
   ·exact e
  ·intro hm
   rcases hx.mpr (.inr hm) with e | e
   ·have := hb.1 x hm
    omega
   ·exact e
theorem AgG {A : List Int} (h : Asc A) : A.Nodup := h.imp fun h => by omega
end Go.Dm

/- Plain theory, part 30: what keeps Fits; all made hierarchies fit. -/
namespace Go.Dm
section
variable {t t' : Af} {fn : An → An}
end
section
variable {t t' : Af} {p : Int} {s : ByteArray}
end
end Go.Dm

/- Plain theory, part 31: threaded's functions. -/
namespace Go.Dm
end Go.Dm

/- Plain theory, part 32: new groups. -/
namespace Go.Dm
end Go.Dm

/- Plain theory, part 33: controllers are written, groups are made threaded. -/
namespace Go.Dm
end Go.Dm

/- Plain theory, part 34: names of made groups are short. -/
namespace Go.Dm
end Go.Dm

/- Plain theory, part 35: rights of users. -/
namespace Go.Dm
end Go.Dm

/- Plain theory, part 36: acts of users. -/
namespace Go.Dm
end Go.Dm

/- Plain theory, part 40: what is read of any hierarchy; processes; hierarchies that were handed in. -/
namespace Go.Dm
theorem Afx {α β : Type} (p : α → Bool) (f : α → β) (l : List α) : ((l.filter p).map f).length ≤ l.length := by
 rw [List.length_map]
 exact List.length_filter_le p l
end Go.Dm

/- Plain theory of freezers, part 1: what is read; valid freezers. -/
namespace Go.Dm
def zF (g : Int) : Al := { group := g,want := false,frozen := false,changes := 0 }
def frN (f : Ac) (g : Int) : Al := (f.frosts.find? (fun x => x.group == g)).getD (zF g)
def wN (t : Af) (f : Ac) (id : Int) : Bool := (upT t id).any (fun g => (frN f g).want)
def rN (h : Aa) (f : Ac) (id : Int) : Bool := wN h.tree f id && h.tasks.all (fun x => !(upT h.tree x.group).contains id || f.stopped.contains x.id)
def wT (h : Aa) (f : Ac) (k : Int) : Bool := (Er h.tasks k).elim false (fun x => wN h.tree f x.group)
def Mu (b : Bool) (x : Al) : Al := if b != x.frozen then { group := x.group,want := x.want,frozen := b,changes := Rk (w64 (x.changes + 1)) 1099511627776 } else x
def Kk (h : Aa) (f : Ac) : Ac := { frosts := f.frosts.map (fun x => Mu (rN h f x.group) x),stopped := f.stopped }
structure Hl (f : Ac) : Prop where
 fr : f.frosts.length ≤ 1000
 st : f.stopped.length ≤ 1000
theorem Ahk {l : List Int} {p : Int → Bool} : (l.find? p).elim false (fun _ => true) = l.any p := by
 induction l with
 | nil => rfl
 | cons a r ih =>
  rw [List.find?_cons,List.any_cons]
  cases p a with
  | true => rfl
  | false => simpa using ih
section
variable {h : Aa} {t : Af} {f f' : Ac}
theorem Ack (hl : f.frosts.length ≤ 1000000) (g : Int) : He f g = some (frN f g) := by
 unfold He
 rw [if_pos (by omega),Hy (p := fun x : Al => x.group == g) (f := id) (z := zF g) (fun k x n => rfl) rfl]
 unfold frN
 cases f.frosts.find? (fun x => x.group == g) <;> rfl
theorem Adn (hl : f.frosts.length ≤ 1000000) (g : Int) : Tb f g = some (frN f g) := by
 unfold Tb
 rw [if_pos (by omega),Hy (p := fun x : Al => x.group == g) (f := id) (z := zF g) (fun k x n => rfl) rfl]
 unfold frN
 cases f.frosts.find? (fun x => x.group == g) <;> rfl
theorem Rc (w : WfT t) (hl : f.frosts.length ≤ 1000000) (id : Int) : Jp t f id = some (wN t f id) := by
 have l2 := w.len2
 have hul : (upT t id).length ≤ 64 := by
  have := Oe t.nodes.reverse id
  rw [List.length_reverse] at this
  unfold upT
  omega
 unfold Jp
 rw [Adl w,Option.bind_some,if_pos (by omega),Hy (p := fun g => (frN f g).want) (f := fun _ => true) (z := false) (fun k x n => by
  unfold Us
  rw [Ack hl,Option.bind_some]) rfl,Ahk]
 rfl
theorem Qv (w : WfT t) (hl : f.frosts.length ≤ 1000000) (id : Int) : Gx t f id = some (wN t f id) := by
 have l2 := w.len2
 have hul : (upT t id).length ≤ 64 := by
  have := Oe t.nodes.reverse id
  rw [List.length_reverse] at this
  unfold upT
  omega
 unfold Gx
 rw [Od w,Option.bind_some,ancN_up,if_pos (by omega),Hy (p := fun g => (frN f g).want) (f := fun _ => true) (z := false) (fun k x n => by
  unfold Vk
  rw [Adn hl,Option.bind_some]) rfl,Ahk]
 rfl
theorem Zz (w : WfT t) (hl : f.frosts.length ≤ 1000000) (id : Int) : Ls t f id = some (wN t f id) := by
 unfold Ls
 rw [AhP w,Option.bind_some,if_pos rfl,Rc w hl,Option.bind_some]
 rfl
theorem Aax (w : WfH h) (hl : f.frosts.length ≤ 1000000) (k : Int) : Hc h f k = some (wT h f k) := by
 unfold Hc wT
 rw [findC w,Option.bind_some]
 cases Er h.tasks k with
 | none => rfl
 | some x =>
  simp only [Option.isSome_some,if_true,Option.getD_some,Option.elim_some]
  rw [Rc w.tree hl,Option.bind_some]
  rfl
theorem Mr (hl : f.stopped.length ≤ 1000000) (k : Int) : Gm f k = some (f.stopped.contains k) := by
 unfold Gm
 rw [Aev _ _ hl]
 rfl
theorem Sv (hl : f.stopped.length ≤ 1000000) (k : Int) : Kc f k = some (f.stopped.contains k) := by
 unfold Kc
 rw [AaM _ _ hl]
 rfl
theorem Ahx {α : Type} {l : List α} {p : α → Bool} : (l.find? (fun x => !p x)).elim true (fun _ => false) = l.all p := by
 induction l with
 | nil => rfl
 | cons a r ih =>
  rw [List.find?_cons,List.all_cons]
  cases p a with
  | true => simpa using ih
  | false => rfl
theorem AbX (w : WfH h) (hs : Hl f) (id : Int) : Mm h f id = some (rN h f id) := by
 have l1 := w.len
 have l2 := w.tree.len2
 have s1 := hs.fr
 have s2 := hs.st
 unfold Mm rN
 rw [Rc w.tree (by omega),Option.bind_some]
 cases hw : wN h.tree f id with
 | false => rfl
 | true =>
  rw [if_neg (by simp),Bool.true_and]
  apply Ok.eq
  refine Ok.bind (Aeb w.tree id) fun l ⟨_,hl,hm⟩ => ?_
  refine Ok.guard (by omega) ?_
  have hc : ∀ g,l.contains g = (upT h.tree g).contains id := fun g => by
   rw [Bool.eq_iff_iff,List.contains_iff_mem,List.contains_iff_mem]
   exact hm g
  refine Ok.of_eq (Hy (p := fun x : Au => !(!(upT h.tree x.group).contains id || f.stopped.contains x.id)) (f := fun _ => false) (z := true) (fun k x n => ?_) rfl) Ahx
  unfold Xd On
  rw [Aev _ _ (by omega),Option.bind_some,hc,Mr (by omega),Option.bind_some]
  cases (upT h.tree x.group).contains id <;> cases f.stopped.contains x.id <;> rfl
theorem Acf (w : WfH h) (hs : Hl f) (id : Int) : Oz h f id = some (rN h f id) := by
 have l1 := w.len
 have l2 := w.tree.len2
 have s1 := hs.fr
 have s2 := hs.st
 unfold Oz rN
 rw [Qv w.tree (by omega),Option.bind_some]
 cases hw : wN h.tree f id with
 | false => rfl
 | true =>
  rw [if_neg (by simp),Bool.true_and,if_pos (by omega)]
  rw [Hy (p := fun x : Au => !(!(upT h.tree x.group).contains id || f.stopped.contains x.id)) (f := fun _ => false) (z := true) (fun k x n => ?_) rfl,Ahx]
  unfold Wo Oi
  have hul : (upT h.tree x.group).length ≤ 64 := by
   have := Oe h.tree.nodes.reverse x.group
   rw [List.length_reverse] at this
   unfold upT
   omega
  rw [Od w.tree,Option.bind_some,ancN_up,AaM _ _ (by omega),Option.bind_some,Sv (by omega),Option.bind_some]
  cases (upT h.tree x.group).contains id <;> cases f.stopped.contains x.id <;> rfl
def AbD (f f' : Ac) : Prop := ∀ g,(frN f g).want = (frN f' g).want
theorem AeB (e : AbD f f') (id : Int) : wN t f id = wN t f' id := by
 unfold wN
 congr 1
 funext g
 exact e g
theorem wT_congr (e : AbD f f') (k : Int) : wT h f k = wT h f' k := by
 unfold wT
 congr 1
 funext x
 exact AeB e _
theorem AeC (e : AbD f f') (es : f.stopped = f'.stopped) (id : Int) : rN h f id = rN h f' id := by
 unfold rN
 rw [AeB e,es]
theorem AhY {f f' : Ac} (e : f.frosts.map (fun x => (x.group,x.want)) = f'.frosts.map (fun x => (x.group,x.want))) : AbD f f' := by
 intro g
 unfold frN
 have key : ∀ (a b : List Al),a.map (fun x => (x.group,x.want)) = b.map (fun x => (x.group,x.want)) → ((a.find? (fun x => x.group == g)).getD (zF g)).want = ((b.find? (fun x => x.group == g)).getD (zF g)).want := by
  intro a
  induction a with
  | nil =>
   intro b hb
   have : b = [] := by simpa using hb.symm
   rw [this]
  | cons x r ih =>
   intro b hb
   cases b with
   | nil => simp at hb
   | cons y s =>
    simp only [List.map_cons,List.cons.injEq,Prod.mk.injEq] at hb
    rw [List.find?_cons,List.find?_cons,hb.1.1]
    cases (y.group == g) with
    | true => exact hb.1.2
    | false => exact ih s hb.2
 exact key _ _ e
theorem Vh (b : Bool) (x : Al) : (Mu b x).group = x.group ∧ (Mu b x).want = x.want ∧ (Mu b x).frozen = b := by
 unfold Mu
 split
 ·exact ⟨rfl,rfl,rfl⟩
 ·rename_i hc
  refine ⟨rfl,rfl,?_⟩
  have : b = x.frozen := by simpa using hc
  exact this.symm
theorem Sc (h : Aa) (f : Ac) : AbD (Kk h f) f := by
 refine AhY ?_
 unfold Kk
 rw [List.map_map]
 apply List.map_congr_left
 intro x _
 simp only [Function.comp]
 rw [(Vh _ x).1,(Vh _ x).2.1]
structure FzOk (h : Aa) (f : Ac) : Prop where
 grp : f.frosts.map (·.group) = h.tree.nodes.map (·.id)
 chg : ∀ x ∈ f.frosts,0 ≤ x.changes ∧ x.changes ≤ 1099511627776
 asc : Asc f.stopped
 stp : ∀ k ∈ f.stopped,wT h f k = true
 frz : ∀ x ∈ f.frosts,x.frozen = rN h f x.group
theorem FzOk.len (k : FzOk h f) : f.frosts.length = h.tree.nodes.length := by
 have := congrArg List.length k.grp
 simpa using this
theorem Afs {k : Int} (e : wT h f k = true) : ∃ x ∈ h.tasks,x.id = k ∧ wN h.tree f x.group = true := by
 unfold wT at e
 cases hk : Er h.tasks k with
 | none => rw [hk] at e; simp at e
 | some x =>
  rw [hk] at e
  exact ⟨x,(Tc hk).1,(Tc hk).2,e⟩
theorem FzOk.slen (k : FzOk h f) : f.stopped.length ≤ h.tasks.length := by
 have := AeI (l := f.stopped) (m := h.tasks.map (·.id)) (AgG k.asc) fun x hx => by
  obtain ⟨y,hy,e,_⟩ := Afs (k.stp x hx)
  exact List.mem_map.mpr ⟨y,hy,e⟩
 simpa using this
theorem FzOk.small (w : WfH h) (k : FzOk h f) : Hl f := by
 have l1 := w.len
 have l2 := w.tree.len2
 have := k.len
 have := k.slen
 exact ⟨by omega,by omega⟩
theorem pre_map {α β γ : Type} [Inhabited β] {p : α → γ} {q : β → γ} {L pre post : List α} {M : List β} {x : α} (e : L.map p = M.map q) (he : L = pre ++ x :: post) : pre.length < M.length ∧ p x = q (M.getD pre.length default) := by
 have hl := congrArg List.length e
 rw [he] at hl
 simp at hl
 have hlt : pre.length < M.length := by omega
 refine ⟨hlt,?_⟩
 have h1 : (L.map p)[pre.length]? = some (p x) := by
  rw [he]
  simp
 rw [e,List.getElem?_map,List.getElem?_eq_getElem hlt] at h1
 rw [Ij hlt]
 simpa using h1.symm
structure FrA (h : Aa) (pre : List Al) : Prop where
 grp : pre.map (·.group) = (h.tree.nodes.take pre.length).map (·.id)
 chg : ∀ x ∈ pre,0 ≤ x.changes ∧ x.changes ≤ 1099511627776
theorem FrA.snoc {pre : List Al} {x : Al} (a : FrA h pre) (hl : pre.length < h.tree.nodes.length) (h1 : x.group = (h.tree.nodes.getD pre.length default).id) (h2 : 0 ≤ x.changes ∧ x.changes ≤ 1099511627776) : FrA h (pre ++ [x]) := by
 refine ⟨?_,Yy a.chg h2⟩
 rw [List.map_append,a.grp,List.length_append,List.length_cons,List.length_nil,List.take_add_one,List.getElem?_eq_getElem hl,List.map_append,← Ij (d := default) hl]
 simp [h1]
theorem Ahy {pre : List Int} {x : Int} (a : Asc pre) (h1 : ∀ y ∈ pre,y < x) : Asc (pre ++ [x]) := by
 rw [Asc,List.pairwise_append]
 exact ⟨a,by simp,fun y hy z hz => by rw [List.mem_singleton.mp hz]; exact h1 y hy⟩
theorem AeT (w : WfH h) (hs : Hl f) : Ok (Mw h f) (fun b => b = true ↔ FzOk h f) := by
 have l1 := w.len
 have l2 := w.tree.len2
 have s1 := hs.fr
 have s2 := hs.st
 have bad : ¬ FzOk h f → Ok (some false) (fun b : Bool => b = true ↔ FzOk h f) := fun hn => Ok.ret (by simp [hn])
 unfold Mw
 rw [Agr w,Option.bind_some,if_neg (by simp)]
 unfold Mv
 refine Ok.ite (fun c => bad fun k => ?_) fun c => ?_
 ·have := k.len
  simp at c
  omega
 have hlen : f.frosts.length = h.tree.nodes.length := by
  simp at c
  omega
 refine Ok.guard (by omega) ?_
 refine Ok.range (fun pre _ => FrA h pre) ⟨rfl,by simp⟩ ?_ ?_
 ·intro pre x post _ n he a hn
  have hpl : pre.length < h.tree.nodes.length := by
   rw [← hlen,he]
   simp
  have hx : x ∈ f.frosts := by rw [he]; simp
  unfold Ve Jz
  refine Ok.guard hpl ?_
  refine Ok.ite (fun c => ?_) fun c1 => Ok.ite (fun c => ?_) fun c2 => Ok.ite (fun c => ?_) fun c3 => ?_
  ·refine bad fun k => ?_
   have := (pre_map k.grp he).2
   simp [this] at c
  ·refine bad fun k => ?_
   have := k.chg x hx
   simp at c
   omega
  ·refine bad fun k => ?_
   have := k.chg x hx
   simp at c
   omega
  ·refine hn _ (a.snoc hpl (by simpa using c1) ?_)
   simp at c2 c3
   omega
 ·intro _ a
  unfold Vd
  refine Ok.guard (by omega) ?_
  refine Ok.range (fun pre _ => Asc pre ∧ ∀ k ∈ pre,wT h f k = true) ⟨List.Pairwise.nil,by simp⟩ ?_ ?_
  ·intro pre x post _ n he ⟨b1,b2⟩ hn
   have hx : x ∈ f.stopped := by rw [he]; simp
   have hrest : (∀ y ∈ pre,y < x) → Ok (Option.bind (Hc h f x) fun r => Hw n (!r)) (fun b => b = true ↔ FzOk h f) := by
    intro hlt
    rw [Aax w (by omega),Option.bind_some]
    unfold Hw
    refine Ok.ite (fun c => bad fun k => ?_) fun c => ?_
    ·rw [k.stp x hx] at c
     simp at c
    ·exact hn _ ⟨Ahy b1 hlt,Yy b2 (by simpa using c)⟩
   unfold Th
   rcases Ji pre with rfl | ⟨P,y,rfl⟩
   ·rw [if_neg (by simp)]
    exact hrest (by simp)
   ·have e1 : decide ((((P ++ [y]).length : Nat) : Int) > 0) = true := by simp
    have hlen2 := congrArg List.length he
    simp at hlen2
    have e2 : w64 ((((P ++ [y]).length : Nat) : Int) - 1) = (P.length : Int) := by
     rw [Ay (by simp <;> omega) (by simp <;> omega)]
     simp
    have e4 : f.stopped.getD (Int.toNat (P.length : Int)) 0 = y := by
     rw [he]
     exact Sj
    rw [e1,if_pos rfl,e2,e4]
    refine Ok.guard ⟨by omega,by omega⟩ ?_
    refine Ok.ite (fun c => bad fun k => ?_) fun c => hrest ?_
    ·have := k.asc
     rw [he,Asc,List.pairwise_append] at this
     have := this.2.2 y (by simp) x (by simp)
     simp at c
     omega
    ·have hyx : y < x := by simpa using c
     rw [Asc,List.pairwise_append] at b1
     intro z hz
     rcases List.mem_append.mp hz with hz | hz
     ·have := b1.2.2 z hz y (by simp)
      omega
     ·rw [List.mem_singleton.mp hz]
      exact hyx
  ·intro _ ⟨b1,b2⟩
   unfold Uj
   refine Ok.guard (by omega) ?_
   refine Ok.range (fun pre _ => ∀ x ∈ pre,x.frozen = rN h f x.group) (by simp) ?_ ?_
   ·intro pre x post _ n he hp hn
    have hx : x ∈ f.frosts := by rw [he]; simp
    unfold Uf
    rw [AbX w hs,Option.bind_some]
    refine Ok.ite (fun c => bad fun k => ?_) fun c => hn _ (Yy hp (by simpa using c))
    rw [k.frz x hx] at c
    simp at c
   ·intro _ hp
    refine Ok.ret ⟨fun _ => ⟨?_,a.chg,b1,b2,hp⟩,fun _ => rfl⟩
    have := a.grp
    rw [hlen,List.take_length] at this
    exact this
theorem Aat (w : WfH h) (hs : Hl f) : Ok (Ox h f) (fun b => b = true ↔ FzOk h f) := by
 have l1 := w.len
 have l2 := w.tree.len2
 have s1 := hs.fr
 have s2 := hs.st
 have bad : ¬ FzOk h f → Ok (some false) (fun b : Bool => b = true ↔ FzOk h f) := fun hn => Ok.ret (by simp [hn])
 unfold Ox
 rw [Hv w,Option.bind_some,if_neg (by simp)]
 unfold Oo
 refine Ok.ite (fun c => bad fun k => ?_) fun c => ?_
 ·have := k.len
  simp at c
  omega
 have hlen : f.frosts.length = h.tree.nodes.length := by
  simp at c
  omega
 refine Ok.guard (by omega) ?_
 refine Ok.range (fun pre _ => FrA h pre) ⟨rfl,by simp⟩ ?_ ?_
 ·intro pre x post _ n he a hn
  have hpl : pre.length < h.tree.nodes.length := by
   rw [← hlen,he]
   simp
  have hx : x ∈ f.frosts := by rw [he]; simp
  unfold Xe Kz
  refine Ok.guard hpl ?_
  refine Ok.ite (fun c => ?_) fun c1 => Ok.ite (fun c => ?_) fun c2 => Ok.ite (fun c => ?_) fun c3 => ?_
  ·refine bad fun k => ?_
   have := (pre_map k.grp he).2
   simp [this] at c
  ·refine bad fun k => ?_
   have := k.chg x hx
   simp at c
   omega
  ·refine bad fun k => ?_
   have := k.chg x hx
   simp at c
   omega
  ·refine hn _ (a.snoc hpl (by simpa using c1) ?_)
   simp at c2 c3
   omega
 ·intro _ a
  unfold Wr
  refine Ok.guard (by omega) ?_
  refine Ok.range (fun pre _ => Asc pre ∧ ∀ k ∈ pre,wT h f k = true) ⟨List.Pairwise.nil,by simp⟩ ?_ ?_
  ·intro pre x post _ n he ⟨b1,b2⟩ hn
   have hx : x ∈ f.stopped := by rw [he]; simp
   unfold Vj
   rw [find6 w,Option.bind_some]
   cases hk : Er h.tasks x with
   | none =>
    refine bad fun k => ?_
    have := k.stp x hx
    unfold wT at this
    rw [hk] at this
    simp at this
   | some y =>
    have hwt : wT h f x = wN h.tree f y.group := by
     unfold wT
     rw [hk]
     rfl
    simp only [Option.isSome_some,Bool.not_true,Bool.false_eq_true,if_false,Option.getD_some]
    have hrest : (∀ y ∈ pre,y < x) → Ok (Option.bind (Gx h.tree f y.group) fun r => Ho n (!r)) (fun b => b = true ↔ FzOk h f) := by
     intro hlt
     rw [Qv w.tree (by omega),Option.bind_some,← hwt]
     unfold Ho
     refine Ok.ite (fun c => bad fun k => ?_) fun c => ?_
     ·rw [k.stp x hx] at c
      simp at c
     ·exact hn _ ⟨Ahy b1 hlt,Yy b2 (by simpa using c)⟩
    rcases Ji pre with rfl | ⟨P,z,rfl⟩
    ·rw [if_neg (by simp)]
     exact hrest (by simp)
    ·have e1 : decide ((((P ++ [z]).length : Nat) : Int) > 0) = true := by simp
     have hlen2 := congrArg List.length he
     simp at hlen2
     have e2 : w64 ((((P ++ [z]).length : Nat) : Int) - 1) = (P.length : Int) := by
      rw [Ay (by simp <;> omega) (by simp <;> omega)]
      simp
     have e4 : f.stopped.getD (Int.toNat (P.length : Int)) 0 = z := by
      rw [he]
      exact Sj
     rw [e1,if_pos rfl,e2,e4]
     refine Ok.guard ⟨by omega,by omega⟩ ?_
     refine Ok.ite (fun c => bad fun k => ?_) fun c => hrest ?_
     ·have := k.asc
      rw [he,Asc,List.pairwise_append] at this
      have := this.2.2 z (by simp) x (by simp)
      simp at c
      omega
     ·have hyx : z < x := by simpa using c
      rw [Asc,List.pairwise_append] at b1
      intro q hz
      rcases List.mem_append.mp hz with hz | hz
      ·have := b1.2.2 q hz z (by simp)
       omega
      ·rw [List.mem_singleton.mp hz]
       exact hyx
  ·intro _ ⟨b1,b2⟩
   unfold Uw
   refine Ok.guard (by omega) ?_
   refine Ok.range (fun pre _ => ∀ x ∈ pre,x.frozen = rN h f x.group) (by simp) ?_ ?_
   ·intro pre x post _ n he hp hn
    have hx : x ∈ f.frosts := by rw [he]; simp
    unfold Uu
    rw [Acf w hs,Option.bind_some]
    refine Ok.ite (fun c => bad fun k => ?_) fun c => hn _ (Yy hp (by simpa using c))
    rw [k.frz x hx] at c
    simp at c
   ·intro _ hp
    refine Ok.ret ⟨fun _ => ⟨?_,a.chg,b1,b2,hp⟩,fun _ => rfl⟩
    have := a.grp
    rw [hlen,List.take_length] at this
    exact this
end
end Go.Dm
