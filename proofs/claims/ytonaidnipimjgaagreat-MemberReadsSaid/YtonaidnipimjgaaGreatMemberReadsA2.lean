/- Texts of the proof of MemberReads: the data machine, the models of the Go functions, their contracts. -/
import Derived.Test.YtonaidnipimjgaaGreatMemberReadsA1
import Derived.KernelRfl
set_option linter.unusedVariables false
set_option linter.unusedSimpArgs false
/- Models of Go types and functions, printed by a program. -/
namespace Go.Dm
set_option linter.unusedVariables false
structure Af where
 id : Int
 parent : Int
 name : ByteArray
 control : Int
 kind : Int
 owner : Int
 deriving Inhabited
def An (x : Af) : List PV := [vi x.id,vi x.parent,vs x.name,vi x.control,vi x.kind,vi x.owner]
abbrev Aw : Af := default
abbrev Cz (L : List Af) : PV := Oz 6 An (default : Af) L
abbrev Ac (L : List Af) : Body := rowOf 6 An (default : Af) L
abbrev Fz (L : List Af) : Nat → List PV := elems An (default : Af) L
def AeV (x y : Af) : Bool := ((x.id == y.id) && ((x.parent == y.parent) && ((x.name.toList == y.name.toList) && ((x.control == y.control) && ((x.kind == y.kind) && ((x.owner == y.owner) && true))))))
structure Ae where
 nodes : List Af
 next : Int
 deriving Inhabited
def Aq (x : Ae) : List PV := [Oz 6 An (default : Af) x.nodes,vi x.next]
structure Aj where
 id : Int
 process : Int
 group : Int
 user : Int
 deriving Inhabited
def Am (x : Aj) : List PV := [vi x.id,vi x.process,vi x.group,vi x.user]
abbrev Ba : Aj := default
abbrev Bt (L : List Aj) : PV := Oz 4 Am (default : Aj) L
abbrev Ai (L : List Aj) : Body := rowOf 4 Am (default : Aj) L
abbrev Dy (L : List Aj) : Nat → List PV := elems Am (default : Aj) L
def AaP (x y : Aj) : Bool := ((x.id == y.id) && ((x.process == y.process) && ((x.group == y.group) && ((x.user == y.user) && true))))
structure Aa where
 tree : Ae
 tasks : List Aj
 next : Int
 deriving Inhabited
def Ab (x : Aa) : List PV := [Oz 6 An (default : Af) x.tree.nodes,vi x.tree.next,Oz 4 Am (default : Aj) x.tasks,vi x.next]
abbrev Wl : Aa := default
abbrev Ra (L : List Aa) : Body := rowOf 4 Ab (default : Aa) L
structure Al where
 l : List Int
 atF : Int
 deriving Inhabited
def Ah (x : Al) : List PV := [Oz 1 Bd 0 x.l,vi x.atF]
def Wt (p0 : List Int) : Option Bool := (some (decide (((p0.length : Nat) : Int) ≤ 600)))
def Xe : Option Ae := (some ({ nodes := [({ id := 1,parent := 0,name := ByteArray.empty,control := 0,kind := 0,owner := 0 } : Af)],next := 2 } : Ae))
def Yl : Option Aa := (Option.bind Xe fun r1 => (some ({ tree := r1,tasks := [],next := 1 } : Aa)))
def Xg (p0 : ByteArray) (k1 : Int) (s1 : Unit) (n1 : Unit → Option Bool) : Option Bool := (if 0 ≤ k1 ∧ k1 < ((p0.size : Nat) : Int) then (if (!((((((decide ((((Bl p0 (Int.toNat k1)) : Nat) : Int) ≥ 97)) && (decide ((((Bl p0 (Int.toNat k1)) : Nat) : Int) ≤ 122))) || ((decide ((((Bl p0 (Int.toNat k1)) : Nat) : Int) ≥ 65)) && (decide ((((Bl p0 (Int.toNat k1)) : Nat) : Int) ≤ 90)))) || ((decide ((((Bl p0 (Int.toNat k1)) : Nat) : Int) ≥ 48)) && (decide ((((Bl p0 (Int.toNat k1)) : Nat) : Int) ≤ 57)))) || ((((Bl p0 (Int.toNat k1)) : Nat) : Int) == 95)) || ((((Bl p0 (Int.toNat k1)) : Nat) : Int) == 45))) then (some false) else (n1 ())) else none)
def AcA (s1 : Unit) : Option Bool := (some true)
def Mx (p0 : ByteArray) (y1 : Bool) : Option Bool := (if y1 then (some false) else (if ((p0.size : Nat) : Int) ≤ 9223372036854775807 then (forO (Xg p0) AcA (Int.toNat (((p0.size : Nat) : Int) - 0)) 0 ()) else none))
def Qn (p0 : ByteArray) : Option Bool := (if (((p0.size : Nat) : Int) == 0) then ((Mx p0) true) else (if (decide (((p0.size : Nat) : Int) > 32)) then ((Mx p0) true) else (if 0 < p0.size then ((Mx p0) ((((Bl p0 0) : Nat) : Int) == 45)) else none)))
def Ot (n1 : Bool → Option Bool) (y5 : Bool) (y6 : Bool) : Option Bool := (if y6 then (some false) else (n1 y5))
def Ov (p0 : Ae) (p1 : Int) (k1 : Int) (n1 : Bool → Option Bool) (y5 : Bool) : Option Bool := (if 0 ≤ k1 ∧ k1 < ((p0.nodes.length : Nat) : Int) then (if ((p0.nodes.getD (Int.toNat k1) (default : Af)).parent == (p0.nodes.getD (Int.toNat p1) (default : Af)).parent) then (if 0 ≤ k1 ∧ k1 < ((p0.nodes.length : Nat) : Int) then ((Ot n1 y5) (Dx (p0.nodes.getD (Int.toNat k1) (default : Af)).name (p0.nodes.getD (Int.toNat p1) (default : Af)).name)) else none) else ((Ot n1 y5) false)) else none)
def Aau (p0 : Ae) (p1 : Int) (k1 : Int) (s1 : Bool) (n1 : Bool → Option Bool) : Option Bool := (if s1 then ((Ov p0 p1 k1 n1) true) else (if 0 ≤ k1 ∧ k1 < ((p0.nodes.length : Nat) : Int) then ((Ov p0 p1 k1 n1) ((p0.nodes.getD (Int.toNat k1) (default : Af)).id == (p0.nodes.getD (Int.toNat p1) (default : Af)).parent)) else none))
def AdG (s1 : Bool) : Option Bool := (some s1)
def Qz (p0 : Ae) (p1 : Int) (y1 : Bool) : Option Bool := (if y1 then (some false) else (if p1 ≤ 9223372036854775807 then (forO (Aau p0 p1) AdG (Int.toNat (p1 - 0)) 0 false) else none))
def Vh (p0 : Ae) (p1 : Int) : Option Bool := (if 0 ≤ p1 ∧ p1 < ((p0.nodes.length : Nat) : Int) then (if (((((((p0.nodes.getD (Int.toNat p1) (default : Af)).kind != 0) && ((p0.nodes.getD (Int.toNat p1) (default : Af)).kind != 1)) || (decide ((p0.nodes.getD (Int.toNat p1) (default : Af)).control < 0))) || (decide ((p0.nodes.getD (Int.toNat p1) (default : Af)).control > 31))) || (decide ((p0.nodes.getD (Int.toNat p1) (default : Af)).owner < 0))) || (decide ((p0.nodes.getD (Int.toNat p1) (default : Af)).owner > 1048576))) then (some false) else (if (p1 == 0) then (some (((((p0.nodes.getD (Int.toNat p1) (default : Af)).id == 1) && ((p0.nodes.getD (Int.toNat p1) (default : Af)).parent == 0)) && (Dx (p0.nodes.getD (Int.toNat p1) (default : Af)).name ByteArray.empty)) && ((p0.nodes.getD (Int.toNat p1) (default : Af)).kind == 0))) else (if 0 ≤ (w64 (p1 - 1)) ∧ (w64 (p1 - 1)) < ((p0.nodes.length : Nat) : Int) then (if (decide ((p0.nodes.getD (Int.toNat p1) (default : Af)).id ≤ (p0.nodes.getD (Int.toNat (w64 (p1 - 1))) (default : Af)).id)) then ((Qz p0 p1) true) else (Option.bind (Qn (p0.nodes.getD (Int.toNat p1) (default : Af)).name) fun r17 => ((Qz p0 p1) (!r17)))) else none))) else none)
def Sb (s1 : (List Int) × Int × Int) (n1 : ((List Int) × Int × Int) → Option (List Int)) (y2 : (List Int) × Int) : Option (List Int) := (n1 (y2.1,y2.2,(w64 (s1.2.2 - 1))))
def Ace (p0 : Ae) (s1 : (List Int) × Int × Int) (n1 : ((List Int) × Int × Int) → Option (List Int)) : Option (List Int) := (if (decide (s1.2.2 ≥ 0)) then (if 0 ≤ s1.2.2 ∧ s1.2.2 < ((p0.nodes.length : Nat) : Int) then (if ((p0.nodes.getD (Int.toNat s1.2.2) (default : Af)).id == s1.2.1) then (if s1.1.length + 1 ≤ 1073741824 then (if 0 ≤ s1.2.2 ∧ s1.2.2 < ((p0.nodes.length : Nat) : Int) then ((Sb s1 n1) ((s1.1 ++ [s1.2.1]),(p0.nodes.getD (Int.toNat s1.2.2) (default : Af)).parent)) else none) else none) else ((Sb s1 n1) (s1.1,s1.2.1))) else none) else (some s1.1))
def Ww (p0 : Ae) (p1 : Int) : Option (List Int) := (whileO (Ace p0) Ea ([],p1,(w64 (((p0.nodes.length : Nat) : Int) - 1))))
def Yc (p0 : Ae) (k1 : Nat) (x1 : Af) (s1 : Unit) (n1 : Unit → Option Bool) : Option Bool := (Option.bind (Vh p0 ((k1 : Nat) : Int)) fun r33 => (if (!r33) then (some false) else (n1 ())))
def Yh (p0 : Ae) (k4 : Nat) (x4 : Af) (s4 : Unit) (n4 : Unit → Option Bool) : Option Bool := (Option.bind (Ww p0 x4.id) fun r50 => (if (decide (((r50.length : Nat) : Int) > 9)) then (some false) else (n4 ())))
def Qb (y7 : Bool) : Option Bool := (some y7)
def Yg (p0 : Ae) (s4 : Unit) : Option Bool := (if 0 ≤ (w64 (((p0.nodes.length : Nat) : Int) - 1)) ∧ (w64 (((p0.nodes.length : Nat) : Int) - 1)) < ((p0.nodes.length : Nat) : Int) then (if (decide (p0.next > (p0.nodes.getD (Int.toNat (w64 (((p0.nodes.length : Nat) : Int) - 1))) (default : Af)).id)) then (Qb (decide (p0.next ≤ 2147483648))) else (Qb false)) else none)
def Yv (p0 : Ae) (s1 : Unit) : Option Bool := (if p0.nodes.length ≤ 9223372036854775807 then Be (Yh p0) (Yg p0) p0.nodes 0 () else none)
def Jo (p0 : Ae) : Option Bool := (if ((decide (((p0.nodes.length : Nat) : Int) < 1)) || (decide (((p0.nodes.length : Nat) : Int) > 64))) then (some false) else (if p0.nodes.length ≤ 9223372036854775807 then Be (Yc p0) (Yv p0) p0.nodes 0 () else none))
def Abv (p1 : Int) (k1 : Nat) (x1 : Aj) (s1 : Unit) (n1 : Unit → Option (Aj × Bool)) : Option (Aj × Bool) := (if (x1.id == p1) then (some (x1,(x1.process == p1))) else (n1 ()))
def AbG (s1 : Unit) : Option (Aj × Bool) := (some (({ id := 0,process := 0,group := 0,user := 0 } : Aj),false))
def Ri (p0 : List Aj) (p1 : Int) : Option (Aj × Bool) := (if p0.length ≤ 9223372036854775807 then Be (Abv p1) AbG p0 0 () else none)
def AdD (p1 : Int) (k1 : Nat) (x1 : Af) (s1 : Unit) (n1 : Unit → Option (Af × Bool)) : Option (Af × Bool) := (if (x1.id == p1) then (some (x1,true)) else (n1 ()))
def Adu (s1 : Unit) : Option (Af × Bool) := (some (({ id := 0,parent := 0,name := ByteArray.empty,control := 0,kind := 0,owner := 0 } : Af),false))
def Dk (p0 : Ae) (p1 : Int) : Option (Af × Bool) := (Option.bind (Jo p0) fun r1 => (if (!r1) then (some (({ id := 0,parent := 0,name := ByteArray.empty,control := 0,kind := 0,owner := 0 } : Af),false)) else (if p0.nodes.length ≤ 9223372036854775807 then Be (AdD p1) Adu p0.nodes 0 () else none)))
def Fx (p0 : Ae) (p1 : Int) : Option Bool := (Option.bind (Dk p0 p1) fun r1 => (some r1.2))
def Cg (n1 : Unit → Option Bool) (y4 : Bool) : Option Bool := (if y4 then (some false) else (n1 ()))
def Tg (p0 : Aa) (k1 : Nat) (x1 : Aj) (s1 : Unit) (n1 : Unit → Option Bool) : Option Bool := (Option.bind (Ri p0.tasks x1.process) fun r46 => (if (decide (x1.id < 1)) then ((Cg n1) true) else (if (decide (((k1 : Nat) : Int) > 0)) then (if 0 ≤ (w64 (((k1 : Nat) : Int) - 1)) ∧ (w64 (((k1 : Nat) : Int) - 1)) < ((p0.tasks.length : Nat) : Int) then (if (decide ((p0.tasks.getD (Int.toNat (w64 (((k1 : Nat) : Int) - 1))) (default : Aj)).id ≥ x1.id)) then ((Cg n1) true) else (Option.bind (Fx p0.tree x1.group) fun r51 => (if (!r51) then ((Cg n1) true) else (if (decide (x1.user < 0)) then ((Cg n1) true) else (if (decide (x1.user > 1048576)) then ((Cg n1) true) else (if (!r46.2) then ((Cg n1) true) else ((Cg n1) (r46.1.user != x1.user)))))))) else none) else (Option.bind (Fx p0.tree x1.group) fun r56 => (if (!r56) then ((Cg n1) true) else (if (decide (x1.user < 0)) then ((Cg n1) true) else (if (decide (x1.user > 1048576)) then ((Cg n1) true) else (if (!r46.2) then ((Cg n1) true) else ((Cg n1) (r46.1.user != x1.user))))))))))
def Xp (s1 : Unit) : Option Bool := (some true)
def Ih (p0 : Aa) (y1 : Bool) : Option Bool := (if y1 then (some false) else (if p0.tasks.length ≤ 9223372036854775807 then Be (Tg p0) Xp p0.tasks 0 () else none))
def Em (p0 : Aa) : Option Bool := (Option.bind (Jo p0.tree) fun r1 => (if (!r1) then ((Ih p0) true) else (if (decide (((p0.tasks.length : Nat) : Int) > 128)) then ((Ih p0) true) else (if (decide (p0.next < 1)) then ((Ih p0) true) else (if (decide (p0.next > 2147483648)) then ((Ih p0) true) else (if (decide (((p0.tasks.length : Nat) : Int) > 0)) then (if 0 ≤ (w64 (((p0.tasks.length : Nat) : Int) - 1)) ∧ (w64 (((p0.tasks.length : Nat) : Int) - 1)) < ((p0.tasks.length : Nat) : Int) then ((Ih p0) (decide (p0.next ≤ (p0.tasks.getD (Int.toNat (w64 (((p0.tasks.length : Nat) : Int) - 1))) (default : Aj)).id))) else none) else ((Ih p0) false)))))))
def Re (p0 : Ae) (p1 : Int) : Option Int := (Option.bind (Dk p0 p1) fun r1 => (if ((!r1.2) || (p1 == 1)) then (some 0) else (Option.bind (Dk p0 r1.1.parent) fun r4 => (if (r1.1.kind == 1) then (some (Ej .i64 r4.1.control 6)) else (some r4.1.control)))))
def Lh (y2 : Int) : Option Int := (some y2)
def Jf (r1 : Af × Bool) (y1 : Int) : Option Int := (if (r1.1.kind == 1) then (Lh (Ej .i64 y1 6)) else (Lh y1))
def Ky (p0 : Ae) (p1 : Int) : Option Int := (Option.bind (Dk p0 p1) fun r1 => (if (!r1.2) then (some 0) else (if (p1 != 1) then (Option.bind (Re p0 p1) fun r4 => ((Jf r1) r4)) else ((Jf r1) 31))))
def Pn (n1 : (List Int) → Option (List Int)) (y3 : List Int) : Option (List Int) := (n1 y3)
def Xr (p1 : Int) (k1 : Nat) (x1 : Aj) (s1 : List Int) (n1 : (List Int) → Option (List Int)) : Option (List Int) := (if (x1.group == p1) then (if s1.length + 1 ≤ 1073741824 then ((Pn n1) (s1 ++ [x1.id])) else none) else ((Pn n1) s1))
def Aca (s1 : List Int) : Option (List Int) := (some s1)
def Hc (p0 : Aa) (p1 : Int) : Option (List Int) := (Option.bind (Em p0) fun r1 => (if (!r1) then (some []) else (if p0.tasks.length ≤ 9223372036854775807 then Be (Xr p1) Aca p0.tasks 0 [] else none)))
def Ju (n1 : Unit → Option Bool) (y3 : Bool) : Option Bool := (if y3 then (some false) else (n1 ()))
def Xw (p0 : Aa) (k1 : Nat) (x1 : Af) (s1 : Unit) (n1 : Unit → Option Bool) : Option Bool := (Option.bind (Ky p0.tree x1.id) fun r20 => (if ((Ej .i64 x1.control r20) != 0) then ((Ju n1) true) else (if (x1.id != 1) then (if ((kand .i64 x1.control 6) != 0) then (Option.bind (Hc p0 x1.id) fun r24 => ((Ju n1) (decide (((r24.length : Nat) : Int) > 0)))) else ((Ju n1) false)) else ((Ju n1) false))))
def AcB (s1 : Unit) : Option Bool := (some true)
def Qq (p0 : Aa) : Option Bool := (Option.bind (Em p0) fun r1 => (if (!r1) then (some false) else (if p0.tree.nodes.length ≤ 9223372036854775807 then Be (Xw p0) AcB p0.tree.nodes 0 () else none)))
def AdE (p1 : Int) (k1 : Nat) (x1 : Aj) (s1 : Unit) (n1 : Unit → Option (Aj × Bool)) : Option (Aj × Bool) := (if (x1.id == p1) then (some (x1,true)) else (n1 ()))
def Adp (s1 : Unit) : Option (Aj × Bool) := (some (({ id := 0,process := 0,group := 0,user := 0 } : Aj),false))
def Gt (p0 : Aa) (p1 : Int) : Option (Aj × Bool) := (Option.bind (Em p0) fun r1 => (if (!r1) then (some (({ id := 0,process := 0,group := 0,user := 0 } : Aj),false)) else (if p0.tasks.length ≤ 9223372036854775807 then Be (AdE p1) Adp p0.tasks 0 () else none)))
def Hx (p0 : Ae) (p1 : Int) : Option (List Int) := (Option.bind (Fx p0 p1) fun r1 => (if (!r1) then (some []) else (Option.bind (Ww p0 p1) fun r3 => (some r3))))
def Vq (p0 : Ae) (k1 : Nat) (x1 : Int) (s1 : Unit) (n1 : Unit → Option (Int × Bool)) : Option (Int × Bool) := (Option.bind (Dk p0 x1) fun r17 => (if (r17.1.kind != 1) then (some (x1,true)) else (n1 ())))
def Abw (s1 : Unit) : Option (Int × Bool) := (some (0,false))
def Ku (p0 : Ae) (p1 : Int) : Option (Int × Bool) := (Option.bind (Hx p0 p1) fun r1 => (if r1.length ≤ 9223372036854775807 then Be (Vq p0) Abw r1 0 () else none))
def Mf (n1 : (List Int) → Option (List Int)) (y3 : List Int) : Option (List Int) := (n1 y3)
def Tk (p1 : Int) (k1 : Nat) (x1 : Af) (s1 : List Int) (n1 : (List Int) → Option (List Int)) : Option (List Int) := (if (x1.parent == p1) then (if s1.length + 1 ≤ 1073741824 then ((Mf n1) (s1 ++ [x1.id])) else none) else ((Mf n1) s1))
def Zg (s1 : List Int) : Option (List Int) := (some s1)
def Gy (p0 : Ae) (p1 : Int) : Option (List Int) := (Option.bind (Fx p0 p1) fun r1 => (if (!r1) then (some []) else (if p0.nodes.length ≤ 9223372036854775807 then Be (Tk p1) Zg p0.nodes 0 [] else none)))
def Aal (p0 : Ae) (k1 : Nat) (x1 : Int) (s1 : Unit) (n1 : Unit → Option Int) : Option Int := (Option.bind (Dk p0 x1) fun r21 => (if (r21.1.kind == 1) then (some 1) else (n1 ())))
def Adx (s1 : Unit) : Option Int := (some 0)
def Mr (p0 : Ae) (p1 : Int) (y1 : Bool) : Option Int := (if y1 then (some 3) else (Option.bind (Gy p0 p1) fun r9 => (if r9.length ≤ 9223372036854775807 then Be (Aal p0) Adx r9 0 () else none)))
def Qh (rec : Ae → Int → Option Int) (p0 : Ae) (p1 : Int) : Option Int := (Option.bind (Dk p0 p1) fun r1 => (if (!r1.2) then (some 0) else (if (r1.1.kind == 1) then (some 2) else (Option.bind (Dk p0 r1.1.parent) fun r4 => (if r4.2 then (if (r4.1.kind == 1) then ((Mr p0 p1) true) else (Option.bind (rec p0 r4.1.id) fun r7 => ((Mr p0 p1) (r7 == 3)))) else ((Mr p0 p1) false))))))
def Km : Nat → Ae → Int → Option Int
 | 0,_,_ => none
 | n + 1,p0,p1 => Qh (Km n) p0 p1
def Mm (p0 : Ae) (p1 : Int) : Option Int := Km Ea p0 p1
def Aar (p0 : Aa) (k1 : Nat) (x1 : Aj) (s1 : Unit) (n1 : Unit → Option Bool) : Option Bool := (Option.bind (Gt p0 x1.process) fun r100 => (Option.bind (Ku p0.tree x1.group) fun r101 => (Option.bind (Ku p0.tree r100.1.group) fun r102 => (if (r101.1 != r102.1) then (some false) else (n1 ())))))
def Jq (n4 : Unit → Option Bool) (y18 : Bool) : Option Bool := (if y18 then (some false) else (n4 ()))
def Lg (p0 : Aa) (x4 : Af) (n4 : Unit → Option Bool) (r133 : Af × Bool) (y17 : Bool) : Option Bool := (if y17 then (some false) else (if (x4.kind == 1) then (if (r133.1.id != 1) then (if ((kand .i64 r133.1.control 6) != 0) then ((Jq n4) true) else (Option.bind (Mm p0.tree r133.1.id) fun r142 => ((Jq n4) (r142 == 3)))) else (Option.bind (Mm p0.tree r133.1.id) fun r143 => ((Jq n4) (r143 == 3)))) else ((Jq n4) false)))
def Aaq (p0 : Aa) (k4 : Nat) (x4 : Af) (s4 : Unit) (n4 : Unit → Option Bool) : Option Bool := (Option.bind (Dk p0.tree x4.parent) fun r133 => (Option.bind (Mm p0.tree x4.id) fun r134 => (if (r134 == 3) then (if (x4.control != 0) then ((Lg p0 x4 n4 r133) true) else (Option.bind (Hc p0 x4.id) fun r137 => ((Lg p0 x4 n4 r133) (decide (((r137.length : Nat) : Int) > 0))))) else ((Lg p0 x4 n4 r133) false))))
def Adm (s4 : Unit) : Option Bool := (some true)
def Aab (p0 : Aa) (s1 : Unit) : Option Bool := (if p0.tree.nodes.length ≤ 9223372036854775807 then Be (Aaq p0) Adm p0.tree.nodes 0 () else none)
def Kr (p0 : Aa) : Option Bool := (Option.bind (Qq p0) fun r1 => (if (!r1) then (some false) else (if p0.tasks.length ≤ 9223372036854775807 then Be (Aar p0) (Aab p0) p0.tasks 0 () else none)))
def Si (p0 : Ae) (p1 : Int) : Option Int := (Option.bind (Hx p0 p1) fun r1 => (some (w64 (((r1.length : Nat) : Int) - 1))))
def Ns (p0 : Ae) : Option Ae := (if p0.nodes.length ≤ 1073741824 then (some p0) else none)
def Abl (p1 : Int) (p2 : ByteArray) (k1 : Nat) (x1 : Af) (s1 : Unit) (n1 : Unit → Option (Ae × Int × Int)) : Option (Ae × Int × Int) := (if ((x1.parent == p1) && (Dx x1.name p2)) then (some (({ nodes := [],next := 0 } : Ae),0,5)) else (n1 ()))
def Ny (p0 : Ae) (p1 : Int) (p2 : ByteArray) (y6 : Bool) : Option (Ae × Int × Int) := (if y6 then (some (({ nodes := [],next := 0 } : Ae),0,7)) else (Option.bind (Ns p0) fun r36 => (if r36.nodes.length + 1 ≤ 1073741824 then (some (({ nodes := (r36.nodes ++ [({ id := p0.next,parent := p1,name := p2,control := 0,kind := 0,owner := 0 } : Af)]),next := (w64 (r36.next + 1)) } : Ae),p0.next,0)) else none)))
def Aba (p0 : Ae) (p1 : Int) (p2 : ByteArray) (s1 : Unit) : Option (Ae × Int × Int) := (Option.bind (Si p0 p1) fun r32 => (if (decide (r32 ≥ 8)) then ((Ny p0 p1 p2) true) else (if (decide (((p0.nodes.length : Nat) : Int) ≥ 64)) then ((Ny p0 p1 p2) true) else ((Ny p0 p1 p2) (decide (p0.next > 2147483647))))))
def Th (p0 : Ae) (p1 : Int) (p2 : ByteArray) (y1 : Bool) : Option (Ae × Int × Int) := (if y1 then (some (({ nodes := [],next := 0 } : Ae),0,1)) else (Option.bind (Fx p0 p1) fun r5 => (if (!r5) then (some (({ nodes := [],next := 0 } : Ae),0,4)) else (if p0.nodes.length ≤ 9223372036854775807 then Be (Abl p1 p2) (Aba p0 p1 p2) p0.nodes 0 () else none))))
def Yr (p0 : Ae) (p1 : Int) (p2 : ByteArray) : Option (Ae × Int × Int) := (Option.bind (Jo p0) fun r1 => (if (!r1) then ((Th p0 p1 p2) true) else (Option.bind (Qn p2) fun r3 => ((Th p0 p1 p2) (!r3)))))
def Mi (p0 : Aa) : Option Aa := (Option.bind (Ns p0.tree) fun r1 => (if p0.tasks.length ≤ 1073741824 then (some ({ tree := r1,tasks := p0.tasks,next := p0.next } : Aa)) else none))
def Sp (r3 : Aa) (y1 : Aj) : Option (Aa × Int × Int) := (if r3.tasks.length + 1 ≤ 1073741824 then (some (({ tree := r3.tree,tasks := (r3.tasks ++ [y1]),next := (w64 (r3.next + 1)) } : Aa),y1.id,0)) else none)
def Tv (p0 : Aa) (p1 : Aj) : Option (Aa × Int × Int) := (if ((decide (((p0.tasks.length : Nat) : Int) ≥ 128)) || (decide (p0.next > 2147483647))) then (some (({ tree := ({ nodes := [],next := 0 } : Ae),tasks := [],next := 0 } : Aa),0,7)) else (Option.bind (Mi p0) fun r3 => (if (p1.process == 0) then ((Sp r3) ({ id := p0.next,process := p0.next,group := p1.group,user := p1.user } : Aj)) else ((Sp r3) ({ id := p0.next,process := p1.process,group := p1.group,user := p1.user } : Aj)))))
def Na (p0 : Aa) (p1 : Int) (p2 : Int) (y1 : Bool) : Option (Aa × Int × Int) := (if y1 then (some (({ tree := ({ nodes := [],next := 0 } : Ae),tasks := [],next := 0 } : Aa),0,1)) else (Option.bind (Fx p0.tree p1) fun r5 => (if (!r5) then (some (({ tree := ({ nodes := [],next := 0 } : Ae),tasks := [],next := 0 } : Aa),0,4)) else (Option.bind (Tv p0 ({ id := 0,process := 0,group := p1,user := p2 } : Aj)) fun r7 => (some (r7.1,r7.2.1,r7.2.2))))))
def Sv (p0 : Aa) (p1 : Int) (p2 : Int) : Option (Aa × Int × Int) := (Option.bind (Em p0) fun r1 => (if (!r1) then ((Na p0 p1 p2) true) else (if (decide (p2 < 0)) then ((Na p0 p1 p2) true) else ((Na p0 p1 p2) (decide (p2 > 1048576))))))
def Zh (p0 : Af) : Option Bool := (some ((((p0.id == 1) && (p0.parent == 0)) && (Dx p0.name ByteArray.empty)) && (p0.kind == 0)))
def We (p0 : Int) : Option Bool := (some ((((((decide (p0 ≥ 97)) && (decide (p0 ≤ 122))) || ((decide (p0 ≥ 65)) && (decide (p0 ≤ 90)))) || ((decide (p0 ≥ 48)) && (decide (p0 ≤ 57)))) || (p0 == 95)) || (p0 == 45)))
def Xx (k1 : Nat) (x1 : Int) (s1 : Unit) (n1 : Unit → Option Bool) : Option Bool := (Option.bind (We x1) fun r16 => (if (!r16) then (some false) else (n1 ())))
def Ni (y3 : Bool) : Option Bool := (some y3)
def Yu (p0 : ByteArray) (s1 : Unit) : Option Bool := (if (!(Dx p0 ByteArray.empty)) then (if (decide (((p0.size : Nat) : Int) ≤ 32)) then (if 0 < p0.size then (Ni ((((Bl p0 0) : Nat) : Int) != 45)) else none) else (Ni false)) else (Ni false))
def Tf (p0 : ByteArray) : Option Bool := (if (Il p0).length ≤ 9223372036854775807 then Be Xx (Yu p0) (Il p0) 0 () else none)
def Aay (p1 : Af) (k1 : Nat) (x1 : Af) (s1 : Bool) (n1 : Bool → Option Bool) : Option Bool := (if ((x1.parent == p1.parent) && (Dx x1.name p1.name)) then (some false) else (n1 (s1 || (x1.id == p1.parent))))
def AdF (s1 : Bool) : Option Bool := (some s1)
def Jm (p0 : List Af) (p1 : Af) (y1 : Bool) : Option Bool := (if y1 then (some false) else (if p0.length ≤ 9223372036854775807 then Be (Aay p1) AdF p0 0 false else none))
def Uz (p0 : List Af) (p1 : Af) : Option Bool := (if 0 ≤ (w64 (((p0.length : Nat) : Int) - 1)) ∧ (w64 (((p0.length : Nat) : Int) - 1)) < ((p0.length : Nat) : Int) then (if (decide (p1.id ≤ (p0.getD (Int.toNat (w64 (((p0.length : Nat) : Int) - 1))) (default : Af)).id)) then ((Jm p0 p1) true) else (Option.bind (Tf p1.name) fun r3 => (if (!r3) then ((Jm p0 p1) true) else (if (p1.kind != 0) then ((Jm p0 p1) (p1.kind != 1)) else ((Jm p0 p1) false))))) else none)
def Pp (x1 : Af) (n1 : (IMap Int) → Option Bool) (y9 : IMap Int) : Option Bool := (if (decide ((y9.get x1.id) > 8)) then (some false) else (n1 y9))
def Gw (k1 : Nat) (x1 : Af) (s1 : IMap Int) (n1 : (IMap Int) → Option Bool) (y8 : Bool) : Option Bool := (if y8 then (some false) else (if (decide (((k1 : Nat) : Int) > 0)) then ((Pp x1 n1) (s1.set x1.id (w64 ((s1.get x1.parent) + 1)))) else ((Pp x1 n1) s1)))
def Yj (p0 : Ae) (k1 : Nat) (x1 : Af) (s1 : IMap Int) (n1 : (IMap Int) → Option Bool) : Option Bool := (if (decide (x1.control < 0)) then ((Gw k1 x1 s1 n1) true) else (if ((Ej .i64 x1.control 31) != 0) then ((Gw k1 x1 s1 n1) true) else (if (decide (x1.owner < 0)) then ((Gw k1 x1 s1 n1) true) else (if (decide (x1.owner > 1048576)) then ((Gw k1 x1 s1 n1) true) else (if (decide (((k1 : Nat) : Int) > 0)) then (if ((k1 : Nat) : Int) ≤ ((p0.nodes.length : Nat) : Int) then (Option.bind (Uz (p0.nodes.take k1) x1) fun r43 => ((Gw k1 x1 s1 n1) (!r43))) else none) else ((Gw k1 x1 s1 n1) false))))))
def Oh (y10 : Bool) : Option Bool := (some y10)
def Xi (p0 : Ae) (s1 : IMap Int) : Option Bool := (if 0 ≤ (w64 (((p0.nodes.length : Nat) : Int) - 1)) ∧ (w64 (((p0.nodes.length : Nat) : Int) - 1)) < ((p0.nodes.length : Nat) : Int) then (if (decide (p0.next > (p0.nodes.getD (Int.toNat (w64 (((p0.nodes.length : Nat) : Int) - 1))) (default : Af)).id)) then (Oh (decide (p0.next ≤ 2147483648))) else (Oh false)) else none)
def Nl (p0 : Ae) (y1 : Bool) : Option Bool := (if y1 then (some false) else (if p0.nodes.length ≤ 9223372036854775807 then Be (Yj p0) (Xi p0) p0.nodes 0 (IMap.empty 0) else none))
def Tm (p0 : Ae) : Option Bool := (if (decide (((p0.nodes.length : Nat) : Int) < 1)) then ((Nl p0) true) else (if (decide (((p0.nodes.length : Nat) : Int) > 64)) then ((Nl p0) true) else (if 0 < p0.nodes.length then (Option.bind (Zh (p0.nodes.getD 0 (default : Af))) fun r4 => ((Nl p0) (!r4))) else none)))
def AcG (p0 : Aj) (p1 : Int) : Option Bool := (some (p0.id == p1))
def Kp (p1c0 : Int) (k1 : Nat) (x1 : Aj) (s1 : Unit) (n1 : Unit → Option Int) : Option Int := (Option.bind (AcG x1 p1c0) fun r10 => (if r10 then (some ((k1 : Nat) : Int)) else (n1 ())))
def Kq (s1 : Unit) : Option Int := (some (-1))
def Gc (p0 : List Aj) (p1c0 : Int) : Option Int := (if p0.length ≤ 9223372036854775807 then Be (Kp p1c0) Kq p0 0 () else none)
def Wx (p0 : Aa) (p1 : Int) : Option Int := (Option.bind (Gc p0.tasks p1) fun r1 => (some r1))
def Qg (p0 : Aa) (p1 : Int) : Option (Aj × Bool) := (Option.bind (Wx p0 p1) fun r1 => (if (decide (r1 < 0)) then (some (({ id := 0,process := 0,group := 0,user := 0 } : Aj),false)) else (if 0 ≤ r1 ∧ r1 < ((p0.tasks.length : Nat) : Int) then (some ((p0.tasks.getD (Int.toNat r1) (default : Aj)),true)) else none)))
def Aap (p0 : Af) (p1 : Int) : Option Bool := (some (p0.id == p1))
def Jw (p1c0 : Int) (k1 : Nat) (x1 : Af) (s1 : Unit) (n1 : Unit → Option Int) : Option Int := (Option.bind (Aap x1 p1c0) fun r10 => (if r10 then (some ((k1 : Nat) : Int)) else (n1 ())))
def Jx (s1 : Unit) : Option Int := (some (-1))
def Fp (p0 : List Af) (p1c0 : Int) : Option Int := (if p0.length ≤ 9223372036854775807 then Be (Jw p1c0) Jx p0 0 () else none)
def Nt (p0 : Ae) (p1 : Int) : Option Int := (Option.bind (Fp p0.nodes p1) fun r1 => (some r1))
def Hn (y1 : Bool) : Option Bool := (some y1)
def Rc (p0 : Aa) (p1 : Aj) : Option Bool := (Option.bind (Qg p0 p1.process) fun r1 => (if (decide (p1.user ≥ 0)) then (if (decide (p1.user ≤ 1048576)) then (if r1.2 then (if (r1.1.process == r1.1.id) then (if (r1.1.user == p1.user) then (Option.bind (Nt p0.tree p1.group) fun r7 => (Hn (decide (r7 ≥ 0)))) else (Hn false)) else (Hn false)) else (Hn false)) else (Hn false)) else (Hn false)))
def Mz (x1 : Aj) (n1 : Int → Option Bool) (y4 : Bool) : Option Bool := (if y4 then (some false) else (n1 x1.id))
def Ug (p0 : Aa) (k1 : Nat) (x1 : Aj) (s1 : Int) (n1 : Int → Option Bool) : Option Bool := (if (decide (x1.id ≤ s1)) then ((Mz x1 n1) true) else (Option.bind (Rc p0 x1) fun r17 => ((Mz x1 n1) (!r17))))
def AaK (p0 : Aa) (s1 : Int) : Option Bool := (some (decide (p0.next > s1)))
def Kw (p0 : Aa) (y1 : Bool) : Option Bool := (if y1 then (some false) else (if p0.tasks.length ≤ 9223372036854775807 then Be (Ug p0) (AaK p0) p0.tasks 0 0 else none))
def Ga (p0 : Aa) : Option Bool := (if (decide (((p0.tasks.length : Nat) : Int) > 128)) then ((Kw p0) true) else (if (decide (p0.next > 2147483648)) then ((Kw p0) true) else (Option.bind (Tm p0.tree) fun r3 => ((Kw p0) (!r3)))))
def Kf (n1 : (List Int) → Option (List Int)) (y3 : List Int) : Option (List Int) := (n1 y3)
def Qv (p1 : Int) (k1 : Nat) (x1 : Af) (s1 : List Int) (n1 : (List Int) → Option (List Int)) : Option (List Int) := (if (x1.parent == p1) then (if s1.length + 1 ≤ 1073741824 then ((Kf n1) (s1 ++ [x1.id])) else none) else ((Kf n1) s1))
def Vz (s1 : List Int) : Option (List Int) := (some s1)
def Mq (p0 : Ae) (p1 : Int) : Option (List Int) := (if p0.nodes.length ≤ 9223372036854775807 then Be (Qv p1) Vz p0.nodes 0 [] else none)
def Rz (p0 : Ae) (s1 : (List Int) × (List Int)) (n1 : ((List Int) × (List Int)) → Option (List Int)) : Option (List Int) := (if ((decide (((s1.2.length : Nat) : Int) > 0)) && (decide (((s1.1.length : Nat) : Int) < ((p0.nodes.length : Nat) : Int)))) then (if 0 < s1.2.length then (if s1.1.length + 1 ≤ 1073741824 then (if 0 < s1.2.length then (Option.bind (Mq p0 (s1.2.getD 0 0)) fun r17 => (if 1 ≤ s1.2.length then (if r17.length + (Cc s1.2.length 1) ≤ 1073741824 then (n1 ((s1.1 ++ [(s1.2.getD 0 0)]),(r17 ++ (s1.2.drop 1)))) else none) else none)) else none) else none) else none) else (some s1.1))
def Ld (p0 : Ae) (p1 : Int) : Option (List Int) := (Option.bind (Nt p0 p1) fun r1 => (if (decide (r1 < 0)) then (some []) else (whileO (Rz p0) Ea ([],[p1]))))
def Va (p1 : Int) (k1 : Nat) (x1 : Int) (s1 : Unit) (n1 : Unit → Option Int) : Option Int := (if (p1 == x1) then (some ((k1 : Nat) : Int)) else (n1 ()))
def Vd (s1 : Unit) : Option Int := (some (-1))
def Nz (p0 : List Int) (p1 : Int) : Option Int := (if p0.length ≤ 9223372036854775807 then Be (Va p1) Vd p0 0 () else none)
def Iu (p0 : List Int) (p1 : Int) : Option Bool := (Option.bind (Nz p0 p1) fun r1 => (some (decide (r1 ≥ 0))))
def Pv (n1 : Int → Option Int) (y3 : Int) : Option Int := (n1 y3)
def Xf (r1 : List Int) (k1 : Nat) (x1 : Aj) (s1 : Int) (n1 : Int → Option Int) : Option Int := (Option.bind (Iu r1 x1.group) fun r11 => (if r11 then ((Pv n1) (w64 (s1 + 1))) else ((Pv n1) s1)))
def Acx (s1 : Int) : Option Int := (some s1)
def Ql (p0 : Aa) (p1 : Int) : Option Int := (Option.bind (Ld p0.tree p1) fun r1 => (if p0.tasks.length ≤ 9223372036854775807 then Be (Xf r1) Acx p0.tasks 0 0 else none))
def Kc (p0 : List Af) : Option (List Af) := (if 0 + p0.length ≤ 1073741824 then (some p0) else none)
def Nw (p0 : List Af) : Option (List Af) := (some [])
def Kb (p0 : List Aj) : Option (List Aj) := (if 0 + p0.length ≤ 1073741824 then (some p0) else none)
def Oe (p0 : List Aj) : Option (List Aj) := (some [])
def Zk (p0 : Aa) : Option Aa := (Option.bind (Kc p0.tree.nodes) fun r1 => (Option.bind (Kb p0.tasks) fun r2 => (some ({ tree := ({ nodes := r1,next := p0.tree.next } : Ae),tasks := r2,next := p0.next } : Aa))))
def Sf (r3 : Aa) (y1 : Aj) : Option (Aa × Int × Int) := (if r3.tasks.length + 1 ≤ 1073741824 then (some (({ tree := r3.tree,tasks := (r3.tasks ++ [y1]),next := (w64 (r3.next + 1)) } : Aa),y1.id,0)) else none)
def Wu (p0 : Aa) (p1 : Aj) : Option (Aa × Int × Int) := (if ((decide (((p0.tasks.length : Nat) : Int) ≥ 128)) || (decide (p0.next > 2147483647))) then (some (({ tree := ({ nodes := [],next := 0 } : Ae),tasks := [],next := 0 } : Aa),0,7)) else (Option.bind (Zk p0) fun r3 => (if (p1.process == 0) then ((Sf r3) ({ id := p0.next,process := p0.next,group := p1.group,user := p1.user } : Aj)) else ((Sf r3) ({ id := p0.next,process := p1.process,group := p1.group,user := p1.user } : Aj)))))
def Yf (p0 : Aa) (p1 : Int) : Option (Aa × Int × Int) := (Option.bind (Ga p0) fun r1 => (if (!r1) then (some (({ tree := ({ nodes := [],next := 0 } : Ae),tasks := [],next := 0 } : Aa),0,1)) else (Option.bind (Qg p0 p1) fun r3 => (if (!r3.2) then (some (({ tree := ({ nodes := [],next := 0 } : Ae),tasks := [],next := 0 } : Aa),0,4)) else (Option.bind (Wu p0 r3.1) fun r5 => (some (r5.1,r5.2.1,r5.2.2)))))))
def AcH (p0 : List Int) : Option Al := (some ({ l := p0,atF := 0 } : Al))
def Lq (p0 : Al) (y1 : Int) : Option (Int × Al) := (some (y1,({ l := p0.l,atF := (w64 (p0.atF + 1)) } : Al)))
def Ax (p0 : Al) (p1 : Int) : Option (Int × Al) := (if ((decide (p0.atF ≥ ((p0.l.length : Nat) : Int))) || (decide (p1 < 1))) then (some (0,p0)) else (if 0 ≤ (w64 ((w64 (p0.atF + 1)) - 1)) ∧ (w64 ((w64 (p0.atF + 1)) - 1)) < ((p0.l.length : Nat) : Int) then (if (p1 : Int) ≠ 0 then (if (decide ((Int.tmod (p0.l.getD (Int.toNat (w64 ((w64 (p0.atF + 1)) - 1))) 0) p1) < 0)) then ((Lq p0) (w64 ((Int.tmod (p0.l.getD (Int.toNat (w64 ((w64 (p0.atF + 1)) - 1))) 0) p1) + p1))) else ((Lq p0) (Int.tmod (p0.l.getD (Int.toNat (w64 ((w64 (p0.atF + 1)) - 1))) 0) p1))) else none) else none))
def Nn (p0 : Al) : Option (ByteArray × Al) := (Option.bind (Ax p0 6) fun r3 => (if 0 ≤ r3.1 ∧ r3.1 < (([(bs [97]),(bs [98]),(bs [99]),(bs [119,101,98]),(bs [100,98,45,49]),(bs [88,95,57])].length : Nat) : Int) then (if (Int.toNat r3.1) < [(bs [97]),(bs [98]),(bs [99]),(bs [119,101,98]),(bs [100,98,45,49]),(bs [88,95,57])].length then (some (([(bs [97]),(bs [98]),(bs [99]),(bs [119,101,98]),(bs [100,98,45,49]),(bs [88,95,57])].getD (Int.toNat r3.1) ByteArray.empty),r3.2)) else none) else none))
def Gg (p0 : Al) (p1 : Int) : Option (Bool × Al) := (Option.bind (Ax p0 p1) fun r1 => (some ((r1.1 == (w64 (p1 - 1))),r1.2)))
def Ol (n1 : (List Af) → Option (Ae × Int)) (y3 : List Af) : Option (Ae × Int) := (n1 y3)
def Rm (p1 : Int) (k1 : Nat) (x1 : Af) (s1 : List Af) (n1 : (List Af) → Option (Ae × Int)) : Option (Ae × Int) := (if (x1.id != p1) then (if s1.length + 1 ≤ 1073741824 then ((Ol n1) (s1 ++ [x1])) else none) else ((Ol n1) s1))
def Rq (p0 : Ae) (s1 : List Af) : Option (Ae × Int) := (some (({ nodes := s1,next := p0.next } : Ae),0))
def Rj (p0 : Ae) (p1 : Int) : Option (Ae × Int) := (Option.bind (Jo p0) fun r1 => (if (!r1) then (some (({ nodes := [],next := 0 } : Ae),1)) else (Option.bind (Fx p0 p1) fun r3 => (if (!r3) then (some (({ nodes := [],next := 0 } : Ae),4)) else (if (p1 == 1) then (some (({ nodes := [],next := 0 } : Ae),9)) else (Option.bind (Gy p0 p1) fun r6 => (if (decide (((r6.length : Nat) : Int) > 0)) then (some (({ nodes := [],next := 0 } : Ae),6)) else (if p0.nodes.length ≤ 9223372036854775807 then Be (Rm p1) (Rq p0) p0.nodes 0 [] else none))))))))
def Hv (s1 : Al × Ae × Int) (n1 : (Al × Ae × Int) → Option (Ae × Al)) (y3 : Al × Ae) : Option (Ae × Al) := (n1 (y3.1,y3.2,(w64 (s1.2.2 - 1))))
def Jg (s1 : Al × Ae × Int) (n1 : (Al × Ae × Int) → Option (Ae × Al)) (r21 : ByteArray × Al) (y4 : Ae) : Option (Ae × Al) := (Option.bind (Gg r21.2 6) fun r24 => (if r24.1 then (Option.bind (Ax r24.2 ((y4.nodes.length : Nat) : Int)) fun r26 => (if 0 ≤ r26.1 ∧ r26.1 < ((y4.nodes.length : Nat) : Int) then (Option.bind (Rj y4 (y4.nodes.getD (Int.toNat r26.1) (default : Af)).id) fun r28 => (if (r28.2 == 0) then ((Hv s1 n1) (r26.2,r28.1)) else ((Hv s1 n1) (r26.2,y4)))) else none)) else ((Hv s1 n1) (r24.2,y4))))
def Ru (s1 : Al × Ae × Int) (n1 : (Al × Ae × Int) → Option (Ae × Al)) : Option (Ae × Al) := (if (decide (s1.2.2 > 0)) then (Option.bind (Ax s1.1 ((s1.2.1.nodes.length : Nat) : Int)) fun r19 => (if 0 ≤ r19.1 ∧ r19.1 < ((s1.2.1.nodes.length : Nat) : Int) then (Option.bind (Nn r19.2) fun r21 => (Option.bind (Yr s1.2.1 (s1.2.1.nodes.getD (Int.toNat r19.1) (default : Af)).id r21.1) fun r22 => (if (r22.2.2 == 0) then ((Jg s1 n1 r21) r22.1) else ((Jg s1 n1 r21) s1.2.1)))) else none)) else (some (s1.2.1,s1.1)))
def Nq (p0 : Al) (p1 : Int) : Option (Ae × Al) := (Option.bind Xe fun r1 => (Option.bind (Ax p0 (w64 (p1 + 1))) fun r2 => (whileO Ru Ea (r2.2,r1,r2.1))))
def Io (p1 : Ae) (r1 : Bool × Al) (y1 : Bool) : Option (Int × Al) := (if y1 then (Option.bind (Ax r1.2 9) fun r4 => (some ((w64 (r4.1 - 1)),r4.2))) else (Option.bind (Ax r1.2 ((p1.nodes.length : Nat) : Int)) fun r5 => (if 0 ≤ r5.1 ∧ r5.1 < ((p1.nodes.length : Nat) : Int) then (some ((p1.nodes.getD (Int.toNat r5.1) (default : Af)).id,r5.2)) else none)))
def Hh (p0 : Al) (p1 : Ae) : Option (Int × Al) := (Option.bind (Gg p0 15) fun r1 => (if r1.1 then ((Io p1 r1) true) else ((Io p1 r1) (((p1.nodes.length : Nat) : Int) == 0))))
def Gp (p0 : Al) : Option (Int × Al) := (Option.bind (Ax p0 9) fun r3 => (if 0 ≤ r3.1 ∧ r3.1 < (([1,9,31,2,25,4,0,32,(-1)].length : Nat) : Int) then (if (Int.toNat r3.1) < [1,9,31,2,25,4,0,32,(-1)].length then (some (([1,9,31,2,25,4,0,32,(-1)].getD (Int.toNat r3.1) 0),r3.2)) else none) else none))
def Ye (p0 : Int) : Option Bool := (some ((decide (p0 ≥ 0)) && (decide (p0 ≤ 31))))
def Sh (s1 : (List Af) × Int) (n1 : ((List Af) × Int) → Option Ae) (y2 : List Af) : Option Ae := (n1 (y2,(w64 (s1.2 + 1))))
def Abg (p1 : Af) (r1 : Ae) (s1 : (List Af) × Int) (n1 : ((List Af) × Int) → Option Ae) : Option Ae := (if (decide (s1.2 < ((s1.1.length : Nat) : Int))) then (if 0 ≤ s1.2 ∧ s1.2 < ((s1.1.length : Nat) : Int) then (if (Int.toNat s1.2) < s1.1.length then (if ((s1.1.getD (Int.toNat s1.2) (default : Af)).id == p1.id) then (if 0 ≤ s1.2 ∧ s1.2 < ((s1.1.length : Nat) : Int) then (if (Int.toNat s1.2) < s1.1.length then ((Sh s1 n1) (s1.1.set (Int.toNat s1.2) p1)) else none) else none) else ((Sh s1 n1) s1.1)) else none) else none) else (some ({ nodes := s1.1,next := r1.next } : Ae)))
def Ry (p0 : Ae) (p1 : Af) : Option Ae := (Option.bind (Ns p0) fun r1 => (whileO (Abg p1 r1) Ea (r1.nodes,0)))
def Xd (p0 : Aa) (p3 : Int) (k1 : Nat) (x1 : Int) (s1 : Unit) (n1 : Unit → Option (Aa × Int)) : Option (Aa × Int) := (Option.bind (Dk p0.tree x1) fun r36 => (if ((kand .i64 r36.1.control p3) != 0) then (some (({ tree := ({ nodes := [],next := 0 } : Ae),tasks := [],next := 0 } : Aa),9)) else (n1 ())))
def Lr (p0 : Aa) (p2 : Int) (p3 : Int) (r8 : Af × Bool) (y4 : Bool) : Option (Aa × Int) := (if y4 then (some (({ tree := ({ nodes := [],next := 0 } : Ae),tasks := [],next := 0 } : Aa),6)) else (Option.bind (Mi p0) fun r42 => (Option.bind (Ry p0.tree ({ id := r8.1.id,parent := r8.1.parent,name := r8.1.name,control := (kor .i64 (Ej .i64 r8.1.control p3) p2),kind := r8.1.kind,owner := r8.1.owner } : Af)) fun r43 => (some (({ tree := r43,tasks := r42.tasks,next := r42.next } : Aa),0)))))
def Yy (p0 : Aa) (p1 : Int) (p2 : Int) (p3 : Int) (r8 : Af × Bool) (s1 : Unit) : Option (Aa × Int) := (if ((Ej .i64 (kand .i64 (kor .i64 (Ej .i64 r8.1.control p3) p2) 6) r8.1.control) != 0) then (if (p1 != 1) then (Option.bind (Hc p0 p1) fun r40 => ((Lr p0 p2 p3 r8) (decide (((r40.length : Nat) : Int) > 0)))) else ((Lr p0 p2 p3 r8) false)) else ((Lr p0 p2 p3 r8) false))
def Ig (p0 : Aa) (p1 : Int) (p2 : Int) (p3 : Int) (y1 : Bool) : Option (Aa × Int) := (if y1 then (some (({ tree := ({ nodes := [],next := 0 } : Ae),tasks := [],next := 0 } : Aa),1)) else (Option.bind (Dk p0.tree p1) fun r8 => (if (!r8.2) then (some (({ tree := ({ nodes := [],next := 0 } : Ae),tasks := [],next := 0 } : Aa),4)) else (Option.bind (Ky p0.tree p1) fun r10 => (if ((Ej .i64 p2 r10) != 0) then (some (({ tree := ({ nodes := [],next := 0 } : Ae),tasks := [],next := 0 } : Aa),9)) else (Option.bind (Gy p0.tree p1) fun r12 => (if r12.length ≤ 9223372036854775807 then Be (Xd p0 p3) (Yy p0 p1 p2 p3 r8) r12 0 () else none)))))))
def Sm (p0 : Aa) (p1 : Int) (p2 : Int) (p3 : Int) : Option (Aa × Int) := (Option.bind (Qq p0) fun r1 => (if (!r1) then ((Ig p0 p1 p2 p3) true) else (Option.bind (Ye p2) fun r3 => (if (!r3) then ((Ig p0 p1 p2 p3) true) else (Option.bind (Ye p3) fun r5 => (if (!r5) then ((Ig p0 p1 p2 p3) true) else ((Ig p0 p1 p2 p3) ((kand .i64 p2 p3) != 0))))))))
def Qy (p0 : Aa) (p1 : Int) (p2 : Int) (p3 : Int) : Option (Aa × Int) := (Option.bind (Kr p0) fun r1 => (if (!r1) then (some (({ tree := ({ nodes := [],next := 0 } : Ae),tasks := [],next := 0 } : Aa),1)) else (Option.bind (Sm p0 p1 p2 p3) fun r3 => (if (r3.2 != 0) then (some (({ tree := ({ nodes := [],next := 0 } : Ae),tasks := [],next := 0 } : Aa),r3.2)) else (Option.bind (Kr r3.1) fun r5 => (if (!r5) then (some (({ tree := ({ nodes := [],next := 0 } : Ae),tasks := [],next := 0 } : Aa),10)) else (some (r3.1,0))))))))
def Nh (r13 : Aa) (r14 : Ae) (y2 : Bool) : Option (Aa × Int) := (if y2 then (some (({ tree := ({ nodes := [],next := 0 } : Ae),tasks := [],next := 0 } : Aa),6)) else (some (({ tree := r14,tasks := r13.tasks,next := r13.next } : Aa),0)))
def Jd (p0 : Aa) (p1 : Int) (r3 : Af × Bool) (y1 : Bool) : Option (Aa × Int) := (if y1 then (some (({ tree := ({ nodes := [],next := 0 } : Ae),tasks := [],next := 0 } : Aa),10)) else (if ((kand .i64 r3.1.control 6) != 0) then (some (({ tree := ({ nodes := [],next := 0 } : Ae),tasks := [],next := 0 } : Aa),9)) else (Option.bind (Mi p0) fun r13 => (Option.bind (Ry p0.tree ({ id := r3.1.id,parent := r3.1.parent,name := r3.1.name,control := r3.1.control,kind := 1,owner := r3.1.owner } : Af)) fun r14 => (Option.bind (Hc p0 p1) fun r15 => (if (decide (((r15.length : Nat) : Int) > 0)) then ((Nh r13 r14) true) else (Option.bind (Kr ({ tree := r14,tasks := r13.tasks,next := r13.next } : Aa)) fun r17 => ((Nh r13 r14) (!r17)))))))))
def Qc (p0 : Aa) (p1 : Int) : Option (Aa × Int) := (Option.bind (Kr p0) fun r1 => (if (!r1) then (some (({ tree := ({ nodes := [],next := 0 } : Ae),tasks := [],next := 0 } : Aa),1)) else (Option.bind (Dk p0.tree p1) fun r3 => (if (!r3.2) then (some (({ tree := ({ nodes := [],next := 0 } : Ae),tasks := [],next := 0 } : Aa),4)) else (if ((p1 == 1) || (r3.1.kind == 1)) then (some (({ tree := ({ nodes := [],next := 0 } : Ae),tasks := [],next := 0 } : Aa),9)) else (Option.bind (Dk p0.tree r3.1.parent) fun r7 => (Option.bind (Mm p0.tree r7.1.id) fun r8 => (if (r8 == 3) then ((Jd p0 p1 r3) true) else (if (r7.1.id != 1) then ((Jd p0 p1 r3) ((kand .i64 r7.1.control 6) != 0)) else ((Jd p0 p1 r3) false))))))))))
def Gs (y1 : Al × Aa) : Option (Aa × Al) := (some (y1.2,y1.1))
def Iy (p1 : Aa) (r1 : Int × Al) (r2 : Int × Al) (y2 : Bool) : Option (Aa × Al) := (if y2 then (Option.bind (Gp r2.2) fun r5 => (Option.bind (Qy p1 r1.1 r5.1 0) fun r6 => (if (r6.2 == 0) then (some (r6.1,r5.2)) else (Gs (r5.2,p1))))) else (if (r2.1 == 2) then (Option.bind (Qc p1 r1.1) fun r9 => (if (r9.2 == 0) then (some (r9.1,r2.2)) else (Gs (r2.2,p1)))) else (if (r2.1 == 3) then (Option.bind (Dk p1.tree r1.1) fun r12 => (if (r12.2 && (r1.1 != 1)) then (Option.bind (Ax r2.2 3) fun r15 => (Option.bind (Ry p1.tree ({ id := r12.1.id,parent := r12.1.parent,name := r12.1.name,control := r12.1.control,kind := r12.1.kind,owner := r15.1 } : Af)) fun r16 => (Gs (r15.2,({ tree := r16,tasks := p1.tasks,next := p1.next } : Aa))))) else (Gs (r2.2,p1)))) else (Gs (r2.2,p1)))))
def Nr (p0 : Al) (p1 : Aa) : Option (Aa × Al) := (Option.bind (Hh p0 p1.tree) fun r1 => (Option.bind (Ax r1.2 5) fun r2 => (if (r2.1 == 0) then ((Iy p1 r1 r2) (r2.1 == 0)) else ((Iy p1 r1 r2) (r2.1 == 1)))))
def Ox (p0 : Aa) (p1 : Int) : Option Int := (Option.bind (Kr p0) fun r1 => (if (!r1) then (some 1) else (Option.bind (Dk p0.tree p1) fun r3 => (if (!r3.2) then (some 4) else (Option.bind (Mm p0.tree p1) fun r5 => (if (r5 == 3) then (some 10) else (if ((p1 != 1) && ((kand .i64 r3.1.control 6) != 0)) then (some 6) else (some 0))))))))
def Jc (p1 : Aa) (r1 : Bool × Al) (y1 : Bool) : Option (Int × Al) := (if y1 then (Option.bind (Ax r1.2 9) fun r4 => (some ((w64 (r4.1 - 1)),r4.2))) else (Option.bind (Ax r1.2 ((p1.tasks.length : Nat) : Int)) fun r5 => (if 0 ≤ r5.1 ∧ r5.1 < ((p1.tasks.length : Nat) : Int) then (some ((p1.tasks.getD (Int.toNat r5.1) (default : Aj)).id,r5.2)) else none)))
def Hz (p0 : Al) (p1 : Aa) : Option (Int × Al) := (Option.bind (Gg p0 15) fun r1 => (if r1.1 then ((Jc p1 r1) true) else ((Jc p1 r1) (((p1.tasks.length : Nat) : Int) == 0))))
def Sr (p0 : Aa) (p1 : Int) : Option (Aa × Int × Int) := (Option.bind (Em p0) fun r1 => (if (!r1) then (some (({ tree := ({ nodes := [],next := 0 } : Ae),tasks := [],next := 0 } : Aa),0,1)) else (Option.bind (Gt p0 p1) fun r3 => (if (!r3.2) then (some (({ tree := ({ nodes := [],next := 0 } : Ae),tasks := [],next := 0 } : Aa),0,4)) else (Option.bind (Tv p0 r3.1) fun r5 => (some (r5.1,r5.2.1,r5.2.2)))))))
def Qf (s1 : (List Aj) × Int) (n1 : ((List Aj) × Int) → Option (Aa × Int)) (y3 : List Aj) : Option (Aa × Int) := (n1 (y3,(w64 (s1.2 + 1))))
def Ps (p1 : Int) (p2 : Int) (r7 : Aa) (s1 : (List Aj) × Int) (n1 : ((List Aj) × Int) → Option (Aa × Int)) : Option (Aa × Int) := (if (decide (s1.2 < ((s1.1.length : Nat) : Int))) then (if 0 ≤ s1.2 ∧ s1.2 < ((s1.1.length : Nat) : Int) then (if (Int.toNat s1.2) < s1.1.length then (if ((s1.1.getD (Int.toNat s1.2) (default : Aj)).id == p1) then (if 0 ≤ s1.2 ∧ s1.2 < ((s1.1.length : Nat) : Int) then (if (Int.toNat s1.2) < s1.1.length then ((Qf s1 n1) (s1.1.set (Int.toNat s1.2) ({ id := (s1.1.getD (Int.toNat s1.2) (default : Aj)).id,process := (s1.1.getD (Int.toNat s1.2) (default : Aj)).process,group := p2,user := (s1.1.getD (Int.toNat s1.2) (default : Aj)).user } : Aj))) else none) else none) else ((Qf s1 n1) s1.1)) else none) else none) else (some (({ tree := r7.tree,tasks := s1.1,next := r7.next } : Aa),0)))
def Qe (p0 : Aa) (p1 : Int) (p2 : Int) (y1 : Bool) : Option (Aa × Int) := (if y1 then (some (({ tree := ({ nodes := [],next := 0 } : Ae),tasks := [],next := 0 } : Aa),4)) else (Option.bind (Mi p0) fun r7 => (whileO (Ps p1 p2 r7) Ea (r7.tasks,0))))
def Ss (p0 : Aa) (p1 : Int) (p2 : Int) : Option (Aa × Int) := (Option.bind (Em p0) fun r1 => (if (!r1) then (some (({ tree := ({ nodes := [],next := 0 } : Ae),tasks := [],next := 0 } : Aa),1)) else (Option.bind (Gt p0 p1) fun r3 => (if (!r3.2) then ((Qe p0 p1 p2) true) else (Option.bind (Fx p0.tree p2) fun r5 => ((Qe p0 p1 p2) (!r5)))))))
def Hi (p0 : Aa) (p1 : Int) (p2 : Int) (r3 : Aj × Bool) (y1 : Bool) : Option (Aa × Int) := (if y1 then (some (({ tree := ({ nodes := [],next := 0 } : Ae),tasks := [],next := 0 } : Aa),4)) else (Option.bind (Ox p0 p2) fun r7 => (if (r7 != 0) then (some (({ tree := ({ nodes := [],next := 0 } : Ae),tasks := [],next := 0 } : Aa),r7)) else (Option.bind (Ku p0.tree p2) fun r9 => (Option.bind (Ku p0.tree r3.1.group) fun r10 => (if (r9.1 != r10.1) then (some (({ tree := ({ nodes := [],next := 0 } : Ae),tasks := [],next := 0 } : Aa),9)) else (Option.bind (Ss p0 p1 p2) fun r12 => (some (r12.1,r12.2)))))))))
def Kg (p0 : Aa) (p1 : Int) (p2 : Int) : Option (Aa × Int) := (Option.bind (Kr p0) fun r1 => (if (!r1) then (some (({ tree := ({ nodes := [],next := 0 } : Ae),tasks := [],next := 0 } : Aa),1)) else (Option.bind (Gt p0 p1) fun r3 => (if (!r3.2) then ((Hi p0 p1 p2 r3) true) else (Option.bind (Fx p0.tree p2) fun r5 => ((Hi p0 p1 p2 r3) (!r5)))))))
def Rh (n1 : (List Aj) → Option (Aa × Int)) (y3 : List Aj) : Option (Aa × Int) := (n1 y3)
def Uk (p1 : Int) (k1 : Nat) (x1 : Aj) (s1 : List Aj) (n1 : (List Aj) → Option (Aa × Int)) : Option (Aa × Int) := (if ((x1.id != p1) && (x1.process != p1)) then (if s1.length + 1 ≤ 1073741824 then ((Rh n1) (s1 ++ [x1])) else none) else ((Rh n1) s1))
def Um (p0 : Aa) (r5 : Ae) (s1 : List Aj) : Option (Aa × Int) := (some (({ tree := r5,tasks := s1,next := p0.next } : Aa),0))
def Vg (p0 : Aa) (p1 : Int) : Option (Aa × Int) := (Option.bind (Em p0) fun r1 => (if (!r1) then (some (({ tree := ({ nodes := [],next := 0 } : Ae),tasks := [],next := 0 } : Aa),1)) else (Option.bind (Gt p0 p1) fun r3 => (if (!r3.2) then (some (({ tree := ({ nodes := [],next := 0 } : Ae),tasks := [],next := 0 } : Aa),4)) else (Option.bind (Ns p0.tree) fun r5 => (if p0.tasks.length ≤ 9223372036854775807 then Be (Uk p1) (Um p0 r5) p0.tasks 0 [] else none))))))
def Dr (s3 : Al × Aa × Int) (n3 : (Al × Aa × Int) → Option (Aa × Al)) (y13 : Al × Aa) : Option (Aa × Al) := (n3 (y13.1,y13.2,(w64 (s3.2.2 - 1))))
def Ev (s3 : Al × Aa × Int) (n3 : (Al × Aa × Int) → Option (Aa × Al)) (y16 : Al × Aa) : Option (Aa × Al) := (Option.bind (Gg y16.1 8) fun r100 => (if r100.1 then (Option.bind (Hz r100.2 y16.2) fun r102 => (Option.bind (Vg y16.2 r102.1) fun r103 => (if (r103.2 == 0) then ((Dr s3 n3) (r102.2,r103.1)) else ((Dr s3 n3) (r102.2,y16.2))))) else ((Dr s3 n3) (r100.2,y16.2))))
def Et (s3 : Al × Aa × Int) (n3 : (Al × Aa × Int) → Option (Aa × Al)) (y15 : Al × Aa) : Option (Aa × Al) := (Option.bind (Gg y15.1 4) fun r94 => (if r94.1 then (Option.bind (Hz r94.2 y15.2) fun r96 => (Option.bind (Hh r96.2 y15.2.tree) fun r97 => (Option.bind (Kg y15.2 r96.1 r97.1) fun r98 => (if (r98.2 == 0) then ((Ev s3 n3) (r97.2,r98.1)) else ((Ev s3 n3) (r97.2,y15.2)))))) else ((Ev s3 n3) (r94.2,y15.2))))
def Gf (s3 : Al × Aa × Int) (n3 : (Al × Aa × Int) → Option (Aa × Al)) (r86 : Int × Al) (y14 : Aa) : Option (Aa × Al) := (Option.bind (Gg r86.2 3) fun r89 => (if r89.1 then (Option.bind (Hz r89.2 y14) fun r91 => (Option.bind (Sr y14 r91.1) fun r92 => (if (r92.2.2 == 0) then ((Et s3 n3) (r91.2,r92.1)) else ((Et s3 n3) (r91.2,y14))))) else ((Et s3 n3) (r89.2,y14))))
def Nd (s3 : Al × Aa × Int) (n3 : (Al × Aa × Int) → Option (Aa × Al)) : Option (Aa × Al) := (if (decide (s3.2.2 > 0)) then (Option.bind (Hh s3.1 s3.2.1.tree) fun r83 => (Option.bind (Ox s3.2.1 r83.1) fun r84 => (if (r84 != 0) then ((Dr s3 n3) (r83.2,s3.2.1)) else (Option.bind (Ax r83.2 3) fun r86 => (Option.bind (Sv s3.2.1 r83.1 r86.1) fun r87 => (if (r87.2.2 == 0) then ((Gf s3 n3 r86) r87.1) else ((Gf s3 n3 r86) s3.2.1))))))) else (some (s3.2.1,s3.1)))
def Nb (p2 : Int) (s1 : Al × Aa × Int) (n1 : (Al × Aa × Int) → Option (Aa × Al)) : Option (Aa × Al) := (if (decide (s1.2.2 > 0)) then (Option.bind (Nr s1.1 s1.2.1) fun r57 => (n1 (r57.2,r57.1,(w64 (s1.2.2 - 1))))) else (Option.bind (Ax s1.1 (w64 (p2 + 1))) fun r58 => (whileO Nd Ea (r58.2,s1.2.1,r58.1))))
def It (p0 : Al) (p1 : Int) (p2 : Int) : Option (Aa × Al) := (Option.bind Yl fun r1 => (Option.bind (Nq p0 p1) fun r2 => (Option.bind (Ax r2.2 (w64 (p1 + 3))) fun r3 => (whileO (Nb p2) Ea (r3.2,({ tree := r2.1,tasks := r1.tasks,next := r1.next } : Aa),r3.1)))))
def Ua (rec : Ae → Int → Option (List Int)) (p0 : Ae) (k1 : Nat) (x1 : Int) (s1 : List Int) (n1 : (List Int) → Option (List Int)) : Option (List Int) := (Option.bind (rec p0 x1) fun r15 => (if s1.length + r15.length ≤ 1073741824 then (n1 (s1 ++ r15)) else none))
def AaS (s1 : List Int) : Option (List Int) := (some s1)
def Oi (rec : Ae → Int → Option (List Int)) (p0 : Ae) (p1 : Int) : Option (List Int) := (Option.bind (Fx p0 p1) fun r1 => (if (!r1) then (some []) else (Option.bind (Gy p0 p1) fun r3 => (if r3.length ≤ 9223372036854775807 then Be (Ua rec p0) AaS r3 0 [p1] else none))))
def Ip : Nat → Ae → Int → Option (List Int)
 | 0,_,_ => none
 | n + 1,p0,p1 => Oi (Ip n) p0 p1
def Tb (p0 : Ae) (p1 : Int) : Option (List Int) := Ip Ea p0 p1
def Aeq (p1 : Int) (k1 : Nat) (x1 : Int) (s1 : Unit) (n1 : Unit → Option Bool) : Option Bool := (if (x1 == p1) then (some true) else (n1 ()))
def Aey (s1 : Unit) : Option Bool := (some false)
def Xu (p0 : List Int) (p1 : Int) : Option Bool := (if p0.length ≤ 9223372036854775807 then Be (Aeq p1) Aey p0 0 () else none)
def Pi (n1 : Int → Option Int) (y3 : Int) : Option Int := (n1 y3)
def Yk (r3 : List Int) (k1 : Nat) (x1 : Aj) (s1 : Int) (n1 : Int → Option Int) : Option Int := (Option.bind (Xu r3 x1.group) fun r13 => (if r13 then ((Pi n1) (w64 (s1 + 1))) else ((Pi n1) s1)))
def AcE (s1 : Int) : Option Int := (some s1)
def Mg (p0 : Aa) (p1 : Int) : Option Int := (Option.bind (Em p0) fun r1 => (if (!r1) then (some 0) else (Option.bind (Tb p0.tree p1) fun r3 => (if p0.tasks.length ≤ 9223372036854775807 then Be (Yk r3) AcE p0.tasks 0 0 else none))))
def Aeo : Option Ae := (some ({ nodes := [({ id := 1,parent := 0,name := ByteArray.empty,control := 0,kind := 0,owner := 0 } : Af)],next := 2 } : Ae))
def Sg : Option Aa := (Option.bind Aeo fun r1 => (some ({ tree := r1,tasks := [],next := 1 } : Aa)))
def Nc (p0 : Aa) (p1 : Int) (p2 : Int) (y1 : Bool) : Option (Aa × Int × Int) := (if y1 then (some (({ tree := ({ nodes := [],next := 0 } : Ae),tasks := [],next := 0 } : Aa),0,1)) else (Option.bind (Nt p0.tree p1) fun r5 => (if (decide (r5 < 0)) then (some (({ tree := ({ nodes := [],next := 0 } : Ae),tasks := [],next := 0 } : Aa),0,4)) else (Option.bind (Wu p0 ({ id := 0,process := 0,group := p1,user := p2 } : Aj)) fun r7 => (some (r7.1,r7.2.1,r7.2.2))))))
def Ys (p0 : Aa) (p1 : Int) (p2 : Int) : Option (Aa × Int × Int) := (Option.bind (Ga p0) fun r1 => (if (!r1) then ((Nc p0 p1 p2) true) else (if (decide (p2 < 0)) then ((Nc p0 p1 p2) true) else ((Nc p0 p1 p2) (decide (p2 > 1048576))))))
def Rr (p0 : Aj) (p1 : Int) : Option Bool := (some ((p0.id == p1) || (p0.process == p1)))
def Jk (p1c0 : Int) (k1 : Nat) (x1 : Aj) (s1 : Unit) (n1 : Unit → Option Int) : Option Int := (Option.bind (Rr x1 p1c0) fun r10 => (if r10 then (some ((k1 : Nat) : Int)) else (n1 ())))
def Jl (s1 : Unit) : Option Int := (some (-1))
def Gz (p0 : List Aj) (p1c0 : Int) : Option Int := (if p0.length ≤ 9223372036854775807 then Be (Jk p1c0) Jl p0 0 () else none)
def Eb (s1 : (List Aj) × Int × Int) (n1 : ((List Aj) × Int × Int) → Option (Nat × (List Aj) × Int)) (y2 : (List Aj) × Int) : Option (Nat × (List Aj) × Int) := (n1 (y2.1,y2.2,(w64 (s1.2.2 + 1))))
def Iv (p1c0 : Int) (s1 : (List Aj) × Int × Int) (n1 : ((List Aj) × Int × Int) → Option (Nat × (List Aj) × Int)) : Option (Nat × (List Aj) × Int) := (if (decide (s1.2.2 < ((s1.1.length : Nat) : Int))) then (if 0 ≤ s1.2.2 ∧ s1.2.2 < ((s1.1.length : Nat) : Int) then (if (Int.toNat s1.2.2) < s1.1.length then (Option.bind (Rr (s1.1.getD (Int.toNat s1.2.2) (default : Aj)) p1c0) fun r16 => (if (!r16) then (if 0 ≤ s1.2.1 ∧ s1.2.1 < ((s1.1.length : Nat) : Int) then (if (Int.toNat s1.2.1) < s1.1.length then ((Eb s1 n1) ((s1.1.set (Int.toNat s1.2.1) (s1.1.getD (Int.toNat s1.2.2) (default : Aj))),(w64 (s1.2.1 + 1)))) else none) else none) else ((Eb s1 n1) (s1.1,s1.2.1)))) else none) else none) else (if 0 ≤ s1.2.1 ∧ s1.2.1 ≤ ((s1.1.length : Nat) : Int) then (if (Int.toNat s1.2.1) + (Cc s1.1.length (Int.toNat s1.2.1)) ≤ s1.1.length then (if 0 ≤ s1.2.1 ∧ s1.2.1 ≤ (((Lw s1.1 (Int.toNat s1.2.1) (Cc s1.1.length (Int.toNat s1.2.1)) ({ id := 0,process := 0,group := 0,user := 0 } : Aj)).length : Nat) : Int) then (some ((Int.toNat s1.2.1),(Lw s1.1 (Int.toNat s1.2.1) (Cc s1.1.length (Int.toNat s1.2.1)) ({ id := 0,process := 0,group := 0,user := 0 } : Aj)),p1c0)) else none) else none) else none))
def Gu (p0 : List Aj) (p1c0 : Int) : Option (Nat × (List Aj) × Int) := (Option.bind (Gz p0 p1c0) fun r1 => (if (r1 == (-1)) then (some (p0.length,p0,p1c0)) else (whileO (Iv p1c0) Ea (p0,r1,(w64 (r1 + 1))))))
def Aax (p0 : Aa) (p1 : Int) : Option (Aa × Int) := (Option.bind (Ga p0) fun r1 => (if (!r1) then (some (({ tree := ({ nodes := [],next := 0 } : Ae),tasks := [],next := 0 } : Aa),1)) else (Option.bind (Wx p0 p1) fun r3 => (if (decide (r3 < 0)) then (some (({ tree := ({ nodes := [],next := 0 } : Ae),tasks := [],next := 0 } : Aa),4)) else (Option.bind (Zk p0) fun r5 => (Option.bind (Gu r5.tasks p1) fun r6 => (if r5.tasks.length = r6.2.1.length then (if r6.1 ≤ r6.2.1.length then (some (({ tree := r5.tree,tasks := (r6.2.1.take r6.1),next := r5.next } : Aa),0)) else none) else none)))))))
def Sa : Option Bool := (Option.bind Sg fun r1 => (Option.bind (Ys r1 1 0) fun r2 => (Option.bind (Yf r2.1 r2.2.1) fun r5 => (Option.bind (Aax r5.1 r2.2.1) fun r8 => (some (((((((r2.2.2 == 0) && (r2.2.1 == 1)) && (r5.2.2 == 0)) && (r5.2.1 == 2)) && (r8.2 == 0)) && (((r8.1.tasks.length : Nat) : Int) == 0)) && (r8.1.next == 3)))))))
def Ff (p0 : Aa) : Option Aa := (Option.bind (Ga p0) fun r1 => (if (!r1) then (some ({ tree := ({ nodes := [],next := 0 } : Ae),tasks := [],next := 0 } : Aa)) else (some p0)))
def Qi (p0 : Aj) (p1 : Int) : Option Bool := (some (p0.process == p1))
def Xc (p0 : Aj) : Option Int := (some p0.id)
def Td (y3 : Int × Int) : Option Int := (if 0 ≤ (IntKind.u8.wrap y3.1) ∧ (IntKind.u8.wrap y3.1) < (((bs [0,1,2,2,3,3,3,3,4,4,4,4,4,4,4,4,5,5,5,5,5,5,5,5,5,5,5,5,5,5,5,5,6,6,6,6,6,6,6,6,6,6,6,6,6,6,6,6,6,6,6,6,6,6,6,6,6,6,6,6,6,6,6,6,7,7,7,7,7,7,7,7,7,7,7,7,7,7,7,7,7,7,7,7,7,7,7,7,7,7,7,7,7,7,7,7,7,7,7,7,7,7,7,7,7,7,7,7,7,7,7,7,7,7,7,7,7,7,7,7,7,7,7,7,7,7,7,7,8,8,8,8,8,8,8,8,8,8,8,8,8,8,8,8,8,8,8,8,8,8,8,8,8,8,8,8,8,8,8,8,8,8,8,8,8,8,8,8,8,8,8,8,8,8,8,8,8,8,8,8,8,8,8,8,8,8,8,8,8,8,8,8,8,8,8,8,8,8,8,8,8,8,8,8,8,8,8,8,8,8,8,8,8,8,8,8,8,8,8,8,8,8,8,8,8,8,8,8,8,8,8,8,8,8,8,8,8,8,8,8,8,8,8,8,8,8,8,8,8,8,8,8,8,8,8,8]).size : Nat) : Int) then (some (w64 (y3.2 + (w64 (((Bl (bs [0,1,2,2,3,3,3,3,4,4,4,4,4,4,4,4,5,5,5,5,5,5,5,5,5,5,5,5,5,5,5,5,6,6,6,6,6,6,6,6,6,6,6,6,6,6,6,6,6,6,6,6,6,6,6,6,6,6,6,6,6,6,6,6,7,7,7,7,7,7,7,7,7,7,7,7,7,7,7,7,7,7,7,7,7,7,7,7,7,7,7,7,7,7,7,7,7,7,7,7,7,7,7,7,7,7,7,7,7,7,7,7,7,7,7,7,7,7,7,7,7,7,7,7,7,7,7,7,8,8,8,8,8,8,8,8,8,8,8,8,8,8,8,8,8,8,8,8,8,8,8,8,8,8,8,8,8,8,8,8,8,8,8,8,8,8,8,8,8,8,8,8,8,8,8,8,8,8,8,8,8,8,8,8,8,8,8,8,8,8,8,8,8,8,8,8,8,8,8,8,8,8,8,8,8,8,8,8,8,8,8,8,8,8,8,8,8,8,8,8,8,8,8,8,8,8,8,8,8,8,8,8,8,8,8,8,8,8,8,8,8,8,8,8,8,8,8,8,8,8,8,8,8,8,8,8]) (Int.toNat (IntKind.u8.wrap y3.1))) : Nat) : Int))))) else none)
def Tc (y2 : Int × Int) : Option Int := (if (decide (y2.1 ≥ 256)) then (Td ((kshr .u64 y2.1 8),(w64 (y2.2 + 8)))) else (Td (y2.1,y2.2)))
def Sl (y1 : Int × Int) : Option Int := (if (decide (y1.1 ≥ 65536)) then (Tc ((kshr .u64 y1.1 16),(w64 (y1.2 + 16)))) else (Tc (y1.1,y1.2)))
def Abc (p0 : Int) : Option Int := (if (decide (p0 ≥ 4294967296)) then (Sl ((kshr .u64 p0 32),32)) else (Sl (p0,0)))
def Nv (p0 : Int) : Option Int := (Option.bind (Abc p0) fun r1 => (some r1))
def Om (p0 : Int) : Option Bool := (some (p0 != p0))
def Kv (y1 : Bool) : Option Bool := (some y1)
def Cw (p0 : Int) (p1 : Int) : Option Bool := (Option.bind (Om p0) fun r1 => (if r1 then (Option.bind (Om p1) fun r3 => (if (!r3) then (Kv true) else (Kv (decide (p0 < p1))))) else (Kv (decide (p0 < p1)))))
def Cu (n1 : (List Int) → Option (List Int)) (s4 : (List Int) × Int) (n4 : ((List Int) × Int) → Option (List Int)) (y6 : Bool) : Option (List Int) := (if y6 then (if 0 ≤ (w64 (s4.2 - 1)) ∧ (w64 (s4.2 - 1)) < ((s4.1.length : Nat) : Int) then (if (Int.toNat (w64 (s4.2 - 1))) < s4.1.length then (if 0 ≤ s4.2 ∧ s4.2 < ((s4.1.length : Nat) : Int) then (if (Int.toNat s4.2) < s4.1.length then (if 0 ≤ s4.2 ∧ s4.2 < ((s4.1.length : Nat) : Int) then (if (Int.toNat s4.2) < s4.1.length then (if 0 ≤ (w64 (s4.2 - 1)) ∧ (w64 (s4.2 - 1)) < ((s4.1.length : Nat) : Int) then (if (Int.toNat (w64 (s4.2 - 1))) < s4.1.length then (n4 (((s4.1.set (Int.toNat s4.2) (s4.1.getD (Int.toNat (w64 (s4.2 - 1))) 0)).set (Int.toNat (w64 (s4.2 - 1))) (s4.1.getD (Int.toNat s4.2) 0)),(w64 (s4.2 - 1)))) else none) else none) else none) else none) else none) else none) else none) else none) else (n1 s4.1))
def Fo (p1 : Int) (n1 : (List Int) → Option (List Int)) (s4 : (List Int) × Int) (n4 : ((List Int) × Int) → Option (List Int)) : Option (List Int) := (if (decide (s4.2 > p1)) then (if 0 ≤ s4.2 ∧ s4.2 < ((s4.1.length : Nat) : Int) then (if (Int.toNat s4.2) < s4.1.length then (if 0 ≤ (w64 (s4.2 - 1)) ∧ (w64 (s4.2 - 1)) < ((s4.1.length : Nat) : Int) then (if (Int.toNat (w64 (s4.2 - 1))) < s4.1.length then (Option.bind (Cw (s4.1.getD (Int.toNat s4.2) 0) (s4.1.getD (Int.toNat (w64 (s4.2 - 1))) 0)) fun r96 => ((Cu n1 s4 n4) r96)) else none) else none) else none) else none) else ((Cu n1 s4 n4) false))
def Fj (p1 : Int) (k1 : Int) (s1 : List Int) (n1 : (List Int) → Option (List Int)) : Option (List Int) := (whileO (Fo p1 n1) Ea (s1,k1))
def Ks (s1 : List Int) : Option (List Int) := (some s1)
def Ci (p0 : List Int) (p1 : Int) (p2 : Int) : Option (List Int) := (if -9223372036854775808 ≤ (w64 (p1 + 1)) ∧ p2 ≤ 9223372036854775807 then (forO (Fj p1) Ks (Int.toNat (p2 - (w64 (p1 + 1)))) (w64 (p1 + 1)) p0) else none)
def Dt (p3 : Int) (s1 : (List Int) × Int) (n1 : ((List Int) × Int) → Option (List Int)) (y4 : Int) : Option (List Int) := (if 0 ≤ (w64 (p3 + s1.2)) ∧ (w64 (p3 + s1.2)) < ((s1.1.length : Nat) : Int) then (if (Int.toNat (w64 (p3 + s1.2))) < s1.1.length then (if 0 ≤ (w64 (p3 + y4)) ∧ (w64 (p3 + y4)) < ((s1.1.length : Nat) : Int) then (if (Int.toNat (w64 (p3 + y4))) < s1.1.length then (Option.bind (Cw (s1.1.getD (Int.toNat (w64 (p3 + s1.2))) 0) (s1.1.getD (Int.toNat (w64 (p3 + y4))) 0)) fun r35 => (if (!r35) then (some s1.1) else (if 0 ≤ (w64 (p3 + y4)) ∧ (w64 (p3 + y4)) < ((s1.1.length : Nat) : Int) then (if (Int.toNat (w64 (p3 + y4))) < s1.1.length then (if 0 ≤ (w64 (p3 + s1.2)) ∧ (w64 (p3 + s1.2)) < ((s1.1.length : Nat) : Int) then (if (Int.toNat (w64 (p3 + s1.2))) < s1.1.length then (if 0 ≤ (w64 (p3 + s1.2)) ∧ (w64 (p3 + s1.2)) < ((s1.1.length : Nat) : Int) then (if (Int.toNat (w64 (p3 + s1.2))) < s1.1.length then (if 0 ≤ (w64 (p3 + y4)) ∧ (w64 (p3 + y4)) < ((s1.1.length : Nat) : Int) then (if (Int.toNat (w64 (p3 + y4))) < s1.1.length then (n1 (((s1.1.set (Int.toNat (w64 (p3 + s1.2))) (s1.1.getD (Int.toNat (w64 (p3 + y4))) 0)).set (Int.toNat (w64 (p3 + y4))) (s1.1.getD (Int.toNat (w64 (p3 + s1.2))) 0)),y4)) else none) else none) else none) else none) else none) else none) else none) else none))) else none) else none) else none) else none)
def Fh (p3 : Int) (s1 : (List Int) × Int) (n1 : ((List Int) × Int) → Option (List Int)) (y3 : Bool) : Option (List Int) := (if y3 then ((Dt p3 s1 n1) (w64 ((w64 ((w64 (2 * s1.2)) + 1)) + 1))) else ((Dt p3 s1 n1) (w64 ((w64 (2 * s1.2)) + 1))))
def Jb (p2 : Int) (p3 : Int) (s1 : (List Int) × Int) (n1 : ((List Int) × Int) → Option (List Int)) : Option (List Int) := (if (decide ((w64 ((w64 (2 * s1.2)) + 1)) ≥ p2)) then (some s1.1) else (if (decide ((w64 ((w64 ((w64 (2 * s1.2)) + 1)) + 1)) < p2)) then (if 0 ≤ (w64 (p3 + (w64 ((w64 (2 * s1.2)) + 1)))) ∧ (w64 (p3 + (w64 ((w64 (2 * s1.2)) + 1)))) < ((s1.1.length : Nat) : Int) then (if (Int.toNat (w64 (p3 + (w64 ((w64 (2 * s1.2)) + 1))))) < s1.1.length then (if 0 ≤ (w64 ((w64 (p3 + (w64 ((w64 (2 * s1.2)) + 1)))) + 1)) ∧ (w64 ((w64 (p3 + (w64 ((w64 (2 * s1.2)) + 1)))) + 1)) < ((s1.1.length : Nat) : Int) then (if (Int.toNat (w64 ((w64 (p3 + (w64 ((w64 (2 * s1.2)) + 1)))) + 1))) < s1.1.length then (Option.bind (Cw (s1.1.getD (Int.toNat (w64 (p3 + (w64 ((w64 (2 * s1.2)) + 1))))) 0) (s1.1.getD (Int.toNat (w64 ((w64 (p3 + (w64 ((w64 (2 * s1.2)) + 1)))) + 1))) 0)) fun r29 => ((Fh p3 s1 n1) r29)) else none) else none) else none) else none) else ((Fh p3 s1 n1) false)))
def Eh (p0 : List Int) (p1 : Int) (p2 : Int) (p3 : Int) : Option (List Int) := (whileO (Jb p2 p3) Ea (p0,p1))
def Ji (p1 : Int) (s3 : (List Int) × Int) (n3 : ((List Int) × Int) → Option (List Int)) : Option (List Int) := (if (decide (s3.2 ≥ 0)) then (if 0 ≤ (w64 (p1 + s3.2)) ∧ (w64 (p1 + s3.2)) < ((s3.1.length : Nat) : Int) then (if (Int.toNat (w64 (p1 + s3.2))) < s3.1.length then (if 0 ≤ p1 ∧ p1 < ((s3.1.length : Nat) : Int) then (if (Int.toNat p1) < s3.1.length then (if 0 ≤ p1 ∧ p1 < ((s3.1.length : Nat) : Int) then (if (Int.toNat p1) < s3.1.length then (if 0 ≤ (w64 (p1 + s3.2)) ∧ (w64 (p1 + s3.2)) < ((s3.1.length : Nat) : Int) then (if (Int.toNat (w64 (p1 + s3.2))) < s3.1.length then (Option.bind (Eh ((s3.1.set (Int.toNat p1) (s3.1.getD (Int.toNat (w64 (p1 + s3.2))) 0)).set (Int.toNat (w64 (p1 + s3.2))) (s3.1.getD (Int.toNat p1) 0)) 0 s3.2 p1) fun r49 => (if ((s3.1.set (Int.toNat p1) (s3.1.getD (Int.toNat (w64 (p1 + s3.2))) 0)).set (Int.toNat (w64 (p1 + s3.2))) (s3.1.getD (Int.toNat p1) 0)).length = r49.length then (n3 (r49,(w64 (s3.2 - 1)))) else none)) else none) else none) else none) else none) else none) else none) else none) else none) else (some s3.1))
def Jh (p1 : Int) (p2 : Int) (s1 : (List Int) × Int) (n1 : ((List Int) × Int) → Option (List Int)) : Option (List Int) := (if (decide (s1.2 ≥ 0)) then (Option.bind (Eh s1.1 s1.2 (w64 (p2 - p1)) p1) fun r27 => (if s1.1.length = r27.length then (n1 (r27,(w64 (s1.2 - 1)))) else none)) else (whileO (Ji p1) Ea (s1.1,(w64 ((w64 (p2 - p1)) - 1)))))
def Fy (p0 : List Int) (p1 : Int) (p2 : Int) : Option (List Int) := (whileO (Jh p1 p2) Ea (p0,(w64 (Int.tdiv (w64 ((w64 (p2 - p1)) - 1)) 2))))
def Cr (p0 : List Int) (p1 : Int) (p2 : Int) (p3 : Int) : Option (Int × Int × Int) := (if 0 ≤ p2 ∧ p2 < ((p0.length : Nat) : Int) then (if 0 ≤ p1 ∧ p1 < ((p0.length : Nat) : Int) then (Option.bind (Cw (p0.getD (Int.toNat p2) 0) (p0.getD (Int.toNat p1) 0)) fun r3 => (if r3 then (some (p2,p1,(w64 (p3 + 1)))) else (some (p1,p2,p3)))) else none) else none)
def Dd (p0 : List Int) (p1 : Int) (p2 : Int) (p3 : Int) (p4 : Int) : Option (Int × Int) := (Option.bind (Cr p0 p1 p2 p4) fun r1 => (Option.bind (Cr p0 r1.2.1 p3 r1.2.2) fun r2 => (Option.bind (Cr p0 r1.1 r2.1 r2.2.2) fun r3 => (some (r3.2.1,r3.2.2)))))
def Bu (p0 : List Int) (p1 : Int) (p2 : Int) : Option (Int × Int) := (Option.bind (Dd p0 (w64 (p1 - 1)) p1 (w64 (p1 + 1)) p2) fun r1 => (some (r1.1,r1.2)))
def Ck (y1 : Int × Int) : Option (Int × Int) := (if (y1.1 == 0) then (some (y1.2,1)) else (if (y1.1 == 12) then (some (y1.2,2)) else (some (y1.2,0))))
def Cj (p0 : List Int) (y2 : Int × Int × Int × Int) : Option (Int × Int) := (Option.bind (Dd p0 y2.2.1 y2.2.2.1 y2.2.2.2 y2.1) fun r6 => (Ck (r6.2,r6.1)))
def Ct (p0 : List Int) (p1 : Int) (p2 : Int) : Option (Int × Int) := (if (decide ((w64 (p2 - p1)) ≥ 8)) then (if (decide ((w64 (p2 - p1)) ≥ 50)) then (Option.bind (Bu p0 (w64 (p1 + (w64 ((w64 (Int.tdiv (w64 (p2 - p1)) 4)) * 1)))) 0) fun r3 => (Option.bind (Bu p0 (w64 (p1 + (w64 ((w64 (Int.tdiv (w64 (p2 - p1)) 4)) * 2)))) r3.2) fun r4 => (Option.bind (Bu p0 (w64 (p1 + (w64 ((w64 (Int.tdiv (w64 (p2 - p1)) 4)) * 3)))) r4.2) fun r5 => ((Cj p0) (r5.2,r3.1,r4.1,r5.1))))) else ((Cj p0) (0,(w64 (p1 + (w64 ((w64 (Int.tdiv (w64 (p2 - p1)) 4)) * 1)))),(w64 (p1 + (w64 ((w64 (Int.tdiv (w64 (p2 - p1)) 4)) * 2)))),(w64 (p1 + (w64 ((w64 (Int.tdiv (w64 (p2 - p1)) 4)) * 3))))))) else (Ck (0,(w64 (p1 + (w64 ((w64 (Int.tdiv (w64 (p2 - p1)) 4)) * 2)))))))
def Hs (s1 : (List Int) × Int × Int) (n1 : ((List Int) × Int × Int) → Option (List Int)) : Option (List Int) := (if (decide (s1.2.1 < s1.2.2)) then (if 0 ≤ s1.2.2 ∧ s1.2.2 < ((s1.1.length : Nat) : Int) then (if (Int.toNat s1.2.2) < s1.1.length then (if 0 ≤ s1.2.1 ∧ s1.2.1 < ((s1.1.length : Nat) : Int) then (if (Int.toNat s1.2.1) < s1.1.length then (if 0 ≤ s1.2.1 ∧ s1.2.1 < ((s1.1.length : Nat) : Int) then (if (Int.toNat s1.2.1) < s1.1.length then (if 0 ≤ s1.2.2 ∧ s1.2.2 < ((s1.1.length : Nat) : Int) then (if (Int.toNat s1.2.2) < s1.1.length then (n1 (((s1.1.set (Int.toNat s1.2.1) (s1.1.getD (Int.toNat s1.2.2) 0)).set (Int.toNat s1.2.2) (s1.1.getD (Int.toNat s1.2.1) 0)),(w64 (s1.2.1 + 1)),(w64 (s1.2.2 - 1)))) else none) else none) else none) else none) else none) else none) else none) else none) else (some s1.1))
def Ek (p0 : List Int) (p1 : Int) (p2 : Int) : Option (List Int) := (whileO Hs Ea (p0,p1,(w64 (p2 - 1))))
def Bs (n1 : ((List Int) × Int) → Option (Bool × (List Int))) (y11 : (List Int) × Int) : Option (Bool × (List Int)) := (n1 (y11.1,y11.2))
def Fq (n1 : ((List Int) × Int) → Option (Bool × (List Int))) (s12 : Int) (k16 : Int) (s16 : List Int) (n16 : (List Int) → Option (Bool × (List Int))) : Option (Bool × (List Int)) := (if 0 ≤ k16 ∧ k16 < ((s16.length : Nat) : Int) then (if (Int.toNat k16) < s16.length then (if 0 ≤ (w64 (k16 - 1)) ∧ (w64 (k16 - 1)) < ((s16.length : Nat) : Int) then (if (Int.toNat (w64 (k16 - 1))) < s16.length then (Option.bind (Cw (s16.getD (Int.toNat k16) 0) (s16.getD (Int.toNat (w64 (k16 - 1))) 0)) fun r570 => (if (!r570) then ((Bs n1) (s16,s12)) else (if 0 ≤ (w64 (k16 - 1)) ∧ (w64 (k16 - 1)) < ((s16.length : Nat) : Int) then (if (Int.toNat (w64 (k16 - 1))) < s16.length then (if 0 ≤ k16 ∧ k16 < ((s16.length : Nat) : Int) then (if (Int.toNat k16) < s16.length then (if 0 ≤ k16 ∧ k16 < ((s16.length : Nat) : Int) then (if (Int.toNat k16) < s16.length then (if 0 ≤ (w64 (k16 - 1)) ∧ (w64 (k16 - 1)) < ((s16.length : Nat) : Int) then (if (Int.toNat (w64 (k16 - 1))) < s16.length then (n16 ((s16.set (Int.toNat k16) (s16.getD (Int.toNat (w64 (k16 - 1))) 0)).set (Int.toNat (w64 (k16 - 1))) (s16.getD (Int.toNat k16) 0))) else none) else none) else none) else none) else none) else none) else none) else none))) else none) else none) else none) else none)
def Ic (n1 : ((List Int) × Int) → Option (Bool × (List Int))) (s12 : Int) (s16 : List Int) : Option (Bool × (List Int)) := ((Bs n1) (s16,s12))
def Bm (p2 : Int) (n1 : ((List Int) × Int) → Option (Bool × (List Int))) (s12 : Int) (y15 : List Int) : Option (Bool × (List Int)) := (if (decide ((w64 (p2 - s12)) ≥ 2)) then (if -9223372036854775808 ≤ (w64 (s12 + 1)) ∧ p2 ≤ 9223372036854775807 then (forO (Fq n1 s12) (Ic n1 s12) (Int.toNat (p2 - (w64 (s12 + 1)))) (w64 (s12 + 1)) y15) else none) else ((Bs n1) (y15,s12)))
def Fr (p2 : Int) (n1 : ((List Int) × Int) → Option (Bool × (List Int))) (s12 : Int) (s15 : (List Int) × Int) (n15 : ((List Int) × Int) → Option (Bool × (List Int))) : Option (Bool × (List Int)) := (if (decide (s15.2 ≥ 1)) then (if 0 ≤ s15.2 ∧ s15.2 < ((s15.1.length : Nat) : Int) then (if (Int.toNat s15.2) < s15.1.length then (if 0 ≤ (w64 (s15.2 - 1)) ∧ (w64 (s15.2 - 1)) < ((s15.1.length : Nat) : Int) then (if (Int.toNat (w64 (s15.2 - 1))) < s15.1.length then (Option.bind (Cw (s15.1.getD (Int.toNat s15.2) 0) (s15.1.getD (Int.toNat (w64 (s15.2 - 1))) 0)) fun r524 => (if (!r524) then ((Bm p2 n1 s12) s15.1) else (if 0 ≤ (w64 (s15.2 - 1)) ∧ (w64 (s15.2 - 1)) < ((s15.1.length : Nat) : Int) then (if (Int.toNat (w64 (s15.2 - 1))) < s15.1.length then (if 0 ≤ s15.2 ∧ s15.2 < ((s15.1.length : Nat) : Int) then (if (Int.toNat s15.2) < s15.1.length then (if 0 ≤ s15.2 ∧ s15.2 < ((s15.1.length : Nat) : Int) then (if (Int.toNat s15.2) < s15.1.length then (if 0 ≤ (w64 (s15.2 - 1)) ∧ (w64 (s15.2 - 1)) < ((s15.1.length : Nat) : Int) then (if (Int.toNat (w64 (s15.2 - 1))) < s15.1.length then (n15 (((s15.1.set (Int.toNat s15.2) (s15.1.getD (Int.toNat (w64 (s15.2 - 1))) 0)).set (Int.toNat (w64 (s15.2 - 1))) (s15.1.getD (Int.toNat s15.2) 0)),(w64 (s15.2 - 1)))) else none) else none) else none) else none) else none) else none) else none) else none))) else none) else none) else none) else none) else ((Bm p2 n1 s12) s15.1))
def Bn (p1 : Int) (p2 : Int) (s1 : (List Int) × Int) (n1 : ((List Int) × Int) → Option (Bool × (List Int))) (s12 : Int) (n12 : Int → Option (Bool × (List Int))) (y14 : Bool) : Option (Bool × (List Int)) := (if y14 then (n12 (w64 (s12 + 1))) else (if (s12 == p2) then (some (true,s1.1)) else (if (decide ((w64 (p2 - p1)) < 50)) then (some (false,s1.1)) else (if 0 ≤ (w64 (s12 - 1)) ∧ (w64 (s12 - 1)) < ((s1.1.length : Nat) : Int) then (if (Int.toNat (w64 (s12 - 1))) < s1.1.length then (if 0 ≤ s12 ∧ s12 < ((s1.1.length : Nat) : Int) then (if (Int.toNat s12) < s1.1.length then (if 0 ≤ s12 ∧ s12 < ((s1.1.length : Nat) : Int) then (if (Int.toNat s12) < s1.1.length then (if 0 ≤ (w64 (s12 - 1)) ∧ (w64 (s12 - 1)) < ((s1.1.length : Nat) : Int) then (if (Int.toNat (w64 (s12 - 1))) < s1.1.length then (if (decide ((w64 (s12 - p1)) ≥ 2)) then (whileO (Fr p2 n1 s12) Ea (((s1.1.set (Int.toNat s12) (s1.1.getD (Int.toNat (w64 (s12 - 1))) 0)).set (Int.toNat (w64 (s12 - 1))) (s1.1.getD (Int.toNat s12) 0)),(w64 (s12 - 1)))) else ((Bm p2 n1 s12) ((s1.1.set (Int.toNat s12) (s1.1.getD (Int.toNat (w64 (s12 - 1))) 0)).set (Int.toNat (w64 (s12 - 1))) (s1.1.getD (Int.toNat s12) 0)))) else none) else none) else none) else none) else none) else none) else none) else none))))
def Dl (p1 : Int) (p2 : Int) (s1 : (List Int) × Int) (n1 : ((List Int) × Int) → Option (Bool × (List Int))) (s12 : Int) (n12 : Int → Option (Bool × (List Int))) : Option (Bool × (List Int)) := (if (decide (s12 < p2)) then (if 0 ≤ s12 ∧ s12 < ((s1.1.length : Nat) : Int) then (if (Int.toNat s12) < s1.1.length then (if 0 ≤ (w64 (s12 - 1)) ∧ (w64 (s12 - 1)) < ((s1.1.length : Nat) : Int) then (if (Int.toNat (w64 (s12 - 1))) < s1.1.length then (Option.bind (Cw (s1.1.getD (Int.toNat s12) 0) (s1.1.getD (Int.toNat (w64 (s12 - 1))) 0)) fun r491 => ((Bn p1 p2 s1 n1 s12 n12) (!r491))) else none) else none) else none) else none) else ((Bn p1 p2 s1 n1 s12 n12) false))
def Dn (p1 : Int) (p2 : Int) (k1 : Int) (s1 : (List Int) × Int) (n1 : ((List Int) × Int) → Option (Bool × (List Int))) : Option (Bool × (List Int)) := (whileO (Dl p1 p2 s1 n1) Ea s1.2)
def Ik (s1 : (List Int) × Int) : Option (Bool × (List Int)) := (some (false,s1.1))
def Bz (p0 : List Int) (p1 : Int) (p2 : Int) : Option (Bool × (List Int)) := (forO (Dn p1 p2) Ik (Int.toNat (5 - 0)) 0 (p0,(w64 (p1 + 1))))
def Df (s1 : (List Int) × Int × Int) (n1 : ((List Int) × Int × Int) → Option (Int × (List Int))) (s5 : Int) (s7 : Int) (n7 : Int → Option (Int × (List Int))) (y12 : Bool) : Option (Int × (List Int)) := (if y12 then (n7 (w64 (s7 - 1))) else (if (decide (s5 > s7)) then (some (s5,s1.1)) else (if 0 ≤ s7 ∧ s7 < ((s1.1.length : Nat) : Int) then (if (Int.toNat s7) < s1.1.length then (if 0 ≤ s5 ∧ s5 < ((s1.1.length : Nat) : Int) then (if (Int.toNat s5) < s1.1.length then (if 0 ≤ s5 ∧ s5 < ((s1.1.length : Nat) : Int) then (if (Int.toNat s5) < s1.1.length then (if 0 ≤ s7 ∧ s7 < ((s1.1.length : Nat) : Int) then (if (Int.toNat s7) < s1.1.length then (n1 (((s1.1.set (Int.toNat s5) (s1.1.getD (Int.toNat s7) 0)).set (Int.toNat s7) (s1.1.getD (Int.toNat s5) 0)),(w64 (s7 - 1)),(w64 (s5 + 1)))) else none) else none) else none) else none) else none) else none) else none) else none)))
def Ey (p1 : Int) (s1 : (List Int) × Int × Int) (n1 : ((List Int) × Int × Int) → Option (Int × (List Int))) (s5 : Int) (s7 : Int) (n7 : Int → Option (Int × (List Int))) : Option (Int × (List Int)) := (if (decide (s5 ≤ s7)) then (if 0 ≤ p1 ∧ p1 < ((s1.1.length : Nat) : Int) then (if (Int.toNat p1) < s1.1.length then (if 0 ≤ s7 ∧ s7 < ((s1.1.length : Nat) : Int) then (if (Int.toNat s7) < s1.1.length then (Option.bind (Cw (s1.1.getD (Int.toNat p1) 0) (s1.1.getD (Int.toNat s7) 0)) fun r178 => ((Df s1 n1 s5 s7 n7) r178)) else none) else none) else none) else none) else ((Df s1 n1 s5 s7 n7) false))
def Dh (p1 : Int) (s1 : (List Int) × Int × Int) (n1 : ((List Int) × Int × Int) → Option (Int × (List Int))) (s5 : Int) (n5 : Int → Option (Int × (List Int))) (y10 : Bool) : Option (Int × (List Int)) := (if y10 then (n5 (w64 (s5 + 1))) else (whileO (Ey p1 s1 n1 s5) Ea s1.2.1))
def He (p1 : Int) (s1 : (List Int) × Int × Int) (n1 : ((List Int) × Int × Int) → Option (Int × (List Int))) (s5 : Int) (n5 : Int → Option (Int × (List Int))) : Option (Int × (List Int)) := (if (decide (s5 ≤ s1.2.1)) then (if 0 ≤ p1 ∧ p1 < ((s1.1.length : Nat) : Int) then (if (Int.toNat p1) < s1.1.length then (if 0 ≤ s5 ∧ s5 < ((s1.1.length : Nat) : Int) then (if (Int.toNat s5) < s1.1.length then (Option.bind (Cw (s1.1.getD (Int.toNat p1) 0) (s1.1.getD (Int.toNat s5) 0)) fun r155 => ((Dh p1 s1 n1 s5 n5) (!r155))) else none) else none) else none) else none) else ((Dh p1 s1 n1 s5 n5) false))
def Hd (p1 : Int) (s1 : (List Int) × Int × Int) (n1 : ((List Int) × Int × Int) → Option (Int × (List Int))) : Option (Int × (List Int)) := (whileO (He p1 s1 n1) Ea s1.2.2)
def Dz (p0 : List Int) (p1 : Int) (p2 : Int) (p3 : Int) : Option (Int × (List Int)) := (if 0 ≤ p3 ∧ p3 < ((p0.length : Nat) : Int) then (if (Int.toNat p3) < p0.length then (if 0 ≤ p1 ∧ p1 < ((p0.length : Nat) : Int) then (if (Int.toNat p1) < p0.length then (if 0 ≤ p1 ∧ p1 < ((p0.length : Nat) : Int) then (if (Int.toNat p1) < p0.length then (if 0 ≤ p3 ∧ p3 < ((p0.length : Nat) : Int) then (if (Int.toNat p3) < p0.length then (whileO (Hd p1) Ea (((p0.set (Int.toNat p1) (p0.getD (Int.toNat p3) 0)).set (Int.toNat p3) (p0.getD (Int.toNat p1) 0)),(w64 (p2 - 1)),(w64 (p1 + 1)))) else none) else none) else none) else none) else none) else none) else none) else none)
def Er (p1 : Int) (s25 : (List Int) × Int × Int) (n25 : ((List Int) × Int × Int) → Option (Int × Bool × (List Int))) (s29 : Int) (s31 : Int) (n31 : Int → Option (Int × Bool × (List Int))) (y54 : Bool) : Option (Int × Bool × (List Int)) := (if y54 then (n31 (w64 (s31 - 1))) else (if (decide (s29 > s31)) then (if 0 ≤ p1 ∧ p1 < ((s25.1.length : Nat) : Int) then (if (Int.toNat p1) < s25.1.length then (if 0 ≤ s31 ∧ s31 < ((s25.1.length : Nat) : Int) then (if (Int.toNat s31) < s25.1.length then (if 0 ≤ s31 ∧ s31 < ((s25.1.length : Nat) : Int) then (if (Int.toNat s31) < s25.1.length then (if 0 ≤ p1 ∧ p1 < ((s25.1.length : Nat) : Int) then (if (Int.toNat p1) < s25.1.length then (some (s31,false,((s25.1.set (Int.toNat s31) (s25.1.getD (Int.toNat p1) 0)).set (Int.toNat p1) (s25.1.getD (Int.toNat s31) 0)))) else none) else none) else none) else none) else none) else none) else none) else none) else (if 0 ≤ s31 ∧ s31 < ((s25.1.length : Nat) : Int) then (if (Int.toNat s31) < s25.1.length then (if 0 ≤ s29 ∧ s29 < ((s25.1.length : Nat) : Int) then (if (Int.toNat s29) < s25.1.length then (if 0 ≤ s29 ∧ s29 < ((s25.1.length : Nat) : Int) then (if (Int.toNat s29) < s25.1.length then (if 0 ≤ s31 ∧ s31 < ((s25.1.length : Nat) : Int) then (if (Int.toNat s31) < s25.1.length then (n25 (((s25.1.set (Int.toNat s29) (s25.1.getD (Int.toNat s31) 0)).set (Int.toNat s31) (s25.1.getD (Int.toNat s29) 0)),(w64 (s29 + 1)),(w64 (s31 - 1)))) else none) else none) else none) else none) else none) else none) else none) else none)))
def Gm (p1 : Int) (s25 : (List Int) × Int × Int) (n25 : ((List Int) × Int × Int) → Option (Int × Bool × (List Int))) (s29 : Int) (s31 : Int) (n31 : Int → Option (Int × Bool × (List Int))) : Option (Int × Bool × (List Int)) := (if (decide (s29 ≤ s31)) then (if 0 ≤ s31 ∧ s31 < ((s25.1.length : Nat) : Int) then (if (Int.toNat s31) < s25.1.length then (if 0 ≤ p1 ∧ p1 < ((s25.1.length : Nat) : Int) then (if (Int.toNat p1) < s25.1.length then (Option.bind (Cw (s25.1.getD (Int.toNat s31) 0) (s25.1.getD (Int.toNat p1) 0)) fun r1118 => ((Er p1 s25 n25 s29 s31 n31) (!r1118))) else none) else none) else none) else none) else ((Er p1 s25 n25 s29 s31 n31) false))
def En (p1 : Int) (s25 : (List Int) × Int × Int) (n25 : ((List Int) × Int × Int) → Option (Int × Bool × (List Int))) (s29 : Int) (n29 : Int → Option (Int × Bool × (List Int))) (y52 : Bool) : Option (Int × Bool × (List Int)) := (if y52 then (n29 (w64 (s29 + 1))) else (whileO (Gm p1 s25 n25 s29) Ea s25.2.2))
def Ij (p1 : Int) (s25 : (List Int) × Int × Int) (n25 : ((List Int) × Int × Int) → Option (Int × Bool × (List Int))) (s29 : Int) (n29 : Int → Option (Int × Bool × (List Int))) : Option (Int × Bool × (List Int)) := (if (decide (s29 ≤ s25.2.2)) then (if 0 ≤ s29 ∧ s29 < ((s25.1.length : Nat) : Int) then (if (Int.toNat s29) < s25.1.length then (if 0 ≤ p1 ∧ p1 < ((s25.1.length : Nat) : Int) then (if (Int.toNat p1) < s25.1.length then (Option.bind (Cw (s25.1.getD (Int.toNat s29) 0) (s25.1.getD (Int.toNat p1) 0)) fun r1087 => ((En p1 s25 n25 s29 n29) r1087)) else none) else none) else none) else none) else ((En p1 s25 n25 s29 n29) false))
def Gl (p1 : Int) (s25 : (List Int) × Int × Int) (n25 : ((List Int) × Int × Int) → Option (Int × Bool × (List Int))) : Option (Int × Bool × (List Int)) := (whileO (Ij p1 s25 n25) Ea s25.2.1)
def Ep (p0 : List Int) (p1 : Int) (p3 : Int) (s1 : Int) (s17 : Int) (n17 : Int → Option (Int × Bool × (List Int))) (y42 : Bool) : Option (Int × Bool × (List Int)) := (if y42 then (n17 (w64 (s17 - 1))) else (if (decide (s1 > s17)) then (if 0 ≤ p1 ∧ p1 < ((((p0.set (Int.toNat p1) (p0.getD (Int.toNat p3) 0)).set (Int.toNat p3) (p0.getD (Int.toNat p1) 0)).length : Nat) : Int) then (if (Int.toNat p1) < ((p0.set (Int.toNat p1) (p0.getD (Int.toNat p3) 0)).set (Int.toNat p3) (p0.getD (Int.toNat p1) 0)).length then (if 0 ≤ s17 ∧ s17 < ((((p0.set (Int.toNat p1) (p0.getD (Int.toNat p3) 0)).set (Int.toNat p3) (p0.getD (Int.toNat p1) 0)).length : Nat) : Int) then (if (Int.toNat s17) < ((p0.set (Int.toNat p1) (p0.getD (Int.toNat p3) 0)).set (Int.toNat p3) (p0.getD (Int.toNat p1) 0)).length then (if 0 ≤ s17 ∧ s17 < ((((p0.set (Int.toNat p1) (p0.getD (Int.toNat p3) 0)).set (Int.toNat p3) (p0.getD (Int.toNat p1) 0)).length : Nat) : Int) then (if (Int.toNat s17) < ((p0.set (Int.toNat p1) (p0.getD (Int.toNat p3) 0)).set (Int.toNat p3) (p0.getD (Int.toNat p1) 0)).length then (if 0 ≤ p1 ∧ p1 < ((((p0.set (Int.toNat p1) (p0.getD (Int.toNat p3) 0)).set (Int.toNat p3) (p0.getD (Int.toNat p1) 0)).length : Nat) : Int) then (if (Int.toNat p1) < ((p0.set (Int.toNat p1) (p0.getD (Int.toNat p3) 0)).set (Int.toNat p3) (p0.getD (Int.toNat p1) 0)).length then (some (s17,true,((((p0.set (Int.toNat p1) (p0.getD (Int.toNat p3) 0)).set (Int.toNat p3) (p0.getD (Int.toNat p1) 0)).set (Int.toNat s17) (((p0.set (Int.toNat p1) (p0.getD (Int.toNat p3) 0)).set (Int.toNat p3) (p0.getD (Int.toNat p1) 0)).getD (Int.toNat p1) 0)).set (Int.toNat p1) (((p0.set (Int.toNat p1) (p0.getD (Int.toNat p3) 0)).set (Int.toNat p3) (p0.getD (Int.toNat p1) 0)).getD (Int.toNat s17) 0)))) else none) else none) else none) else none) else none) else none) else none) else none) else (if 0 ≤ s17 ∧ s17 < ((((p0.set (Int.toNat p1) (p0.getD (Int.toNat p3) 0)).set (Int.toNat p3) (p0.getD (Int.toNat p1) 0)).length : Nat) : Int) then (if (Int.toNat s17) < ((p0.set (Int.toNat p1) (p0.getD (Int.toNat p3) 0)).set (Int.toNat p3) (p0.getD (Int.toNat p1) 0)).length then (if 0 ≤ s1 ∧ s1 < ((((p0.set (Int.toNat p1) (p0.getD (Int.toNat p3) 0)).set (Int.toNat p3) (p0.getD (Int.toNat p1) 0)).length : Nat) : Int) then (if (Int.toNat s1) < ((p0.set (Int.toNat p1) (p0.getD (Int.toNat p3) 0)).set (Int.toNat p3) (p0.getD (Int.toNat p1) 0)).length then (if 0 ≤ s1 ∧ s1 < ((((p0.set (Int.toNat p1) (p0.getD (Int.toNat p3) 0)).set (Int.toNat p3) (p0.getD (Int.toNat p1) 0)).length : Nat) : Int) then (if (Int.toNat s1) < ((p0.set (Int.toNat p1) (p0.getD (Int.toNat p3) 0)).set (Int.toNat p3) (p0.getD (Int.toNat p1) 0)).length then (if 0 ≤ s17 ∧ s17 < ((((p0.set (Int.toNat p1) (p0.getD (Int.toNat p3) 0)).set (Int.toNat p3) (p0.getD (Int.toNat p1) 0)).length : Nat) : Int) then (if (Int.toNat s17) < ((p0.set (Int.toNat p1) (p0.getD (Int.toNat p3) 0)).set (Int.toNat p3) (p0.getD (Int.toNat p1) 0)).length then (whileO (Gl p1) Ea (((((p0.set (Int.toNat p1) (p0.getD (Int.toNat p3) 0)).set (Int.toNat p3) (p0.getD (Int.toNat p1) 0)).set (Int.toNat s1) (((p0.set (Int.toNat p1) (p0.getD (Int.toNat p3) 0)).set (Int.toNat p3) (p0.getD (Int.toNat p1) 0)).getD (Int.toNat s17) 0)).set (Int.toNat s17) (((p0.set (Int.toNat p1) (p0.getD (Int.toNat p3) 0)).set (Int.toNat p3) (p0.getD (Int.toNat p1) 0)).getD (Int.toNat s1) 0)),(w64 (s1 + 1)),(w64 (s17 - 1)))) else none) else none) else none) else none) else none) else none) else none) else none)))
def Gk (p0 : List Int) (p1 : Int) (p3 : Int) (s1 : Int) (s17 : Int) (n17 : Int → Option (Int × Bool × (List Int))) : Option (Int × Bool × (List Int)) := (if (decide (s1 ≤ s17)) then (if 0 ≤ s17 ∧ s17 < ((((p0.set (Int.toNat p1) (p0.getD (Int.toNat p3) 0)).set (Int.toNat p3) (p0.getD (Int.toNat p1) 0)).length : Nat) : Int) then (if (Int.toNat s17) < ((p0.set (Int.toNat p1) (p0.getD (Int.toNat p3) 0)).set (Int.toNat p3) (p0.getD (Int.toNat p1) 0)).length then (if 0 ≤ p1 ∧ p1 < ((((p0.set (Int.toNat p1) (p0.getD (Int.toNat p3) 0)).set (Int.toNat p3) (p0.getD (Int.toNat p1) 0)).length : Nat) : Int) then (if (Int.toNat p1) < ((p0.set (Int.toNat p1) (p0.getD (Int.toNat p3) 0)).set (Int.toNat p3) (p0.getD (Int.toNat p1) 0)).length then (Option.bind (Cw (((p0.set (Int.toNat p1) (p0.getD (Int.toNat p3) 0)).set (Int.toNat p3) (p0.getD (Int.toNat p1) 0)).getD (Int.toNat s17) 0) (((p0.set (Int.toNat p1) (p0.getD (Int.toNat p3) 0)).set (Int.toNat p3) (p0.getD (Int.toNat p1) 0)).getD (Int.toNat p1) 0)) fun r874 => ((Ep p0 p1 p3 s1 s17 n17) (!r874))) else none) else none) else none) else none) else ((Ep p0 p1 p3 s1 s17 n17) false))
def Eo (p0 : List Int) (p1 : Int) (p2 : Int) (p3 : Int) (s1 : Int) (n1 : Int → Option (Int × Bool × (List Int))) (y28 : Bool) : Option (Int × Bool × (List Int)) := (if y28 then (n1 (w64 (s1 + 1))) else (whileO (Gk p0 p1 p3 s1) Ea (w64 (p2 - 1))))
def Ir (p0 : List Int) (p1 : Int) (p2 : Int) (p3 : Int) (s1 : Int) (n1 : Int → Option (Int × Bool × (List Int))) : Option (Int × Bool × (List Int)) := (if (decide (s1 ≤ (w64 (p2 - 1)))) then (if 0 ≤ s1 ∧ s1 < ((((p0.set (Int.toNat p1) (p0.getD (Int.toNat p3) 0)).set (Int.toNat p3) (p0.getD (Int.toNat p1) 0)).length : Nat) : Int) then (if (Int.toNat s1) < ((p0.set (Int.toNat p1) (p0.getD (Int.toNat p3) 0)).set (Int.toNat p3) (p0.getD (Int.toNat p1) 0)).length then (if 0 ≤ p1 ∧ p1 < ((((p0.set (Int.toNat p1) (p0.getD (Int.toNat p3) 0)).set (Int.toNat p3) (p0.getD (Int.toNat p1) 0)).length : Nat) : Int) then (if (Int.toNat p1) < ((p0.set (Int.toNat p1) (p0.getD (Int.toNat p3) 0)).set (Int.toNat p3) (p0.getD (Int.toNat p1) 0)).length then (Option.bind (Cw (((p0.set (Int.toNat p1) (p0.getD (Int.toNat p3) 0)).set (Int.toNat p3) (p0.getD (Int.toNat p1) 0)).getD (Int.toNat s1) 0) (((p0.set (Int.toNat p1) (p0.getD (Int.toNat p3) 0)).set (Int.toNat p3) (p0.getD (Int.toNat p1) 0)).getD (Int.toNat p1) 0)) fun r587 => ((Eo p0 p1 p2 p3 s1 n1) r587)) else none) else none) else none) else none) else ((Eo p0 p1 p2 p3 s1 n1) false))
def Fu (p0 : List Int) (p1 : Int) (p2 : Int) (p3 : Int) : Option (Int × Bool × (List Int)) := (if 0 ≤ p3 ∧ p3 < ((p0.length : Nat) : Int) then (if (Int.toNat p3) < p0.length then (if 0 ≤ p1 ∧ p1 < ((p0.length : Nat) : Int) then (if (Int.toNat p1) < p0.length then (if 0 ≤ p1 ∧ p1 < ((p0.length : Nat) : Int) then (if (Int.toNat p1) < p0.length then (if 0 ≤ p3 ∧ p3 < ((p0.length : Nat) : Int) then (if (Int.toNat p3) < p0.length then (whileO (Ir p0 p1 p2 p3) Ea (w64 (p1 + 1))) else none) else none) else none) else none) else none) else none) else none) else none)
def Gr (p0 : Int) : Option Int := (Option.bind (Nv (IntKind.u64.wrap p0)) fun r1 => (if (0 : Int) ≤ r1 then (some (kshl .u64 1 r1)) else none))
def Ki (p0 : Int) : Option (Int × Int) := (some ((kxor .u64 (kxor .u64 (kxor .u64 p0 (kshl .u64 p0 13)) (kshr .u64 (kxor .u64 p0 (kshl .u64 p0 13)) 7)) (kshl .u64 (kxor .u64 (kxor .u64 p0 (kshl .u64 p0 13)) (kshr .u64 (kxor .u64 p0 (kshl .u64 p0 13)) 7)) 17)),(kxor .u64 (kxor .u64 (kxor .u64 p0 (kshl .u64 p0 13)) (kshr .u64 (kxor .u64 p0 (kshl .u64 p0 13)) 7)) (kshl .u64 (kxor .u64 (kxor .u64 p0 (kshl .u64 p0 13)) (kshr .u64 (kxor .u64 p0 (kshl .u64 p0 13)) 7)) 17))))
def Cv (p1 : Int) (s1 : (List Int) × Int × Int) (n1 : ((List Int) × Int × Int) → Option (List Int)) (r15 : Int × Int) (y2 : Int) : Option (List Int) := (if 0 ≤ (w64 (p1 + y2)) ∧ (w64 (p1 + y2)) < ((s1.1.length : Nat) : Int) then (if (Int.toNat (w64 (p1 + y2))) < s1.1.length then (if 0 ≤ s1.2.2 ∧ s1.2.2 < ((s1.1.length : Nat) : Int) then (if (Int.toNat s1.2.2) < s1.1.length then (if 0 ≤ s1.2.2 ∧ s1.2.2 < ((s1.1.length : Nat) : Int) then (if (Int.toNat s1.2.2) < s1.1.length then (if 0 ≤ (w64 (p1 + y2)) ∧ (w64 (p1 + y2)) < ((s1.1.length : Nat) : Int) then (if (Int.toNat (w64 (p1 + y2))) < s1.1.length then (n1 (((s1.1.set (Int.toNat s1.2.2) (s1.1.getD (Int.toNat (w64 (p1 + y2))) 0)).set (Int.toNat (w64 (p1 + y2))) (s1.1.getD (Int.toNat s1.2.2) 0)),r15.2,(w64 (s1.2.2 + 1)))) else none) else none) else none) else none) else none) else none) else none) else none)
def Hk (p1 : Int) (p2 : Int) (r2 : Int) (s1 : (List Int) × Int × Int) (n1 : ((List Int) × Int × Int) → Option (List Int)) : Option (List Int) := (if (decide (s1.2.2 ≤ (w64 ((w64 (p1 + (w64 ((w64 (Int.tdiv (w64 (p2 - p1)) 4)) * 2)))) + 1)))) then (Option.bind (Ki s1.2.1) fun r15 => (if (decide ((w64 (kand .u64 r15.1 (IntKind.u64.wrap (r2 - 1)))) ≥ (w64 (p2 - p1)))) then ((Cv p1 s1 n1 r15) (w64 ((w64 (kand .u64 r15.1 (IntKind.u64.wrap (r2 - 1)))) - (w64 (p2 - p1))))) else ((Cv p1 s1 n1 r15) (w64 (kand .u64 r15.1 (IntKind.u64.wrap (r2 - 1))))))) else (some s1.1))
def Ec (p0 : List Int) (p1 : Int) (p2 : Int) : Option (List Int) := (if (decide ((w64 (p2 - p1)) ≥ 8)) then (Option.bind (Gr (w64 (p2 - p1))) fun r2 => (whileO (Hk p1 p2 r2) Ea (p0,(IntKind.u64.wrap (w64 (p2 - p1))),(w64 ((w64 (p1 + (w64 ((w64 (Int.tdiv (w64 (p2 - p1)) 4)) * 2)))) - 1))))) else (some p0))
def Dv (rec : (List Int) → Int → Int → Int → Option (List Int)) (s1 : (List Int) × Int × Int × Int × Bool × Bool) (n1 : ((List Int) × Int × Int × Int × Bool × Bool) → Option (List Int)) (y8 : (List Int) × Int) (y9 : (List Int) × Int × Int) (y10 : List Int) (y11 : Bool) : Option (List Int) := (if y11 then (Option.bind (Dz y10 s1.2.1 s1.2.2.1 y9.2.1) fun r92 => (if y10.length = r92.2.length then (n1 (r92.2,r92.1,s1.2.2.1,y8.2,s1.2.2.2.2.1,s1.2.2.2.2.2)) else none)) else (Option.bind (Fu y10 s1.2.1 s1.2.2.1 y9.2.1) fun r94 => (if y10.length = r94.2.2.length then (if (decide ((w64 (r94.1 - s1.2.1)) < (w64 (s1.2.2.1 - r94.1)))) then (Option.bind (rec r94.2.2 s1.2.1 r94.1 y8.2) fun r97 => (if r94.2.2.length = r97.length then (n1 (r97,(w64 (r94.1 + 1)),s1.2.2.1,y8.2,(decide ((w64 (r94.1 - s1.2.1)) ≥ (w64 (Int.tdiv (w64 (s1.2.2.1 - s1.2.1)) 8)))),r94.2.1)) else none)) else (Option.bind (rec r94.2.2 (w64 (r94.1 + 1)) s1.2.2.1 y8.2) fun r99 => (if r94.2.2.length = r99.length then (n1 (r99,s1.2.1,r94.1,y8.2,(decide ((w64 (s1.2.2.1 - r94.1)) ≥ (w64 (Int.tdiv (w64 (s1.2.2.1 - s1.2.1)) 8)))),r94.2.1)) else none))) else none)))
def Du (rec : (List Int) → Int → Int → Int → Option (List Int)) (s1 : (List Int) × Int × Int × Int × Bool × Bool) (n1 : ((List Int) × Int × Int × Int × Bool × Bool) → Option (List Int)) (y8 : (List Int) × Int) (y9 : (List Int) × Int × Int) (y10 : List Int) : Option (List Int) := (if (decide (s1.2.1 > 0)) then (if 0 ≤ (w64 (s1.2.1 - 1)) ∧ (w64 (s1.2.1 - 1)) < ((y10.length : Nat) : Int) then (if (Int.toNat (w64 (s1.2.1 - 1))) < y10.length then (if 0 ≤ y9.2.1 ∧ y9.2.1 < ((y10.length : Nat) : Int) then (if (Int.toNat y9.2.1) < y10.length then (Option.bind (Cw (y10.getD (Int.toNat (w64 (s1.2.1 - 1))) 0) (y10.getD (Int.toNat y9.2.1) 0)) fun r90 => ((Dv rec s1 n1 y8 y9 y10) (!r90))) else none) else none) else none) else none) else ((Dv rec s1 n1 y8 y9 y10) false))
def Dc (rec : (List Int) → Int → Int → Int → Option (List Int)) (s1 : (List Int) × Int × Int × Int × Bool × Bool) (n1 : ((List Int) × Int × Int × Int × Bool × Bool) → Option (List Int)) (y8 : (List Int) × Int) (y9 : (List Int) × Int × Int) : Option (List Int) := (if ((s1.2.2.2.2.1 && s1.2.2.2.2.2) && (y9.2.2 == 1)) then (Option.bind (Bz y9.1 s1.2.1 s1.2.2.1) fun r82 => (if y9.1.length = r82.2.length then (if r82.1 then (some r82.2) else ((Du rec s1 n1 y8 y9) r82.2)) else none)) else ((Du rec s1 n1 y8 y9) y9.1))
def De (rec : (List Int) → Int → Int → Int → Option (List Int)) (s1 : (List Int) × Int × Int × Int × Bool × Bool) (n1 : ((List Int) × Int × Int × Int × Bool × Bool) → Option (List Int)) (y8 : (List Int) × Int) : Option (List Int) := (Option.bind (Ct y8.1 s1.2.1 s1.2.2.1) fun r75 => (if (r75.2 == 2) then (Option.bind (Ek y8.1 s1.2.1 s1.2.2.1) fun r77 => (if y8.1.length = r77.length then ((Dc rec s1 n1 y8) (r77,(w64 ((w64 (s1.2.2.1 - 1)) - (w64 (r75.1 - s1.2.1)))),1)) else none)) else ((Dc rec s1 n1 y8) (y8.1,r75.1,r75.2))))
def Hg (rec : (List Int) → Int → Int → Int → Option (List Int)) (s1 : (List Int) × Int × Int × Int × Bool × Bool) (n1 : ((List Int) × Int × Int × Int × Bool × Bool) → Option (List Int)) : Option (List Int) := (if (decide ((w64 (s1.2.2.1 - s1.2.1)) ≤ 12)) then (Option.bind (Ci s1.1 s1.2.1 s1.2.2.1) fun r67 => (if s1.1.length = r67.length then (some r67) else none)) else (if (s1.2.2.2.1 == 0) then (Option.bind (Fy s1.1 s1.2.1 s1.2.2.1) fun r70 => (if s1.1.length = r70.length then (some r70) else none)) else (if (!s1.2.2.2.2.1) then (Option.bind (Ec s1.1 s1.2.1 s1.2.2.1) fun r73 => (if s1.1.length = r73.length then ((De rec s1 n1) (r73,(w64 (s1.2.2.2.1 - 1)))) else none)) else ((De rec s1 n1) (s1.1,s1.2.2.2.1)))))
def Eg (rec : (List Int) → Int → Int → Int → Option (List Int)) (p0 : List Int) (p1 : Int) (p2 : Int) (p3 : Int) : Option (List Int) := (whileO (Hg rec) Ea (p0,p1,p2,p3,true,true))
def Bi : Nat → (List Int) → Int → Int → Int → Option (List Int)
 | 0,_,_,_,_ => none
 | n + 1,p0,p1,p2,p3 => Eg (Bi n) p0 p1 p2 p3
def Ib (p0 : List Int) (p1 : Int) (p2 : Int) (p3 : Int) : Option (List Int) := Bi Ea p0 p1 p2 p3
def Fm (p0 : List Int) : Option (List Int) := (Option.bind (Nv (IntKind.u64.wrap ((p0.length : Nat) : Int))) fun r1 => (Option.bind (Ib p0 0 ((p0.length : Nat) : Int) r1) fun r2 => (if p0.length = r2.length then (some r2) else none)))
def Kn (n4 : ((List Int) × Int) → Option (Nat × (List Int))) (y9 : (List Int) × Int) : Option (Nat × (List Int)) := (n4 (y9.1,y9.2))
def Oa (p0 : List Int) (k1 : Int) (k4 : Int) (s4 : (List Int) × Int) (n4 : ((List Int) × Int) → Option (Nat × (List Int))) : Option (Nat × (List Int)) := (if 0 ≤ k4 ∧ k4 < (((Cc p0.length (Int.toNat k1)) : Nat) : Int) then (if (Sw (Int.toNat k1) (Int.toNat k4)) < s4.1.length then (if 0 ≤ (w64 (k4 - 1)) ∧ (w64 (k4 - 1)) < (((Cc p0.length (Int.toNat k1)) : Nat) : Int) then (if (Sw (Int.toNat k1) (Int.toNat (w64 (k4 - 1)))) < s4.1.length then (if ((s4.1.getD (Sw (Int.toNat k1) (Int.toNat k4)) 0) != (s4.1.getD (Sw (Int.toNat k1) (Int.toNat (w64 (k4 - 1)))) 0)) then (if 0 ≤ k4 ∧ k4 < (((Cc p0.length (Int.toNat k1)) : Nat) : Int) then (if (Sw (Int.toNat k1) (Int.toNat k4)) < s4.1.length then (if 0 ≤ s4.2 ∧ s4.2 < ((s4.1.length : Nat) : Int) then (if (Int.toNat s4.2) < s4.1.length then ((Kn n4) ((s4.1.set (Int.toNat s4.2) (s4.1.getD (Sw (Int.toNat k1) (Int.toNat k4)) 0)),(w64 (s4.2 + 1)))) else none) else none) else none) else none) else ((Kn n4) (s4.1,s4.2))) else none) else none) else none) else none)
def Of (s4 : (List Int) × Int) : Option (Nat × (List Int)) := (if 0 ≤ s4.2 ∧ s4.2 ≤ ((s4.1.length : Nat) : Int) then (if (Int.toNat s4.2) + (Cc s4.1.length (Int.toNat s4.2)) ≤ s4.1.length then (if 0 ≤ s4.2 ∧ s4.2 ≤ (((Lw s4.1 (Int.toNat s4.2) (Cc s4.1.length (Int.toNat s4.2)) 0).length : Nat) : Int) then (some ((Int.toNat s4.2),(Lw s4.1 (Int.toNat s4.2) (Cc s4.1.length (Int.toNat s4.2)) 0))) else none) else none) else none)
def Kl (p0 : List Int) (k1 : Int) (s1 : Unit) (n1 : Unit → Option (Nat × (List Int))) : Option (Nat × (List Int)) := (if 0 ≤ k1 ∧ k1 < ((p0.length : Nat) : Int) then (if (Int.toNat k1) < p0.length then (if 0 ≤ (w64 (k1 - 1)) ∧ (w64 (k1 - 1)) < ((p0.length : Nat) : Int) then (if (Int.toNat (w64 (k1 - 1))) < p0.length then (if ((p0.getD (Int.toNat k1) 0) == (p0.getD (Int.toNat (w64 (k1 - 1))) 0)) then (if 0 ≤ k1 ∧ k1 ≤ ((p0.length : Nat) : Int) then (if (((Cc p0.length (Int.toNat k1)) : Nat) : Int) ≤ 9223372036854775807 then (forO (Oa p0 k1) Of (Int.toNat ((((Cc p0.length (Int.toNat k1)) : Nat) : Int) - 1)) 1 (p0,k1)) else none) else none) else (n1 ())) else none) else none) else none) else none)
def Sz (p0 : List Int) (s1 : Unit) : Option (Nat × (List Int)) := (some (p0.length,p0))
def Dq (p0 : List Int) : Option (Nat × (List Int)) := (if (decide (((p0.length : Nat) : Int) < 2)) then (some (p0.length,p0)) else (if p0.length ≤ 9223372036854775807 then (forO (Kl p0) (Sz p0) (Int.toNat (((p0.length : Nat) : Int) - 1)) 1 ()) else none))
def Dg (n1 : (List Int) → Option (List Int)) (y3 : List Int) : Option (List Int) := (n1 y3)
def Ha (p1c0 : Int) (k1 : Nat) (x1 : Aj) (s1 : List Int) (n1 : (List Int) → Option (List Int)) : Option (List Int) := (Option.bind (Qi x1 p1c0) fun r23 => (if r23 then (Option.bind (Xc x1) fun r25 => (if s1.length + 1 ≤ 1073741824 then ((Dg n1) (s1 ++ [r25])) else none)) else ((Dg n1) s1)))
def Ew (s1 : List Int) : Option (List Int) := (Option.bind (Fm s1) fun r27 => (if s1.length = r27.length then (Option.bind (Dq r27) fun r29 => (if r27.length = r29.2.length then (if r29.1 ≤ r29.2.length then (some (r29.2.take r29.1)) else none) else none)) else none))
def Fi (p0 : Aa) (p1c0 : Int) : Option (List Int) := (if p0.tasks.length ≤ 9223372036854775807 then Be (Ha p1c0) Ew p0.tasks 0 [] else none)
def Pz (p0 : Aa) (p1 : Int) : Option (List Int) := (Option.bind (Fi p0 p1) fun r1 => (some r1))
def Iz (p0 : Aa) (p1 : Int) : Option (List Int) := (Option.bind (Ff p0) fun r1 => (Option.bind (Pz r1 p1) fun r2 => (some r2)))
def So (p0 : Aj) (p1 : Int) : Option Bool := (some (p0.group == p1))
def Ds (n1 : (List Int) → Option (List Int)) (y3 : List Int) : Option (List Int) := (n1 y3)
def Hj (p1c0 : Int) (k1 : Nat) (x1 : Aj) (s1 : List Int) (n1 : (List Int) → Option (List Int)) : Option (List Int) := (Option.bind (So x1 p1c0) fun r23 => (if r23 then (Option.bind (Xc x1) fun r25 => (if s1.length + 1 ≤ 1073741824 then ((Ds n1) (s1 ++ [r25])) else none)) else ((Ds n1) s1)))
def Fk (s1 : List Int) : Option (List Int) := (Option.bind (Fm s1) fun r27 => (if s1.length = r27.length then (Option.bind (Dq r27) fun r29 => (if r27.length = r29.2.length then (if r29.1 ≤ r29.2.length then (some (r29.2.take r29.1)) else none) else none)) else none))
def Gd (p0 : Aa) (p1c0 : Int) : Option (List Int) := (if p0.tasks.length ≤ 9223372036854775807 then Be (Hj p1c0) Fk p0.tasks 0 [] else none)
def Su (p0 : Aa) (p1 : Int) : Option (List Int) := (Option.bind (Gd p0 p1) fun r1 => (some r1))
def Ls (p0 : Aa) (p1 : Int) : Option (List Int) := (Option.bind (Ff p0) fun r1 => (Option.bind (Su r1 p1) fun r2 => (some r2)))
def Mt (p0 : Aa) (p1 : Int) : Option (Aj × Bool) := (Option.bind (Ff p0) fun r1 => (Option.bind (Qg r1 p1) fun r2 => (some (r2.1,r2.2))))
def Mv (p0 : Al) : Option (ByteArray × Al) := (Option.bind (Ax p0 12) fun r3 => (if 0 ≤ r3.1 ∧ r3.1 < (([(bs [97]),(bs [98]),(bs [99]),(bs [119,101,98]),(bs [100,98,45,49]),(bs [88,95,57]),ByteArray.empty,(bs [45,97]),(bs [97,47,98]),(bs [195,169]),(bs [97,97,97,97,97,97,97,97,97,97,97,97,97,97,97,97,97,97,97,97,97,97,97,97,97,97,97,97,97,97,97,97]),(bs [97,97,97,97,97,97,97,97,97,97,97,97,97,97,97,97,97,97,97,97,97,97,97,97,97,97,97,97,97,97,97,97,97])].length : Nat) : Int) then (if (Int.toNat r3.1) < [(bs [97]),(bs [98]),(bs [99]),(bs [119,101,98]),(bs [100,98,45,49]),(bs [88,95,57]),ByteArray.empty,(bs [45,97]),(bs [97,47,98]),(bs [195,169]),(bs [97,97,97,97,97,97,97,97,97,97,97,97,97,97,97,97,97,97,97,97,97,97,97,97,97,97,97,97,97,97,97,97]),(bs [97,97,97,97,97,97,97,97,97,97,97,97,97,97,97,97,97,97,97,97,97,97,97,97,97,97,97,97,97,97,97,97,97])].length then (some (([(bs [97]),(bs [98]),(bs [99]),(bs [119,101,98]),(bs [100,98,45,49]),(bs [88,95,57]),ByteArray.empty,(bs [45,97]),(bs [97,47,98]),(bs [195,169]),(bs [97,97,97,97,97,97,97,97,97,97,97,97,97,97,97,97,97,97,97,97,97,97,97,97,97,97,97,97,97,97,97,97]),(bs [97,97,97,97,97,97,97,97,97,97,97,97,97,97,97,97,97,97,97,97,97,97,97,97,97,97,97,97,97,97,97,97,97])].getD (Int.toNat r3.1) ByteArray.empty),r3.2)) else none) else none))
def Lc (p0 : Al) : Option (Int × Al) := (Option.bind (Ax p0 8) fun r3 => (if 0 ≤ r3.1 ∧ r3.1 < (([0,1,2,1,7,(-1),1048576,1048577].length : Nat) : Int) then (if (Int.toNat r3.1) < [0,1,2,1,7,(-1),1048576,1048577].length then (some (([0,1,2,1,7,(-1),1048576,1048577].getD (Int.toNat r3.1) 0),r3.2)) else none) else none))
def Bx (y1 : Al × Int × Int × (List Af)) (y2 : Al × (List Aj)) : Option (Aa × Al) := (some (({ tree := ({ nodes := y1.2.2.2,next := y1.2.1 } : Ae),tasks := y2.2,next := y1.2.2.1 } : Aa),y2.1))
def Bf (r1 : Aa) (y1 : Al × Int × Int × (List Af)) : Option (Aa × Al) := (if (decide (((r1.tasks.length : Nat) : Int) > 0)) then (Option.bind (Ax y1.1 ((r1.tasks.length : Nat) : Int)) fun r31 => (if 0 ≤ r31.1 ∧ r31.1 < ((r1.tasks.length : Nat) : Int) then (Option.bind (Ax r31.2 8) fun r33 => (if (r33.1 == 0) then (Option.bind (Ax r33.2 9) fun r35 => (if (Int.toNat r31.1) < r1.tasks.length then ((Bx y1) (r35.2,(r1.tasks.set (Int.toNat r31.1) ({ id := r35.1,process := (r1.tasks.getD (Int.toNat r31.1) (default : Aj)).process,group := (r1.tasks.getD (Int.toNat r31.1) (default : Aj)).group,user := (r1.tasks.getD (Int.toNat r31.1) (default : Aj)).user } : Aj)))) else none)) else (if (r33.1 == 1) then (Option.bind (Ax r33.2 9) fun r38 => (if (Int.toNat r31.1) < r1.tasks.length then ((Bx y1) (r38.2,(r1.tasks.set (Int.toNat r31.1) ({ id := (r1.tasks.getD (Int.toNat r31.1) (default : Aj)).id,process := r38.1,group := (r1.tasks.getD (Int.toNat r31.1) (default : Aj)).group,user := (r1.tasks.getD (Int.toNat r31.1) (default : Aj)).user } : Aj)))) else none)) else (if (r33.1 == 2) then (Option.bind (Ax r33.2 9) fun r41 => (if (Int.toNat r31.1) < r1.tasks.length then ((Bx y1) (r41.2,(r1.tasks.set (Int.toNat r31.1) ({ id := (r1.tasks.getD (Int.toNat r31.1) (default : Aj)).id,process := (r1.tasks.getD (Int.toNat r31.1) (default : Aj)).process,group := r41.1,user := (r1.tasks.getD (Int.toNat r31.1) (default : Aj)).user } : Aj)))) else none)) else (if (r33.1 == 3) then (Option.bind (Lc r33.2) fun r44 => (if (Int.toNat r31.1) < r1.tasks.length then ((Bx y1) (r44.2,(r1.tasks.set (Int.toNat r31.1) ({ id := (r1.tasks.getD (Int.toNat r31.1) (default : Aj)).id,process := (r1.tasks.getD (Int.toNat r31.1) (default : Aj)).process,group := (r1.tasks.getD (Int.toNat r31.1) (default : Aj)).group,user := r44.1 } : Aj)))) else none)) else ((Bx y1) (r33.2,r1.tasks))))))) else none)) else ((Bx y1) (y1.1,r1.tasks)))
def Eu (p0 : Al) (p1 : Aa) : Option (Aa × Al) := (Option.bind (Mi p1) fun r1 => (Option.bind (Ax p0 ((r1.tree.nodes.length : Nat) : Int)) fun r2 => (if 0 ≤ r2.1 ∧ r2.1 < ((r1.tree.nodes.length : Nat) : Int) then (Option.bind (Ax r2.2 12) fun r4 => (if (r4.1 == 0) then (Option.bind (Ax r4.2 9) fun r6 => (if (Int.toNat r2.1) < r1.tree.nodes.length then ((Bf r1) (r6.2,r1.tree.next,r1.next,(r1.tree.nodes.set (Int.toNat r2.1) ({ id := r6.1,parent := (r1.tree.nodes.getD (Int.toNat r2.1) (default : Af)).parent,name := (r1.tree.nodes.getD (Int.toNat r2.1) (default : Af)).name,control := (r1.tree.nodes.getD (Int.toNat r2.1) (default : Af)).control,kind := (r1.tree.nodes.getD (Int.toNat r2.1) (default : Af)).kind,owner := (r1.tree.nodes.getD (Int.toNat r2.1) (default : Af)).owner } : Af)))) else none)) else (if (r4.1 == 1) then (Option.bind (Ax r4.2 9) fun r9 => (if (Int.toNat r2.1) < r1.tree.nodes.length then ((Bf r1) (r9.2,r1.tree.next,r1.next,(r1.tree.nodes.set (Int.toNat r2.1) ({ id := (r1.tree.nodes.getD (Int.toNat r2.1) (default : Af)).id,parent := r9.1,name := (r1.tree.nodes.getD (Int.toNat r2.1) (default : Af)).name,control := (r1.tree.nodes.getD (Int.toNat r2.1) (default : Af)).control,kind := (r1.tree.nodes.getD (Int.toNat r2.1) (default : Af)).kind,owner := (r1.tree.nodes.getD (Int.toNat r2.1) (default : Af)).owner } : Af)))) else none)) else (if (r4.1 == 2) then (Option.bind (Mv r4.2) fun r12 => (if (Int.toNat r2.1) < r1.tree.nodes.length then ((Bf r1) (r12.2,r1.tree.next,r1.next,(r1.tree.nodes.set (Int.toNat r2.1) ({ id := (r1.tree.nodes.getD (Int.toNat r2.1) (default : Af)).id,parent := (r1.tree.nodes.getD (Int.toNat r2.1) (default : Af)).parent,name := r12.1,control := (r1.tree.nodes.getD (Int.toNat r2.1) (default : Af)).control,kind := (r1.tree.nodes.getD (Int.toNat r2.1) (default : Af)).kind,owner := (r1.tree.nodes.getD (Int.toNat r2.1) (default : Af)).owner } : Af)))) else none)) else (if (r4.1 == 3) then (Option.bind (Gp r4.2) fun r15 => (if (Int.toNat r2.1) < r1.tree.nodes.length then ((Bf r1) (r15.2,r1.tree.next,r1.next,(r1.tree.nodes.set (Int.toNat r2.1) ({ id := (r1.tree.nodes.getD (Int.toNat r2.1) (default : Af)).id,parent := (r1.tree.nodes.getD (Int.toNat r2.1) (default : Af)).parent,name := (r1.tree.nodes.getD (Int.toNat r2.1) (default : Af)).name,control := r15.1,kind := (r1.tree.nodes.getD (Int.toNat r2.1) (default : Af)).kind,owner := (r1.tree.nodes.getD (Int.toNat r2.1) (default : Af)).owner } : Af)))) else none)) else (if (r4.1 == 4) then (Option.bind (Ax r4.2 4) fun r18 => (if (Int.toNat r2.1) < r1.tree.nodes.length then ((Bf r1) (r18.2,r1.tree.next,r1.next,(r1.tree.nodes.set (Int.toNat r2.1) ({ id := (r1.tree.nodes.getD (Int.toNat r2.1) (default : Af)).id,parent := (r1.tree.nodes.getD (Int.toNat r2.1) (default : Af)).parent,name := (r1.tree.nodes.getD (Int.toNat r2.1) (default : Af)).name,control := (r1.tree.nodes.getD (Int.toNat r2.1) (default : Af)).control,kind := (w64 (r18.1 - 1)),owner := (r1.tree.nodes.getD (Int.toNat r2.1) (default : Af)).owner } : Af)))) else none)) else (if (r4.1 == 5) then (Option.bind (Lc r4.2) fun r21 => (if (Int.toNat r2.1) < r1.tree.nodes.length then ((Bf r1) (r21.2,r1.tree.next,r1.next,(r1.tree.nodes.set (Int.toNat r2.1) ({ id := (r1.tree.nodes.getD (Int.toNat r2.1) (default : Af)).id,parent := (r1.tree.nodes.getD (Int.toNat r2.1) (default : Af)).parent,name := (r1.tree.nodes.getD (Int.toNat r2.1) (default : Af)).name,control := (r1.tree.nodes.getD (Int.toNat r2.1) (default : Af)).control,kind := (r1.tree.nodes.getD (Int.toNat r2.1) (default : Af)).kind,owner := r21.1 } : Af)))) else none)) else (if (r4.1 == 6) then (Option.bind (Ax r4.2 9) fun r24 => ((Bf r1) (r24.2,r24.1,r1.next,r1.tree.nodes))) else (if (r4.1 == 7) then (Option.bind (Ax r4.2 9) fun r26 => ((Bf r1) (r26.2,r1.tree.next,r26.1,r1.tree.nodes))) else (if (r4.1 == 8) then (if (Int.toNat r2.1) < r1.tree.nodes.length then (if r1.tree.nodes.length + 1 ≤ 1073741824 then ((Bf r1) (r4.2,r1.tree.next,r1.next,(r1.tree.nodes ++ [(r1.tree.nodes.getD (Int.toNat r2.1) (default : Af))]))) else none) else none) else ((Bf r1) (r4.2,r1.tree.next,r1.next,r1.tree.nodes)))))))))))) else none)))
def Aas (p1 : List Int) (k1 : Nat) (x1 : Int) (s1 : Unit) (n1 : Unit → Option Bool) : Option Bool := (if k1 < p1.length then (if (x1 != (p1.getD k1 0)) then (some false) else (n1 ())) else none)
def AdC (s1 : Unit) : Option Bool := (some true)
def Po (p0 : List Int) (p1 : List Int) : Option Bool := (if (((p0.length : Nat) : Int) != ((p1.length : Nat) : Int)) then (some false) else (if p0.length ≤ 9223372036854775807 then Be (Aas p1) AdC p0 0 () else none))
def Mp (p0 : Aj) (p1 : Int) : Option Bool := (some (p0.group == p1))
def Md (p0 : Aj) : Option Int := (some p0.process)
def Ca (n1 : (List Int) → Option (List Int)) (y3 : List Int) : Option (List Int) := (n1 y3)
def Dp (p1c0 : Int) (k1 : Nat) (x1 : Aj) (s1 : List Int) (n1 : (List Int) → Option (List Int)) : Option (List Int) := (Option.bind (Mp x1 p1c0) fun r23 => (if r23 then (Option.bind (Md x1) fun r25 => (if s1.length + 1 ≤ 1073741824 then ((Ca n1) (s1 ++ [r25])) else none)) else ((Ca n1) s1)))
def Bp (s1 : List Int) : Option (List Int) := (Option.bind (Fm s1) fun r27 => (if s1.length = r27.length then (Option.bind (Dq r27) fun r29 => (if r27.length = r29.2.length then (if r29.1 ≤ r29.2.length then (some (r29.2.take r29.1)) else none) else none)) else none))
def Cb (p0 : Aa) (p1c0 : Int) : Option (List Int) := (if p0.tasks.length ≤ 9223372036854775807 then Be (Dp p1c0) Bp p0.tasks 0 [] else none)
def Ht (p0 : Aa) (p1 : Int) : Option (List Int) := (Option.bind (Ff p0) fun r1 => (Option.bind (Cb r1 p1) fun r2 => (some r2)))
def Nk (n1 : (List Int) → Option (List Int)) (y11 : List Int) : Option (List Int) := (n1 y11)
def Lb (x1 : Int) (s1 : List Int) (n1 : (List Int) → Option (List Int)) (s4 : Int) (y15 : Bool) : Option (List Int) := (if y15 then ((Nk n1) s1) else (if s1.length + 1 ≤ 1073741824 then (if 0 ≤ (w64 (s4 + 1)) ∧ (w64 (s4 + 1)) ≤ (((s1 ++ [0]).length : Nat) : Int) then (if 0 ≤ s4 ∧ s4 ≤ (((s1 ++ [0]).length : Nat) : Int) then (if (Int.toNat (w64 (s4 + 1))) + (Cc (s1 ++ [0]).length (Int.toNat (w64 (s4 + 1)))) ≤ (s1 ++ [0]).length then (if 0 ≤ s4 ∧ s4 < (((Ml (s1 ++ [0]) (Int.toNat (w64 (s4 + 1))) (Gn (Cc (s1 ++ [0]).length (Int.toNat s4)) (Cc (s1 ++ [0]).length (Int.toNat (w64 (s4 + 1))))) (((s1 ++ [0]).drop (Int.toNat s4)).take (Cc (s1 ++ [0]).length (Int.toNat s4)))).length : Nat) : Int) then (if (Int.toNat s4) < (Ml (s1 ++ [0]) (Int.toNat (w64 (s4 + 1))) (Gn (Cc (s1 ++ [0]).length (Int.toNat s4)) (Cc (s1 ++ [0]).length (Int.toNat (w64 (s4 + 1))))) (((s1 ++ [0]).drop (Int.toNat s4)).take (Cc (s1 ++ [0]).length (Int.toNat s4)))).length then ((Nk n1) ((Ml (s1 ++ [0]) (Int.toNat (w64 (s4 + 1))) (Gn (Cc (s1 ++ [0]).length (Int.toNat s4)) (Cc (s1 ++ [0]).length (Int.toNat (w64 (s4 + 1))))) (((s1 ++ [0]).drop (Int.toNat s4)).take (Cc (s1 ++ [0]).length (Int.toNat s4)))).set (Int.toNat s4) x1)) else none) else none) else none) else none) else none) else none))
def La (x1 : Int) (s1 : List Int) (n1 : (List Int) → Option (List Int)) (s4 : Int) (n4 : Int → Option (List Int)) (y14 : Bool) : Option (List Int) := (if y14 then (n4 (w64 (s4 - 1))) else (if (decide (s4 > 0)) then (if 0 ≤ (w64 (s4 - 1)) ∧ (w64 (s4 - 1)) < ((s1.length : Nat) : Int) then (if (Int.toNat (w64 (s4 - 1))) < s1.length then ((Lb x1 s1 n1 s4) ((s1.getD (Int.toNat (w64 (s4 - 1))) 0) == x1)) else none) else none) else ((Lb x1 s1 n1 s4) false)))
def Rt (x1 : Int) (s1 : List Int) (n1 : (List Int) → Option (List Int)) (s4 : Int) (n4 : Int → Option (List Int)) : Option (List Int) := (if (decide (s4 > 0)) then (if 0 ≤ (w64 (s4 - 1)) ∧ (w64 (s4 - 1)) < ((s1.length : Nat) : Int) then (if (Int.toNat (w64 (s4 - 1))) < s1.length then ((La x1 s1 n1 s4 n4) (decide (x1 < (s1.getD (Int.toNat (w64 (s4 - 1))) 0)))) else none) else none) else ((La x1 s1 n1 s4 n4) false))
def Vu (k1 : Nat) (x1 : Int) (s1 : List Int) (n1 : (List Int) → Option (List Int)) : Option (List Int) := (whileO (Rt x1 s1 n1) Ea ((s1.length : Nat) : Int))
def AbE (s1 : List Int) : Option (List Int) := (some s1)
def Kt (p0 : List Int) : Option (List Int) := (if p0.length ≤ 9223372036854775807 then Be Vu AbE p0 0 [] else none)
def Rw (p0 : Aa) (k1 : Nat) (x1 : Int) (s1 : List Int) (n1 : (List Int) → Option (List Int)) : Option (List Int) := (Option.bind (Gt p0 x1) fun r15 => (if s1.length + 1 ≤ 1073741824 then (n1 (s1 ++ [r15.1.process])) else none))
def Ll (s1 : List Int) : Option (List Int) := (Option.bind (Kt s1) fun r18 => (some r18))
def Ja (p0 : Aa) (p1 : Int) : Option (List Int) := (Option.bind (Hc p0 p1) fun r1 => (if r1.length ≤ 9223372036854775807 then Be (Rw p0) Ll r1 0 [] else none))
def My (n1 : (List Int) → Option (List Int)) (y3 : List Int) : Option (List Int) := (n1 y3)
def Tu (p1 : Int) (k1 : Nat) (x1 : Aj) (s1 : List Int) (n1 : (List Int) → Option (List Int)) : Option (List Int) := (if (x1.process == p1) then (if s1.length + 1 ≤ 1073741824 then ((My n1) (s1 ++ [x1.id])) else none) else ((My n1) s1))
def AaL (s1 : List Int) : Option (List Int) := (some s1)
def Lo (p0 : Aa) (p1 : Int) : Option (List Int) := (Option.bind (Em p0) fun r1 => (if (!r1) then (some []) else (if p0.tasks.length ≤ 9223372036854775807 then Be (Tu p1) AaL p0.tasks 0 [] else none)))
def Jv (p0 : Aa) (p1 : Int) : Option Int := (Option.bind (Ff p0) fun r1 => (Option.bind (Ql r1 p1) fun r2 => (some r2)))
def Hq (p0 : Aa) (p1 : Int) : Option Bool := (Option.bind (Jv p0 p1) fun r1 => (some (decide (r1 > 0))))
def Je (p0 : Aa) (p1 : Int) : Option Bool := (Option.bind (Mg p0 p1) fun r1 => (some (decide (r1 > 0))))
def Aaz (p1 : Ae) (k1 : Nat) (x1 : Af) (s1 : Unit) (n1 : Unit → Option Bool) : Option Bool := (if k1 < p1.nodes.length then (if (!(AeV x1 (p1.nodes.getD k1 (default : Af)))) then (some false) else (n1 ())) else none)
def AdB (s1 : Unit) : Option Bool := (some true)
def Vb (p0 : Ae) (p1 : Ae) : Option Bool := (if ((((p0.nodes.length : Nat) : Int) != ((p1.nodes.length : Nat) : Int)) || (p0.next != p1.next)) then (some false) else (if p0.nodes.length ≤ 9223372036854775807 then Be (Aaz p1) AdB p0.nodes 0 () else none))
def Aac (p1 : Aa) (k1 : Nat) (x1 : Aj) (s1 : Unit) (n1 : Unit → Option Bool) : Option Bool := (if k1 < p1.tasks.length then (if (!(AaP x1 (p1.tasks.getD k1 (default : Aj)))) then (some false) else (n1 ())) else none)
def Ady (s1 : Unit) : Option Bool := (some true)
def Ou (p0 : Aa) (p1 : Aa) (y1 : Bool) : Option Bool := (if y1 then (some false) else (if p0.tasks.length ≤ 9223372036854775807 then Be (Aac p1) Ady p0.tasks 0 () else none))
def Vc (p0 : Aa) (p1 : Aa) : Option Bool := (Option.bind (Vb p0.tree p1.tree) fun r1 => (if (!r1) then ((Ou p0 p1) true) else (if (((p0.tasks.length : Nat) : Int) != ((p1.tasks.length : Nat) : Int)) then ((Ou p0 p1) true) else ((Ou p0 p1) (p0.next != p1.next)))))
def Di (n4 : Unit → Option Bool) (y12 : Bool) : Option Bool := (if y12 then (some false) else (n4 ()))
def Js (x1 : Aa) (k4 : Nat) (x4 : Int) (s4 : Unit) (n4 : Unit → Option Bool) : Option Bool := (Option.bind (Mt x1 x4) fun r239 => (Option.bind (Gt x1 x4) fun r240 => (if (!(AaP r239.1 r240.1)) then ((Di n4) true) else (if (r239.2 != r240.2) then ((Di n4) true) else (Option.bind (Ls x1 x4) fun r243 => (Option.bind (Hc x1 x4) fun r244 => (Option.bind (Po r243 r244) fun r245 => (if (!r245) then ((Di n4) true) else (Option.bind (Ht x1 x4) fun r247 => (Option.bind (Ja x1 x4) fun r248 => (Option.bind (Po r247 r248) fun r249 => (if (!r249) then ((Di n4) true) else (Option.bind (Iz x1 x4) fun r251 => (Option.bind (Lo x1 x4) fun r252 => (Option.bind (Po r251 r252) fun r253 => (if (!r253) then ((Di n4) true) else (Option.bind (Jv x1 x4) fun r255 => (Option.bind (Mg x1 x4) fun r256 => (if (r255 != r256) then ((Di n4) true) else (Option.bind (Hq x1 x4) fun r258 => (Option.bind (Je x1 x4) fun r259 => ((Di n4) (r258 != r259)))))))))))))))))))))))
def Uv (n1 : Al → Option Bool) (r187 : Int × Al) (s4 : Unit) : Option Bool := (n1 r187.2)
def Pl (p2 : Int) (k1 : Nat) (x1 : Aa) (s1 : Al) (n1 : Al → Option Bool) : Option Bool := (Option.bind (Ga x1) fun r183 => (Option.bind (Em x1) fun r184 => (if (r183 != r184) then (some false) else (Option.bind (Hh s1 x1.tree) fun r186 => (Option.bind (Hz r186.2 x1) fun r187 => (if [p2,r186.1,r187.1,1].length ≤ 9223372036854775807 then Be (Js x1) (Uv n1 r187) [p2,r186.1,r187.1,1] 0 () else none))))))
def Lu (y13 : Bool) : Option Bool := (some y13)
def Pt (s1 : Al) : Option Bool := (Option.bind Sg fun r261 => (Option.bind Yl fun r262 => (Option.bind (Vc r261 r262) fun r263 => (if r263 then (Option.bind Sa fun r265 => (Lu r265)) else (Lu false)))))
def Fs (p0 : List Int) (p1 : Aa) (p2 : Int) (y1 : Bool) : Option Bool := (if y1 then (Option.bind Sa fun r5 => (some r5)) else (Option.bind (AcH p0) fun r6 => (Option.bind (It r6 6 8) fun r7 => (Option.bind (Eu r7.2 r7.1) fun r9 => (if [r7.1,r9.1,p1].length ≤ 9223372036854775807 then Be (Pl p2) Pt [r7.1,r9.1,p1] 0 r9.2 else none)))))
def Lj (p0 : List Int) (p1 : Aa) (p2 : Int) : Option Bool := (Option.bind (Wt p0) fun r1 => (if (!r1) then ((Fs p0 p1 p2) true) else (if (decide (((p1.tasks.length : Nat) : Int) > 130)) then ((Fs p0 p1 p2) true) else ((Fs p0 p1 p2) (decide (((p1.tree.nodes.length : Nat) : Int) > 70))))))
end Go.Dm

/- Plain theory, part 1: models that return, loops. -/
namespace Go.Dm
def Ok {α : Type} (m : Option α) (Q : α → Prop) : Prop := ∃ a,m = some a ∧ Q a
section
variable {α β γ σ : Type} {Q : β → Prop}
theorem Ok.ret {b : β} (h : Q b) : Ok (some b) Q := ⟨b,rfl,h⟩
theorem Ok.bind {m : Option α} {f : α → Option β} {P : α → Prop} (h : Ok m P) (k : ∀ a,P a → Ok (f a) Q) : Ok (Option.bind m f) Q := by
 obtain ⟨a,rfl,ha⟩ := h
 exact k a ha
theorem Ok.step {m : Option α} {f : α → Option β} {a : α} (h : m = some a) (k : Ok (f a) Q) : Ok (Option.bind m f) Q := by
 subst h
 exact k
theorem Ok.eq {m : Option β} {b : β} (h : Ok m (· = b)) : m = some b := by
 obtain ⟨a,rfl,rfl⟩ := h
 rfl
theorem Ok.of_eq {m : Option β} {b : β} (h : m = some b) (hb : Q b) : Ok m Q := ⟨b,h,hb⟩
theorem Ok.mono {m : Option β} {P : β → Prop} (h : Ok m P) (k : ∀ b,P b → Q b) : Ok m Q := by
 obtain ⟨a,rfl,ha⟩ := h
 exact ⟨a,rfl,k a ha⟩
theorem Ok.guard {c : Prop} [Decidable c] {t : Option β} (hc : c) (h : Ok t Q) : Ok (if c then t else none) Q := by
 rw [if_pos hc]
 exact h
theorem Ok.ite {c : Bool} {t e : Option β} (ht : c = true → Ok t Q) (he : c = false → Ok e Q) : Ok (if c then t else e) Q := by
 cases c
 ·exact he rfl
 ·exact ht rfl
theorem Ok.range {body : Nat → α → σ → (σ → Option β) → Option β} {done : σ → Option β} {xs : List α} {s0 : σ} (I : List α → σ → Prop) (h0 : I [] s0)
  (step : ∀ pre x post s n,xs = pre ++ x :: post → I pre s → (∀ s',I (pre ++ [x]) s' → Ok (n s') Q) → Ok (body pre.length x s n) Q)
  (fin : ∀ s,I xs s → Ok (done s) Q) : Ok (Be body done xs 0 s0) Q := by
 have key : ∀ (post pre : List α) (s : σ),xs = pre ++ post → I pre s → Ok (Be body done post pre.length s) Q := by
  intro post
  induction post with
  | nil =>
   intro pre s he hi
   have : xs = pre := by simpa using he
   subst this
   exact fin s hi
  | cons x post ih =>
   intro pre s he hi
   refine step pre x post s _ he hi fun s' hi' => ?_
   have := ih (pre ++ [x]) s' (by simpa using he) hi'
   simpa using this
 exact key xs [] s0 rfl h0
theorem Ok.for {body : Int → σ → (σ → Option β) → Option β} {done : σ → Option β} {m : Nat} {a : Int} {s0 : σ} (I : Nat → σ → Prop) (h0 : I 0 s0)
  (step : ∀ (j : Nat) s n,j < m → I j s → (∀ s',I (j + 1) s' → Ok (n s') Q) → Ok (body (a + j) s n) Q)
  (fin : ∀ s,I m s → Ok (done s) Q) : Ok (forO body done m a s0) Q := by
 have key : ∀ (r j : Nat) (s : σ),j + r = m → I j s → Ok (forO body done r (a + j) s) Q := by
  intro r
  induction r with
  | zero =>
   intro j s he hi
   obtain rfl : j = m := by omega
   exact fin s hi
  | succ r ih =>
   intro j s he hi
   refine step j s _ (by omega) hi fun s' hi' => ?_
   have := ih (j + 1) s' (by omega) hi'
   have e : a + (j : Int) + 1 = a + ((j + 1 : Nat) : Int) := by omega
   rw [e]
   exact this
 have := key m 0 s0 (by omega) h0
 simpa using this
theorem Ok.while {body : σ → (σ → Option β) → Option β} {s0 : σ} (I : σ → Prop) (mu : σ → Nat) (h0 : I s0) (hf : mu s0 < Ea)
  (step : ∀ s n,I s → (∀ s',I s' → mu s' < mu s → Ok (n s') Q) → Ok (body s n) Q) : Ok (whileO body Ea s0) Q := by
 have key : ∀ (f : Nat) (s : σ),I s → mu s < f → Ok (whileO body f s) Q := by
  intro f
  induction f with
  | zero => intro s _ h; omega
  | succ f ih =>
   intro s hi hm
   exact step s _ hi fun s' hi' hm' => ih s' hi' (by omega)
 exact key Ea s0 h0 hf
end
theorem Cs : Ea = 1099511627776 := rfl
theorem At {n : Int} (h1 : -9223372036854775808 ≤ n) (h2 : n ≤ 9223372036854775807) : w64 n = n := Zw h1 h2
theorem Im {α : Type} {l : List α} {i : Nat} {d : α} (h : i < l.length) : l.getD i d = l[i] := by
 simp [List.getD_eq_getElem?_getD,h]
theorem Tx {α : Type} {l : List α} {i : Nat} {d : α} (h : i < l.length) : l.getD i d ∈ l := by
 rw [Im h]
 exact List.getElem_mem h
theorem Yp {α : Type} {pre post : List α} {x d : α} : (pre ++ x :: post).getD pre.length d = x := by
 simp [List.getD_eq_getElem?_getD]
theorem AbF {α : Type} {pre post : List α} {x y d : α} : (pre ++ [y] ++ x :: post).getD pre.length d = y := by
 simp [List.getD_eq_getElem?_getD]
theorem Wg {α β : Type} {p : α → Bool} {f : α → β} {z : β} {xs : List α} {body : Nat → α → Unit → (Unit → Option β) → Option β} {done : Unit → Option β}
  (hb : ∀ k x n,body k x () n = if p x then some (f x) else n ()) (hd : done () = some z) : Be body done xs 0 () = some ((xs.find? p).elim z f) := by
 have key : ∀ k,Be body done xs k () = some ((xs.find? p).elim z f) := by
  induction xs with
  | nil => intro k; simp [Be,hd]
  | cons x r ih =>
   intro k
   rw [Be,hb,List.find?_cons]
   cases hp : p x
   ·simpa using ih (k + 1)
   ·simp
 exact key 0
theorem Ho {α β γ : Type} {p : α → Bool} {f : α → γ} {xs : List α} {s0 : List γ} {r : List γ → Option β} {body : Nat → α → List γ → (List γ → Option β) → Option β} {done : List γ → Option β}
  (hb : ∀ k x s n,s.length + 1 ≤ 1073741824 → body k x s n = if p x then n (s ++ [f x]) else n s) (hd : ∀ s,done s = r s) (hl : s0.length + xs.length ≤ 1073741824) : Be body done xs 0 s0 = r (s0 ++ (xs.filter p).map f) := by
 have key : ∀ k s,s.length + xs.length ≤ 1073741824 → Be body done xs k s = r (s ++ (xs.filter p).map f) := by
  clear hl
  induction xs with
  | nil => intro k s _; simp [Be,hd]
  | cons x q ih =>
   intro k s hl
   simp only [List.length_cons] at hl
   rw [Be,hb _ _ _ _ (by omega),List.filter_cons]
   cases hp : p x
   ·simpa using ih (k + 1) s (by omega)
   ·simp only [if_true]
    rw [ih (k + 1) (s ++ [f x]) (by simp; omega)]
    simp
 exact key 0 s0 hl
theorem Adr {α β : Type} {p : α → Bool} {xs : List α} {r : Int → Option β} {body : Nat → α → Int → (Int → Option β) → Option β} {done : Int → Option β}
  (hb : ∀ k x s n,x ∈ xs → body k x s n = if p x then n (w64 (s + 1)) else n s) (hd : ∀ s,done s = r s) (hl : xs.length ≤ 1073741824) : Be body done xs 0 0 = r ((xs.countP p : Nat) : Int) := by
 have key : ∀ (ys : List α) (k c : Nat),(∀ x ∈ ys,x ∈ xs) → c + ys.length ≤ 1073741824 → Be body done ys k (c : Int) = r ((c + ys.countP p : Nat) : Int) := by
  intro ys
  induction ys with
  | nil => intro k c _ _; simp [Be,hd]
  | cons x q ih =>
   intro k c hx hl
   simp only [List.length_cons] at hl
   rw [Be,hb _ _ _ _ (hx x (by simp)),List.countP_cons]
   cases hp : p x
   ·simp only [Bool.false_eq_true,if_false]
    rw [ih (k + 1) c (fun y hy => hx y (by simp [hy])) (by omega)]
    simp
   ·simp only [if_true]
    rw [At (by omega) (by omega)]
    have := ih (k + 1) (c + 1) (fun y hy => hx y (by simp [hy])) (by omega)
    rw [show ((c : Int) + 1) = ((c + 1 : Nat) : Int) by omega,this]
    congr 2
    omega
 have := key xs 0 0 (fun _ h => h) (by omega)
 simpa using this
end Go.Dm

/- Plain theory, part 2: names, trees. -/
namespace Go.Dm
def Ng (c : Int) : Bool := (((((decide (c ≥ 97)) && (decide (c ≤ 122))) || ((decide (c ≥ 65)) && (decide (c ≤ 90)))) || ((decide (c ≥ 48)) && (decide (c ≤ 57)))) || (c == 95)) || (c == 45)
def Es (s : ByteArray) : Bool := decide (0 < s.size) && decide (s.size ≤ 32) && (((Bl s 0 : Nat) : Int) != 45) && (Il s).all Ng
theorem AbI (s : ByteArray) : Qn s = some (Es s) := by
 apply Ok.eq
 unfold Qn
 refine Ok.ite (fun h => ?_) fun h => ?_
 ·refine Ok.ret ?_
  have : s.size = 0 := by simpa using h
  simp [Es,this]
 have h0 : 0 < s.size := by
  have : ¬ ((s.size : Nat) : Int) = 0 := by simpa using h
  omega
 refine Ok.ite (fun h => ?_) fun h => ?_
 ·refine Ok.ret ?_
  have : ¬ s.size ≤ 32 := by
   have := of_decide_eq_true h
   omega
  simp [Es,this]
 have h32 : s.size ≤ 32 := by
  have := of_decide_eq_false h
  omega
 refine Ok.guard h0 ?_
 unfold Mx
 refine Ok.ite (fun h => ?_) fun h => ?_
 ·refine Ok.ret ?_
  simp only [Es,bne,h]
  simp
 refine Ok.guard (by omega) ?_
 refine Ok.for (fun j _ => ((Il s).take j).all Ng = true) (by simp) ?_ ?_
 ·intro j _ n hj hi hn
  have hj' : j < s.size := by omega
  unfold Xg
  refine Ok.guard (by omega) ?_
  have e : Int.toNat (0 + (j : Int)) = j := by omega
  rw [e]
  have hb : (Il s)[j]? = some ((Bl s j : Nat) : Int) := by simp [Il,hj']
  refine Ok.ite (fun h => ?_) fun h => ?_
  ·refine Ok.ret ?_
   have hc : Ng ((Bl s j : Nat) : Int) = false := by simpa only [Ng,Bool.not_eq_true'] using h
   have : (Il s).all Ng = false := by
    rw [List.all_eq_false]
    exact ⟨_,List.mem_of_getElem? hb,by simp [hc]⟩
   simp [Es,this]
  ·refine hn () ?_
   have hc : Ng ((Bl s j : Nat) : Int) = true := by simpa only [Ng,Bool.not_eq_false'] using h
   rw [List.take_add_one,List.all_append,hi,hb]
   simp [hc]
 ·intro _ hi
  refine Ok.ret ?_
  have : (Il s).length ≤ Int.toNat (((s.size : Nat) : Int) - 0) := by rw [Oo]; omega
  rw [List.take_of_length_le this] at hi
  simp only [Es,bne,h,hi]
  simp [h0,h32]
theorem AbS (a : ByteArray) : Dx a a = true := by simp [Dx]
def upR : List Af → Int → List Int
 | [],_ => []
 | x :: r,id => if x.id == id then id :: upR r x.parent else upR r id
def upT (t : Ae) (id : Int) : List Int := upR t.nodes.reverse id
theorem Abi (l : List Af) (id : Int) : (upR l id).length ≤ l.length := by
 induction l generalizing id with
 | nil => simp [upR]
 | cons x r ih =>
  rw [upR]
  split
  ·have := ih x.parent
   simp; omega
  ·have := ih id
   simp; omega
theorem Aes (t : Ae) (id : Int) (hl : t.nodes.length ≤ 1000000) : Ww t id = some (upT t id) := by
 apply Ok.eq
 unfold Ww
 rw [At (by omega) (by omega)]
 refine Ok.while (fun s => ∃ m : Nat,s.2.2 = (m : Int) - 1 ∧ m ≤ t.nodes.length ∧ s.1.length + m ≤ t.nodes.length ∧ s.1 ++ upR (t.nodes.take m).reverse s.2.1 = upT t id) (fun s => (s.2.2 + 1).toNat) ?_ ?_ ?_
 ·exact ⟨t.nodes.length,rfl,by omega,by simp,by simp [upT]⟩
 ·rw [Cs]; simp only []; omega
 rintro ⟨o,i,c⟩ n ⟨m,hc,hm,hlen,he⟩ hn
 simp only at hc hlen he hn
 unfold Ace
 simp only
 refine Ok.ite (fun h => ?_) fun h => ?_
 ·have hpos := of_decide_eq_true h
  obtain ⟨q,rfl⟩ : ∃ q,m = q + 1 := ⟨m - 1,by omega⟩
  have hcq : c = (q : Int) := by omega
  subst hcq
  have hq : q < t.nodes.length := by omega
  refine Ok.guard (by omega) ?_
  have et : t.nodes.take (q + 1) = t.nodes.take q ++ [t.nodes.getD q default] := by
   rw [List.take_add_one,Im hq]
   simp [hq]
  rw [et,List.reverse_append,List.reverse_cons,List.reverse_nil,List.nil_append,List.singleton_append,upR] at he
  have eq : Int.toNat (q : Int) = q := by omega
  rw [eq]
  have hw : w64 ((q : Int) - 1) = (q : Int) - 1 := At (by omega) (by omega)
  refine Ok.ite (fun h => ?_) fun h => ?_
  ·refine Ok.guard (by omega) ?_
   refine Ok.guard (by omega) ?_
   unfold Sb
   simp only
   rw [hw]
   rw [if_pos h] at he
   refine hn _ ⟨q,rfl,by omega,by simp; omega,?_⟩ (by simp only; omega)
   simpa using he
  ·unfold Sb
   simp only
   rw [hw]
   rw [if_neg (by rw [h]; simp)] at he
   exact hn _ ⟨q,rfl,by omega,by simp only; omega,he⟩ (by simp only; omega)
 ·have := of_decide_eq_false h
  have : m = 0 := by omega
  subst this
  refine Ok.ret ?_
  simpa [upR] using he
def Jy (pre : List Af) (x : Af) : Bool :=
 (x.kind == 0 || x.kind == 1) && decide (0 ≤ x.control) && decide (x.control ≤ 31) && decide (0 ≤ x.owner) && decide (x.owner ≤ 1048576) &&
 match pre.getLast? with
 | none => x.id == 1 && x.parent == 0 && Dx x.name ByteArray.empty && x.kind == 0
 | some y => decide (y.id < x.id) && Es x.name && pre.any (fun k => k.id == x.parent) && pre.all (fun k => !(k.parent == x.parent && Dx k.name x.name))
theorem AgU (t : Ae) (pre post : List Af) (x : Af) (he : t.nodes = pre ++ x :: post) (hl : t.nodes.length ≤ 1000000) : Vh t (pre.length : Int) = some (Jy pre x) := by
 have hlen : pre.length < t.nodes.length := by rw [he]; simp
 apply Ok.eq
 unfold Vh
 refine Ok.guard (by omega) ?_
 have ex : t.nodes.getD (Int.toNat (pre.length : Int)) default = x := by
  rw [he]
  have : Int.toNat (pre.length : Int) = pre.length := by omega
  rw [this]
  exact Yp
 rw [ex]
 refine Ok.ite (fun h => ?_) fun h => ?_
 ·refine Ok.ret ?_
  simp only [Jy]
  simp only [Bool.or_eq_true,Bool.and_eq_true,bne_iff_ne,decide_eq_true_eq] at h
  rcases h with (((⟨h1,h2⟩ | h) | h) | h) | h
  ·simp [h1,h2]
  ·have : ¬ 0 ≤ x.control := by omega
   simp [this]
  ·have : ¬ x.control ≤ 31 := by omega
   simp [this]
  ·have : ¬ 0 ≤ x.owner := by omega
   simp [this]
  ·have : ¬ x.owner ≤ 1048576 := by omega
   simp [this]
 simp only [Bool.or_eq_false_iff,Bool.and_eq_false_imp,bne_iff_ne,decide_eq_false_iff_not,bne_eq_false_iff_eq] at h
 obtain ⟨⟨⟨⟨hk,h2⟩,h3⟩,h4⟩,h5⟩ := h
 have hk' : (x.kind == 0 || x.kind == 1) = true := by
  by_cases q : x.kind = 0
  ·simp [q]
  ·simp [hk q]
 have a2 : 0 ≤ x.control := by omega
 have a3 : x.control ≤ 31 := by omega
 have a4 : 0 ≤ x.owner := by omega
 have a5 : x.owner ≤ 1048576 := by omega
 refine Ok.ite (fun h => ?_) fun h => ?_
 ·refine Ok.ret ?_
  have : pre = [] := by
   have : pre.length = 0 := by
    have : (pre.length : Int) = 0 := by simpa using h
    omega
   exact List.length_eq_zero_iff.mp this
  subst this
  simp [Jy,hk',a2,a3,a4,a5]
 have hp : 0 < pre.length := by
  have : ¬ (pre.length : Int) = 0 := by simpa using h
  omega
 obtain ⟨pr,y,rfl⟩ : ∃ pr y,pre = pr ++ [y] := by
  have hne : pre ≠ [] := by intro e; simp [e] at hp
  exact ⟨pre.dropLast,pre.getLast hne,(List.dropLast_concat_getLast hne).symm⟩
 have hw : w64 (((pr ++ [y]).length : Int) - 1) = (pr.length : Int) := by
  rw [At (by simp) (by simp; simp at hlen; omega)]
  simp
 rw [hw]
 refine Ok.guard (by simp at hlen; omega) ?_
 have ey : t.nodes.getD (Int.toNat (pr.length : Int)) default = y := by
  rw [he]
  have : Int.toNat (pr.length : Int) = pr.length := by omega
  rw [this]
  exact AbF
 rw [ey]
 have eB : Jy (pr ++ [y]) x = (decide (y.id < x.id) && Es x.name && (pr ++ [y]).any (fun k => k.id == x.parent) && (pr ++ [y]).all (fun k => !(k.parent == x.parent && Dx k.name x.name))) := by
  simp [Jy,hk',a2,a3,a4,a5]
 refine Ok.ite (fun h => ?_) fun h => ?_
 ·refine Ok.ret ?_
  have : ¬ y.id < x.id := by
   have := of_decide_eq_true h
   omega
  rw [eB]
  simp [this]
 have hy : y.id < x.id := by
  have := of_decide_eq_false h
  omega
 refine Ok.step (AbI _) ?_
 unfold Qz
 refine Ok.ite (fun h => ?_) fun h => ?_
 ·refine Ok.ret ?_
  have : Es x.name = false := by simpa using h
  rw [eB]
  simp [this]
 have hv : Es x.name = true := by simpa using h
 have hr : Jy (pr ++ [y]) x = ((pr ++ [y]).any (fun k => k.id == x.parent) && (pr ++ [y]).all (fun k => !(k.parent == x.parent && Dx k.name x.name))) := by
  rw [eB]
  simp [hy,hv]
 rw [hr]
 generalize pr ++ [y] = P at *
 refine Ok.guard (by omega) ?_
 refine Ok.for (fun j s => s = (P.take j).any (fun k => k.id == x.parent) ∧ (P.take j).all (fun k => !(k.parent == x.parent && Dx k.name x.name)) = true) (by simp) ?_ ?_
 ·intro j s n hj hI hn
  have hj' : j < P.length := by omega
  have ej : Int.toNat (0 + (j : Int)) = j := by omega
  have ez : t.nodes.getD j default = P[j] := by
   rw [he]
   simp [List.getD_eq_getElem?_getD,List.getElem?_append,hj']
  have tk : P.take (j + 1) = P.take j ++ [P[j]] := by
   rw [List.take_add_one]; simp [hj']
  have hbad : (P[j].parent == x.parent && Dx P[j].name x.name) = true → (P.any (fun k => k.id == x.parent) && P.all (fun k => !(k.parent == x.parent && Dx k.name x.name))) = false := by
   intro hb
   have : P.all (fun k => !(k.parent == x.parent && Dx k.name x.name)) = false := by
    rw [List.all_eq_false]
    exact ⟨P[j],List.getElem_mem hj',by rw [hb]; simp⟩
   rw [this,Bool.and_false]
  have hJ : ∀ b : Bool,b = (P.take (j + 1)).any (fun k => k.id == x.parent) → Ok (Ov t (P.length : Int) (0 + (j : Int)) n b) (· = (P.any (fun k => k.id == x.parent) && P.all (fun k => !(k.parent == x.parent && Dx k.name x.name)))) := by
   intro b hb
   unfold Ov
   refine Ok.guard (by omega) ?_
   rw [ej,ez,ex]
   have good : (P[j].parent == x.parent && Dx P[j].name x.name) = false → Ok (n b) (· = (P.any (fun k => k.id == x.parent) && P.all (fun k => !(k.parent == x.parent && Dx k.name x.name)))) := by
    intro hb'
    refine hn _ ⟨hb,?_⟩
    rw [tk,List.all_append,hI.2]
    simp only [List.all_cons,List.all_nil,hb']
    rfl
   refine Ok.ite (fun h => ?_) fun h => ?_
   ·refine Ok.guard (by omega) ?_
    unfold Ot
    refine Ok.ite (fun h' => ?_) fun h' => ?_
    ·exact Ok.ret (hbad (by rw [h,h']; rfl)).symm
    ·exact good (by rw [h,h']; rfl)
   ·unfold Ot
    exact good (by rw [h]; rfl)
  unfold Aau
  have ea : (P.take (j + 1)).any (fun k => k.id == x.parent) = (s || (P[j].id == x.parent)) := by
   rw [tk,List.any_append,← hI.1]; simp
  refine Ok.ite (fun h => ?_) fun h => ?_
  ·refine hJ _ ?_
   rw [ea,h]
   rfl
  ·refine Ok.guard (by omega) ?_
   rw [ej,ez,ex]
   refine hJ _ ?_
   rw [ea,h]
   rfl
 ·intro s hI
  refine Ok.ret ?_
  have : P.take (Int.toNat ((P.length : Int) - 0)) = P := List.take_of_length_le (by omega)
  rw [this] at hI
  rw [hI.2,Bool.and_true]
  exact hI.1
end Go.Dm

/- Plain theory, part 3: trees that Check accepts. -/
namespace Go.Dm
structure WfT (t : Ae) : Prop where
 len1 : 1 ≤ t.nodes.length
 len2 : t.nodes.length ≤ 64
 node : ∀ pre x post,t.nodes = pre ++ x :: post → Jy pre x = true
 depth : ∀ x ∈ t.nodes,(upT t x.id).length ≤ 9
 last : (t.nodes.getD (t.nodes.length - 1) default).id < t.next
 nextLe : t.next ≤ 2147483648
theorem Vm (t : Ae) : Ok (Jo t) (fun b => b = true ↔ WfT t) := by
 unfold Jo
 refine Ok.ite (fun h => ?_) fun h => ?_
 ·refine Ok.ret ?_
  simp only [Bool.or_eq_true,decide_eq_true_eq] at h
  refine ⟨fun e => by simp at e,fun w => ?_⟩
  have := w.len1
  have := w.len2
  omega
 simp only [Bool.or_eq_false_iff,decide_eq_false_iff_not] at h
 have l1 : 1 ≤ t.nodes.length := by omega
 have l2 : t.nodes.length ≤ 64 := by omega
 refine Ok.guard (by omega) ?_
 refine Ok.range (fun pre _ => ∀ q x p,pre = q ++ x :: p → Jy q x = true) (by intro q x p e; simp at e) ?_ ?_
 ·intro pre x post s n he hI hn
  unfold Yc
  refine Ok.step (AgU t pre post x he (by omega)) ?_
  refine Ok.ite (fun h => ?_) fun h => ?_
  ·refine Ok.ret ⟨fun e => by simp at e,fun w => ?_⟩
   have := w.node pre x post he
   simp [this] at h
  ·refine hn () fun q y p e => ?_
   rcases List.eq_nil_or_concat p with rfl | ⟨p',z,rfl⟩
   ·have e2 : pre = q ∧ x = y := by
     have := List.append_inj' (s₁ := pre) (t₁ := [x]) (s₂ := q) (t₂ := [y]) (by simpa using e) rfl
     exact ⟨this.1,by simpa using this.2⟩
    rw [← e2.1,← e2.2]
    simpa using h
   ·have e2 : pre ++ [x] = (q ++ y :: p') ++ [z] := by simpa using e
    have := List.append_inj' e2 rfl
    exact hI q y p' this.1
 ·intro _ hI
  unfold Yv
  refine Ok.guard (by omega) ?_
  refine Ok.range (fun pre _ => ∀ x ∈ pre,(upT t x.id).length ≤ 9) (by simp) ?_ ?_
  ·intro pre x post s n he hJ hn
   unfold Yh
   refine Ok.step (Aes t x.id (by omega)) ?_
   refine Ok.ite (fun h => ?_) fun h => ?_
   ·refine Ok.ret ⟨fun e => by simp at e,fun w => ?_⟩
    have := w.depth x (by rw [he]; simp)
    have := of_decide_eq_true h
    omega
   ·refine hn () fun y hy => ?_
    have hd := of_decide_eq_false h
    rcases List.mem_append.mp hy with hy | hy
    ·exact hJ y hy
    ·obtain rfl : y = x := by simpa using hy
     omega
  ·intro _ hJ
   unfold Yg Qb
   have hw : w64 ((t.nodes.length : Int) - 1) = ((t.nodes.length - 1 : Nat) : Int) := by
    rw [At (by omega) (by omega)]
    omega
   rw [hw]
   refine Ok.guard (by omega) ?_
   have : Int.toNat ((t.nodes.length - 1 : Nat) : Int) = t.nodes.length - 1 := by omega
   rw [this]
   refine Ok.ite (fun h => ?_) fun h => ?_
   ·refine Ok.ret ⟨fun e => ?_,fun w => ?_⟩
    ·exact ⟨l1,l2,hI,hJ,by simpa using h,by simpa using e⟩
    ·simpa using w.nextLe
   ·refine Ok.ret ⟨fun e => by simp at e,fun w => ?_⟩
    have := w.last
    have := of_decide_eq_false h
    omega
theorem Yo {t : Ae} (h : WfT t) : Jo t = some true := by
 obtain ⟨b,hb,e⟩ := Vm t
 rw [hb,e.mpr h]
theorem AgK {t : Ae} (h : ¬ WfT t) : Jo t = some false := by
 obtain ⟨b,hb,e⟩ := Vm t
 cases b
 ·exact hb
 ·exact absurd (e.mp rfl) h
def zN : Af := { id := 0,parent := 0,name := ByteArray.empty,control := 0,kind := 0,owner := 0 }
def getN (t : Ae) (id : Int) : Option Af := t.nodes.find? (fun x => x.id == id)
def Hm (t : Ae) (id : Int) : Bool := (getN t id).isSome
theorem Oq {t : Ae} (h : WfT t) (id : Int) : Dk t id = some ((getN t id).elim (zN,false) (fun x => (x,true))) := by
 unfold Dk
 rw [Yo h]
 have := h.len2
 simp only [Option.bind_some,Bool.not_true,Bool.false_eq_true,if_false]
 rw [if_pos (by omega)]
 exact Wg (fun k x n => rfl) rfl
theorem Aam {t : Ae} (h : ¬ WfT t) (id : Int) : Dk t id = some (zN,false) := by
 unfold Dk
 rw [AgK h]
 rfl
theorem Kk {t : Ae} (h : WfT t) (id : Int) : Fx t id = some (Hm t id) := by
 unfold Fx
 rw [Oq h,Option.bind_some]
 unfold Hm
 cases getN t id <;> rfl
theorem Afe {t : Ae} (h : ¬ WfT t) (id : Int) : Fx t id = some false := by
 unfold Fx
 rw [Aam h]
 rfl
def ancN (t : Ae) (id : Int) : List Int := if Hm t id then upT t id else []
theorem Yi {t : Ae} (h : WfT t) (id : Int) : Hx t id = some (ancN t id) := by
 unfold Hx ancN
 rw [Kk h]
 have := h.len2
 cases Hm t id
 ·rfl
 ·simp [Aes t id (by omega)]
def Ia (t : Ae) (id : Int) : List Int := (t.nodes.filter (fun x => x.parent == id)).map (·.id)
theorem Sn {t : Ae} (h : WfT t) (id : Int) : Gy t id = some (if Hm t id then Ia t id else []) := by
 unfold Gy
 rw [Kk h]
 have := h.len2
 cases Hm t id
 ·rfl
 ·simp only [Option.bind_some,Bool.not_true,Bool.false_eq_true,if_false,if_true]
  rw [if_pos (by omega)]
  refine (Ho (p := fun x : Af => x.parent == id) (f := fun x : Af => x.id) (r := some) ?_ (fun _ => rfl) (by simp; omega)).trans (by simp [Ia])
  intro k x s n hs
  unfold Tk Mf
  rw [if_pos hs]
theorem Agw {t : Ae} (h : WfT t) (id : Int) : Si t id = some (w64 (((ancN t id).length : Int) - 1)) := by
 unfold Si
 rw [Yi h]
 rfl
theorem Sy (t : Ae) (h : t.nodes.length ≤ 1073741824) : Ns t = some t := by
 unfold Ns
 simp
 omega
end Go.Dm

/- Plain theory, part 4: the nodes of a tree, one behind the other. -/
namespace Go.Dm
theorem Me {α : Type} (L : List α) : L = [] ∨ ∃ P x,L = P ++ [x] := by
 rcases List.eq_nil_or_concat L with h | ⟨P,x,h⟩
 ·exact .inl h
 ·exact .inr ⟨P,x,by simpa using h⟩
structure Qr (x : Af) : Prop where
 kind : x.kind = 0 ∨ x.kind = 1
 c1 : 0 ≤ x.control
 c2 : x.control ≤ 31
 o1 : 0 ≤ x.owner
 o2 : x.owner ≤ 1048576
structure Zs (x : Af) : Prop where
 id : x.id = 1
 parent : x.parent = 0
 name : Dx x.name ByteArray.empty = true
 kind : x.kind = 0
structure NodeS (pre : List Af) (x : Af) : Prop where
 lt : ∀ y ∈ pre,y.id < x.id
 valid : Es x.name = true
 parent : ∃ y ∈ pre,y.id = x.parent
 fresh : ∀ y ∈ pre,y.parent = x.parent → Dx y.name x.name = false
inductive WfP : List Af → Prop
 | root (x : Af) : Qr x → Zs x → WfP [x]
 | snoc (L : List Af) (x : Af) : WfP L → Qr x → NodeS L x → WfP (L ++ [x])
theorem nodeV_of {pre : List Af} {x : Af} (h : Jy pre x = true) : Qr x := by
 simp only [Jy,Bool.and_eq_true,Bool.or_eq_true,beq_iff_eq,decide_eq_true_eq] at h
 exact ⟨h.1.1.1.1.1,h.1.1.1.1.2,h.1.1.1.2,h.1.1.2,h.1.2⟩
theorem WfP.pos {L : List Af} (h : WfP L) : 0 < L.length := by
 cases h <;> simp
theorem wfP_of {L : List Af} (hn : 1 ≤ L.length) (h : ∀ pre x post,L = pre ++ x :: post → Jy pre x = true) : WfP L := by
 have key : ∀ (n : Nat) (M : List Af),M.length = n → 1 ≤ M.length → (∀ pre x post,M = pre ++ x :: post → Jy pre x = true) → WfP M ∧ ∀ y,M.getLast? = some y → ∀ z ∈ M,z.id ≤ y.id := by
  intro n
  induction n with
  | zero => intro M hM h1; omega
  | succ n ih =>
   intro M hM h1 hB
   rcases Me M with rfl | ⟨P,x,rfl⟩
   ·simp at hM
   have hx : Jy P x = true := hB P x [] (by simp)
   have hv := nodeV_of hx
   rcases Me P with rfl | ⟨P',y,rfl⟩
   ·simp only [Jy,List.getLast?_nil,Bool.and_eq_true,beq_iff_eq] at hx
    refine ⟨.root x hv ⟨hx.2.1.1.1,hx.2.1.1.2,hx.2.1.2,hx.2.2⟩,?_⟩
    intro y hy z hz
    simp at hy hz
    subst hy hz
    exact Int.le_refl _
   ·obtain ⟨w,hl⟩ := ih (P' ++ [y]) (by simp at hM ⊢; omega) (by simp) (fun pre u post e => hB pre u (post ++ [x]) (by rw [e]; simp))
    have hl := hl y (by simp)
    simp only [Jy,List.getLast?_append,List.getLast?_singleton,Option.some_or,Bool.and_eq_true,decide_eq_true_eq,List.any_eq_true,List.all_eq_true,beq_iff_eq] at hx
    obtain ⟨_,⟨⟨hlt,hval⟩,hpar⟩,hfr⟩ := hx
    have hs : NodeS (P' ++ [y]) x := by
     refine ⟨fun z hz => ?_,hval,hpar,fun z hz hp => ?_⟩
     ·have := hl z hz
      omega
     ·have := hfr z hz
      simpa [hp] using this
    refine ⟨.snoc _ x w hv hs,?_⟩
    intro u hu z hz
    have hu : u = x := by simpa [eq_comm] using hu
    subst hu
    rcases List.mem_append.mp hz with hz | hz
    ·have := hs.lt z hz
     omega
    ·simp at hz
     subst hz
     exact Int.le_refl _
 exact (key _ L rfl hn h).1
theorem Ags {x : Af} (v : Qr x) (r : Zs x) : Jy [] x = true := by
 have := v.kind
 simp [Jy,v.c1,v.c2,v.o1,v.o2,r.id,r.parent,r.name,r.kind]
theorem Agt {L : List Af} {x : Af} (hL : 0 < L.length) (v : Qr x) (r : NodeS L x) : Jy L x = true := by
 rcases Me L with rfl | ⟨P,y,rfl⟩
 ·simp at hL
 simp only [Jy,List.getLast?_append,List.getLast?_singleton,Option.some_or,Bool.and_eq_true,decide_eq_true_eq,List.any_eq_true,List.all_eq_true,beq_iff_eq,Bool.or_eq_true]
 refine ⟨⟨⟨⟨⟨v.kind,v.c1⟩,v.c2⟩,v.o1⟩,v.o2⟩,⟨⟨r.lt y (by simp),r.valid⟩,r.parent⟩,fun z hz => ?_⟩
 by_cases hp : z.parent = x.parent
 ·simp [r.fresh z hz hp]
 ·simp [hp]
theorem WfP.split {L : List Af} (h : WfP L) : ∀ pre x post,L = pre ++ x :: post → Jy pre x = true := by
 induction h with
 | root x v r =>
  intro pre y post e
  have : pre = [] ∧ y = x := by
   cases pre with
   | nil => simp at e; exact ⟨rfl,e.1.symm⟩
   | cons a q => simp at e
  rw [this.1,this.2]
  exact Ags v r
 | snoc L x w v s ih =>
  intro pre y post e
  rcases Me post with rfl | ⟨p',z,rfl⟩
  ·have := List.append_inj' (s₁ := L) (t₁ := [x]) (s₂ := pre) (t₂ := [y]) (by simpa using e) rfl
   have e2 : x = y := by simpa using this.2
   rw [← this.1,← e2]
   exact Agt w.pos v s
  ·have e2 : L ++ [x] = (pre ++ y :: p') ++ [z] := by simpa using e
   have := List.append_inj' e2 rfl
   exact ih pre y p' this.1
theorem WfP.sorted {L : List Af} (h : WfP L) : L.Pairwise (fun a b => a.id < b.id) := by
 induction h with
 | root x v r => simp
 | snoc L x w v s ih =>
  rw [List.pairwise_append]
  exact ⟨ih,by simp,fun a ha b hb => by simp at hb; subst hb; exact s.lt a ha⟩
theorem WfP.val {L : List Af} (h : WfP L) : ∀ x ∈ L,Qr x := by
 induction h with
 | root x v r => intro y hy; simp at hy; subst hy; exact v
 | snoc L x w v s ih =>
  intro y hy
  rcases List.mem_append.mp hy with hy | hy
  ·exact ih y hy
  ·simp at hy; subst hy; exact v
theorem WfP.first {L : List Af} (h : WfP L) : ∃ x r,L = x :: r ∧ Zs x := by
 induction h with
 | root x v r => exact ⟨x,[],rfl,r⟩
 | snoc L x w v s ih =>
  obtain ⟨y,r,rfl,hr⟩ := ih
  exact ⟨y,r ++ [x],rfl,hr⟩
theorem WfP.ge1 {L : List Af} (h : WfP L) : ∀ x ∈ L,1 ≤ x.id := by
 induction h with
 | root x v r => intro y hy; simp at hy; subst hy; rw [r.id]; omega
 | snoc L x w v s ih =>
  intro y hy
  rcases List.mem_append.mp hy with hy | hy
  ·exact ih y hy
  ·simp at hy; subst hy
   obtain ⟨z,hz,_⟩ := s.parent
   have := ih z hz
   have := s.lt z hz
   omega
theorem WfP.par {L : List Af} (h : WfP L) : ∀ x ∈ L,(x.id = 1 ∧ Zs x) ∨ (1 ≤ x.parent ∧ x.parent < x.id ∧ (∃ y ∈ L,y.id = x.parent) ∧ Es x.name = true) := by
 induction h with
 | root x v r => intro y hy; simp at hy; subst hy; exact .inl ⟨r.id,r⟩
 | snoc L x w v s ih =>
  intro y hy
  rcases List.mem_append.mp hy with hy | hy
  ·rcases ih y hy with h | ⟨h1,h2,⟨z,hz,he⟩,h3⟩
   ·exact .inl h
   ·exact .inr ⟨h1,h2,⟨z,by simp [hz],he⟩,h3⟩
  ·simp at hy; subst hy
   obtain ⟨z,hz,he⟩ := s.parent
   refine .inr ⟨?_,?_,⟨z,by simp [hz],he⟩,s.valid⟩
   ·have := w.ge1 z hz
    omega
   ·have := s.lt z hz
    omega
theorem Wp {L : List Af} (h : L.Pairwise (fun a b => a.id < b.id)) {x y : Af} (hx : x ∈ L) (hy : y ∈ L) (e : x.id = y.id) : x = y := by
 induction L with
 | nil => simp at hx
 | cons a r ih =>
  rw [List.pairwise_cons] at h
  rcases List.mem_cons.mp hx with ex | hx' <;> rcases List.mem_cons.mp hy with ey | hy'
  ·rw [ex,ey]
  ·have := h.1 y hy'; rw [ex] at e; omega
  ·have := h.1 x hx'; rw [ey] at e; omega
  ·exact ih h.2 hx' hy'
theorem Zt {t : Ae} {id : Int} {x : Af} (h : getN t id = some x) : x ∈ t.nodes ∧ x.id = id :=
 ⟨List.mem_of_find?_eq_some h,by have := List.find?_some h; simpa using this⟩
theorem hasN_iff {t : Ae} {id : Int} : Hm t id = true ↔ ∃ x ∈ t.nodes,x.id = id := by
 unfold Hm getN
 rw [List.find?_isSome]
 simp
theorem Vp {A B : List Af} {id : Int} (h : ∀ x ∈ A,x.id ≠ id) : upR (A ++ B) id = upR B id := by
 induction A with
 | nil => rfl
 | cons a r ih =>
  rw [List.cons_append,upR,if_neg (by simpa using h a (by simp))]
  exact ih fun x hx => h x (by simp [hx])
theorem upR_none {A : List Af} {id : Int} (h : ∀ x ∈ A,x.id ≠ id) : upR A id = [] := by
 have := Vp (B := []) h
 simpa [upR] using this
theorem WfP.up {L : List Af} (h : WfP L) : ∀ x ∈ L,upR L.reverse x.id = x.id :: upR L.reverse x.parent := by
 induction h with
 | root x v r =>
  intro y hy
  simp at hy
  subst hy
  simp [upR,r.parent,r.id]
 | snoc L x w v s ih =>
  intro y hy
  rw [List.reverse_append,List.reverse_cons,List.reverse_nil,List.nil_append,List.singleton_append]
  rcases List.mem_append.mp hy with hy | hy
  ·have hlt := s.lt y hy
   have hp : y.parent < x.id := by
    rcases w.par y hy with ⟨h1,r⟩ | ⟨_,h2,_⟩
    ·rw [r.parent]; have := w.ge1 y hy; omega
    ·omega
   rw [upR,if_neg (by simp; omega),upR,if_neg (by simp; omega)]
   exact ih y hy
  ·simp at hy
   subst hy
   obtain ⟨z,hz,he⟩ := s.parent
   have := s.lt z hz
   rw [upR,if_pos (by simp),upR,if_neg (by simp; omega)]
theorem WfT.p {t : Ae} (h : WfT t) : WfP t.nodes := wfP_of h.len1 h.node
theorem WfT.sorted {t : Ae} (h : WfT t) : t.nodes.Pairwise (fun a b => a.id < b.id) := h.p.sorted
theorem WfT.up {t : Ae} (h : WfT t) {x : Af} (hx : x ∈ t.nodes) : upT t x.id = x.id :: upT t x.parent := h.p.up x hx
theorem WfT.next {t : Ae} (h : WfT t) : ∀ x ∈ t.nodes,x.id < t.next := by
 have hl := h.last
 have h1 := h.len1
 have hs := h.sorted
 intro x hx
 obtain ⟨i,hi,rfl⟩ := List.getElem_of_mem hx
 rw [Im (by omega)] at hl
 by_cases e : i = t.nodes.length - 1
 ·subst e; exact hl
 ·have := List.pairwise_iff_getElem.mp hs i (t.nodes.length - 1) hi (by omega) (by omega)
  omega
theorem WfT.root {t : Ae} (h : WfT t) : ∃ x r,t.nodes = x :: r ∧ Zs x := h.p.first
theorem WfT.mk' {t : Ae} (hp : WfP t.nodes) (h2 : t.nodes.length ≤ 64) (hd : ∀ x ∈ t.nodes,(upT t x.id).length ≤ 9) (hn : ∀ x ∈ t.nodes,x.id < t.next) (hl : t.next ≤ 2147483648) : WfT t := by
 refine ⟨hp.pos,h2,hp.split,hd,hn _ (Tx ?_),hl⟩
 have := hp.pos
 omega
end Go.Dm

/- Plain theory, part 5: dice; trees that grow and shrink. -/
namespace Go.Dm
structure Bv (d : Al) : Prop where
 a0 : 0 ≤ d.atF
 a1 : d.atF ≤ (d.l.length : Int)
 l : d.l.length ≤ 600
theorem dice_roll {l : List Int} (h : l.length ≤ 600) : Bv { l := l,atF := 0 } := ⟨by simp,by simp,h⟩
theorem Ix {d : Al} (h : Bv d) (n : Int) (hn : n ≤ 1000000) : Ok (Ax d n) (fun r => Bv r.2 ∧ 0 ≤ r.1 ∧ (r.1 < n ∨ (n < 1 ∧ r.1 = 0))) := by
 have h0 := h.a0
 have h1 := h.a1
 have hl := h.l
 unfold Ax
 refine Ok.ite (fun c => ?_) fun c => ?_
 ·simp only [Bool.or_eq_true,decide_eq_true_eq] at c
  refine Ok.ret ⟨h,by simp,?_⟩
  show (0 : Int) < n ∨ (n < 1 ∧ (0 : Int) = 0)
  omega
 simp only [Bool.or_eq_false_iff,decide_eq_false_iff_not] at c
 have e1 : w64 (d.atF + 1) = d.atF + 1 := At (by omega) (by omega)
 have e2 : w64 (d.atF + 1 - 1) = d.atF := by
  rw [At (by omega) (by omega)]
  omega
 have hd : Bv { l := d.l,atF := d.atF + 1 } := ⟨by simp only; omega,by simp only; omega,hl⟩
 rw [e1,e2]
 refine Ok.guard (by omega) ?_
 refine Ok.guard (by omega) ?_
 generalize d.l.getD d.atF.toNat 0 = x
 have b1 : Int.tmod x n < n := Int.tmod_lt_of_pos x (by omega)
 have b2 : -n < Int.tmod x n := by
  have := Int.tmod_lt_of_pos (-x) (show 0 < n by omega)
  rw [Int.neg_tmod] at this
  omega
 unfold Lq
 rw [e1]
 refine Ok.ite (fun c2 => ?_) fun c2 => ?_
 ·have := of_decide_eq_true c2
  rw [At (by omega) (by omega)]
  refine Ok.ret ⟨hd,?_,?_⟩ <;> simp only <;> omega
 ·have := of_decide_eq_false c2
  refine Ok.ret ⟨hd,?_,?_⟩ <;> simp only <;> omega
theorem Fw {d : Al} (h : Bv d) (n : Int) (h1 : 1 ≤ n) (hn : n ≤ 1000000) : Ok (Ax d n) (fun r => Bv r.2 ∧ 0 ≤ r.1 ∧ r.1 < n) :=
 (Ix h n hn).mono fun r ⟨a,b,c⟩ => ⟨a,b,by omega⟩
theorem Xa {d : Al} (h : Bv d) (n : Int) (hn : n ≤ 1000000) : Ok (Gg d n) (fun r => Bv r.2) := by
 unfold Gg
 exact Ok.bind (Ix h n hn) fun r hr => Ok.ret hr.1
theorem Ahk : ∀ s ∈ [(bs [97]),(bs [98]),(bs [99]),(bs [119,101,98]),(bs [100,98,45,49]),(bs [88,95,57])],Es s = true := by
 intro s hs
 have : ([(bs [97]),(bs [98]),(bs [99]),(bs [119,101,98]),(bs [100,98,45,49]),(bs [88,95,57])].all Es) = true := by kernel_rfl
 exact List.all_eq_true.mp this s hs
theorem Name_ok {d : Al} (h : Bv d) : Ok (Nn d) (fun r => Bv r.2 ∧ Es r.1 = true) := by
 unfold Nn
 refine Ok.bind (Fw h 6 (by omega) (by omega)) fun r ⟨h1,h2,h3⟩ => ?_
 refine Ok.guard ⟨h2,h3⟩ ?_
 have hlt : r.1.toNat < [(bs [97]),(bs [98]),(bs [99]),(bs [119,101,98]),(bs [100,98,45,49]),(bs [88,95,57])].length := by simp only [List.length_cons,List.length_nil]; omega
 refine Ok.guard hlt (Ok.ret ⟨h1,Ahk _ (Tx hlt)⟩)
theorem Abk {d : Al} (h : Bv d) (t : Ae) (ht : t.nodes.length ≤ 1000000) : Ok (Hh d t) (fun r => Bv r.2) := by
 unfold Hh
 refine Ok.bind (Xa h 15 (by omega)) fun r hr => ?_
 have hJ : ∀ b : Bool,(b = false → 0 < t.nodes.length) → Ok (Io t r b) (fun r => Bv r.2) := by
  intro b hb
  unfold Io
  refine Ok.ite (fun _ => ?_) fun c => ?_
  ·exact Ok.bind (Ix hr 9 (by omega)) fun q hq => Ok.ret hq.1
  ·have := hb c
   refine Ok.bind (Fw hr _ (by omega) (by omega)) fun q hq => ?_
   exact Ok.guard ⟨hq.2.1,hq.2.2⟩ (Ok.ret hq.1)
 refine Ok.ite (fun _ => ?_) fun _ => ?_
 ·exact hJ true (by simp)
 ·refine hJ _ fun hb => ?_
  have : ¬ ((t.nodes.length : Nat) : Int) = 0 := by simpa using hb
  omega
theorem AcT {d : Al} (h : Bv d) (t : Aa) (ht : t.tasks.length ≤ 1000000) : Ok (Hz d t) (fun r => Bv r.2) := by
 unfold Hz
 refine Ok.bind (Xa h 15 (by omega)) fun r hr => ?_
 have hJ : ∀ b : Bool,(b = false → 0 < t.tasks.length) → Ok (Jc t r b) (fun r => Bv r.2) := by
  intro b hb
  unfold Jc
  refine Ok.ite (fun _ => ?_) fun c => ?_
  ·exact Ok.bind (Ix hr 9 (by omega)) fun q hq => Ok.ret hq.1
  ·have := hb c
   refine Ok.bind (Fw hr _ (by omega) (by omega)) fun q hq => ?_
   exact Ok.guard ⟨hq.2.1,hq.2.2⟩ (Ok.ret hq.1)
 refine Ok.ite (fun _ => ?_) fun _ => ?_
 ·exact hJ true (by simp)
 ·refine hJ _ fun hb => ?_
  have : ¬ ((t.tasks.length : Nat) : Int) = 0 := by simpa using hb
  omega
theorem AaT {d : Al} (h : Bv d) : Ok (Gp d) (fun r => Bv r.2 ∧ -1 ≤ r.1 ∧ r.1 ≤ 32) := by
 unfold Gp
 refine Ok.bind (Fw h 9 (by omega) (by omega)) fun r ⟨h1,h2,h3⟩ => ?_
 refine Ok.guard ⟨h2,h3⟩ ?_
 have hlt : r.1.toNat < [(1 : Int),9,31,2,25,4,0,32,(-1)].length := by simp only [List.length_cons,List.length_nil]; omega
 refine Ok.guard hlt (Ok.ret ⟨h1,?_⟩)
 have hm := Tx (d := (0 : Int)) hlt
 have : ∀ x ∈ [(1 : Int),9,31,2,25,4,0,32,(-1)],-1 ≤ x ∧ x ≤ 32 := by decide
 exact this _ hm
def zT : Ae := { nodes := [],next := 0 }
def addT (t : Ae) (p : Int) (s : ByteArray) : Ae × Int × Int :=
 if !Es s then (zT,0,1) else if !Hm t p then (zT,0,4) else if t.nodes.any (fun x => x.parent == p && Dx x.name s) then (zT,0,5)
 else if decide (9 ≤ (upT t p).length) || decide (64 ≤ t.nodes.length) || decide (2147483647 < t.next) then (zT,0,7)
 else ({ nodes := t.nodes ++ [{ id := t.next,parent := p,name := s,control := 0,kind := 0,owner := 0 }],next := t.next + 1 },t.next,0)
theorem AhI {t : Ae} (h : WfT t) (p : Int) (s : ByteArray) : Yr t p s = some (addT t p s) := by
 apply Ok.eq
 have h2 := h.len2
 have hnx := h.nextLe
 unfold Yr
 refine Ok.step (Yo h) ?_
 simp only [Bool.not_true,Bool.false_eq_true,if_false]
 refine Ok.step (AbI s) ?_
 unfold Th addT
 refine Ok.ite (fun c => ?_) fun c => ?_
 ·rw [if_pos c]; exact Ok.ret rfl
 rw [if_neg (c := (!Es s) = true) (by rw [c]; simp)]
 refine Ok.step (Kk h p) ?_
 refine Ok.ite (fun c => ?_) fun c => ?_
 ·rw [if_pos c]; exact Ok.ret rfl
 rw [if_neg (c := (!Hm t p) = true) (by rw [c]; simp)]
 have hp : Hm t p = true := by simpa using c
 refine Ok.guard (by omega) ?_
 refine Ok.range (fun pre _ => pre.any (fun x => x.parent == p && Dx x.name s) = false) rfl ?_ ?_
 ·intro pre x post u n he hI hn
  unfold Abl
  refine Ok.ite (fun c => ?_) fun c => ?_
  ·refine Ok.ret ?_
   rw [if_pos]
   ·rfl
   ·rw [he,List.any_append,List.any_cons,c]
    simp
  ·refine hn () ?_
   rw [List.any_append,hI,List.any_cons,c]
   rfl
 ·intro _ hI
  rw [if_neg (by rw [hI]; simp)]
  unfold Aba
  refine Ok.step (Agw h p) ?_
  have ea : ancN t p = upT t p := by simp [ancN,hp]
  have hb : (upT t p).length ≤ 64 := by
   have := Abi t.nodes.reverse p
   simp at this
   unfold upT
   omega
  rw [ea,At (by omega) (by omega)]
  have hJ1 : ∀ c,(c = true → (decide (9 ≤ (upT t p).length) || decide (64 ≤ t.nodes.length) || decide (2147483647 < t.next)) = true) → (c = false → (decide (9 ≤ (upT t p).length) || decide (64 ≤ t.nodes.length) || decide (2147483647 < t.next)) = false) →
    Ok (Ny t p s c) (· = if decide (9 ≤ (upT t p).length) || decide (64 ≤ t.nodes.length) || decide (2147483647 < t.next) then (zT,0,7)
 else ({ nodes := t.nodes ++ [{ id := t.next,parent := p,name := s,control := 0,kind := 0,owner := 0 }],next := t.next + 1 },t.next,0)) := by
   intro c ht hf
   unfold Ny
   refine Ok.ite (fun c => ?_) fun c => ?_
   ·rw [if_pos (ht c)]; exact Ok.ret rfl
   ·rw [if_neg (by rw [hf c]; simp)]
    refine Ok.step (Sy t (by omega)) ?_
    refine Ok.guard (by omega) ?_
    have hn0 : 0 < t.next := by
     obtain ⟨x,r,e,hr⟩ := h.root
     have := h.next x (by rw [e]; simp)
     rw [hr.id] at this
     omega
    rw [At (by omega) (by omega)]
    exact Ok.ret rfl
  refine Ok.ite (fun c => ?_) fun c => ?_
  ·have := of_decide_eq_true c
   refine hJ1 true (fun _ => ?_) (by simp)
   have : 9 ≤ (upT t p).length := by omega
   simp [this]
  ·have h9 := of_decide_eq_false c
   refine Ok.ite (fun c => ?_) fun c => ?_
   ·have := of_decide_eq_true c
    refine hJ1 true (fun _ => ?_) (by simp)
    have : 64 ≤ t.nodes.length := by omega
    simp [this]
   ·have h64 := of_decide_eq_false c
    have a : ¬ 9 ≤ (upT t p).length := by omega
    have b : ¬ 64 ≤ t.nodes.length := by omega
    refine hJ1 _ (fun c => ?_) fun c => ?_
    ·have := of_decide_eq_true c
     have : 2147483647 < t.next := by omega
     simp [this]
    ·have := of_decide_eq_false c
     have : ¬ 2147483647 < t.next := by omega
     simp [this,a,b]
theorem AcO {L : List Af} {x : Af} {id : Int} (h : x.id ≠ id) : upR (L ++ [x]).reverse id = upR L.reverse id := by
 rw [List.reverse_append]
 exact Vp (A := [x].reverse) (by simpa using h)
theorem addT_wf {t : Ae} (h : WfT t) {p : Int} {s : ByteArray} {r : Ae × Int × Int} (e : addT t p s = r) (hr : r.2.2 = 0) : WfT r.1 := by
 have h2 := h.len2
 unfold addT at e
 split at e
 ·subst e; simp at hr
 split at e
 ·subst e; simp at hr
 split at e
 ·subst e; simp at hr
 split at e
 ·subst e; simp at hr
 rename_i hv hh ha hc
 subst e
 have hv' : Es s = true := by simpa using hv
 have hh' : Hm t p = true := by simpa using hh
 obtain ⟨y,hy,hyp⟩ := hasN_iff.mp hh'
 simp only [Bool.or_eq_true,decide_eq_true_eq,not_or] at hc
 have ha' : ∀ x ∈ t.nodes,x.parent = p → Dx x.name s = false := by
  intro x hx hp
  cases hb : Dx x.name s
  ·rfl
  ·exact absurd (List.any_eq_true.mpr ⟨x,hx,by simp [hp,hb]⟩) ha
 have hnext := h.next
 refine WfT.mk' (.snoc _ _ h.p ⟨.inl rfl,by simp,by simp,by simp,by simp⟩ ⟨hnext,hv',⟨y,hy,hyp⟩,ha'⟩) (by simp; omega) ?_ ?_ (by simp only; omega)
 ·intro x hx
  rcases List.mem_append.mp hx with hx | hx
  ·have := h.depth x hx
   unfold upT at this ⊢
   simp only
   have hlt := hnext x hx
   rw [AcO (by simp only; omega)]
   exact this
  ·simp at hx
   subst hx
   unfold upT
   simp only [List.reverse_append,List.reverse_cons,List.reverse_nil,List.nil_append,List.singleton_append]
   rw [upR,if_pos (by simp)]
   have := hc.1.1
   unfold upT at this
   simp; omega
 ·intro x hx
  simp only
  rcases List.mem_append.mp hx with hx | hx
  ·have := hnext x hx
   omega
  ·simp at hx
   subst hx
   simp only
   omega
end Go.Dm

/- Plain theory, part 6: nodes that are removed or replaced; made trees. -/
namespace Go.Dm
def AcV (t : Ae) (id : Int) : Ae × Int :=
 if !Hm t id then (zT,4) else if id == 1 then (zT,9) else if decide (0 < (Ia t id).length) then (zT,6)
 else ({ nodes := t.nodes.filter (fun x => x.id != id),next := t.next },0)
theorem Agg {t : Ae} (h : WfT t) (id : Int) : Rj t id = some (AcV t id) := by
 apply Ok.eq
 have h2 := h.len2
 unfold Rj AcV
 refine Ok.step (Yo h) ?_
 simp only [Bool.not_true,Bool.false_eq_true,if_false]
 refine Ok.step (Kk h id) ?_
 refine Ok.ite (fun c => ?_) fun c => ?_
 ·rw [if_pos c]; exact Ok.ret rfl
 rw [if_neg (c := (!Hm t id) = true) (by rw [c]; simp)]
 have hp : Hm t id = true := by simpa using c
 refine Ok.ite (fun c => ?_) fun c => ?_
 ·rw [if_pos c]; exact Ok.ret rfl
 rw [if_neg (c := (id == 1) = true) (by rw [c]; simp)]
 refine Ok.step (Sn h id) ?_
 rw [if_pos hp]
 refine Ok.ite (fun c => ?_) fun c => ?_
 ·have := of_decide_eq_true c
  have : 0 < (Ia t id).length := by omega
  rw [if_pos (c := decide (0 < (Ia t id).length) = true) (by simp [this])]; exact Ok.ret rfl
 have := of_decide_eq_false c
 have : ¬ 0 < (Ia t id).length := by omega
 rw [if_neg (c := decide (0 < (Ia t id).length) = true) (by simp [this])]
 refine Ok.guard (by omega) ?_
 have e := Ho (p := fun x : Af => x.id != id) (f := fun x : Af => x) (xs := t.nodes) (s0 := []) (r := Rq t) (body := Rm id) (done := Rq t) (fun k x s n hs => by
  unfold Rm Ol
  rw [if_pos hs]) (fun _ => rfl) (by simp; omega)
 rw [e]
 refine Ok.ret ?_
 simp
theorem AhH {A : List Af} {id k : Int} (hk : k ≠ id) (h : ∀ x ∈ A,x.parent ≠ id) : upR (A.filter (fun x => x.id != id)) k = upR A k := by
 induction A generalizing k with
 | nil => rfl
 | cons a r ih =>
  have hr : ∀ x ∈ r,x.parent ≠ id := fun x hx => h x (by simp [hx])
  rw [List.filter_cons]
  by_cases e : a.id = id
  ·rw [if_neg (by simp [e]),ih hk hr,upR,if_neg (by simp; omega)]
  ·rw [if_pos (by simp [e]),upR,upR]
   by_cases q : a.id = k
   ·rw [if_pos (by simp [q]),if_pos (by simp [q]),ih (h a (by simp)) hr]
   ·rw [if_neg (by simp [q]),if_neg (by simp [q]),ih hk hr]
theorem WfP.remove {L : List Af} (h : WfP L) {id : Int} (h1 : id ≠ 1) (hk : ∀ x ∈ L,x.parent ≠ id) : WfP (L.filter (fun x => x.id != id)) := by
 induction h with
 | root x v r =>
  have : (x.id != id) = true := by simp [r.id]; omega
  simp only [List.filter_cons,this,if_true,List.filter_nil]
  exact .root x v r
 | snoc L x w v s ih =>
  have hw := ih fun y hy => hk y (by simp [hy])
  rw [List.filter_append]
  by_cases e : x.id = id
  ·have : [x].filter (fun x => x.id != id) = [] := by simp [e]
   rw [this,List.append_nil]
   exact hw
  ·have : [x].filter (fun x => x.id != id) = [x] := by simp [e]
   rw [this]
   refine .snoc _ x hw v ⟨fun y hy => s.lt y (List.mem_filter.mp hy).1,s.valid,?_,fun y hy => s.fresh y (List.mem_filter.mp hy).1⟩
   obtain ⟨y,hy,hyp⟩ := s.parent
   refine ⟨y,List.mem_filter.mpr ⟨hy,?_⟩,hyp⟩
   have := hk x (by simp)
   simp only [bne_iff_ne]
   omega
theorem Aid {t : Ae} (h : WfT t) {id : Int} {r : Ae × Int} (e : AcV t id = r) (hr : r.2 = 0) : WfT r.1 := by
 have h2 := h.len2
 unfold AcV at e
 split at e
 ·subst e; simp at hr
 split at e
 ·subst e; simp at hr
 split at e
 ·subst e; simp at hr
 rename_i hh h1 hk
 subst e
 have h1' : id ≠ 1 := by simpa using h1
 have hk' : ∀ x ∈ t.nodes,x.parent ≠ id := by
  intro x hx hp
  have hk : ¬ 0 < (Ia t id).length := by simpa using hk
  have : x.id ∈ Ia t id := by
   unfold Ia
   exact List.mem_map.mpr ⟨x,List.mem_filter.mpr ⟨hx,by simp [hp]⟩,rfl⟩
  have := List.length_pos_of_mem this
  omega
 refine WfT.mk' (h.p.remove h1' hk') (Nat.le_trans (List.length_filter_le _ _) h2) ?_ (fun x hx => h.next x (List.mem_filter.mp hx).1) h.nextLe
 intro x hx
 have hx' := List.mem_filter.mp hx
 have := h.depth x hx'.1
 unfold upT at this ⊢
 simp only
 rw [← List.filter_reverse,AhH (by simpa using hx'.2) (fun y hy => hk' y (by simpa using hy))]
 exact this
def Vo (x y : Af) : Af := if y.id == x.id then x else y
def setT (t : Ae) (x : Af) : Ae := { nodes := t.nodes.map (Vo x),next := t.next }
theorem Aaf (t : Ae) (x : Af) (hl : t.nodes.length ≤ 1000000) : Ry t x = some (setT t x) := by
 apply Ok.eq
 unfold Ry
 refine Ok.step (Sy t (by omega)) ?_
 refine Ok.while (fun s => ∃ m : Nat,s.2 = (m : Int) ∧ m ≤ t.nodes.length ∧ s.1 = (t.nodes.take m).map (Vo x) ++ t.nodes.drop m) (fun s => (((t.nodes.length : Nat) : Int) - s.2).toNat) ?_ ?_ ?_
 ·exact ⟨0,rfl,by omega,by simp⟩
 ·rw [Cs]; simp only; omega
 rintro ⟨L,c⟩ n ⟨m,hc,hm,he⟩ hn
 simp only at hc he hn
 subst hc
 have hlen : L.length = t.nodes.length := by
  rw [he]; simp; omega
 unfold Abg Sh
 simp only
 rw [hlen]
 refine Ok.ite (fun c => ?_) fun c => ?_
 ·have hlt := of_decide_eq_true c
  have hlt' : m < t.nodes.length := by omega
  have em : Int.toNat (m : Int) = m := by omega
  rw [em]
  refine Ok.guard (by omega) ?_
  refine Ok.guard hlt' ?_
  have hw : w64 ((m : Int) + 1) = ((m + 1 : Nat) : Int) := by
   rw [At (by omega) (by omega)]; omega
  have hd : t.nodes.drop m = t.nodes[m] :: t.nodes.drop (m + 1) := List.drop_eq_getElem_cons hlt'
  have hg : L.getD m default = t.nodes[m] := by
   rw [he,hd,List.getD_eq_getElem?_getD,List.getElem?_append_right (by simp; omega)]
   have : m - (List.map (Vo x) (List.take m t.nodes)).length = 0 := by simp; omega
   rw [this]
   rfl
  have ht : (t.nodes.take (m + 1)).map (Vo x) ++ t.nodes.drop (m + 1) = (t.nodes.take m).map (Vo x) ++ Vo x t.nodes[m] :: t.nodes.drop (m + 1) := by
   have : t.nodes.take (m + 1) = t.nodes.take m ++ [t.nodes[m]] := by
    rw [List.take_add_one]; simp [hlt']
   rw [this,List.map_append,List.append_assoc]
   rfl
  have hml : (List.map (Vo x) (List.take m t.nodes)).length = m := by
   rw [List.length_map,List.length_take]; omega
  rw [hg,hw]
  refine Ok.ite (fun c => ?_) fun c => ?_
  ·refine Ok.guard (by omega) ?_
   refine Ok.guard hlt' ?_
   refine hn _ ⟨m + 1,rfl,by omega,?_⟩ (by simp only; omega)
   simp only
   rw [ht,he,hd,List.set_append_right _ _ (by omega),hml,Nat.sub_self,List.set_cons_zero,Vo,if_pos c]
  ·refine hn _ ⟨m + 1,rfl,by omega,?_⟩ (by simp only; omega)
   simp only
   rw [ht,he,hd]
   simp [Vo,c]
 ·have := of_decide_eq_false c
  obtain rfl : m = t.nodes.length := by omega
  refine Ok.ret ?_
  simp [he,setT]
theorem upR_map {A : List Af} {f : Af → Af} {k : Int} (h : ∀ y ∈ A,(f y).id = y.id ∧ (f y).parent = y.parent) : upR (A.map f) k = upR A k := by
 induction A generalizing k with
 | nil => rfl
 | cons a r ih =>
  have h1 := h a (by simp)
  rw [List.map_cons,upR,upR,h1.1,h1.2,ih fun y hy => h y (by simp [hy]),ih fun y hy => h y (by simp [hy])]
theorem WfP.map {L : List Af} (h : WfP L) {f : Af → Af} (hf : ∀ y ∈ L,(f y).id = y.id ∧ (f y).parent = y.parent ∧ (f y).name = y.name ∧ Qr (f y) ∧ (y.id = 1 → (f y).kind = 0)) : WfP (L.map f) := by
 induction h with
 | root x v r =>
  obtain ⟨h1,h2,h3,h4,h5⟩ := hf x (by simp)
  exact .root _ h4 ⟨by rw [h1,r.id],by rw [h2,r.parent],by rw [h3,r.name],h5 r.id⟩
 | snoc L x w v s ih =>
  have hw := ih fun y hy => hf y (by simp [hy])
  obtain ⟨h1,h2,h3,h4,h5⟩ := hf x (by simp)
  have hL : ∀ y ∈ L,(f y).id = y.id ∧ (f y).parent = y.parent ∧ (f y).name = y.name := fun y hy => by
   obtain ⟨a,b,c,_⟩ := hf y (by simp [hy])
   exact ⟨a,b,c⟩
  rw [List.map_append,List.map_cons,List.map_nil]
  refine .snoc _ _ hw h4 ⟨?_,by rw [h3]; exact s.valid,?_,?_⟩
  ·intro y hy
   obtain ⟨z,hz,rfl⟩ := List.mem_map.mp hy
   rw [(hL z hz).1,h1]
   exact s.lt z hz
  ·obtain ⟨z,hz,hzp⟩ := s.parent
   exact ⟨f z,List.mem_map.mpr ⟨z,hz,rfl⟩,by rw [(hL z hz).1,h2,hzp]⟩
  ·intro y hy
   obtain ⟨z,hz,rfl⟩ := List.mem_map.mp hy
   rw [(hL z hz).2.1,(hL z hz).2.2,h2,h3]
   exact s.fresh z hz
theorem WfT.map {t : Ae} (h : WfT t) {f : Af → Af} (hf : ∀ y ∈ t.nodes,(f y).id = y.id ∧ (f y).parent = y.parent ∧ (f y).name = y.name ∧ Qr (f y) ∧ (y.id = 1 → (f y).kind = 0)) : WfT { nodes := t.nodes.map f,next := t.next } := by
 refine WfT.mk' (h.p.map hf) (by simp; exact h.len2) ?_ ?_ h.nextLe
 ·intro x hx
  obtain ⟨z,hz,rfl⟩ := List.mem_map.mp hx
  have := h.depth z hz
  unfold upT at this ⊢
  simp only
  rw [← List.map_reverse,upR_map (fun y hy => ⟨(hf y (by simpa using hy)).1,(hf y (by simpa using hy)).2.1⟩),(hf z hz).1]
  exact this
 ·intro x hx
  obtain ⟨z,hz,rfl⟩ := List.mem_map.mp hx
  simp only
  rw [(hf z hz).1]
  exact h.next z hz
theorem setT_wf {t : Ae} (h : WfT t) {x y : Af} (hy : y ∈ t.nodes) (h1 : x.id = y.id) (h2 : x.parent = y.parent) (h3 : x.name = y.name) (h4 : Qr x) (h5 : y.id = 1 → x.kind = 0) : WfT (setT t x) := by
 refine h.map fun z hz => ?_
 unfold Vo
 by_cases e : z.id = x.id
 ·obtain rfl : z = y := Wp h.sorted hz hy (by omega)
  rw [if_pos (by simp [e])]
  exact ⟨h1,h2,h3,h4,h5⟩
 ·rw [if_neg (by simpa using e)]
  refine ⟨rfl,rfl,rfl,h.p.val z hz,fun q => ?_⟩
  rcases h.p.par z hz with ⟨_,r⟩ | ⟨a,b,_⟩
  ·exact r.kind
  ·omega
def newT : Ae := { nodes := [{ id := 1,parent := 0,name := ByteArray.empty,control := 0,kind := 0,owner := 0 }],next := 2 }
theorem Ahm : Xe = some newT := rfl
theorem newT_wf : WfT newT := by
 refine WfT.mk' (.root _ ⟨.inl rfl,by simp,by simp,by simp,by simp⟩ ⟨rfl,rfl,AbS _,rfl⟩) (by simp [newT]) ?_ ?_ (by simp [newT])
 ·intro x hx
  have := Abi newT.nodes.reverse x.id
  simp [newT] at this
  simp [upT,newT]
  omega
 ·intro x hx
  simp [newT] at hx
  subst hx
  simp [newT]
theorem Tree_ok {d : Al} (h : Bv d) (n : Int) (h0 : 0 ≤ n) (h1 : n ≤ 1000) : Ok (Nq d n) (fun r => WfT r.1 ∧ Bv r.2) := by
 unfold Nq
 refine Ok.step Ahm ?_
 rw [At (by omega) (by omega)]
 refine Ok.bind (Fw h (n + 1) (by omega) (by omega)) fun r ⟨a1,a2,a3⟩ => ?_
 refine Ok.while (fun s => Bv s.1 ∧ WfT s.2.1 ∧ s.2.2 ≤ 2000) (fun s => s.2.2.toNat) ⟨a1,newT_wf,by simp only; omega⟩ (by rw [Cs]; simp only; omega) ?_
 rintro ⟨d,t,c⟩ k ⟨b1,b2,b3⟩ hk
 simp only at b1 b2 b3 hk
 unfold Ru
 simp only
 refine Ok.ite (fun c1 => ?_) fun c1 => ?_
 ·have hc := of_decide_eq_true c1
  have l1 := b2.len1
  have l2 := b2.len2
  refine Ok.bind (Fw b1 _ (by omega) (by omega)) fun r2 ⟨q1,q2,q3⟩ => ?_
  refine Ok.guard ⟨q2,q3⟩ ?_
  refine Ok.bind (Name_ok q1) fun r3 ⟨u1,u2⟩ => ?_
  refine Ok.step (AhI b2 _ _) ?_
  have hw : w64 (c - 1) = c - 1 := At (by omega) (by omega)
  have hJ3 : ∀ y : Al × Ae,Bv y.1 → WfT y.2 → Ok (Hv (d,t,c) k y) (fun r => WfT r.1 ∧ Bv r.2) := by
   intro y hy1 hy2
   unfold Hv
   simp only
   rw [hw]
   exact hk _ ⟨hy1,hy2,by simp only; omega⟩ (by simp only; omega)
  have hJ4 : ∀ y : Ae,WfT y → Ok (Jg (d,t,c) k r3 y) (fun r => WfT r.1 ∧ Bv r.2) := by
   intro y hy
   unfold Jg
   refine Ok.bind (Xa u1 6 (by omega)) fun r4 hr4 => ?_
   refine Ok.ite (fun _ => ?_) fun _ => ?_
   ·have y1 := hy.len1
    have y2 := hy.len2
    refine Ok.bind (Fw hr4 _ (by omega) (by omega)) fun r5 ⟨v1,v2,v3⟩ => ?_
    refine Ok.guard ⟨v2,v3⟩ ?_
    refine Ok.step (Agg hy _) ?_
    refine Ok.ite (fun c2 => ?_) fun _ => ?_
    ·exact hJ3 _ v1 (Aid hy rfl (by simpa using c2))
    ·exact hJ3 _ v1 hy
   ·exact hJ3 _ hr4 hy
  refine Ok.ite (fun c2 => ?_) fun _ => ?_
  ·exact hJ4 _ (addT_wf b2 rfl (by simpa using c2))
  ·exact hJ4 _ b2
 ·exact Ok.ret ⟨b2,b1⟩
end Go.Dm

/- Plain theory, part 7: hierarchies that Check accepts. -/
namespace Go.Dm
def zK : Aj := { id := 0,process := 0,group := 0,user := 0 }
def Gb (L : List Aj) (id : Int) : Option Aj := L.find? (fun x => x.id == id)
theorem AfA (L : List Aj) (p : Int) (hl : L.length ≤ 1000000) : Ri L p = some ((Gb L p).elim (zK,false) (fun x => (x,x.process == p))) := by
 unfold Ri
 rw [if_pos (by omega)]
 exact Wg (fun k x n => rfl) rfl
structure TaskV (h : Aa) (x : Aj) : Prop where
 pos : 1 ≤ x.id
 grp : Hm h.tree x.group = true
 u1 : 0 ≤ x.user
 u2 : x.user ≤ 1048576
 ldr : ∃ p,Gb h.tasks x.process = some p ∧ p.process = x.process ∧ p.user = x.user
structure WfH (h : Aa) : Prop where
 tree : WfT h.tree
 len : h.tasks.length ≤ 128
 n1 : 1 ≤ h.next
 n2 : h.next ≤ 2147483648
 sorted : h.tasks.Pairwise (fun a b => a.id < b.id)
 lt : ∀ x ∈ h.tasks,x.id < h.next
 val : ∀ x ∈ h.tasks,TaskV h x
theorem AbH (h : Aa) : Ok (Em h) (fun b => b = true ↔ WfH h) := by
 have bad : ¬ WfH h → Ok (some false) (fun b => b = true ↔ WfH h) := fun hn => Ok.ret ⟨fun e => by simp at e,fun w => absurd w hn⟩
 unfold Em
 refine Ok.bind (Vm h.tree) fun b hb => ?_
 unfold Ih
 refine Ok.ite (fun c => ?_) fun c => ?_
 ·have : ¬ WfT h.tree := fun w => by have := hb.mpr w; simp [this] at c
  exact bad fun w => this w.tree
 have wt : WfT h.tree := hb.mp (by simpa using c)
 refine Ok.ite (fun c => ?_) fun c => ?_
 ·have := of_decide_eq_true c
  exact bad fun w => by have := w.len; omega
 have hl : h.tasks.length ≤ 128 := by
  have := of_decide_eq_false c
  omega
 refine Ok.ite (fun c => ?_) fun c => ?_
 ·have := of_decide_eq_true c
  exact bad fun w => by have := w.n1; omega
 have hn1 := of_decide_eq_false c
 refine Ok.ite (fun c => ?_) fun c => ?_
 ·have := of_decide_eq_true c
  exact bad fun w => by have := w.n2; omega
 have hn2 := of_decide_eq_false c
 have loop : (∀ x ∈ h.tasks.getLast?,x.id < h.next) → Ok (if h.tasks.length ≤ 9223372036854775807 then Be (Tg h) Xp h.tasks 0 () else none) (fun b => b = true ↔ WfH h) := by
  intro hlast
  refine Ok.guard (by omega) ?_
  refine Ok.range (fun pre _ => pre.Pairwise (fun a b => a.id < b.id) ∧ ∀ x ∈ pre,TaskV h x) (by simp) ?_ ?_
  ·intro pre x post s n he hI hn
   have hx : x ∈ h.tasks := by rw [he]; simp
   unfold Tg
   refine Ok.step (AfA h.tasks x.process (by omega)) ?_
   have hJt : ¬ WfH h → Ok (Cg n true) (fun b => b = true ↔ WfH h) := bad
   refine Ok.ite (fun c => ?_) fun c => ?_
   ·have := of_decide_eq_true c
    exact hJt fun w => by have := (w.val x hx).pos; omega
   have hpos := of_decide_eq_false c
   have tail : (∀ y ∈ pre,y.id < x.id) → Ok (Option.bind (Fx h.tree x.group) fun r51 => (if (!r51) then ((Cg n) true) else (if (decide (x.user < 0)) then ((Cg n) true) else (if (decide (x.user > 1048576)) then ((Cg n) true) else (if (!((Gb h.tasks x.process).elim (zK,false) (fun y => (y,y.process == x.process))).2) then ((Cg n) true) else ((Cg n) (((Gb h.tasks x.process).elim (zK,false) (fun y => (y,y.process == x.process))).1.user != x.user))))))) (fun b => b = true ↔ WfH h) := by
    intro hlt
    refine Ok.step (Kk wt x.group) ?_
    refine Ok.ite (fun c => ?_) fun c => ?_
    ·exact hJt fun w => by have := (w.val x hx).grp; simp [this] at c
    have hg : Hm h.tree x.group = true := by simpa using c
    refine Ok.ite (fun c => ?_) fun c => ?_
    ·have := of_decide_eq_true c
     exact hJt fun w => by have := (w.val x hx).u1; omega
    have hu1 := of_decide_eq_false c
    refine Ok.ite (fun c => ?_) fun c => ?_
    ·have := of_decide_eq_true c
     exact hJt fun w => by have := (w.val x hx).u2; omega
    have hu2 := of_decide_eq_false c
    cases hk : Gb h.tasks x.process with
    | none =>
     simp only [Option.elim_none]
     exact hJt fun w => by
      obtain ⟨p,hp,_⟩ := (w.val x hx).ldr
      rw [hk] at hp
      simp at hp
    | some p =>
     simp only [Option.elim_some]
     refine Ok.ite (fun c => ?_) fun c => ?_
     ·exact hJt fun w => by
       obtain ⟨q,hq,hq2,_⟩ := (w.val x hx).ldr
       rw [hk] at hq
       obtain rfl : p = q := by simpa using hq
       simp [hq2] at c
     have hp2 : p.process = x.process := by simpa using c
     unfold Cg
     refine Ok.ite (fun c => ?_) fun c => ?_
     ·refine bad fun w => ?_
      obtain ⟨q,hq,_,hq3⟩ := (w.val x hx).ldr
      rw [hk] at hq
      obtain rfl : p = q := by simpa using hq
      simp [hq3] at c
     have hp3 : p.user = x.user := by simpa using c
     refine hn () ⟨?_,?_⟩
     ·rw [List.pairwise_append]
      exact ⟨hI.1,by simp,fun a ha b hb => by simp at hb; subst hb; exact hlt a ha⟩
     ·intro y hy
      rcases List.mem_append.mp hy with hy | hy
      ·exact hI.2 y hy
      ·obtain rfl : y = x := by simpa using hy
       exact ⟨by omega,hg,by omega,by omega,p,hk,hp2,hp3⟩
   refine Ok.ite (fun c => ?_) fun c => ?_
   ·have hk := of_decide_eq_true c
    rcases Me pre with rfl | ⟨pr,y,rfl⟩
    ·simp at hk
    have hw : w64 (((pr ++ [y]).length : Int) - 1) = (pr.length : Int) := by
     have : (pr ++ [y]).length ≤ h.tasks.length := by rw [he]; simp
     rw [At (by omega) (by omega)]
     simp
    have hle : pr.length < h.tasks.length := by rw [he]; simp
    have ey : h.tasks.getD (Int.toNat (pr.length : Int)) default = y := by
     rw [he,show Int.toNat (pr.length : Int) = pr.length by omega]
     exact AbF
    rw [hw,ey]
    refine Ok.guard (by omega) ?_
    refine Ok.ite (fun c => ?_) fun c => ?_
    ·have := of_decide_eq_true c
     refine hJt fun w => ?_
     have hs := w.sorted
     rw [he,List.pairwise_append] at hs
     have := hs.2.2 y (by simp) x (by simp)
     omega
    ·have hyx := of_decide_eq_false c
     refine tail fun z hz => ?_
     rcases List.mem_append.mp hz with hz | hz
     ·have := hI.1
      rw [List.pairwise_append] at this
      have := this.2.2 z hz y (by simp)
      omega
     ·obtain rfl : z = y := by simpa using hz
      omega
   ·have hk := of_decide_eq_false c
    have : pre = [] := List.length_eq_zero_iff.mp (by omega)
    subst this
    exact tail (by simp)
  ·intro _ hI
   refine Ok.ret ⟨fun _ => ⟨wt,hl,by omega,by omega,hI.1,?_,hI.2⟩,fun _ => rfl⟩
   intro x hx
   rcases Me h.tasks with e | ⟨P,y,e⟩
   ·rw [e] at hx; simp at hx
   ·have hy := hlast y (by rw [e]; simp)
    have hp := hI.1
    rw [e] at hp hx
    rw [List.pairwise_append] at hp
    rcases List.mem_append.mp hx with hx | hx
    ·have := hp.2.2 x hx y (by simp)
     omega
    ·obtain rfl : x = y := by simpa using hx
     exact hy
 refine Ok.ite (fun c => ?_) fun c => ?_
 ·have hpos := of_decide_eq_true c
  have hw : w64 ((h.tasks.length : Int) - 1) = ((h.tasks.length - 1 : Nat) : Int) := by
   rw [At (by omega) (by omega)]
   omega
  rw [hw]
  refine Ok.guard (by omega) ?_
  have : Int.toNat ((h.tasks.length - 1 : Nat) : Int) = h.tasks.length - 1 := by omega
  rw [this,Im (by omega)]
  refine Ok.ite (fun c => ?_) fun c => ?_
  ·have := of_decide_eq_true c
   exact bad fun w => by have := w.lt _ (List.getElem_mem (show h.tasks.length - 1 < h.tasks.length by omega)); omega
  ·have := of_decide_eq_false c
   refine loop fun x hx => ?_
   rw [List.getLast?_eq_getElem?] at hx
   have e : h.tasks[h.tasks.length - 1]? = some h.tasks[h.tasks.length - 1] := List.getElem?_eq_getElem (by omega)
   rw [e] at hx
   obtain rfl : h.tasks[h.tasks.length - 1] = x := by simpa using hx
   omega
 ·have := of_decide_eq_false c
  have e : h.tasks = [] := List.length_eq_zero_iff.mp (by omega)
  exact loop (by rw [e]; simp)
theorem Hl {h : Aa} (w : WfH h) : Em h = some true := by
 obtain ⟨b,hb,e⟩ := AbH h
 rw [hb,e.mpr w]
theorem Mw {h : Aa} (w : ¬ WfH h) : Em h = some false := by
 obtain ⟨b,hb,e⟩ := AbH h
 cases b
 ·exact hb
 ·exact absurd (e.mp rfl) w
theorem Ow {h : Aa} (w : WfH h) (id : Int) : Gt h id = some ((Gb h.tasks id).elim (zK,false) (fun x => (x,true))) := by
 unfold Gt
 rw [Hl w]
 have := w.len
 simp only [Option.bind_some,Bool.not_true,Bool.false_eq_true,if_false]
 rw [if_pos (by omega)]
 exact Wg (fun k x n => rfl) rfl
theorem Adk {h : Aa} (w : ¬ WfH h) (id : Int) : Gt h id = some (zK,false) := by
 unfold Gt
 rw [Mw w]
 rfl
def Vi (h : Aa) (g : Int) : List Int := (h.tasks.filter (fun x => x.group == g)).map (·.id)
theorem Xy {h : Aa} (w : WfH h) (g : Int) : Hc h g = some (Vi h g) := by
 unfold Hc
 rw [Hl w]
 have := w.len
 simp only [Option.bind_some,Bool.not_true,Bool.false_eq_true,if_false]
 rw [if_pos (by omega)]
 refine (Ho (p := fun x : Aj => x.group == g) (f := fun x : Aj => x.id) (r := some) ?_ (fun _ => rfl) (by simp; omega)).trans (by simp [Vi])
 intro k x s n hs
 unfold Xr Pn
 rw [if_pos hs]
theorem Xl {h : Aa} (w : ¬ WfH h) (g : Int) : Hc h g = some [] := by
 unfold Hc
 rw [Mw w]
 rfl
theorem Ahl {L : List Aj} (h : L.Pairwise (fun a b => a.id < b.id)) {x y : Aj} (hx : x ∈ L) (hy : y ∈ L) (e : x.id = y.id) : x = y := by
 induction L with
 | nil => simp at hx
 | cons a r ih =>
  rw [List.pairwise_cons] at h
  rcases List.mem_cons.mp hx with ex | hx' <;> rcases List.mem_cons.mp hy with ey | hy'
  ·rw [ex,ey]
  ·have := h.1 y hy'; rw [ex] at e; omega
  ·have := h.1 x hx'; rw [ey] at e; omega
  ·exact ih h.2 hx' hy'
theorem Zn {L : List Aj} {id : Int} {x : Aj} (h : Gb L id = some x) : x ∈ L ∧ x.id = id :=
 ⟨List.mem_of_find?_eq_some h,by have := List.find?_some h; simpa using this⟩
theorem getK_of {L : List Aj} (hs : L.Pairwise (fun a b => a.id < b.id)) {x : Aj} (h : x ∈ L) : Gb L x.id = some x := by
 unfold Gb
 cases hf : L.find? (fun y => y.id == x.id) with
 | none =>
  rw [List.find?_eq_none] at hf
  have := hf x h
  simp at this
 | some y =>
  have h1 := List.mem_of_find?_eq_some hf
  have h2 := List.find?_some hf
  rw [Ahl hs h1 h (by simpa using h2)]
theorem getK_iff {L : List Aj} (hs : L.Pairwise (fun a b => a.id < b.id)) {id : Int} {x : Aj} : Gb L id = some x ↔ x ∈ L ∧ x.id = id :=
 ⟨Zn,fun ⟨h1,h2⟩ => by rw [← h2]; exact getK_of hs h1⟩
end Go.Dm

/- Plain theory, part 8: tasks that come, go and move. -/
namespace Go.Dm
theorem set_self {α : Type} {M : List α} {m : Nat} {d : α} (h : m < M.length) : M.set m (M.getD m d) = M := by
 rw [Im h]
 exact List.set_getElem_self h
theorem while_map {α R : Type} {f : α → α} {L : List α} {d : α} {body : List α × Int → (List α × Int → Option R) → Option R} {ret : List α → Option R} (hl : L.length ≤ 1000000)
  (hb : ∀ (M : List α) (m : Nat) n,M.length = L.length → m < L.length → body (M,(m : Int)) n = n (M.set m (f (M.getD m d)),((m + 1 : Nat) : Int)))
  (hr : ∀ (M : List α) n,M.length = L.length → body (M,(L.length : Int)) n = ret M) : whileO body Ea (L,0) = ret (L.map f) := by
 have key : ∀ (r m F : Nat),m + r = L.length → r < F → whileO body F ((L.take m).map f ++ L.drop m,(m : Int)) = ret (L.map f) := by
  intro r
  induction r with
  | zero =>
   intro m F hm hF
   obtain ⟨F,rfl⟩ : ∃ G,F = G + 1 := ⟨F - 1,by omega⟩
   obtain rfl : m = L.length := by omega
   rw [whileO,hr _ _ (by simp)]
   simp
  | succ r ih =>
   intro m F hm hF
   obtain ⟨F,rfl⟩ : ∃ G,F = G + 1 := ⟨F - 1,by omega⟩
   have hlt : m < L.length := by omega
   rw [whileO,hb _ _ _ (by simp; omega) hlt]
   have hd : L.drop m = L[m] :: L.drop (m + 1) := List.drop_eq_getElem_cons hlt
   have hml : (List.map f (List.take m L)).length = m := by
    rw [List.length_map,List.length_take]; omega
   have hg : ((L.take m).map f ++ L.drop m).getD m d = L[m] := by
    rw [hd,List.getD_eq_getElem?_getD,List.getElem?_append_right (by omega),hml,Nat.sub_self]
    rfl
   have ht : (L.take (m + 1)).map f ++ L.drop (m + 1) = (L.take m).map f ++ f L[m] :: L.drop (m + 1) := by
    have : L.take (m + 1) = L.take m ++ [L[m]] := by
     rw [List.take_add_one]; simp [hlt]
    rw [this,List.map_append,List.append_assoc]
    rfl
   rw [hg,hd,List.set_append_right _ _ (by omega),hml,Nat.sub_self,List.set_cons_zero,← ht]
   exact ih (m + 1) F (by omega) (by omega)
 have := key L.length 0 Ea (by omega) (by rw [Cs]; omega)
 simpa using this
def zH : Aa := { tree := zT,tasks := [],next := 0 }
theorem Pu (h : Aa) (h1 : h.tree.nodes.length ≤ 1000000) (h2 : h.tasks.length ≤ 1000000) : Mi h = some h := by
 unfold Mi
 rw [Sy _ (by omega),Option.bind_some,if_pos (by omega)]
def addK (h : Aa) (x : Aj) : Aa × Int × Int :=
 if decide (128 ≤ h.tasks.length) || decide (2147483647 < h.next) then (zH,0,7)
 else ({ tree := h.tree,tasks := h.tasks ++ [{ id := h.next,process := if x.process == 0 then h.next else x.process,group := x.group,user := x.user }],next := h.next + 1 },h.next,0)
theorem AeC {h : Aa} (w : WfH h) (x : Aj) : Tv h x = some (addK h x) := by
 have hl := w.len
 have h2 := w.tree.len2
 have hn := w.n1
 have hm := w.n2
 apply Ok.eq
 unfold Tv addK
 refine Ok.ite (fun c => ?_) fun c => ?_
 ·simp only [Bool.or_eq_true,decide_eq_true_eq] at c
  rw [if_pos]
  ·exact Ok.ret rfl
  ·simp only [Bool.or_eq_true,decide_eq_true_eq]
   omega
 ·simp only [Bool.or_eq_false_iff,decide_eq_false_iff_not] at c
  rw [if_neg]
  ·refine Ok.step (Pu h (by omega) (by omega)) ?_
   unfold Sp
   rw [At (by omega) (by omega)]
   refine Ok.ite (fun c => ?_) fun c => ?_
   ·rw [if_pos (c := (x.process == 0) = true) c]
    exact Ok.guard (by omega) (Ok.ret rfl)
   ·rw [if_neg (c := (x.process == 0) = true) (by rw [c]; simp)]
    exact Ok.guard (by omega) (Ok.ret rfl)
  ·simp only [Bool.or_eq_true,decide_eq_true_eq]
   omega
theorem Aat {L M : List Aj} {p : Int} : Gb (L ++ M) p = (Gb L p).or (Gb M p) := by
 unfold Gb
 rw [List.find?_append]
theorem addK_wf {h : Aa} (w : WfH h) {x : Aj} (hg : Hm h.tree x.group = true) (u1 : 0 ≤ x.user) (u2 : x.user ≤ 1048576) (hp : x.process = 0 ∨ x ∈ h.tasks) {r : Aa × Int × Int} (e : addK h x = r) (hr : r.2.2 = 0) : WfH r.1 := by
 have hl := w.len
 have hn := w.n1
 have hm := w.n2
 unfold addK at e
 split at e
 ·subst e; simp at hr
 rename_i hc
 simp only [Bool.or_eq_true,decide_eq_true_eq,not_or] at hc
 subst e
 have hlt := w.lt
 refine ⟨w.tree,by simp; omega,by simp only; omega,by simp only; omega,?_,?_,?_⟩
 ·rw [List.pairwise_append]
  exact ⟨w.sorted,by simp,fun a ha b hb => by simp at hb; subst hb; exact hlt a ha⟩
 ·intro y hy
  simp only
  rcases List.mem_append.mp hy with hy | hy
  ·have := hlt y hy
   omega
  ·simp at hy; subst hy; simp only; omega
 ·intro y hy
  rcases List.mem_append.mp hy with hy | hy
  ·have v := w.val y hy
   obtain ⟨p,q1,q2,q3⟩ := v.ldr
   exact ⟨v.pos,v.grp,v.u1,v.u2,p,by simp only; rw [Aat,q1]; rfl,q2,q3⟩
  ·rw [List.mem_singleton] at hy
   subst hy
   refine ⟨by simp only; omega,hg,u1,u2,?_⟩
   simp only
   have hq : (x.process = 0 ∧ (if (x.process == 0) = true then h.next else x.process) = h.next) ∨ (x.process ≠ 0 ∧ (if (x.process == 0) = true then h.next else x.process) = x.process) := by
    by_cases h0 : x.process = 0
    ·exact .inl ⟨h0,by rw [if_pos (by simp [h0])]⟩
    ·exact .inr ⟨h0,by rw [if_neg (by simpa using h0)]⟩
   generalize (if (x.process == 0) = true then h.next else x.process) = q at hq
   rcases hq with ⟨h0,rfl⟩ | ⟨h0,rfl⟩
   ·refine ⟨{ id := h.next,process := h.next,group := x.group,user := x.user },?_,rfl,rfl⟩
    rw [Aat]
    have : Gb h.tasks h.next = none := by
     unfold Gb
     rw [List.find?_eq_none]
     intro z hz
     have := hlt z hz
     simp; omega
    rw [this]
    simp [Gb]
   ·have v := w.val x (by rcases hp with h | h; exact absurd h h0; exact h)
    obtain ⟨p,q1,q2,q3⟩ := v.ldr
    exact ⟨p,by rw [Aat,q1]; rfl,q2,q3⟩
def AeR (h : Aa) (g u : Int) : Aa × Int × Int :=
 if decide (u < 0) || decide (1048576 < u) then (zH,0,1) else if !Hm h.tree g then (zH,0,4) else addK h { id := 0,process := 0,group := g,user := u }
theorem Agv {h : Aa} (w : WfH h) (g u : Int) : Sv h g u = some (AeR h g u) := by
 apply Ok.eq
 unfold Sv AeR
 refine Ok.step (Hl w) ?_
 simp only [Bool.not_true,Bool.false_eq_true,if_false]
 unfold Na
 by_cases h1 : u < 0
 ·simp only [h1,decide_true,if_true,Bool.true_or]
  exact Ok.ret rfl
 by_cases h2 : u > 1048576
 ·have : 1048576 < u := by omega
  simp only [h2,decide_true,if_true,Bool.or_true,ite_self]
  exact Ok.ret rfl
 ·have h3 : ¬ 1048576 < u := by omega
  simp only [h1,h2,decide_false,Bool.or_self,Bool.false_eq_true,if_false]
  refine Ok.step (Kk w.tree g) ?_
  refine Ok.ite (fun c => ?_) fun c => ?_
  ·rw [if_pos c]; exact Ok.ret rfl
  ·rw [if_neg (c := (!Hm h.tree g) = true) (by rw [c]; simp)]
   refine Ok.step (AeC w _) (Ok.ret rfl)
theorem spawnK_wf {h : Aa} (w : WfH h) {g u : Int} {r : Aa × Int × Int} (e : AeR h g u = r) (hr : r.2.2 = 0) : WfH r.1 := by
 unfold AeR at e
 split at e
 ·subst e; simp at hr
 split at e
 ·subst e; simp at hr
 rename_i h1 h2
 simp only [Bool.or_eq_true,decide_eq_true_eq,not_or] at h1
 exact addK_wf w (by simpa using h2) (by simp only; omega) (by simp only; omega) (.inl rfl) e hr
def Afb (h : Aa) (k : Int) : Aa × Int × Int := (Gb h.tasks k).elim (zH,0,4) (addK h)
theorem AgW {h : Aa} (w : WfH h) (k : Int) : Sr h k = some (Afb h k) := by
 apply Ok.eq
 unfold Sr Afb
 refine Ok.step (Hl w) ?_
 simp only [Bool.not_true,Bool.false_eq_true,if_false]
 refine Ok.step (Ow w k) ?_
 cases Gb h.tasks k with
 | none => exact Ok.ret rfl
 | some x =>
  simp only [Option.elim_some,Bool.not_true,Bool.false_eq_true,if_false]
  exact Ok.step (AeC w _) (Ok.ret rfl)
theorem cloneK_wf {h : Aa} (w : WfH h) {k : Int} {r : Aa × Int × Int} (e : Afb h k = r) (hr : r.2.2 = 0) : WfH r.1 := by
 unfold Afb at e
 cases hk : Gb h.tasks k with
 | none => rw [hk] at e; subst e; simp at hr
 | some x =>
  rw [hk] at e
  obtain ⟨hx,_⟩ := Zn hk
  have v := w.val x hx
  exact addK_wf w v.grp v.u1 v.u2 (.inr hx) e hr
def exitK (h : Aa) (k : Int) : Aa × Int :=
 (Gb h.tasks k).elim (zH,4) fun _ => ({ tree := h.tree,tasks := h.tasks.filter (fun x => x.id != k && x.process != k),next := h.next },0)
theorem Ahy {h : Aa} (w : WfH h) (k : Int) : Vg h k = some (exitK h k) := by
 have hl := w.len
 have h2 := w.tree.len2
 apply Ok.eq
 unfold Vg exitK
 refine Ok.step (Hl w) ?_
 simp only [Bool.not_true,Bool.false_eq_true,if_false]
 refine Ok.step (Ow w k) ?_
 cases Gb h.tasks k with
 | none => exact Ok.ret rfl
 | some x =>
  simp only [Option.elim_some,Bool.not_true,Bool.false_eq_true,if_false]
  refine Ok.step (Sy _ (by omega)) ?_
  refine Ok.guard (by omega) ?_
  have e := Ho (p := fun x : Aj => x.id != k && x.process != k) (f := fun x : Aj => x) (xs := h.tasks) (s0 := []) (r := Um h h.tree) (body := Uk k) (done := Um h h.tree) (fun k x s n hs => by
   unfold Uk Rh
   rw [if_pos hs]) (fun _ => rfl) (by simp; omega)
  rw [e]
  refine Ok.ret ?_
  simp
theorem exitK_wf {h : Aa} (w : WfH h) {k : Int} {r : Aa × Int} (e : exitK h k = r) (hr : r.2 = 0) : WfH r.1 := by
 unfold exitK at e
 cases hk : Gb h.tasks k with
 | none => rw [hk] at e; subst e; simp at hr
 | some x =>
  rw [hk] at e
  subst e
  have hs : (h.tasks.filter (fun x => x.id != k && x.process != k)).Pairwise (fun a b => a.id < b.id) := w.sorted.sublist List.filter_sublist
  refine ⟨w.tree,Nat.le_trans (List.length_filter_le _ _) w.len,w.n1,w.n2,hs,fun y hy => w.lt y (List.mem_filter.mp hy).1,fun y hy => ?_⟩
  obtain ⟨hy,hc⟩ := List.mem_filter.mp hy
  have v := w.val y hy
  obtain ⟨p,q1,q2,q3⟩ := v.ldr
  obtain ⟨m1,m2⟩ := Zn q1
  simp only [Bool.and_eq_true,bne_iff_ne] at hc
  refine ⟨v.pos,v.grp,v.u1,v.u2,p,?_,q2,q3⟩
  refine (getK_iff hs).mpr ⟨List.mem_filter.mpr ⟨m1,?_⟩,m2⟩
  simp only [Bool.and_eq_true,bne_iff_ne]
  omega
def putK (k g : Int) (y : Aj) : Aj := if y.id == k then { id := y.id,process := y.process,group := g,user := y.user } else y
def AeL (h : Aa) (k g : Int) : Aa × Int :=
 if (Gb h.tasks k).isSome && Hm h.tree g then ({ tree := h.tree,tasks := h.tasks.map (putK k g),next := h.next },0) else (zH,4)
theorem Ahb {h : Aa} (w : WfH h) (k g : Int) : Ss h k g = some (AeL h k g) := by
 have hl := w.len
 have h2 := w.tree.len2
 apply Ok.eq
 unfold Ss AeL
 refine Ok.step (Hl w) ?_
 simp only [Bool.not_true,Bool.false_eq_true,if_false]
 refine Ok.step (Ow w k) ?_
 cases hk : Gb h.tasks k with
 | none => exact Ok.ret rfl
 | some x =>
  simp only [Option.elim_some,Bool.not_true,Bool.false_eq_true,if_false,Option.isSome_some,Bool.true_and]
  refine Ok.step (Kk w.tree g) ?_
  unfold Qe
  refine Ok.ite (fun c => ?_) fun c => ?_
  ·rw [if_neg (by simpa using c)]; exact Ok.ret rfl
  ·rw [if_pos (c := Hm h.tree g = true) (by simpa using c)]
   refine Ok.step (Pu h (by omega) (by omega)) ?_
   have e := while_map (f := putK k g) (L := h.tasks) (d := default) (body := Ps k g h) (ret := fun M => some (({ tree := h.tree,tasks := M,next := h.next } : Aa),0)) (by omega) (fun M m n hM hm => by
    unfold Ps Qf
    simp only
    have em : Int.toNat (m : Int) = m := by omega
    rw [em,if_pos (by simp; omega),if_pos (by omega),if_pos (by omega),At (by omega) (by omega)]
    have ew : (m : Int) + 1 = ((m + 1 : Nat) : Int) := by omega
    rw [ew]
    by_cases hc : (M.getD m default).id = k
    ·rw [if_pos (by rw [hc]; simp),if_pos (by omega),if_pos (by omega),putK,if_pos (by rw [hc]; simp)]
    ·have hc' : ((M.getD m default).id == k) = false := by simpa using hc
     rw [if_neg (by rw [hc']; simp),putK,if_neg (by rw [hc']; simp),set_self (by omega)]) (fun M n hM => by
    unfold Ps
    simp only
    rw [hM,if_neg (by simp)])
   rw [e]
   exact Ok.ret rfl
theorem Lz (k g : Int) (y : Aj) : (putK k g y).id = y.id ∧ (putK k g y).process = y.process ∧ (putK k g y).user = y.user := by
 unfold putK
 split <;> exact ⟨rfl,rfl,rfl⟩
theorem getK_map {L : List Aj} {f : Aj → Aj} (hf : ∀ y ∈ L,(f y).id = y.id) {p : Int} : Gb (L.map f) p = (Gb L p).map f := by
 induction L with
 | nil => rfl
 | cons a r ih =>
  unfold Gb at *
  rw [List.map_cons,List.find?_cons,List.find?_cons,hf a (by simp)]
  cases (a.id == p)
  ·exact ih fun y hy => hf y (by simp [hy])
  ·rfl
theorem placeK_wf {h : Aa} (w : WfH h) {k g : Int} {r : Aa × Int} (e : AeL h k g = r) (hr : r.2 = 0) : WfH r.1 := by
 unfold AeL at e
 split at e
 case isFalse => subst e; simp at hr
 rename_i hc
 subst e
 simp only [Bool.and_eq_true] at hc
 refine ⟨w.tree,by simp; exact w.len,w.n1,w.n2,?_,?_,?_⟩
 ·rw [List.pairwise_map]
  refine w.sorted.imp fun h => ?_
  rw [(Lz k g _).1,(Lz k g _).1]
  exact h
 ·intro y hy
  obtain ⟨z,hz,rfl⟩ := List.mem_map.mp hy
  rw [(Lz k g _).1]
  exact w.lt z hz
 ·intro y hy
  obtain ⟨z,hz,rfl⟩ := List.mem_map.mp hy
  have v := w.val z hz
  obtain ⟨p,q1,q2,q3⟩ := v.ldr
  refine ⟨by rw [(Lz k g _).1]; exact v.pos,?_,by rw [(Lz k g _).2.2]; exact v.u1,by rw [(Lz k g _).2.2]; exact v.u2,putK k g p,?_,?_,?_⟩
  ·unfold putK
   split
   ·exact hc.2
   ·exact v.grp
  ·simp only
   rw [getK_map (fun y _ => (Lz k g y).1),(Lz k g _).2.1,q1]
   rfl
  ·rw [(Lz k g _).2.1,(Lz k g _).2.1,q2]
  ·rw [(Lz k g _).2.2,(Lz k g _).2.2,q3]
end Go.Dm

/- Plain theory, part 9: made hierarchies. -/
namespace Go.Dm
abbrev Tot {α : Type} (m : Option α) : Prop := Ok m (fun _ => True)
theorem Ez (t : Ae) (id : Int) : Tot (Dk t id) := by
 by_cases h : WfT t
 ·exact Ok.of_eq (Oq h id) trivial
 ·exact Ok.of_eq (Aam h id) trivial
theorem AgH (t : Ae) (id : Int) : Tot (Fx t id) := by
 unfold Fx
 exact Ok.bind (Ez t id) fun _ _ => Ok.ret trivial
theorem Yn (t : Ae) (id : Int) : (Ia t id).length ≤ t.nodes.length := by
 unfold Ia
 rw [List.length_map]
 exact List.length_filter_le _ _
theorem Vx (t : Ae) (id : Int) : Ok (Gy t id) (fun l => l.length ≤ 64) := by
 by_cases h : WfT t
 ·refine Ok.of_eq (Sn h id) ?_
  have := Yn t id
  have := h.len2
  split
  ·omega
  ·simp
 ·unfold Gy
  refine Ok.step (Afe h id) ?_
  exact Ok.ret (by simp)
theorem Aht (t : Ae) (id : Int) : (ancN t id).length ≤ t.nodes.length := by
 unfold ancN
 have := Abi t.nodes.reverse id
 simp at this
 split
 ·exact this
 ·simp
theorem AbU (t : Ae) (id : Int) : Ok (Hx t id) (fun l => l.length ≤ 64) := by
 by_cases h : WfT t
 ·refine Ok.of_eq (Yi h id) ?_
  have := Aht t id
  have := h.len2
  omega
 ·unfold Hx
  refine Ok.step (Afe h id) ?_
  exact Ok.ret (by simp)
theorem Abx (h : Aa) (id : Int) : Tot (Gt h id) := by
 by_cases w : WfH h
 ·exact Ok.of_eq (Ow w id) trivial
 ·exact Ok.of_eq (Adk w id) trivial
theorem Qo (h : Aa) (id : Int) : Tot (Hc h id) := by
 by_cases w : WfH h
 ·exact Ok.of_eq (Xy w id) trivial
 ·exact Ok.of_eq (Xl w id) trivial
theorem Sc {α β : Type} {body : Nat → α → Unit → (Unit → Option β) → Option β} {done : Unit → Option β} {xs : List α} (hb : ∀ k x n,Tot (n ()) → Tot (body k x () n)) (hd : Tot (done ())) : Tot (Be body done xs 0 ()) :=
 Ok.range (fun _ _ => True) trivial (fun _ _ _ _ _ _ _ hn => hb _ _ _ (hn () trivial)) (fun _ _ => hd)
theorem AeX (t : Ae) (id : Int) : Tot (Re t id) := by
 unfold Re
 refine Ok.bind (Ez _ _) fun _ _ => Ok.ite (fun _ => Ok.ret trivial) fun _ => ?_
 exact Ok.bind (Ez _ _) fun _ _ => Ok.ite (fun _ => Ok.ret trivial) fun _ => Ok.ret trivial
theorem Uw (t : Ae) (id : Int) : Tot (Ky t id) := by
 unfold Ky
 have hJ : ∀ r y,Tot (Jf r y) := fun r y => by
  unfold Jf Lh
  exact Ok.ite (fun _ => Ok.ret trivial) fun _ => Ok.ret trivial
 refine Ok.bind (Ez _ _) fun _ _ => Ok.ite (fun _ => Ok.ret trivial) fun _ => Ok.ite (fun _ => ?_) fun _ => hJ _ _
 exact Ok.bind (AeX _ _) fun _ _ => hJ _ _
theorem AbD (h : Aa) : Ok (Qq h) (fun b => b = true → WfH h) := by
 unfold Qq
 by_cases w : WfH h
 ·have := w.tree.len2
  refine Ok.step (Hl w) (Ok.guard (by omega) ?_)
  refine Ok.mono (P := fun _ => True) ?_ fun _ _ _ => w
  refine Sc (fun k x n hn => ?_) (Ok.ret trivial)
  unfold Xw
  have hJ : ∀ b,Tot (Ju n b) := fun b => by
   unfold Ju
   exact Ok.ite (fun _ => Ok.ret trivial) fun _ => hn
  refine Ok.bind (Uw _ _) fun _ _ => Ok.ite (fun _ => hJ _) fun _ => Ok.ite (fun _ => Ok.ite (fun _ => ?_) fun _ => hJ _) fun _ => hJ _
  exact Ok.bind (Qo _ _) fun _ _ => hJ _
 ·exact Ok.step (Mw w) (Ok.ret fun e => by simp at e)
theorem Pd (t : Ae) (id : Int) : Tot (Ku t id) := by
 unfold Ku
 refine Ok.bind (AbU _ _) fun l hl => Ok.guard (by omega) ?_
 refine Sc (fun k x n hn => ?_) (Ok.ret trivial)
 unfold Vq
 exact Ok.bind (Ez _ _) fun _ _ => Ok.ite (fun _ => Ok.ret trivial) fun _ => hn
theorem Tl (t : Ae) (id : Int) (b : Bool) : Tot (Mr t id b) := by
 unfold Mr
 refine Ok.ite (fun _ => Ok.ret trivial) fun _ => ?_
 refine Ok.bind (Vx _ _) fun l hl => Ok.guard (by omega) ?_
 refine Sc (fun k x n hn => ?_) (Ok.ret trivial)
 unfold Aal
 exact Ok.bind (Ez _ _) fun _ _ => Ok.ite (fun _ => Ok.ret trivial) fun _ => hn
theorem Afi {t : Ae} (w : WfT t) : ∀ (n : Nat) (id : Int),id.toNat < n → Tot (Km n t id) := by
 intro n
 induction n with
 | zero => intro id h; omega
 | succ n ih =>
  intro id hlt
  unfold Km Qh
  refine Ok.step (Oq w id) ?_
  cases hg : getN t id with
  | none => exact Ok.ret trivial
  | some x =>
   obtain ⟨hx,hxi⟩ := Zt hg
   simp only [Option.elim_some,Bool.not_true,Bool.false_eq_true,if_false]
   refine Ok.ite (fun _ => Ok.ret trivial) fun _ => ?_
   refine Ok.step (Oq w x.parent) ?_
   cases hp : getN t x.parent with
   | none => exact Tl t id false
   | some p =>
    obtain ⟨hpm,hpi⟩ := Zt hp
    simp only [Option.elim_some,if_true]
    refine Ok.ite (fun _ => Tl _ _ _) fun _ => ?_
    refine Ok.bind (ih p.id ?_) fun _ _ => Tl _ _ _
    have g1 := w.p.ge1 p hpm
    rcases w.p.par x hx with ⟨_,r⟩ | ⟨a,b,_⟩
    ·have := r.parent; omega
    ·omega
theorem On (t : Ae) (id : Int) : Tot (Mm t id) := by
 by_cases w : WfT t
 ·by_cases hid : id.toNat < Ea
  ·exact Afi w Ea id hid
  ·unfold Mm
   rw [Cs] at *
   unfold Km Qh
   refine Ok.step (Oq w id) ?_
   cases hg : getN t id with
   | none => exact Ok.ret trivial
   | some x =>
    obtain ⟨hx,hxi⟩ := Zt hg
    have := w.next x hx
    have := w.nextLe
    omega
 ·unfold Mm
  rw [Cs]
  unfold Km Qh
  exact Ok.step (Aam w id) (Ok.ret trivial)
theorem Nf (h : Aa) : Ok (Kr h) (fun b => b = true → WfH h) := by
 unfold Kr
 refine Ok.bind (AbD h) fun b hb => ?_
 refine Ok.ite (fun _ => Ok.ret fun e => by simp at e) fun c => ?_
 have w : WfH h := hb (by simpa using c)
 have := w.len
 have := w.tree.len2
 refine Ok.mono (P := fun _ => True) ?_ fun _ _ _ => w
 refine Ok.guard (by omega) (Sc (fun k x n hn => ?_) ?_)
 ·unfold Aar
  refine Ok.bind (Abx _ _) fun _ _ => Ok.bind (Pd _ _) fun _ _ => Ok.bind (Pd _ _) fun _ _ => ?_
  exact Ok.ite (fun _ => Ok.ret trivial) fun _ => hn
 ·unfold Aab
  refine Ok.guard (by omega) (Sc (fun k x n hn => ?_) (Ok.ret trivial))
  have h18 : ∀ b,Tot (Jq n b) := fun b => by
   unfold Jq
   exact Ok.ite (fun _ => Ok.ret trivial) fun _ => hn
  have h17 : ∀ r b,Tot (Lg h x n r b) := fun r b => by
   unfold Lg
   refine Ok.ite (fun _ => Ok.ret trivial) fun _ => Ok.ite (fun _ => Ok.ite (fun _ => Ok.ite (fun _ => h18 _) fun _ => ?_) fun _ => ?_) fun _ => h18 _
   ·exact Ok.bind (On _ _) fun _ _ => h18 _
   ·exact Ok.bind (On _ _) fun _ _ => h18 _
  unfold Aaq
  refine Ok.bind (Ez _ _) fun _ _ => Ok.bind (On _ _) fun _ _ => ?_
  refine Ok.ite (fun _ => Ok.ite (fun _ => h17 _ _) fun _ => ?_) fun _ => h17 _ _
  exact Ok.bind (Qo _ _) fun _ _ => h17 _ _
theorem AfB (h : Aa) (id a d : Int) : Tot (Sm h id a d) := by
 unfold Sm
 refine Ok.bind (AbD h) fun b hb => ?_
 have hf : Tot (Ig h id a d true) := Ok.ret trivial
 refine Ok.ite (fun _ => hf) fun c => ?_
 have w : WfH h := hb (by simpa using c)
 have := w.len
 have := w.tree.len2
 have hJ4 : ∀ r b,Tot (Lr h a d r b) := fun r b => by
  unfold Lr
  refine Ok.ite (fun _ => Ok.ret trivial) fun _ => ?_
  refine Ok.step (Pu h (by omega) (by omega)) ?_
  exact Ok.step (Aaf h.tree _ (by omega)) (Ok.ret trivial)
 have hJ : ∀ b,Tot (Ig h id a d b) := fun b => by
  unfold Ig
  refine Ok.ite (fun _ => Ok.ret trivial) fun _ => ?_
  refine Ok.bind (Ez _ _) fun r _ => Ok.ite (fun _ => Ok.ret trivial) fun _ => ?_
  refine Ok.bind (Uw _ _) fun _ _ => Ok.ite (fun _ => Ok.ret trivial) fun _ => ?_
  refine Ok.bind (Vx _ _) fun l hl => Ok.guard (by omega) (Sc (fun k x n hn => ?_) ?_)
  ·unfold Xd
   exact Ok.bind (Ez _ _) fun _ _ => Ok.ite (fun _ => Ok.ret trivial) fun _ => hn
  ·unfold Yy
   refine Ok.ite (fun _ => Ok.ite (fun _ => ?_) fun _ => hJ4 _ _) fun _ => hJ4 _ _
   exact Ok.bind (Qo _ _) fun _ _ => hJ4 _ _
 unfold Ye
 refine Ok.step rfl (Ok.ite (fun _ => hf) fun _ => Ok.step rfl (Ok.ite (fun _ => hf) fun _ => hJ _))
theorem Afl (h : Aa) (id a d : Int) : Ok (Qy h id a d) (fun r => r.2 = 0 → WfH r.1) := by
 unfold Qy
 have bad : ∀ (x : Aa) (n : Int),n ≠ 0 → Ok (some (x,n)) (fun r : Aa × Int => r.2 = 0 → WfH r.1) := fun x n hn => Ok.ret fun e => absurd e hn
 refine Ok.bind (Nf h) fun _ _ => Ok.ite (fun _ => bad _ _ (by decide)) fun _ => ?_
 refine Ok.bind (AfB _ _ _ _) fun r _ => Ok.ite (fun c => bad _ _ (by simpa using c)) fun _ => ?_
 refine Ok.bind (Nf r.1) fun b hb => Ok.ite (fun _ => bad _ _ (by decide)) fun c => ?_
 exact Ok.ret fun _ => hb (by simpa using c)
theorem AeO (h : Aa) (id : Int) : Ok (Qc h id) (fun r => r.2 = 0 → WfH r.1) := by
 unfold Qc
 have bad : ∀ (x : Aa) (n : Int),n ≠ 0 → Ok (some (x,n)) (fun r : Aa × Int => r.2 = 0 → WfH r.1) := fun x n hn => Ok.ret fun e => absurd e hn
 refine Ok.bind (Nf h) fun b hb => Ok.ite (fun _ => bad _ _ (by decide)) fun c => ?_
 have w : WfH h := hb (by simpa using c)
 have := w.len
 have := w.tree.len2
 have hJ : ∀ r b,Ok (Jd h id r b) (fun r => r.2 = 0 → WfH r.1) := fun r b => by
  unfold Jd
  refine Ok.ite (fun _ => bad _ _ (by decide)) fun _ => Ok.ite (fun _ => bad _ _ (by decide)) fun _ => ?_
  refine Ok.step (Pu h (by omega) (by omega)) (Ok.step (Aaf h.tree _ (by omega)) ?_)
  refine Ok.bind (Qo _ _) fun _ _ => ?_
  unfold Nh
  refine Ok.ite (fun _ => bad _ _ (by decide)) fun _ => ?_
  refine Ok.bind (Nf _) fun b hb => Ok.ite (fun _ => bad _ _ (by decide)) fun c => ?_
  exact Ok.ret fun _ => hb (by simpa using c)
 refine Ok.bind (Ez _ _) fun _ _ => Ok.ite (fun _ => bad _ _ (by decide)) fun _ => Ok.ite (fun _ => bad _ _ (by decide)) fun _ => ?_
 refine Ok.bind (Ez _ _) fun _ _ => Ok.bind (On _ _) fun _ _ => Ok.ite (fun _ => hJ _ _) fun _ => Ok.ite (fun _ => hJ _ _) fun _ => hJ _ _
theorem Aaa (h : Aa) (g : Int) : Tot (Ox h g) := by
 unfold Ox
 refine Ok.bind (Nf h) fun b hb => Ok.ite (fun _ => Ok.ret trivial) fun c => ?_
 refine Ok.bind (Ez _ _) fun _ _ => Ok.ite (fun _ => Ok.ret trivial) fun _ => ?_
 refine Ok.bind (On _ _) fun _ _ => Ok.ite (fun _ => Ok.ret trivial) fun _ => Ok.ite (fun _ => Ok.ret trivial) fun _ => Ok.ret trivial
theorem AaZ (h : Aa) (k g : Int) : Ok (Kg h k g) (fun r => r.2 = 0 → WfH r.1) := by
 unfold Kg
 have bad : ∀ (x : Aa) (n : Int),n ≠ 0 → Ok (some (x,n)) (fun r : Aa × Int => r.2 = 0 → WfH r.1) := fun x n hn => Ok.ret fun e => absurd e hn
 refine Ok.bind (Nf h) fun b hb => Ok.ite (fun _ => bad _ _ (by decide)) fun c => ?_
 have w : WfH h := hb (by simpa using c)
 have hJ : ∀ r b,Ok (Hi h k g r b) (fun r => r.2 = 0 → WfH r.1) := fun r b => by
  unfold Hi
  refine Ok.ite (fun _ => bad _ _ (by decide)) fun _ => ?_
  refine Ok.bind (Aaa _ _) fun _ _ => Ok.ite (fun c => bad _ _ (by simpa using c)) fun _ => ?_
  refine Ok.bind (Pd _ _) fun _ _ => Ok.bind (Pd _ _) fun _ _ => Ok.ite (fun _ => bad _ _ (by decide)) fun _ => ?_
  exact Ok.step (Ahb w k g) (Ok.ret fun e => placeK_wf w rfl e)
 refine Ok.bind (Abx _ _) fun _ _ => Ok.ite (fun _ => hJ _ _) fun _ => Ok.bind (AgH _ _) fun _ _ => hJ _ _
theorem step_ok {d : Al} (hd : Bv d) {h : Aa} (w : WfH h) : Ok (Nr d h) (fun r => WfH r.1 ∧ Bv r.2) := by
 have l1 := w.len
 have l2 := w.tree.len2
 unfold Nr
 refine Ok.bind (Abk hd h.tree (by omega)) fun r1 h1 => Ok.bind (Ix h1 5 (by omega)) fun r2 h2 => ?_
 have hJ1 : ∀ y : Al × Aa,Bv y.1 → WfH y.2 → Ok (Gs y) (fun r => WfH r.1 ∧ Bv r.2) := fun y a b => Ok.ret ⟨b,a⟩
 have hJ : ∀ b,Ok (Iy h r1 r2 b) (fun r => WfH r.1 ∧ Bv r.2) := fun b => by
  unfold Iy
  refine Ok.ite (fun _ => ?_) fun _ => Ok.ite (fun _ => ?_) fun _ => Ok.ite (fun _ => ?_) fun _ => hJ1 _ h2.1 w
  ·refine Ok.bind (AaT h2.1) fun r3 h3 => Ok.bind (Afl _ _ _ _) fun r4 h4 => Ok.ite (fun c => ?_) fun _ => hJ1 _ h3.1 w
   exact Ok.ret ⟨h4 (by simpa using c),h3.1⟩
  ·refine Ok.bind (AeO _ _) fun r4 h4 => Ok.ite (fun c => ?_) fun _ => hJ1 _ h2.1 w
   exact Ok.ret ⟨h4 (by simpa using c),h2.1⟩
  ·refine Ok.step (Oq w.tree _) (Ok.ite (fun c => ?_) fun _ => hJ1 _ h2.1 w)
   cases hg : getN h.tree r1.1 with
   | none => rw [hg] at c; simp at c
   | some x =>
    obtain ⟨hx,hxi⟩ := Zt hg
    simp only [Option.elim_some]
    refine Ok.bind (Fw h2.1 3 (by omega) (by omega)) fun r3 h3 => ?_
    refine Ok.step (Aaf _ _ (by omega)) (hJ1 _ h3.1 ?_)
    have v := w.tree.p.val x hx
    have wt := setT_wf w.tree (x := { id := x.id,parent := x.parent,name := x.name,control := x.control,kind := x.kind,owner := r3.1 }) hx rfl rfl rfl ⟨v.kind,v.c1,v.c2,h3.2.1,by simp only; omega⟩ (fun e => by
     rcases w.tree.p.par x hx with ⟨_,r⟩ | ⟨a,b,_⟩
     ·exact r.kind
     ·omega)
    refine ⟨wt,w.len,w.n1,w.n2,w.sorted,w.lt,fun y hy => ?_⟩
    have u := w.val y hy
    refine ⟨u.pos,?_,u.u1,u.u2,u.ldr⟩
    obtain ⟨z,hz,hzi⟩ := hasN_iff.mp u.grp
    refine hasN_iff.mpr ⟨Vo _ z,List.mem_map.mpr ⟨z,hz,rfl⟩,?_⟩
    unfold Vo
    split
    ·rename_i q
     have q : z.id = x.id := by simpa using q
     simp only
     omega
    ·exact hzi
 exact Ok.ite (fun _ => hJ _) fun _ => hJ _
theorem AgC {d : Al} (hd : Bv d) (n m : Int) (n0 : 0 ≤ n) (n1 : n ≤ 100) (m0 : 0 ≤ m) (m1 : m ≤ 100) : Ok (It d n m) (fun r => WfH r.1 ∧ Bv r.2) := by
 unfold It
 refine Ok.step (a := { tree := newT,tasks := [],next := 1 }) rfl ?_
 refine Ok.bind (Tree_ok hd n n0 (by omega)) fun r1 ⟨w1,h1⟩ => ?_
 rw [At (by omega) (by omega)]
 refine Ok.bind (Fw h1 (n + 3) (by omega) (by omega)) fun r2 ⟨h2,a1,a2⟩ => ?_
 refine Ok.while (fun s => Bv s.1 ∧ WfH s.2.1 ∧ s.2.2 ≤ 2000) (fun s => s.2.2.toNat) ⟨h2,?_,by simp only; omega⟩ (by rw [Cs]; simp only; omega) ?_
 ·exact ⟨w1,by simp,by simp,by simp,by simp,by simp,by simp⟩
 rintro ⟨d,h,c⟩ k ⟨b1,b2,b3⟩ hk
 simp only at b1 b2 b3 hk
 unfold Nb
 simp only
 refine Ok.ite (fun c1 => ?_) fun _ => ?_
 ·have hc := of_decide_eq_true c1
  refine Ok.bind (step_ok b1 b2) fun r3 h3 => ?_
  rw [At (by omega) (by omega)]
  exact hk _ ⟨h3.2,h3.1,by simp only; omega⟩ (by simp only; omega)
 rw [At (by omega) (by omega)]
 refine Ok.bind (Fw b1 (m + 1) (by omega) (by omega)) fun r3 ⟨h3,a3,a4⟩ => ?_
 clear hk
 refine Ok.while (fun s => Bv s.1 ∧ WfH s.2.1 ∧ s.2.2 ≤ 2000) (fun s => s.2.2.toNat) ⟨h3,b2,by simp only; omega⟩ (by rw [Cs]; simp only; omega) ?_
 clear b1 b2 b3
 rintro ⟨d,h,c⟩ k ⟨b1,b2,b3⟩ hk
 simp only at b1 b2 b3 hk
 unfold Nd
 simp only
 refine Ok.ite (fun c1 => ?_) fun _ => Ok.ret ⟨b2,b1⟩
 have hc := of_decide_eq_true c1
 have l1 := b2.len
 have l2 := b2.tree.len2
 have hw : w64 (c - 1) = c - 1 := At (by omega) (by omega)
 have hJ13 : ∀ y : Al × Aa,Bv y.1 → WfH y.2 → Ok (Dr (d,h,c) k y) (fun r => WfH r.1 ∧ Bv r.2) := fun y y1 y2 => by
  unfold Dr
  simp only
  rw [hw]
  exact hk _ ⟨y1,y2,by simp only; omega⟩ (by simp only; omega)
 have hJ16 : ∀ y : Al × Aa,Bv y.1 → WfH y.2 → Ok (Ev (d,h,c) k y) (fun r => WfH r.1 ∧ Bv r.2) := fun y y1 y2 => by
  unfold Ev
  refine Ok.bind (Xa y1 8 (by omega)) fun r4 h4 => Ok.ite (fun _ => ?_) fun _ => hJ13 _ h4 y2
  have := y2.len
  refine Ok.bind (AcT h4 _ (by omega)) fun r5 h5 => Ok.step (Ahy y2 _) (Ok.ite (fun c => ?_) fun _ => hJ13 _ h5 y2)
  exact hJ13 _ h5 (exitK_wf y2 rfl (by simpa using c))
 have hJ15 : ∀ y : Al × Aa,Bv y.1 → WfH y.2 → Ok (Et (d,h,c) k y) (fun r => WfH r.1 ∧ Bv r.2) := fun y y1 y2 => by
  unfold Et
  refine Ok.bind (Xa y1 4 (by omega)) fun r4 h4 => Ok.ite (fun _ => ?_) fun _ => hJ16 _ h4 y2
  have := y2.len
  have := y2.tree.len2
  refine Ok.bind (AcT h4 _ (by omega)) fun r5 h5 => Ok.bind (Abk h5 _ (by omega)) fun r6 h6 => Ok.bind (AaZ _ _ _) fun r7 h7 => Ok.ite (fun c => ?_) fun _ => hJ16 _ h6 y2
  exact hJ16 _ h6 (h7 (by simpa using c))
 have hJ14 : ∀ (r : Int × Al) (y : Aa),Bv r.2 → WfH y → Ok (Gf (d,h,c) k r y) (fun r => WfH r.1 ∧ Bv r.2) := fun r y y1 y2 => by
  unfold Gf
  refine Ok.bind (Xa y1 3 (by omega)) fun r4 h4 => Ok.ite (fun _ => ?_) fun _ => hJ15 _ h4 y2
  have := y2.len
  refine Ok.bind (AcT h4 _ (by omega)) fun r5 h5 => Ok.step (AgW y2 _) (Ok.ite (fun c => ?_) fun _ => hJ15 _ h5 y2)
  exact hJ15 _ h5 (cloneK_wf y2 rfl (by simpa using c))
 refine Ok.bind (Abk b1 _ (by omega)) fun r4 h4 => Ok.bind (Aaa _ _) fun _ _ => Ok.ite (fun _ => hJ13 _ h4 b2) fun _ => ?_
 refine Ok.bind (Fw h4 3 (by omega) (by omega)) fun r5 h5 => Ok.step (Agv b2 _ _) (Ok.ite (fun c => ?_) fun _ => hJ14 _ _ h5.1 b2)
 exact hJ14 _ _ h5.1 (spawnK_wf b2 rfl (by simpa using c))
end Go.Dm

/- Plain theory, part 10: the program's own Check of trees. -/
namespace Go.Dm
theorem Adq (bs : ByteArray) (i : Nat) (r : List UInt8) : ByteArray.toList.loop bs i r = r.reverse ++ bs.data.toList.drop i := by
 by_cases h : i < bs.size
 ·rw [ByteArray.toList.loop,if_pos h,Adq bs (i + 1)]
  have hd : bs.data.toList.drop i = bs.get! i :: bs.data.toList.drop (i + 1) := by
   rw [List.drop_eq_getElem_cons (show i < bs.data.toList.length from h)]
   congr 1
   have : bs.get! i = bs.data[i]! := rfl
   rw [this,getElem!_pos bs.data i h]
   simp
  rw [hd]
  simp
 ·rw [ByteArray.toList.loop,if_neg h,List.drop_of_length_le (by simpa using h)]
  simp
termination_by bs.size - i
theorem Ahz (bs : ByteArray) : bs.toList = bs.data.toList := by
 unfold ByteArray.toList
 rw [Adq]
 simp
theorem beqS_eq {a b : ByteArray} (h : Dx a b = true) : a = b := by
 simp only [Dx,beq_iff_eq,Ahz] at h
 exact ByteArray.ext (Array.toList_inj.mp h)
theorem AgP {c : Int} (h0 : 0 ≤ c) (h : c ≤ 31) : Ej .i64 c 31 = 0 := by
 have : ∀ n : Fin 32,Ej .i64 ((n.val : Nat) : Int) 31 = 0 := by decide
 have := this ⟨c.toNat,by omega⟩
 simpa [Int.toNat_of_nonneg h0] using this
theorem AgB {c : Int} (h : 31 < c) (hc : c < 9223372036854775808) : Ej .i64 c 31 ≠ 0 := by
 obtain ⟨n,rfl⟩ : ∃ n : Nat,c = (n : Int) := ⟨c.toNat,by omega⟩
 intro e
 unfold Ej at e
 have hb : IntKind.i64.bits = 64 := rfl
 rw [hb] at e
 generalize hx : (BitVec.ofInt 64 (n : Int) &&& ~~~(BitVec.ofInt 64 31)) = x at e
 have hn : ∀ i,5 ≤ i → n.testBit i = false := by
  intro i hi
  by_cases h63 : i < 63
  ·have h0 : x.toNat < 2 ^ 64 := x.isLt
   have hle : x.toNat ≤ n := by
    rw [← hx,BitVec.toNat_and]
    refine Nat.le_trans Nat.and_le_left ?_
    rw [BitVec.ofInt_natCast,BitVec.toNat_ofNat]
    exact Nat.mod_le _ _
   have hw : IntKind.i64.wrap ((x.toNat : Nat) : Int) = ((x.toNat : Nat) : Int) := Zw (by omega) (by omega)
   rw [hw] at e
   have hx0 : x = 0#64 := by
    apply BitVec.eq_of_toNat_eq
    simp
    omega
   have : x.getLsbD i = false := by rw [hx0]; simp
   rw [← hx,BitVec.getLsbD_and,BitVec.getLsbD_not] at this
   have h31 : (BitVec.ofInt 64 31).getLsbD i = false := by
    have : (BitVec.ofInt 64 31) = BitVec.ofNat 64 31 := rfl
    rw [this,BitVec.getLsbD_ofNat]
    have : Nat.testBit 31 i = false := Nat.testBit_lt_two_pow (Nat.lt_of_lt_of_le (by decide : 31 < 2 ^ 5) (Nat.pow_le_pow_right (by decide) hi))
    simp [this]
   rw [h31] at this
   have e2 : (BitVec.ofInt 64 (n : Int)).getLsbD i = n.testBit i := by
    rw [BitVec.ofInt_natCast,BitVec.getLsbD_ofNat]
    simp
    omega
   rw [e2] at this
   have h64 : i < 64 := by omega
   simpa [h64] using this
  ·exact Nat.testBit_lt_two_pow (Nat.lt_of_lt_of_le (show n < 2 ^ 63 by omega) (Nat.pow_le_pow_right (by decide) (by omega)))
 have : n < 2 ^ 5 := Nat.lt_pow_two_of_testBit n hn
 omega
theorem Agp (s : ByteArray) (h : s.size ≤ 9223372036854775807) : Tf s = some (Es s) := by
 apply Ok.eq
 unfold Tf
 refine Ok.guard (by rw [Oo]; exact h) ?_
 refine Ok.range (fun pre _ => pre.all Ng = true) rfl ?_ ?_
 ·intro pre x post _ n e hI hn
  unfold Xx We
  refine Ok.step rfl ?_
  refine Ok.ite (fun c => ?_) fun c => ?_
  ·refine Ok.ret ?_
   have : (Il s).all Ng = false := by
    rw [e,List.all_append,List.all_cons]
    have : Ng x = false := by simpa only [Ng,Bool.not_eq_true'] using c
    simp [this]
   simp [Es,this]
  ·refine hn () ?_
   have : Ng x = true := by simpa only [Ng,Bool.not_eq_false'] using c
   rw [List.all_append,hI]
   simp [this]
 ·intro _ hI
  unfold Yu Ni
  refine Ok.ite (fun c => ?_) fun c => ?_
  ·have hs : 0 < s.size := by
    rcases Nat.eq_zero_or_pos s.size with h0 | h0
    ·exfalso
     have : s = ByteArray.empty := by
      apply ByteArray.ext
      apply Array.ext
      ·exact h0
      ·intro i h1 h2
       simp at h2
     rw [this] at c
     simp [AbS] at c
    ·exact h0
   refine Ok.ite (fun c2 => ?_) fun c2 => ?_
   ·have := of_decide_eq_true c2
    refine Ok.guard hs (Ok.ret ?_)
    have h32 : s.size ≤ 32 := by omega
    simp [Es,hs,h32,hI]
   ·have := of_decide_eq_false c2
    refine Ok.ret ?_
    have h32 : ¬ s.size ≤ 32 := by omega
    simp [Es,h32]
  ·refine Ok.ret ?_
   have : s.size = 0 := by
    rw [beqS_eq (a := s) (b := ByteArray.empty) (by simpa using c)]
    rfl
   simp [Es,this]
end Go.Dm

/- Plain theory, part 11: the program's Check of trees is the document's. -/
namespace Go.Dm
def Wj (x : Af) : Prop := x.name.size ≤ 9223372036854775807 ∧ x.control < 9223372036854775808
theorem Agz {pre : List Af} {y x : Af} (hl : pre.length ≤ 1000000) (hx : Wj x) :
  Uz (pre ++ [y]) x = some (decide (y.id < x.id) && Es x.name && (x.kind == 0 || x.kind == 1) && (pre ++ [y]).any (fun k => k.id == x.parent) && (pre ++ [y]).all (fun k => !(k.parent == x.parent && Dx k.name x.name))) := by
 apply Ok.eq
 unfold Uz
 have hw : w64 (((pre ++ [y]).length : Int) - 1) = (pre.length : Int) := by
  rw [At (by simp) (by simp; omega)]
  simp
 have ey : (pre ++ [y]).getD (Int.toNat (pre.length : Int)) default = y := by
  rw [show Int.toNat (pre.length : Int) = pre.length by omega]
  exact Yp (post := [])
 rw [hw,ey]
 refine Ok.guard (by simp; omega) ?_
 refine Ok.ite (fun c => ?_) fun c => ?_
 ·have := of_decide_eq_true c
  have : ¬ y.id < x.id := by omega
  refine Ok.ret ?_
  simp [this]
 have hlt : y.id < x.id := by
  have := of_decide_eq_false c
  omega
 refine Ok.step (Agp _ hx.1) ?_
 refine Ok.ite (fun c => ?_) fun c => ?_
 ·refine Ok.ret ?_
  have : Es x.name = false := by simpa using c
  simp [this]
 have hv : Es x.name = true := by simpa using c
 have hloop : (x.kind == 0 || x.kind == 1) = true → Ok (Jm (pre ++ [y]) x false) (· = (decide (y.id < x.id) && Es x.name && (x.kind == 0 || x.kind == 1) && (pre ++ [y]).any (fun k => k.id == x.parent) && (pre ++ [y]).all (fun k => !(k.parent == x.parent && Dx k.name x.name)))) := by
  intro hk
  rw [hk,hv]
  simp only [hlt,decide_true,Bool.and_self,Bool.true_and]
  have hlp : (pre ++ [y]).length ≤ 9223372036854775807 := by simp; omega
  generalize pre ++ [y] = P at *
  unfold Jm
  refine Ok.guard hlp ?_
  refine Ok.range (fun pre s => s = pre.any (fun k => k.id == x.parent) ∧ pre.all (fun k => !(k.parent == x.parent && Dx k.name x.name)) = true) ⟨rfl,rfl⟩ ?_ ?_
  ·intro q z post s n e hI hn
   unfold Aay
   refine Ok.ite (fun c => ?_) fun c => ?_
   ·refine Ok.ret ?_
    have : P.all (fun k => !(k.parent == x.parent && Dx k.name x.name)) = false := by
     rw [e,List.all_append,List.all_cons,c]
     simp
    rw [this,Bool.and_false]
   ·refine hn _ ⟨?_,?_⟩
    ·rw [List.any_append,← hI.1]
     simp
    ·rw [List.all_append,hI.2,List.all_cons,c]
     rfl
  ·intro s hI
   refine Ok.ret ?_
   rw [hI.2,Bool.and_true]
   exact hI.1
 have hbad : (x.kind == 0 || x.kind == 1) = false → Ok (Jm (pre ++ [y]) x true) (· = (decide (y.id < x.id) && Es x.name && (x.kind == 0 || x.kind == 1) && (pre ++ [y]).any (fun k => k.id == x.parent) && (pre ++ [y]).all (fun k => !(k.parent == x.parent && Dx k.name x.name)))) := by
  intro hk
  refine Ok.ret ?_
  rw [hk]
  simp
 refine Ok.ite (fun c => ?_) fun c => ?_
 ·have h0 : ¬ x.kind = 0 := by simpa using c
  by_cases h1 : x.kind = 1
  ·have : (x.kind != 1) = false := by simp [h1]
   rw [this]
   exact hloop (by simp [h1])
  ·have : (x.kind != 1) = true := by simpa using h1
   rw [this]
   exact hbad (by simp [h0,h1])
 ·exact hloop (by
   have : x.kind = 0 := by simpa using c
   simp [this])
theorem nodes_pre {L pre post : List Af} {x : Af} (h : WfP L) (e : L = pre ++ x :: post) (hp : pre ≠ []) : WfP pre ∧ Qr x ∧ NodeS pre x := by
 induction h generalizing post with
 | root z v r =>
  exfalso
  have : (pre ++ x :: post).length = 1 := by rw [← e]; rfl
  simp at this
  have := List.length_pos_iff.mpr hp
  omega
 | snoc L z w v s ih =>
  rcases Me post with rfl | ⟨p',u,rfl⟩
  ·have := List.append_inj' (s₁ := L) (t₁ := [z]) (s₂ := pre) (t₂ := [x]) (by simpa using e) rfl
   obtain ⟨rfl,e2⟩ := this
   obtain rfl : z = x := by simpa using e2
   exact ⟨w,v,s⟩
  ·have e2 : L ++ [z] = (pre ++ x :: p') ++ [u] := by simpa using e
   have := List.append_inj' e2 rfl
   exact ih this.1
theorem up_pre {L pre post : List Af} (h : WfP L) (e : L = pre ++ post) (hp : WfP pre) {x : Af} (hx : x ∈ pre) : upR L.reverse x.id = upR pre.reverse x.id := by
 rw [e,List.reverse_append]
 refine Vp fun y hy => ?_
 have hs := h.sorted
 rw [e,List.pairwise_append] at hs
 have := hs.2.2 x hx y (by simpa using hy)
 omega
theorem Agd (t : Ae) (hm : ∀ x ∈ t.nodes,Wj x) : Ok (Tm t) (fun b => b = true ↔ WfT t) := by
 have bad : ¬ WfT t → Ok (some false) (fun b => b = true ↔ WfT t) := fun hn => Ok.ret ⟨fun e => by simp at e,fun w => absurd w hn⟩
 unfold Tm
 refine Ok.ite (fun c => ?_) fun c => ?_
 ·have := of_decide_eq_true c
  exact bad fun w => by have := w.len1; omega
 have l1 := of_decide_eq_false c
 refine Ok.ite (fun c => ?_) fun c => ?_
 ·have := of_decide_eq_true c
  exact bad fun w => by have := w.len2; omega
 have l2 := of_decide_eq_false c
 refine Ok.guard (by omega) ?_
 unfold Zh
 refine Ok.step rfl ?_
 unfold Nl
 have hroot0 : WfT t → ((((t.nodes.getD 0 default).id == 1 && (t.nodes.getD 0 default).parent == 0) && Dx (t.nodes.getD 0 default).name ByteArray.empty) && (t.nodes.getD 0 default).kind == 0) = true := by
  intro w
  obtain ⟨x,r,e,hr⟩ := w.root
  rw [e]
  simp [hr.id,hr.parent,hr.name,hr.kind]
 refine Ok.ite (fun c => ?_) fun c => ?_
 ·exact bad fun w => by rw [hroot0 w] at c; simp at c
 have hR : Zs (t.nodes.getD 0 default) := by
  simp only [Bool.not_eq_false',Bool.and_eq_true,beq_iff_eq] at c
  exact ⟨c.1.1.1,c.1.1.2,c.1.2,c.2⟩
 refine Ok.guard (by omega) ?_
 refine Ok.range (fun pre s => (pre = [] ∧ ∀ i,s.get i = 0) ∨ (WfP pre ∧ (∀ y ∈ pre,s.get y.id = ((upR pre.reverse y.id).length : Int) - 1 ∧ (upR pre.reverse y.id).length ≤ 9) ∧ ∀ i,(∀ y ∈ pre,y.id ≠ i) → s.get i = 0)) (.inl ⟨rfl,fun i => rfl⟩) ?_ ?_
 ·intro pre x post s n he hI hn
  have hxm : x ∈ t.nodes := by rw [he]; simp
  have hJ : ∀ b,(b = true → ¬ WfT t) → (b = false → Qr x ∧ (pre ≠ [] → NodeS pre x)) → (Qr x → pre = [] → Zs x) → Ok (Gw pre.length x s n b) (fun b => b = true ↔ WfT t) := by
   intro b hbt hbf hroot
   unfold Gw
   refine Ok.ite (fun c => bad (hbt c)) fun c => ?_
   obtain ⟨hv,hs⟩ := hbf c
   unfold Pp
   rcases hI with ⟨rfl,hz⟩ | ⟨hw,hd,hz⟩
   ·simp only [List.length_nil,Int.ofNat_eq_natCast,Int.cast_ofNat_Int,gt_iff_lt,Int.lt_irrefl,decide_false,Bool.false_eq_true,if_false]
    rw [hz]
    simp only [Int.reduceLT,decide_false,Bool.false_eq_true,if_false]
    have hr := hroot hv rfl
    refine hn _ (.inr ⟨.root x hv hr,?_,fun i _ => hz i⟩)
    intro y hy
    obtain rfl : y = x := by simpa using hy
    rw [hz]
    simp [upR,hr.parent]
   ·have hne : pre ≠ [] := by
     intro e
     have := hw.pos
     simp [e] at this
    have hs := hs hne
    have hpos := hw.pos
    have hgt : decide (((pre.length : Nat) : Int) > 0) = true := by simp; omega
    rw [hgt]
    simp only [if_true]
    obtain ⟨p,hp,hpp⟩ := hs.parent
    have hdp := hd p hp
    rw [hpp] at hdp
    have hup : upR (pre ++ [x]).reverse x.id = x.id :: upR pre.reverse x.parent := by
     rw [List.reverse_append,List.reverse_cons,List.reverse_nil,List.nil_append,List.singleton_append,upR,if_pos (by simp)]
    have hgx : (s.set x.id (w64 (s.get x.parent + 1))).get x.id = ((upR pre.reverse x.parent).length : Int) := by
     rw [Aao,if_pos rfl,hdp.1,At (by omega) (by omega)]
     omega
    have hwx : WfP (pre ++ [x]) := .snoc pre x hw hv hs
    refine Ok.ite (fun c => ?_) fun c => ?_
    ·refine bad fun w => ?_
     have := of_decide_eq_true c
     rw [hgx] at this
     have hdx := w.depth x hxm
     unfold upT at hdx
     rw [up_pre w.p (show t.nodes = (pre ++ [x]) ++ post by rw [he]; simp) hwx (by simp),hup] at hdx
     simp at hdx
     omega
    ·have hle := of_decide_eq_false c
     rw [hgx] at hle
     refine hn _ (.inr ⟨hwx,?_,?_⟩)
     ·intro y hy
      rcases List.mem_append.mp hy with hy | hy
      ·have hlt := hs.lt y hy
       rw [Aao,if_neg (by omega),AcO (by omega)]
       exact hd y hy
      ·obtain rfl : y = x := by simpa using hy
       rw [hgx,hup]
       simp
       omega
     ·intro i hi
      have := hi x (by simp)
      rw [Aao,if_neg (by omega)]
      exact hz i fun y hy => hi y (by simp [hy])
  have hroot : Qr x → pre = [] → Zs x := by
   intro _ e
   subst e
   rw [he] at hR
   exact hR
  unfold Yj
  have hbad : ∀ P : Prop,(WfT t → P) → ¬ P → Ok (Gw pre.length x s n true) (fun b => b = true ↔ WfT t) := fun P h1 h2 => hJ true (fun _ w => h2 (h1 w)) (by simp) hroot
  refine Ok.ite (fun c => ?_) fun c => ?_
  ·have := of_decide_eq_true c
   exact hbad (0 ≤ x.control) (fun w => (w.p.val x hxm).c1) (by omega)
  have c1 := of_decide_eq_false c
  refine Ok.ite (fun c => ?_) fun c => ?_
  ·refine hbad (x.control ≤ 31) (fun w => (w.p.val x hxm).c2) fun h => ?_
   rw [AgP (by omega) h] at c
   simp at c
  have c2 : x.control ≤ 31 := by
   by_cases h : x.control ≤ 31
   ·exact h
   ·have := AgB (c := x.control) (by omega) (hm x hxm).2
    have c' : Ej .i64 x.control 31 = 0 := by simpa using c
    exact absurd c' this
  refine Ok.ite (fun c => ?_) fun c => ?_
  ·have := of_decide_eq_true c
   exact hbad (0 ≤ x.owner) (fun w => (w.p.val x hxm).o1) (by omega)
  have o1 := of_decide_eq_false c
  refine Ok.ite (fun c => ?_) fun c => ?_
  ·have := of_decide_eq_true c
   exact hbad (x.owner ≤ 1048576) (fun w => (w.p.val x hxm).o2) (by omega)
  have o2 := of_decide_eq_false c
  refine Ok.ite (fun c => ?_) fun c => ?_
  ·have hk := of_decide_eq_true c
   have hle : pre.length ≤ t.nodes.length := by rw [he]; simp
   refine Ok.guard (by omega) ?_
   have ht : t.nodes.take pre.length = pre := by rw [he]; simp
   rw [ht]
   rcases Me pre with rfl | ⟨pr,y,rfl⟩
   ·simp at hk
   have hw : WfP (pr ++ [y]) := by
    rcases hI with ⟨e,_⟩ | ⟨h,_⟩
    ·simp at e
    ·exact h
   refine Ok.step (Agz (by simp at hle; omega) (hm x hxm)) ?_
   refine hJ _ ?_ ?_ hroot
   ·intro hb w
    obtain ⟨_,v,s⟩ := nodes_pre w.p he (by simp)
    have a1 := s.lt y (by simp)
    have a2 := s.valid
    have a3 : (x.kind == 0 || x.kind == 1) = true := by
     rcases v.kind with h | h <;> simp [h]
    have a4 : (pr ++ [y]).any (fun k => k.id == x.parent) = true := by
     obtain ⟨p,hp,hpp⟩ := s.parent
     exact List.any_eq_true.mpr ⟨p,hp,by simp [hpp]⟩
    have a5 : (pr ++ [y]).all (fun k => !(k.parent == x.parent && Dx k.name x.name)) = true := by
     rw [List.all_eq_true]
     intro k hk
     by_cases q : k.parent = x.parent
     ·simp [s.fresh k hk q]
     ·simp [q]
    simp only [a1,a2,a3,a4,a5,decide_true] at hb
    simp at hb
   ·intro hb
    simp only [Bool.not_eq_false',Bool.and_eq_true,decide_eq_true_eq,List.any_eq_true,List.all_eq_true,beq_iff_eq,Bool.or_eq_true] at hb
    obtain ⟨⟨⟨⟨a1,a2⟩,a3⟩,a4⟩,a5⟩ := hb
    refine ⟨⟨a3,by omega,c2,by omega,by omega⟩,fun _ => ⟨?_,a2,a4,?_⟩⟩
    ·intro z hz
     have hs := hw.sorted
     rw [List.pairwise_append] at hs
     rcases List.mem_append.mp hz with hz | hz
     ·have := hs.2.2 z hz y (by simp)
      omega
     ·obtain rfl : z = y := by simpa using hz
      exact a1
    ·intro z hz hp
     have := a5 z hz
     simpa [hp] using this
  ·have hk := of_decide_eq_false c
   have e : pre = [] := List.length_eq_zero_iff.mp (by omega)
   refine hJ false (by simp) (fun _ => ⟨?_,fun h => absurd e h⟩) hroot
   subst e
   rw [he] at hR
   exact ⟨.inl hR.kind,by omega,c2,by omega,by omega⟩
 ·intro s hI
  unfold Xi Oh
  have hw : w64 ((t.nodes.length : Int) - 1) = ((t.nodes.length - 1 : Nat) : Int) := by
   rw [At (by omega) (by omega)]
   omega
  rw [hw]
  refine Ok.guard (by omega) ?_
  have : Int.toNat ((t.nodes.length - 1 : Nat) : Int) = t.nodes.length - 1 := by omega
  rw [this]
  rcases hI with ⟨e,_⟩ | ⟨hp,hd,_⟩
  ·rw [e] at l1; simp at l1
  refine Ok.ite (fun c => ?_) fun c => ?_
  ·have hc := of_decide_eq_true c
   refine Ok.ret ⟨fun e => ?_,fun w => ?_⟩
   ·exact ⟨by omega,by omega,hp.split,fun x hx => (hd x hx).2,hc,by simpa using e⟩
   ·simpa using w.nextLe
  ·have := of_decide_eq_false c
   exact bad fun w => by have := w.last; omega
theorem WfP.names {L : List Af} (h : WfP L) : ∀ x ∈ L,Wj x := by
 intro x hx
 have v := h.val x hx
 refine ⟨?_,by have := v.c2; omega⟩
 rcases h.par x hx with ⟨_,r⟩ | ⟨_,_,_,hv⟩
 ·rw [beqS_eq r.name]
  decide
 ·simp only [Es,Bool.and_eq_true,decide_eq_true_eq] at hv
  omega
end Go.Dm

/- Plain theory, part 12: subtrees. -/
namespace Go.Dm
theorem Aav {α : Type} {p : α → Bool} {xs : List α} {body : Nat → α → Unit → (Unit → Option Int) → Option Int} {done : Unit → Option Int}
  (hb : ∀ k x n,body k x () n = if p x then some ((k : Nat) : Int) else n ()) (hd : done () = some (-1)) : Be body done xs 0 () = some ((xs.findIdx? p).elim (-1) (fun i => (i : Int))) := by
 have key : ∀ (ys : List α) (k : Nat),Be body done ys k () = some ((ys.findIdx? p).elim (-1) (fun i => ((i + k : Nat) : Int))) := by
  intro ys
  induction ys with
  | nil => intro k; simp [Be,hd]
  | cons x r ih =>
   intro k
   rw [Be,hb,List.findIdx?_cons]
   cases hp : p x
   ·simp only [Bool.false_eq_true,if_false]
    rw [ih (k + 1)]
    cases r.findIdx? p with
    | none => rfl
    | some i =>
     simp only [Option.map_some,Option.elim_some]
     congr 2
     omega
   ·simp
 have := key xs 0
 simpa using this
theorem AbW {α : Type} (p : α → Bool) (xs : List α) (d : α) :
  (∃ i,i < xs.length ∧ xs.findIdx? p = some i ∧ xs.find? p = some (xs.getD i d)) ∨ (xs.findIdx? p = none ∧ xs.find? p = none) := by
 induction xs with
 | nil => exact .inr ⟨rfl,rfl⟩
 | cons x r ih =>
  rw [List.findIdx?_cons,List.find?_cons]
  cases hp : p x
  ·rcases ih with ⟨i,h1,h2,h3⟩ | ⟨h1,h2⟩
   ·refine .inl ⟨i + 1,by simp; omega,?_,?_⟩
    ·simp [h2]
    ·simpa using h3
   ·refine .inr ⟨?_,?_⟩
    ·simp [h1]
    ·simpa using h2
  ·exact .inl ⟨0,by simp,by simp,by simp⟩
theorem AhO (h : Aa) (id : Int) (hl : h.tasks.length ≤ 1000000) : Wx h id = some ((h.tasks.findIdx? (fun x => x.id == id)).elim (-1) (fun i => (i : Int))) := by
 unfold Wx Gc
 rw [if_pos (by omega),Aav (p := fun x : Aj => x.id == id) (fun k x n => rfl) rfl]
 rfl
theorem Xn (h : Aa) (id : Int) (hl : h.tasks.length ≤ 1000000) : Qg h id = some ((Gb h.tasks id).elim (zK,false) (fun x => (x,true))) := by
 unfold Qg Gb
 rw [AhO h id hl,Option.bind_some]
 rcases AbW (fun x : Aj => x.id == id) h.tasks default with ⟨i,h1,h2,h3⟩ | ⟨h1,h2⟩
 ·rw [h2,h3,Option.elim_some,Option.elim_some,if_neg (by simp),if_pos (by omega),show Int.toNat (i : Int) = i by omega]
 ·rw [h1,h2]
  rfl
theorem AbM (t : Ae) (id : Int) (hl : t.nodes.length ≤ 1000000) : Nt t id = some ((t.nodes.findIdx? (fun x => x.id == id)).elim (-1) (fun i => (i : Int))) := by
 unfold Nt Fp
 rw [if_pos (by omega),Aav (p := fun x : Af => x.id == id) (fun k x n => rfl) rfl]
 rfl
theorem Aby (t : Ae) (id : Int) (hl : t.nodes.length ≤ 1000000) : Ok (Nt t id) (fun i => decide (i < 0) = !Hm t id ∧ decide (i ≥ 0) = Hm t id) := by
 refine Ok.of_eq (AbM t id hl) ?_
 unfold Hm getN
 rcases AbW (fun x : Af => x.id == id) t.nodes default with ⟨i,h1,h2,h3⟩ | ⟨h1,h2⟩
 ·rw [h2,h3]
  have : ¬ (i : Int) < 0 := by omega
  simp [this]
 ·rw [h1,h2]
  simp
theorem AbK (t : Ae) (id : Int) (hl : t.nodes.length ≤ 1000000) : Mq t id = some (Ia t id) := by
 unfold Mq
 rw [if_pos (by omega)]
 refine (Ho (p := fun x : Af => x.parent == id) (f := fun x : Af => x.id) (r := some) ?_ (fun _ => rfl) (by simp; omega)).trans (by simp [Ia])
 intro k x s n hs
 unfold Qv Kf
 rw [if_pos hs]
theorem Ael {α : Type} [DecidableEq α] : ∀ {l m : List α},l.Nodup → (∀ x ∈ l,x ∈ m) → l.length ≤ m.length
 | [],_,_,_ => by simp
 | a :: r,m,hn,hs => by
  rw [List.nodup_cons] at hn
  have ha := hs a (by simp)
  have := Ael (l := r) (m := m.erase a) hn.2 fun x hx => by
   have hne : x ≠ a := fun e => hn.1 (by rw [← e]; exact hx)
   rw [List.mem_erase_of_ne hne]
   exact hs x (by simp [hx])
  rw [List.length_erase_of_mem ha] at this
  have := List.length_pos_of_mem ha
  simp
  omega
theorem WfT.id_pos {t : Ae} (w : WfT t) {x : Af} (h : x ∈ t.nodes) : 1 ≤ x.id := w.p.ge1 x h
theorem WfT.par_lt {t : Ae} (w : WfT t) {x : Af} (h : x ∈ t.nodes) : x.parent < x.id := by
 rcases w.p.par x h with ⟨h1,r⟩ | ⟨_,h2,_⟩
 ·rw [r.parent]; omega
 ·exact h2
theorem Gq {t : Ae} {x k : Int} (h : k ∈ upT t x) : ∃ n ∈ t.nodes,n.id = x := by
 by_cases e : ∃ n ∈ t.nodes,n.id = x
 ·exact e
 ·have : upT t x = [] := upR_none fun n hn hx => e ⟨n,by simpa using hn,hx⟩
  rw [this] at h
  simp at h
theorem WfT.induct {t : Ae} (w : WfT t) {P : Af → Prop} (step : ∀ x ∈ t.nodes,(∀ y ∈ t.nodes,y.id = x.parent → P y) → P x) : ∀ x ∈ t.nodes,P x := by
 have key : ∀ (n : Nat),∀ x ∈ t.nodes,x.id.toNat < n → P x := by
  intro n
  induction n with
  | zero => intro x _ h; omega
  | succ n ih =>
   intro x hx h
   refine step x hx fun y hy e => ih y hy ?_
   have := w.par_lt hx
   have := w.id_pos hx
   omega
 intro x hx
 exact key _ x hx (Nat.lt_succ_self _)
theorem up_le {t : Ae} (w : WfT t) : ∀ x ∈ t.nodes,∀ k ∈ upT t x.id,k ≤ x.id := by
 refine w.induct fun x hx ih k hk => ?_
 rw [w.up hx] at hk
 rcases List.mem_cons.mp hk with rfl | hk
 ·exact Int.le_refl _
 ·obtain ⟨y,hy,e⟩ := Gq hk
  rw [← e] at hk
  have := ih y hy e k hk
  have := w.par_lt hx
  omega
theorem Ud {t : Ae} (w : WfT t) {x : Af} (hx : x ∈ t.nodes) : x.id ∈ upT t x.id := by
 rw [w.up hx]
 simp
theorem up_mem {t : Ae} (w : WfT t) : ∀ x ∈ t.nodes,∀ k ∈ upT t x.id,∃ n ∈ t.nodes,n.id = k := by
 refine w.induct fun x hx ih k hk => ?_
 rw [w.up hx] at hk
 rcases List.mem_cons.mp hk with rfl | hk
 ·exact ⟨x,hx,rfl⟩
 ·obtain ⟨y,hy,e⟩ := Gq hk
  rw [← e] at hk
  exact ih y hy e k hk
theorem AdK {t : Ae} (w : WfT t) {k y : Int} (h2 : k ∈ upT t y) : ∀ x ∈ t.nodes,y ∈ upT t x.id → k ∈ upT t x.id := by
 refine w.induct fun x hx ih h1 => ?_
 have e := w.up hx
 rw [e] at h1
 rcases List.mem_cons.mp h1 with rfl | h1
 ·exact h2
 ·rw [e]
  obtain ⟨z,hz,ez⟩ := Gq h1
  rw [← ez] at h1
  have := ih z hz ez h1
  rw [ez] at this
  exact List.mem_cons_of_mem _ this
theorem AgR {t : Ae} (w : WfT t) {y : Int} : ∀ x ∈ t.nodes,y ∈ upT t x.id → x.id = y ∨ ∃ c ∈ Ia t y,c ∈ upT t x.id := by
 refine w.induct fun x hx ih h1 => ?_
 have e := w.up hx
 rw [e] at h1
 rcases List.mem_cons.mp h1 with rfl | h1
 ·exact .inl rfl
 ·obtain ⟨z,hz,ez⟩ := Gq h1
  rw [← ez] at h1
  refine .inr ?_
  rcases ih z hz ez h1 with h | ⟨c,hc,hcu⟩
  ·refine ⟨x.id,?_,Ud w hx⟩
   unfold Ia
   exact List.mem_map.mpr ⟨x,List.mem_filter.mpr ⟨hx,by simp; omega⟩,rfl⟩
  ·refine ⟨c,hc,?_⟩
   rw [e]
   rw [ez] at hcu
   exact List.mem_cons_of_mem _ hcu
theorem kids_iff {t : Ae} {y c : Int} : c ∈ Ia t y ↔ ∃ x ∈ t.nodes,x.parent = y ∧ x.id = c := by
 unfold Ia
 constructor
 ·intro h
  obtain ⟨x,hx,e⟩ := List.mem_map.mp h
  obtain ⟨h1,h2⟩ := List.mem_filter.mp hx
  exact ⟨x,h1,by simpa using h2,e⟩
 ·rintro ⟨x,h1,h2,h3⟩
  exact List.mem_map.mpr ⟨x,List.mem_filter.mpr ⟨h1,by simp [h2]⟩,h3⟩
theorem ids_nodup {t : Ae} (w : WfT t) : (t.nodes.map (·.id)).Nodup := by
 have := w.sorted
 unfold List.Nodup
 rw [List.pairwise_map]
 exact this.imp fun h => by omega
theorem Aew {t : Ae} (w : WfT t) (y : Int) : (Ia t y).Nodup := by
 unfold Ia List.Nodup
 rw [List.pairwise_map]
 exact (w.sorted.sublist List.filter_sublist).imp fun h => by omega
theorem Adg {t : Ae} (w : WfT t) (k : Int) : Ok (Ld t k) (fun l => l.Nodup ∧ l.length ≤ t.nodes.length ∧ ∀ x,x ∈ l ↔ k ∈ upT t x) := by
 have l2 := w.len2
 unfold Ld
 refine Ok.bind (Aby t k (by omega)) fun i hi => ?_
 refine Ok.ite (fun c => ?_) fun c => ?_
 ·refine Ok.ret ⟨List.nodup_nil,by simp,fun x => ⟨fun h => by simp at h,fun h => ?_⟩⟩
  exfalso
  have hno : Hm t k = false := by
   rw [hi.1] at c
   simpa using c
  obtain ⟨n,hn,e⟩ := Gq h
  rw [← e] at h
  obtain ⟨m,hm,em⟩ := up_mem w n hn k h
  have := hasN_iff.mpr ⟨m,hm,em⟩
  rw [this] at hno
  simp at hno
 have hk : Hm t k = true := by
  rw [hi.1] at c
  simpa using c
 obtain ⟨kn,hkn,hke⟩ := hasN_iff.mp hk
 let I : List Int × List Int → Prop := fun s => (s.1 ++ s.2).Nodup ∧ (∀ z ∈ s.1 ++ s.2,k ∈ upT t z) ∧ (∀ z ∈ s.1 ++ s.2,z = k ∨ ∃ n ∈ t.nodes,n.id = z ∧ n.parent ∈ s.1) ∧ (∀ x,k ∈ upT t x → x ∈ s.1 ∨ ∃ y ∈ s.2,y ∈ upT t x)
 have hbound : ∀ s,I s → s.1.length + s.2.length ≤ t.nodes.length := by
  intro s hs
  have := Ael hs.1 (m := t.nodes.map (·.id)) fun z hz => by
   obtain ⟨n,hn,e⟩ := Gq (hs.2.1 z hz)
   exact List.mem_map.mpr ⟨n,hn,e⟩
  simpa using this
 refine Ok.while I (fun s => t.nodes.length - s.1.length) ?_ (by rw [Cs]; simp only [List.length_nil]; omega) ?_
 ·refine ⟨by simp,?_,?_,?_⟩
  ·intro z hz
   obtain rfl : z = k := by simpa using hz
   rw [← hke]
   exact Ud w hkn
  ·intro z hz
   exact .inl (by simpa using hz)
  ·intro x hx
   exact .inr ⟨k,by simp,hx⟩
 rintro ⟨out,todo⟩ n hI hn
 have hb := hbound _ hI
 obtain ⟨i1,i2,i3,i4⟩ := hI
 simp only at hb i1 i2 i3 i4 hn
 unfold Rz
 simp only
 cases todo with
 | nil =>
  simp only [List.length_nil,gt_iff_lt,Int.cast_ofNat_Int,Int.lt_irrefl,decide_false,Bool.false_and,Bool.false_eq_true,if_false]
  refine Ok.ret ⟨by simpa using i1,by simpa using hb,fun x => ⟨fun h => i2 x (by simpa using h),fun h => ?_⟩⟩
  rcases i4 x h with h | ⟨y,hy,_⟩
  ·exact h
  ·simp at hy
 | cons y rest =>
  simp only [List.length_cons] at hb
  have hc : (decide (((((y :: rest).length : Nat) : Int)) > 0) && decide (((out.length : Nat) : Int) < ((t.nodes.length : Nat) : Int))) = true := by
   simp only [List.length_cons,Bool.and_eq_true,decide_eq_true_eq]
   omega
  rw [if_pos hc]
  refine Ok.guard (by simp) (Ok.guard (by omega) (Ok.guard (by simp) ?_))
  have ey : (y :: rest).getD 0 0 = y := rfl
  rw [ey]
  refine Ok.step (AbK t y (by omega)) (Ok.guard (by simp) ?_)
  have hsub : Cc (y :: rest).length 1 = rest.length := rfl
  rw [hsub]
  have hkl := Yn t y
  refine Ok.guard (by omega) ?_
  have ed : (y :: rest).drop 1 = rest := rfl
  rw [ed]
  have hyk := i2 y (by simp)
  have hyn : y ∉ out := by
   rw [List.nodup_append] at i1
   intro h
   exact i1.2.2 y h y (by simp) rfl
  have hyr : y ∉ rest := by
   rw [List.nodup_append,List.nodup_cons] at i1
   exact i1.2.1.1
  have hnew : ∀ c ∈ Ia t y,c ∉ out ∧ c ∉ rest ∧ c ≠ y := by
   intro c hc
   obtain ⟨cn,hcn,hcp,hce⟩ := kids_iff.mp hc
   have hlt := w.par_lt hcn
   have hck : c ≠ k := by
    rintro rfl
    obtain ⟨yn,hyn2,hye⟩ := Gq hyk
    rw [← hye] at hyk
    have := up_le w yn hyn2 _ hyk
    omega
   have hno : c ∉ out ++ (y :: rest) := by
    intro hm
    rcases i3 c hm with h | ⟨m,hm1,hm2,hm3⟩
    ·exact hck h
    ·obtain rfl : m = cn := Wp w.sorted hm1 hcn (by omega)
     rw [hcp] at hm3
     exact hyn hm3
   exact ⟨fun h => hno (by simp [h]),fun h => hno (by simp [h]),by omega⟩
  refine hn _ ⟨?_,?_,?_,?_⟩ (by simp only [List.length_append,List.length_cons,List.length_nil]; omega)
  ·simp only
   rw [List.nodup_append] at i1 ⊢
   obtain ⟨n1,n2,n3⟩ := i1
   rw [List.nodup_cons] at n2
   refine ⟨?_,?_,?_⟩
   ·rw [List.nodup_append]
    exact ⟨n1,by simp,fun a ha b hb => by
     obtain rfl : b = y := by simpa using hb
     exact fun e => hyn (e ▸ ha)⟩
   ·rw [List.nodup_append]
    exact ⟨Aew w y,n2.2,fun a ha b hb e => (hnew a ha).2.1 (e ▸ hb)⟩
   ·intro a ha b hb e
    subst e
    rcases List.mem_append.mp ha with ha | ha
    ·rcases List.mem_append.mp hb with hb | hb
     ·exact (hnew a hb).1 ha
     ·exact n3 a ha a (by simp [hb]) rfl
    ·obtain rfl : a = y := by simpa using ha
     rcases List.mem_append.mp hb with hb | hb
     ·exact (hnew a hb).2.2 rfl
     ·exact hyr hb
  ·intro z hz
   simp only [List.mem_append,List.mem_cons,List.not_mem_nil,or_false] at hz
   rcases hz with (hz | rfl) | hz | hz
   ·exact i2 z (by simp [hz])
   ·exact hyk
   ·obtain ⟨cn,hcn,hcp,hce⟩ := kids_iff.mp hz
    rw [← hce]
    refine AdK w hyk cn hcn ?_
    rw [w.up hcn,hcp]
    obtain ⟨yn,hyn2,hye⟩ := Gq hyk
    rw [← hye]
    exact List.mem_cons_of_mem _ (Ud w hyn2)
   ·exact i2 z (by simp [hz])
  ·intro z hz
   simp only [List.mem_append,List.mem_cons,List.not_mem_nil,or_false] at hz
   have lift : (z = k ∨ ∃ n ∈ t.nodes,n.id = z ∧ n.parent ∈ out) → (z = k ∨ ∃ n ∈ t.nodes,n.id = z ∧ n.parent ∈ out ++ [y]) := by
    rintro (h | ⟨n,h1,h2,h3⟩)
    ·exact .inl h
    ·exact .inr ⟨n,h1,h2,by simp [h3]⟩
   rcases hz with (hz | rfl) | hz | hz
   ·exact lift (i3 z (by simp [hz]))
   ·exact lift (i3 z (by simp))
   ·obtain ⟨cn,hcn,hcp,hce⟩ := kids_iff.mp hz
    exact .inr ⟨cn,hcn,hce,by simp [hcp]⟩
   ·exact lift (i3 z (by simp [hz]))
  ·intro x hx
   rcases i4 x hx with h | ⟨z,hz,hzx⟩
   ·exact .inl (by simp [h])
   ·rcases List.mem_cons.mp hz with rfl | hz
    ·obtain ⟨xn,hxn,hxe⟩ := Gq hzx
     rw [← hxe] at hzx ⊢
     rcases AgR w xn hxn hzx with h | ⟨c,hc,hcx⟩
     ·exact .inl (by simp [h])
     ·exact .inr ⟨c,by simp [hc],hcx⟩
    ·exact .inr ⟨z,by simp [hz],hzx⟩
end Go.Dm

/- Plain theory, part 13: the program's Check of hierarchies; counts; moves. -/
namespace Go.Dm
theorem Afz (h : Aa) (x : Aj) (l1 : h.tasks.length ≤ 1000000) (l2 : h.tree.nodes.length ≤ 1000000) :
  Ok (Rc h x) (fun b => b = true ↔ (0 ≤ x.user ∧ x.user ≤ 1048576 ∧ Hm h.tree x.group = true ∧ ∃ p,Gb h.tasks x.process = some p ∧ p.process = x.process ∧ p.user = x.user)) := by
 unfold Rc Hn
 refine Ok.step (Xn h x.process l1) ?_
 have no : ∀ {P : Prop},¬ P → Ok (some false) (fun b => b = true ↔ P) := fun hn => Ok.ret ⟨fun e => by simp at e,fun w => absurd w hn⟩
 refine Ok.ite (fun c => ?_) fun c => ?_
 rotate_left
 ·have := of_decide_eq_false c
  exact no fun w => by omega
 have u1 := of_decide_eq_true c
 refine Ok.ite (fun c => ?_) fun c => ?_
 rotate_left
 ·have := of_decide_eq_false c
  exact no fun w => by omega
 have u2 := of_decide_eq_true c
 cases hk : Gb h.tasks x.process with
 | none =>
  exact no fun w => by
   obtain ⟨_,_,_,p,hp,_⟩ := w
   simp at hp
 | some p =>
  obtain ⟨hp1,hp2⟩ := Zn hk
  simp only [Option.elim_some,if_true]
  refine Ok.ite (fun c => ?_) fun c => ?_
  rotate_left
  ·exact no fun w => by
    obtain ⟨_,_,_,q,hq,hq2,_⟩ := w
    obtain rfl : p = q := by simpa using hq
    have : ¬ p.process = p.id := by simpa using c
    omega
  have c1 : p.process = p.id := by simpa using c
  refine Ok.ite (fun c => ?_) fun c => ?_
  rotate_left
  ·exact no fun w => by
    obtain ⟨_,_,_,q,hq,_,hq3⟩ := w
    obtain rfl : p = q := by simpa using hq
    have : ¬ p.user = x.user := by simpa using c
    omega
  have c2 : p.user = x.user := by simpa using c
  refine Ok.bind (Aby h.tree x.group l2) fun i hi => Ok.ret ?_
  rw [hi.2]
  constructor
  ·intro hh
   exact ⟨u1,u2,hh,p,rfl,by omega,c2⟩
  ·intro w
   exact w.2.2.1
theorem Zx (h : Aa) (hm : ∀ x ∈ h.tree.nodes,Wj x) : Ok (Ga h) (fun b => b = true ↔ WfH h) := by
 have bad : ¬ WfH h → Ok (some false) (fun b => b = true ↔ WfH h) := fun hn => Ok.ret ⟨fun e => by simp at e,fun w => absurd w hn⟩
 unfold Ga
 refine Ok.ite (fun c => ?_) fun c => ?_
 ·have := of_decide_eq_true c
  exact bad fun w => by have := w.len; omega
 have l1 := of_decide_eq_false c
 refine Ok.ite (fun c => ?_) fun c => ?_
 ·have := of_decide_eq_true c
  exact bad fun w => by have := w.n2; omega
 have n2 := of_decide_eq_false c
 refine Ok.bind (Agd h.tree hm) fun b hb => ?_
 unfold Kw
 refine Ok.ite (fun c => ?_) fun c => ?_
 ·refine bad fun w => ?_
  have := hb.mpr w.tree
  rw [this] at c
  simp at c
 have wt : WfT h.tree := hb.mp (by simpa using c)
 have l2 := wt.len2
 refine Ok.guard (by omega) ?_
 refine Ok.range (fun pre s => 0 ≤ s ∧ (∀ y ∈ pre,y.id ≤ s) ∧ (s = 0 ∨ ∃ y ∈ pre,y.id = s) ∧ pre.Pairwise (fun a b => a.id < b.id) ∧ ∀ x ∈ pre,TaskV h x) (by simp) ?_ ?_
 ·rintro pre x post s n he ⟨i0,i1,i2,i3,i4⟩ hn
  have hx : x ∈ h.tasks := by rw [he]; simp
  unfold Ug Mz
  refine Ok.ite (fun c => ?_) fun c => ?_
  ·have hle := of_decide_eq_true c
   refine bad fun w => ?_
   rcases i2 with rfl | ⟨y,hy,e⟩
   ·have := (w.val x hx).pos
    omega
   ·have hs := w.sorted
    rw [he,List.pairwise_append] at hs
    have := hs.2.2 y hy x (by simp)
    omega
  have hgt := of_decide_eq_false c
  refine Ok.bind (Afz h x (by omega) (by omega)) fun b hb => ?_
  refine Ok.ite (fun c => ?_) fun c => ?_
  ·refine bad fun w => ?_
   have v := w.val x hx
   have := hb.mpr ⟨v.u1,v.u2,v.grp,v.ldr⟩
   rw [this] at c
   simp at c
  ·obtain ⟨a1,a2,a3,a4⟩ := hb.mp (by simpa using c)
   refine hn _ ⟨by omega,?_,.inr ⟨x,by simp,rfl⟩,?_,?_⟩
   ·intro y hy
    rcases List.mem_append.mp hy with hy | hy
    ·have := i1 y hy
     omega
    ·obtain rfl : y = x := by simpa using hy
     exact Int.le_refl _
   ·rw [List.pairwise_append]
    refine ⟨i3,by simp,fun a ha b hb => ?_⟩
    obtain rfl : b = x := by simpa using hb
    have := i1 a ha
    omega
   ·intro y hy
    rcases List.mem_append.mp hy with hy | hy
    ·exact i4 y hy
    ·obtain rfl : y = x := by simpa using hy
     exact ⟨by omega,a3,a1,a2,a4⟩
 ·rintro s ⟨i0,i1,i2,i3,i4⟩
  refine Ok.ret ⟨fun e => ?_,fun w => ?_⟩
  ·have hlt : s < h.next := by
    have := of_decide_eq_true e
    omega
   exact ⟨wt,by omega,by omega,by omega,i3,fun x hx => by have := i1 x hx; omega,i4⟩
  ·rcases i2 with rfl | ⟨y,hy,e⟩
   ·have := w.n1
    simp; omega
   ·have := w.lt y hy
    simp; omega
theorem AaR {h : Aa} (w : WfH h) : Ga h = some true := by
 obtain ⟨b,hb,e⟩ := Zx h w.tree.p.names
 rw [hb,e.mpr w]
theorem Li {h : Aa} (w : WfH h) : Ff h = some h := by
 unfold Ff
 rw [AaR w]
 rfl
theorem Ahr (l : List Int) (x : Int) (hl : l.length ≤ 1000000) : Iu l x = some (l.contains x) := by
 unfold Iu Nz
 rw [if_pos (by omega),Aav (p := fun y : Int => x == y) (fun k y n => rfl) rfl,Option.bind_some]
 rcases AbW (fun y : Int => x == y) l 0 with ⟨i,h1,h2,h3⟩ | ⟨h1,h2⟩
 ·rw [h2]
  have hm := List.mem_of_find?_eq_some h3
  have he := List.find?_some h3
  have : l.contains x = true := by
   rw [List.contains_iff_mem]
   have : x = l.getD i 0 := by simpa using he
   rw [this]
   exact hm
  rw [this]
  simp
 ·rw [h1]
  have : l.contains x = false := by
   rw [List.find?_eq_none] at h2
   cases hc : l.contains x
   ·rfl
   ·rw [List.contains_iff_mem] at hc
    have := h2 x hc
    simp at this
  rw [this]
  simp
theorem Ahe (l : List Int) (x : Int) (hl : l.length ≤ 1000000) : Xu l x = some (l.contains x) := by
 unfold Xu
 rw [if_pos (by omega),Wg (p := fun y : Int => y == x) (f := fun _ => true) (z := false) (fun k y n => rfl) rfl]
 congr 1
 cases hf : l.find? (fun y => y == x) with
 | none =>
  rw [List.find?_eq_none] at hf
  cases hc : l.contains x
  ·rfl
  ·rw [List.contains_iff_mem] at hc
   have := hf x hc
   simp at this
 | some y =>
  have hm := List.mem_of_find?_eq_some hf
  have he := List.find?_some hf
  have : y = x := by simpa using he
  rw [this] at hm
  simp [hm]
def Xm (h : Aa) (k : Int) : Nat := h.tasks.countP (fun x => (upT h.tree x.group).contains k)
theorem AgA {h : Aa} (wt : WfT h.tree) (hl : h.tasks.length ≤ 1000000) (k : Int) : Ql h k = some ((Xm h k : Nat) : Int) := by
 apply Ok.eq
 unfold Ql
 have l2 := wt.len2
 refine Ok.bind (Adg wt k) fun l ⟨_,hll,hm⟩ => ?_
 refine Ok.guard (by omega) ?_
 refine Ok.of_eq (Adr (p := fun x : Aj => l.contains x.group) (r := some) ?_ (fun _ => rfl) (by omega)) ?_
 ·intro q x s n _
  unfold Xf Pv
  rw [Ahr _ _ (by omega)]
  rfl
 ·congr 1
  unfold Xm
  refine List.countP_congr fun x _ => ?_
  rw [List.contains_iff_mem,List.contains_iff_mem]
  exact hm x.group
theorem AaJ {h : Aa} (w : WfH h) (k : Int) : Jv h k = some ((Xm h k : Nat) : Int) := by
 have := w.len
 unfold Jv
 rw [Li w,Option.bind_some,AgA w.tree (by omega)]
 rfl
end Go.Dm

/- Plain theory, part 14: the document's subtrees and counts; ancestors. -/
namespace Go.Dm
theorem up_one {t : Ae} (w : WfT t) {y : Int} {c c' : Af} (hc : c ∈ t.nodes) (hc' : c' ∈ t.nodes) (e : c.parent = y) (e' : c'.parent = y) :
  ∀ x ∈ t.nodes,c.id ∈ upT t x.id → c'.id ∈ upT t x.id → c.id = c'.id := by
 have l1 := w.par_lt hc
 have l2 := w.par_lt hc'
 refine w.induct fun x hx ih h1 h2 => ?_
 rw [w.up hx] at h1 h2
 have low : ∀ z : Af,z ∈ t.nodes → z.id = y → ∀ q : Af,q.parent = y → q.parent < q.id → q.id ∉ upT t z.id := by
  intro z hz hzy q hq hlt hm
  have := up_le w z hz _ hm
  omega
 rcases List.mem_cons.mp h1 with h1 | h1 <;> rcases List.mem_cons.mp h2 with h2 | h2
 ·omega
 ·exfalso
  obtain ⟨z,hz,ez⟩ := Gq h2
  rw [← ez] at h2
  have hxc : x = c := Wp w.sorted hx hc h1.symm
  subst hxc
  exact low z hz (by omega) c' e' l2 h2
 ·exfalso
  obtain ⟨z,hz,ez⟩ := Gq h1
  rw [← ez] at h1
  have hxc : x = c' := Wp w.sorted hx hc' h2.symm
  subst hxc
  exact low z hz (by omega) c e l1 h1
 ·obtain ⟨z,hz,ez⟩ := Gq h1
  rw [← ez] at h1 h2
  exact ih z hz ez h1 h2
theorem Acf {t : Ae} {k : Int} {l : List Int} (hn : l.Nodup) (hm : ∀ x ∈ l,k ∈ upT t x) : l.length ≤ t.nodes.length := by
 have := Ael hn (m := t.nodes.map (·.id)) fun z hz => by
  obtain ⟨n,hn,e⟩ := Gq (hm z hz)
  exact List.mem_map.mpr ⟨n,hn,e⟩
 simpa using this
theorem AdU {t : Ae} (w : WfT t) : ∀ (n : Nat) (id : Int),(t.next - id).toNat < n → Ok (Ip n t id) (fun l => l.Nodup ∧ ∀ x,x ∈ l ↔ id ∈ upT t x) := by
 intro n
 have l2 := w.len2
 induction n with
 | zero => intro id h; omega
 | succ n ih =>
  intro id hlt
  unfold Ip Oi
  refine Ok.step (Kk w id) ?_
  refine Ok.ite (fun c => ?_) fun c => ?_
  ·refine Ok.ret ⟨List.nodup_nil,fun x => ⟨fun h => by simp at h,fun h => ?_⟩⟩
   exfalso
   have hno : Hm t id = false := by simpa using c
   obtain ⟨q,hq,e⟩ := Gq h
   rw [← e] at h
   obtain ⟨m,hm,em⟩ := up_mem w q hq id h
   rw [hasN_iff.mpr ⟨m,hm,em⟩] at hno
   simp at hno
  have hk : Hm t id = true := by simpa using c
  obtain ⟨kn,hkn,hke⟩ := hasN_iff.mp hk
  refine Ok.step (Sn w id) ?_
  rw [if_pos hk]
  have hkl := Yn t id
  refine Ok.guard (by omega) ?_
  have hkn2 := Aew w id
  refine Ok.range (fun pre s => s.Nodup ∧ ∀ x,x ∈ s ↔ x = id ∨ ∃ c ∈ pre,c ∈ upT t x) ⟨by simp,by simp⟩ ?_ ?_
  ·intro pre c post s k he ⟨i1,i2⟩ hn
   have hck : c ∈ Ia t id := by rw [he]; simp
   obtain ⟨cn,hcn,hcp,hce⟩ := kids_iff.mp hck
   have hcl := w.par_lt hcn
   have hcx := w.next cn hcn
   unfold Ua
   refine Ok.bind (ih c (by omega)) fun r ⟨r1,r2⟩ => ?_
   have hin : ∀ x ∈ s,id ∈ upT t x := by
    intro x hx
    rcases (i2 x).mp hx with rfl | ⟨d,hd,hdx⟩
    ·rw [← hke]; exact Ud w hkn
    ·obtain ⟨dn,hdn,hdp,hde⟩ := kids_iff.mp (show d ∈ Ia t id by rw [he]; simp [hd])
     obtain ⟨xn,hxn,hxe⟩ := Gq hdx
     rw [← hxe] at hdx ⊢
     refine AdK w (y := d) ?_ xn hxn hdx
     rw [← hde,w.up hdn,hdp,← hke]
     exact List.mem_cons_of_mem _ (Ud w hkn)
   have b1 := Acf i1 hin
   have b2 := Acf r1 fun x hx => (r2 x).mp hx
   refine Ok.guard (by omega) (hn _ ⟨?_,?_⟩)
   ·rw [List.nodup_append]
    refine ⟨i1,r1,fun a ha b hb e => ?_⟩
    subst e
    have hca := (r2 a).mp hb
    rcases (i2 a).mp ha with rfl | ⟨d,hd,hda⟩
    ·obtain ⟨xn,hxn,hxe⟩ := Gq hca
     rw [← hxe] at hca
     have := up_le w xn hxn _ hca
     omega
    ·obtain ⟨dn,hdn,hdp,hde⟩ := kids_iff.mp (show d ∈ Ia t id by rw [he]; simp [hd])
     obtain ⟨xn,hxn,hxe⟩ := Gq hca
     rw [← hxe] at hca hda
     have := up_one w hdn hcn hdp hcp xn hxn (by rw [hde]; exact hda) (by rw [hce]; exact hca)
     rw [he,List.nodup_append] at hkn2
     exact hkn2.2.2 d hd c (by simp) (by omega)
   ·intro x
    rw [List.mem_append,i2,r2]
    constructor
    ·rintro ((h | ⟨d,hd,hdx⟩) | h)
     ·exact .inl h
     ·exact .inr ⟨d,by simp [hd],hdx⟩
     ·exact .inr ⟨c,by simp,h⟩
    ·rintro (h | ⟨d,hd,hdx⟩)
     ·exact .inl (.inl h)
     ·rcases List.mem_append.mp hd with hd | hd
      ·exact .inl (.inr ⟨d,hd,hdx⟩)
      ·obtain rfl : d = c := by simpa using hd
       exact .inr hdx
  ·rintro s ⟨i1,i2⟩
   refine Ok.ret ⟨i1,fun x => ?_⟩
   rw [i2]
   constructor
   ·rintro (rfl | ⟨d,hd,hdx⟩)
    ·rw [← hke]; exact Ud w hkn
    ·obtain ⟨dn,hdn,hdp,hde⟩ := kids_iff.mp hd
     obtain ⟨xn,hxn,hxe⟩ := Gq hdx
     rw [← hxe] at hdx ⊢
     refine AdK w (y := d) ?_ xn hxn hdx
     rw [← hde,w.up hdn,hdp,← hke]
     exact List.mem_cons_of_mem _ (Ud w hkn)
   ·intro h
    obtain ⟨xn,hxn,hxe⟩ := Gq h
    rw [← hxe] at h ⊢
    exact AgR w xn hxn h
theorem AeS {t : Ae} (w : WfT t) (id : Int) : Ok (Tb t id) (fun l => l.Nodup ∧ ∀ x,x ∈ l ↔ id ∈ upT t x) := by
 unfold Tb
 by_cases h : (t.next - id).toNat < Ea
 ·exact AdU w Ea id h
 ·have hno : Hm t id = false := by
   cases hh : Hm t id
   ·rfl
   ·obtain ⟨n,hn,e⟩ := hasN_iff.mp hh
    have := w.id_pos hn
    have := w.nextLe
    rw [Cs] at h
    omega
  rw [Cs]
  unfold Ip Oi
  refine Ok.step (Kk w id) ?_
  rw [hno]
  refine Ok.ret ⟨List.nodup_nil,fun x => ⟨fun h => by simp at h,fun h => ?_⟩⟩
  exfalso
  obtain ⟨q,hq,e⟩ := Gq h
  rw [← e] at h
  obtain ⟨m,hm,em⟩ := up_mem w q hq id h
  rw [hasN_iff.mpr ⟨m,hm,em⟩] at hno
  simp at hno
theorem Acq {h : Aa} (w : WfH h) (k : Int) : Mg h k = some ((Xm h k : Nat) : Int) := by
 apply Ok.eq
 unfold Mg
 have l1 := w.len
 have l2 := w.tree.len2
 refine Ok.step (Hl w) ?_
 simp only [Bool.not_true,Bool.false_eq_true,if_false]
 refine Ok.bind (AeS w.tree k) fun l ⟨hnd,hm⟩ => ?_
 have hll := Acf hnd fun x hx => (hm x).mp hx
 refine Ok.guard (by omega) ?_
 refine Ok.of_eq (Adr (p := fun x : Aj => l.contains x.group) (r := some) ?_ (fun _ => rfl) (by omega)) ?_
 ·intro q x s n _
  unfold Yk Pi
  rw [Ahe _ _ (by omega)]
  rfl
 ·congr 1
  unfold Xm
  refine List.countP_congr fun x _ => ?_
  rw [List.contains_iff_mem,List.contains_iff_mem]
  exact hm x.group
end Go.Dm

/- Plain theory, part 20: the library's sort leaves an ascending list as it is. -/
namespace Go.Dm
theorem Hw (a b : Int) : Cw a b = some (decide (a < b)) := by
 unfold Cw Om Kv
 simp
theorem asc_at {L : List Int} (h : L.Pairwise (· < ·)) {i j : Nat} (hij : i < j) (hj : j < L.length) : L.getD i 0 < L.getD j 0 := by
 rw [Im hj,Im (by omega)]
 exact List.pairwise_iff_getElem.mp h i j (by omega) hj hij
theorem Afu {L : List Int} (h : L.Pairwise (· < ·)) {i j : Nat} (hij : i < j) (hj : j < L.length) : decide (L.getD j 0 < L.getD i 0) = false := by
 have := asc_at h hij hj
 rw [decide_eq_false_iff_not]
 omega
theorem Ago {L : List Int} (h : L.Pairwise (· < ·)) (hl : L.length ≤ 1000000) : Ci L 0 (L.length : Int) = some L := by
 apply Ok.eq
 unfold Ci
 have e1 : w64 (0 + 1) = 1 := At (by omega) (by omega)
 rw [e1]
 refine Ok.guard (by omega) ?_
 refine Ok.for (fun _ s => s = L) rfl ?_ ?_
 ·intro j s n hj hs hn
  subst hs
  unfold Fj
  refine Ok.while (fun q => q = (s,1 + (j : Int))) (fun _ => 0) rfl (by rw [Cs]; omega) ?_
  intro q nn hq _
  subst hq
  unfold Fo Cu
  simp only
  have hw : w64 (1 + (j : Int) - 1) = (j : Int) := by
   rw [At (by omega) (by omega)]
   omega
  have ej : Int.toNat (j : Int) = j := by omega
  have ej1 : Int.toNat (1 + (j : Int)) = j + 1 := by omega
  rw [hw,ej,ej1,Hw,Afu h (show j < j + 1 by omega) (by omega)]
  refine Ok.ite (fun _ => ?_) fun _ => hn _ rfl
  refine Ok.guard (by omega) (Ok.guard (by omega) (Ok.guard (by omega) (Ok.guard (by omega) ?_)))
  exact Ok.step rfl (hn _ rfl)
 ·intro s hs
  subst hs
  exact Ok.ret rfl
theorem Abt {L : List Int} (h : L.Pairwise (· < ·)) {a b : Nat} (hab : a < b) (hb : b < L.length) (c : Int) : Cr L (a : Int) (b : Int) c = some ((a : Int),(b : Int),c) := by
 unfold Cr
 have ea : Int.toNat (a : Int) = a := by omega
 have eb : Int.toNat (b : Int) = b := by omega
 rw [if_pos (by omega),if_pos (by omega),ea,eb,Hw,Afu h hab hb]
 rfl
theorem Abp {L : List Int} (h : L.Pairwise (· < ·)) {a b c : Nat} (hab : a < b) (hbc : b < c) (hc : c < L.length) (k : Int) : Dd L (a : Int) (b : Int) (c : Int) k = some ((b : Int),k) := by
 unfold Dd
 rw [Abt h hab (by omega),Option.bind_some,Abt h hbc hc,Option.bind_some,Abt h hab (by omega)]
 rfl
theorem Yt {L : List Int} (h : L.Pairwise (· < ·)) {a : Nat} (h0 : 0 < a) (ha : a + 1 < L.length) (hl : L.length ≤ 1000000) (k : Int) : Bu L (a : Int) k = some ((a : Int),k) := by
 unfold Bu
 have e1 : w64 ((a : Int) - 1) = ((a - 1 : Nat) : Int) := by
  rw [At (by omega) (by omega)]
  omega
 have e2 : w64 ((a : Int) + 1) = ((a + 1 : Nat) : Int) := by
  rw [At (by omega) (by omega)]
  omega
 rw [e1,e2,Abp h (by omega) (by omega) ha]
 rfl
theorem pivot_asc {L : List Int} (h : L.Pairwise (· < ·)) (h12 : 12 < L.length) (hl : L.length ≤ 1000000) : Ok (Ct L 0 (L.length : Int)) (fun r => r.2 = 1) := by
 unfold Ct
 have e0 : w64 ((L.length : Int) - 0) = (L.length : Int) := by
  rw [At (by omega) (by omega)]
  omega
 rw [e0]
 have eq : w64 (Int.tdiv (L.length : Int) 4) = ((L.length / 4 : Nat) : Int) := by
  rw [Int.tdiv_eq_ediv_of_nonneg (by omega),At (by omega) (by omega)]
  omega
 rw [eq]
 have hq : 3 ≤ L.length / 4 := by omega
 have hq2 : 4 * (L.length / 4) ≤ L.length := by omega
 generalize L.length / 4 = q at *
 have m1 : w64 (0 + w64 ((q : Int) * 1)) = (q : Int) := by
  rw [At (n := (q : Int) * 1) (by omega) (by omega),At (by omega) (by omega)]
  omega
 have m2 : w64 (0 + w64 ((q : Int) * 2)) = ((2 * q : Nat) : Int) := by
  rw [At (n := (q : Int) * 2) (by omega) (by omega),At (by omega) (by omega)]
  omega
 have m3 : w64 (0 + w64 ((q : Int) * 3)) = ((3 * q : Nat) : Int) := by
  rw [At (n := (q : Int) * 3) (by omega) (by omega),At (by omega) (by omega)]
  omega
 rw [m1,m2,m3]
 unfold Cj Ck
 refine Ok.ite (fun _ => ?_) fun c => ?_
 ·refine Ok.ite (fun c => ?_) fun _ => ?_
  ·have := of_decide_eq_true c
   refine Ok.step (Yt h (by omega) (by omega) hl 0) ?_
   refine Ok.step (Yt h (by omega) (by omega) hl 0) ?_
   refine Ok.step (Yt h (by omega) (by omega) hl 0) ?_
   exact Ok.step (Abp h (by omega) (by omega) (by omega) 0) (Ok.ret rfl)
  ·exact Ok.step (Abp h (by omega) (by omega) (by omega) 0) (Ok.ret rfl)
 ·have := of_decide_eq_false c
  omega
theorem Ahj {L : List Int} (h : L.Pairwise (· < ·)) (h1 : 1 ≤ L.length) (hl : L.length ≤ 1000000) : Bz L 0 (L.length : Int) = some (true,L) := by
 apply Ok.eq
 unfold Bz
 have e1 : w64 (0 + 1) = 1 := At (by omega) (by omega)
 rw [e1]
 refine Ok.for (fun j s => j = 0 ∧ s = (L,1)) ⟨rfl,rfl⟩ ?_ ?_
 ·rintro j s n hj ⟨rfl,rfl⟩ hn
  unfold Dn
  simp only
  refine Ok.while (fun q => ∃ i : Nat,q = ((i + 1 : Nat) : Int) ∧ i + 1 ≤ L.length) (fun q => L.length - q.toNat) ⟨0,rfl,h1⟩ (by rw [Cs]; omega) ?_
  rintro q nn ⟨i,rfl,hi⟩ hnn
  unfold Dl Bn
  simp only
  have hw : w64 (((i + 1 : Nat) : Int) - 1) = (i : Int) := by
   rw [At (by omega) (by omega)]
   omega
  have ei : Int.toNat (i : Int) = i := by omega
  have ei1 : Int.toNat ((i + 1 : Nat) : Int) = i + 1 := by omega
  refine Ok.ite (fun c => ?_) fun c => ?_
  ·have c := of_decide_eq_true c
   rw [hw,ei,ei1,Hw,Afu h (show i < i + 1 by omega) (by omega)]
   refine Ok.guard (by omega) (Ok.guard (by omega) (Ok.guard (by omega) (Ok.guard (by omega) ?_)))
   refine Ok.step rfl (hnn _ ⟨i + 1,?_,by omega⟩ ?_)
   ·rw [At (by omega) (by omega)]
    omega
   ·rw [At (by omega) (by omega)]
    omega
  ·have c := of_decide_eq_false c
   have : ((i + 1 : Nat) : Int) = (L.length : Int) := by omega
   simp only [Bool.false_eq_true,if_false]
   rw [if_pos (by rw [this]; simp)]
   exact Ok.ret rfl
 ·rintro s ⟨h0,_⟩
  simp at h0
theorem Agy : (List.range 1001).all (fun n => (Nv (IntKind.u64.wrap (n : Int))).any (fun k => n == 0 || decide (1 ≤ k))) = true := by decide +kernel
theorem len_bits {n : Nat} (h0 : 0 < n) (hn : n ≤ 1000) : Ok (Nv (IntKind.u64.wrap (n : Int))) (fun k => 1 ≤ k) := by
 have := List.all_eq_true.mp Agy n (by rw [List.mem_range]; omega)
 cases hb : Nv (IntKind.u64.wrap (n : Int)) with
 | none => rw [hb] at this; simp at this
 | some k =>
  rw [hb] at this
  simp at this
  exact ⟨k,rfl,by omega⟩
theorem Ack {n : Nat} (hn : n ≤ 1000) : Ok (Nv (IntKind.u64.wrap (n : Int))) (fun _ => True) := by
 have := List.all_eq_true.mp Agy n (by rw [List.mem_range]; omega)
 cases hb : Nv (IntKind.u64.wrap (n : Int)) with
 | none => rw [hb] at this; simp at this
 | some k => exact ⟨k,rfl,trivial⟩
theorem AhV (p0 : List Int) (p1 p2 p3 : Int) : Ib p0 p1 p2 p3 = Eg (Bi 1099511627775) p0 p1 p2 p3 := by
 show Bi (1099511627775 + 1) p0 p1 p2 p3 = _
 rw [Bi]
theorem Aek {L : List Int} (h : L.Pairwise (· < ·)) (hl : L.length ≤ 1000) : Fm L = some L := by
 apply Ok.eq
 unfold Fm
 refine Ok.bind (P := fun k => 12 < L.length → 1 ≤ k) ?_ fun k hk => ?_
 ·by_cases h0 : 0 < L.length
  ·exact (len_bits h0 hl).mono fun _ h _ => h
  ·exact (Ack hl).mono fun _ _ h => by omega
 refine Ok.step (a := L) ?_ (Ok.guard rfl (Ok.ret rfl))
 apply Ok.eq
 rw [AhV]
 unfold Eg
 refine Ok.while (fun q => q = (L,0,(L.length : Int),k,true,true)) (fun _ => 0) rfl (by rw [Cs]; omega) ?_
 rintro q n rfl _
 unfold Hg
 simp only
 have e0 : w64 ((L.length : Int) - 0) = (L.length : Int) := by
  rw [At (by omega) (by omega)]
  omega
 rw [e0]
 refine Ok.ite (fun _ => ?_) fun c => ?_
 ·exact Ok.step (Ago h (by omega)) (Ok.guard rfl (Ok.ret rfl))
 ·have c := of_decide_eq_false c
  have := hk (by omega)
  refine Ok.ite (fun c => ?_) fun _ => ?_
  ·exfalso
   have : k = 0 := by simpa using c
   omega
  simp only [Bool.not_true,Bool.false_eq_true,if_false]
  unfold De
  simp only
  refine Ok.bind (pivot_asc h (by omega) (by omega)) fun r hr => ?_
  rw [hr]
  refine Ok.ite (fun c => by simp at c) fun _ => ?_
  unfold Dc
  simp only
  refine Ok.ite (fun _ => ?_) fun c => by simp at c
  exact Ok.step (Ahj h (by omega) (by omega)) (Ok.guard rfl (Ok.ret rfl))
theorem Aag {L : List Int} (h : L.Pairwise (· < ·)) (hl : L.length ≤ 1000000) : Dq L = some (L.length,L) := by
 apply Ok.eq
 unfold Dq
 refine Ok.ite (fun _ => Ok.ret rfl) fun c => ?_
 refine Ok.guard (by omega) ?_
 refine Ok.for (fun _ _ => True) trivial ?_ fun _ _ => Ok.ret rfl
 intro j _ n hj _ hn
 unfold Kl
 have hw : w64 (1 + (j : Int) - 1) = (j : Int) := by
  rw [At (by omega) (by omega)]
  omega
 have ej : Int.toNat (j : Int) = j := by omega
 have ej1 : Int.toNat (1 + (j : Int)) = j + 1 := by omega
 rw [hw,ej,ej1]
 have := asc_at h (show j < j + 1 by omega) (by omega)
 refine Ok.guard (by omega) (Ok.guard (by omega) (Ok.guard (by omega) (Ok.guard (by omega) ?_)))
 refine Ok.ite (fun c => ?_) fun _ => hn () trivial
 have : L.getD (j + 1) 0 = L.getD j 0 := by simpa using c
 omega
theorem ids_asc {L : List Aj} (h : L.Pairwise (fun a b => a.id < b.id)) (p : Aj → Bool) : ((L.filter p).map (·.id)).Pairwise (· < ·) := by
 rw [List.pairwise_map]
 exact h.filter p
def Yw (h : Aa) (p : Int) : List Int := (h.tasks.filter (fun x => x.process == p)).map (·.id)
theorem AbZ {h : Aa} (hs : h.tasks.Pairwise (fun a b => a.id < b.id)) (hl : h.tasks.length ≤ 1000) (g : Int) : Su h g = some (Vi h g) := by
 unfold Su Gd
 rw [if_pos (by omega)]
 have ha := ids_asc hs (fun x => x.group == g)
 have hlen : ((h.tasks.filter (fun x => x.group == g)).map (·.id)).length ≤ 1000 := by
  rw [List.length_map]
  have := List.length_filter_le (fun x : Aj => x.group == g) h.tasks
  omega
 rw [Ho (p := fun x : Aj => x.group == g) (f := fun x : Aj => x.id) (r := Fk) (fun k x s n hs => by
  unfold Hj Ds So Xc
  simp only [Option.bind_some]
  rw [if_pos hs]) (fun _ => rfl) (by simp; omega)]
 rw [List.nil_append]
 unfold Fk
 rw [Aek ha hlen,Option.bind_some,if_pos rfl,Aag ha (by omega),Option.bind_some,if_pos rfl,if_pos (Nat.le_refl _),List.take_length]
 rfl
theorem AaV {h : Aa} (hs : h.tasks.Pairwise (fun a b => a.id < b.id)) (hl : h.tasks.length ≤ 1000) (g : Int) : Pz h g = some (Yw h g) := by
 unfold Pz Fi
 rw [if_pos (by omega)]
 have ha := ids_asc hs (fun x => x.process == g)
 have hlen : ((h.tasks.filter (fun x => x.process == g)).map (·.id)).length ≤ 1000 := by
  rw [List.length_map]
  have := List.length_filter_le (fun x : Aj => x.process == g) h.tasks
  omega
 rw [Ho (p := fun x : Aj => x.process == g) (f := fun x : Aj => x.id) (r := Ew) (fun k x s n hs => by
  unfold Ha Dg Qi Xc
  simp only [Option.bind_some]
  rw [if_pos hs]) (fun _ => rfl) (by simp; omega)]
 rw [List.nil_append]
 unfold Ew
 rw [Aek ha hlen,Option.bind_some,if_pos rfl,Aag ha (by omega),Option.bind_some,if_pos rfl,if_pos (Nat.le_refl _),List.take_length]
 rfl
theorem Afk {h : Aa} (w : WfH h) (g : Int) : Ls h g = some (Vi h g) := by
 have := w.len
 unfold Ls
 rw [Li w,Option.bind_some,AbZ w.sorted (by omega)]
 rfl
theorem AdI {h : Aa} (w : WfH h) (g : Int) : Iz h g = some (Yw h g) := by
 have := w.len
 unfold Iz
 rw [Li w,Option.bind_some,AaV w.sorted (by omega)]
 rfl
theorem Agh {h : Aa} (w : WfH h) (id : Int) : Mt h id = some ((Gb h.tasks id).elim (zK,false) (fun x => (x,true))) := by
 have := w.len
 unfold Mt
 rw [Li w,Option.bind_some,Xn h id (by omega)]
 rfl
theorem AbQ {h : Aa} (w : WfH h) (k : Int) : Hq h k = some (decide (((Xm h k : Nat) : Int) > 0)) := by
 unfold Hq
 rw [AaJ w]
 rfl
end Go.Dm

/- Plain theory, part 26: rows that are permuted within a range; insertion sort. -/
namespace Go.Dm
structure RP (a b : Nat) (L M : List Int) : Prop where
 len : M.length = L.length
 out : ∀ i,i < a ∨ b ≤ i → M.getD i 0 = L.getD i 0
 mem : ∀ i,a ≤ i → i < b → ∃ j,a ≤ j ∧ j < b ∧ M.getD i 0 = L.getD j 0
 perm : M.Perm L
theorem RP.refl (a b : Nat) (L : List Int) : RP a b L L := ⟨rfl,fun _ _ => rfl,fun i h1 h2 => ⟨i,h1,h2,rfl⟩,.refl _⟩
theorem RP.trans {a b : Nat} {L M N : List Int} (h : RP a b L M) (k : RP a b M N) : RP a b L N := by
 refine ⟨k.len.trans h.len,fun i hi => (k.out i hi).trans (h.out i hi),fun i h1 h2 => ?_,k.perm.trans h.perm⟩
 obtain ⟨j,j1,j2,e⟩ := k.mem i h1 h2
 obtain ⟨q,q1,q2,e2⟩ := h.mem j j1 j2
 exact ⟨q,q1,q2,e.trans e2⟩
theorem RP.widen {a b c d : Nat} {L M : List Int} (h : RP a b L M) (h1 : c ≤ a) (h2 : b ≤ d) : RP c d L M := by
 refine ⟨h.len,fun i hi => h.out i (by omega),fun i i1 i2 => ?_,h.perm⟩
 by_cases q : a ≤ i ∧ i < b
 ·obtain ⟨j,j1,j2,e⟩ := h.mem i q.1 q.2
  exact ⟨j,by omega,by omega,e⟩
 ·exact ⟨i,i1,i2,h.out i (by omega)⟩
theorem RP.all {a b : Nat} {L M : List Int} (h : RP a b L M) {P : Int → Prop} (hp : ∀ i,a ≤ i → i < b → P (L.getD i 0)) : ∀ i,a ≤ i → i < b → P (M.getD i 0) := by
 intro i h1 h2
 obtain ⟨j,j1,j2,e⟩ := h.mem i h1 h2
 rw [e]
 exact hp j j1 j2
theorem Afn {α : Type} {l : List α} {i : Nat} {a d : α} (h : i < l.length) : (l.set i a).getD i d = a := by
 simp [List.getD_eq_getElem?_getD,h]
def Dw (L : List Int) (i j : Nat) : List Int := (L.set i (L.getD j 0)).set j (L.getD i 0)
theorem AbN (L : List Int) (i j : Nat) : (Dw L i j).length = L.length := by simp [Dw]
theorem Agx {L : List Int} {i j : Nat} {x : Int} (hi : i < L.length) : (L.set i x).getD j 0 = if j = i then x else L.getD j 0 := by
 by_cases e : j = i
 ·subst e
  rw [if_pos rfl]
  exact Afn hi
 ·rw [if_neg e,List.getD_eq_getElem?_getD,List.getElem?_set_ne (fun h => e h.symm),← List.getD_eq_getElem?_getD]
theorem Hy {L : List Int} {i j k : Nat} (hi : i < L.length) (hj : j < L.length) : (Dw L i j).getD k 0 = if k = j then L.getD i 0 else if k = i then L.getD j 0 else L.getD k 0 := by
 unfold Dw
 rw [Agx (by simpa using hj),Agx hi]
theorem Aia {L : List Int} {i j : Nat} (hi : i < L.length) (hj : j < L.length) : (Dw L i j).Perm L := by
 have h := Array.swap_perm (xs := L.toArray) (i := i) (j := j) (by simpa using hi) (by simpa using hj)
 have e : (L.toArray.swap i j (by simpa using hi) (by simpa using hj)).toList = Dw L i j := by
  unfold Dw
  rw [Im hi,Im hj]
  simp [Array.swap]
 have := Array.perm_iff_toList_perm.mp h
 rw [e] at this
 simpa using this
theorem RP.swap {a b : Nat} {L : List Int} {i j : Nat} (hb : b ≤ L.length) (i1 : a ≤ i) (i2 : i < b) (j1 : a ≤ j) (j2 : j < b) : RP a b L (Dw L i j) := by
 have hi : i < L.length := by omega
 have hj : j < L.length := by omega
 refine ⟨AbN L i j,fun k hk => ?_,fun k k1 k2 => ?_,Aia hi hj⟩
 ·rw [Hy hi hj,if_neg (by omega),if_neg (by omega)]
 ·rw [Hy hi hj]
  split
  ·exact ⟨i,i1,i2,rfl⟩
  ·split
   ·exact ⟨j,j1,j2,rfl⟩
   ·exact ⟨k,k1,k2,rfl⟩
def Gh (a b : Nat) (L : List Int) : Prop := ∀ p q,a ≤ p → p < q → q < b → L.getD p 0 ≤ L.getD q 0
theorem AgS {L : List Int} {a b : Nat} (hab : a ≤ b) (hb : b ≤ L.length) (hl : L.length ≤ 1000000) : Ok (Ci L (a : Int) (b : Int)) (fun M => RP a b L M ∧ Gh a b M) := by
 unfold Ci
 have e1 : w64 ((a : Int) + 1) = ((a + 1 : Nat) : Int) := by
  rw [At (by omega) (by omega)]
  omega
 rw [e1]
 refine Ok.guard (by omega) ?_
 have em : Int.toNat ((b : Int) - ((a + 1 : Nat) : Int)) = b - (a + 1) := by omega
 rw [em]
 refine Ok.for (fun j s => RP a b L s ∧ Gh a (a + 1 + j) s) ⟨.refl _ _ _,fun p q h1 h2 h3 => by omega⟩ ?_ ?_
 ·intro j s n hj ⟨i1,i2⟩ hn
  have hs := i1.len
  have ei : ((a + 1 : Nat) : Int) + (j : Int) = ((a + 1 + j : Nat) : Int) := by omega
  rw [ei]
  unfold Fj
  refine Ok.while (fun q => ∃ k : Nat,q.2 = (k : Int) ∧ a ≤ k ∧ k ≤ a + 1 + j ∧ RP a b L q.1 ∧ (∀ p r,a ≤ p → p < r → r ≤ a + 1 + j → p ≠ k → r ≠ k → q.1.getD p 0 ≤ q.1.getD r 0) ∧ (∀ r,k < r → r ≤ a + 1 + j → q.1.getD k 0 ≤ q.1.getD r 0)) (fun q => q.2.toNat) ?_ ?_ ?_
  ·refine ⟨a + 1 + j,rfl,by omega,by omega,i1,fun p r h1 h2 h3 h4 h5 => i2 p r h1 h2 (by omega),fun r h1 h2 => by omega⟩
  ·rw [Cs]
   simp only
   omega
  ·rintro ⟨M,x⟩ nn ⟨k,hx,k1,k2,rp,hA,hB⟩ hnn
   simp only at hx rp hA hB
   subst hx
   have hM := rp.len
   have ek : Int.toNat (k : Int) = k := by omega
   have fin : (k = a ∨ ¬ M.getD k 0 < M.getD (k - 1) 0) → Ok (n M) (fun M => RP a b L M ∧ Gh a b M) := by
    intro hstop
    refine hn M ⟨rp,fun p q h1 h2 h3 => ?_⟩
    by_cases hp : p = k
    ·subst hp
     exact hB q h2 (by omega)
    by_cases hq : q = k
    ·subst hq
     rcases hstop with h | h
     ·omega
     ·by_cases hp2 : p = q - 1
      ·subst hp2
       omega
      ·have := hA p (q - 1) h1 (by omega) (by omega) hp (by omega)
       omega
    exact hA p q h1 h2 (by omega) hp hq
   unfold Fo Cu
   simp only
   refine Ok.ite (fun c => ?_) fun c => ?_
   ·have c := of_decide_eq_true c
    have hw : w64 ((k : Int) - 1) = ((k - 1 : Nat) : Int) := by
     rw [At (by omega) (by omega)]
     omega
    have ek1 : Int.toNat ((k - 1 : Nat) : Int) = k - 1 := by omega
    rw [hw,ek,ek1,Hw]
    refine Ok.guard (by omega) (Ok.guard (by omega) (Ok.guard (by omega) (Ok.guard (by omega) ?_)))
    refine Ok.step rfl ?_
    refine Ok.ite (fun c2 => ?_) fun c2 => ?_
    ·have c2 := of_decide_eq_true c2
     refine Ok.guard (by omega) (Ok.guard (by omega) (Ok.guard (by omega) (Ok.guard (by omega) (Ok.guard (by omega) (Ok.guard (by omega) (Ok.guard (by omega) (Ok.guard (by omega) ?_)))))))
     have hkl : k < M.length := by omega
     have hk1 : k - 1 < M.length := by omega
     have hg : ∀ r,(Dw M k (k - 1)).getD r 0 = if r = k - 1 then M.getD k 0 else if r = k then M.getD (k - 1) 0 else M.getD r 0 := fun r => Hy hkl hk1
     refine hnn (Dw M k (k - 1),((k - 1 : Nat) : Int)) ⟨k - 1,rfl,by omega,by omega,rp.trans (RP.swap (by omega) (by omega) (by omega) (by omega) (by omega)),?_,?_⟩ (by simp only; omega)
     ·intro p r h1 h2 h3 h4 h5
      simp only
      rw [hg,hg,if_neg h4,if_neg h5]
      by_cases hp : p = k
      ·rw [if_pos hp,if_neg (by omega)]
       exact hA (k - 1) r (by omega) (by omega) h3 (by omega) (by omega)
      ·rw [if_neg hp]
       by_cases hr : r = k
       ·rw [if_pos hr]
        exact hA p (k - 1) h1 (by omega) (by omega) hp (by omega)
       ·rw [if_neg hr]
        exact hA p r h1 h2 h3 hp hr
     ·intro r h1 h2
      simp only
      rw [hg,hg,if_pos rfl,if_neg (by omega)]
      by_cases hr : r = k
      ·rw [if_pos hr]
       omega
      ·rw [if_neg hr]
       exact hB r (by omega) h2
    ·exact fin (.inr (of_decide_eq_false c2))
   ·have c := of_decide_eq_false c
    simp only [Bool.false_eq_true,if_false]
    exact fin (.inl (by omega))
 ·intro s ⟨i1,i2⟩
  refine Ok.ret ⟨i1,fun p q h1 h2 h3 => i2 p q h1 h2 (by omega)⟩
end Go.Dm
