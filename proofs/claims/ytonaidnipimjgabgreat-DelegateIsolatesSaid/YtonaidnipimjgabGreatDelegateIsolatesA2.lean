/- Texts of the proof of DelegateIsolates: the data machine, the models of the Go functions, their contracts. -/
import Derived.Test.YtonaidnipimjgabGreatDelegateIsolatesA1
import Derived.KernelRfl
set_option linter.unusedVariables false
set_option linter.unusedSimpArgs false
/- Models of Go types and functions, printed by a program. -/
namespace Go.Dm
set_option linter.unusedVariables false
structure Ag where
 id : Int
 parent : Int
 name : ByteArray
 control : Int
 kind : Int
 owner : Int
 deriving Inhabited
def Ak (x : Ag) : List PV := [vi x.id,vi x.parent,vs x.name,vi x.control,vi x.kind,vi x.owner]
abbrev Ar : Ag := default
abbrev Bf (L : List Ag) : PV := Uv 6 Ak (default : Ag) L
abbrev Ac (L : List Ag) : Body := rowOf 6 Ak (default : Ag) L
abbrev Il (L : List Ag) : Nat → List PV := elems Ak (default : Ag) L
def AgN (x y : Ag) : Bool := ((x.id == y.id) && ((x.parent == y.parent) && ((x.name.toList == y.name.toList) && ((x.control == y.control) && ((x.kind == y.kind) && ((x.owner == y.owner) && true))))))
structure Ae where
 nodes : List Ag
 next : Int
 deriving Inhabited
def Aj (x : Ae) : List PV := [Uv 6 Ak (default : Ag) x.nodes,vi x.next]
structure Am where
 id : Int
 process : Int
 group : Int
 user : Int
 deriving Inhabited
def Ao (x : Am) : List PV := [vi x.id,vi x.process,vi x.group,vi x.user]
abbrev Ba : Am := default
abbrev Fr (L : List Am) : PV := Uv 4 Ao (default : Am) L
abbrev Af (L : List Am) : Body := rowOf 4 Ao (default : Am) L
abbrev Vh (L : List Am) : Nat → List PV := elems Ao (default : Am) L
def AeT (x y : Am) : Bool := ((x.id == y.id) && ((x.process == y.process) && ((x.group == y.group) && ((x.user == y.user) && true))))
structure Aa where
 tree : Ae
 tasks : List Am
 next : Int
 deriving Inhabited
def Ab (x : Aa) : List PV := [Uv 6 Ak (default : Ag) x.tree.nodes,vi x.tree.next,Uv 4 Ao (default : Am) x.tasks,vi x.next]
structure At where
 l : List Int
 atF : Int
 deriving Inhabited
def Aq (x : At) : List PV := [Uv 1 Cl 0 x.l,vi x.atF]
def AaR (p0 : List Int) : Option Bool := (some (decide (((p0.length : Nat) : Int) ≤ 600)))
def Abn : Option Ae := (some ({ nodes := [({ id := 1,parent := 0,name := ByteArray.empty,control := 0,kind := 0,owner := 0 } : Ag)],next := 2 } : Ae))
def AdC : Option Aa := (Option.bind Abn fun r1 => (some ({ tree := r1,tasks := [],next := 1 } : Aa)))
def Abz (p0 : ByteArray) (k1 : Int) (s1 : Unit) (n1 : Unit → Option Bool) : Option Bool := (if 0 ≤ k1 ∧ k1 < ((p0.size : Nat) : Int) then (if (!((((((decide ((((Bh p0 (Int.toNat k1)) : Nat) : Int) ≥ 97)) && (decide ((((Bh p0 (Int.toNat k1)) : Nat) : Int) ≤ 122))) || ((decide ((((Bh p0 (Int.toNat k1)) : Nat) : Int) ≥ 65)) && (decide ((((Bh p0 (Int.toNat k1)) : Nat) : Int) ≤ 90)))) || ((decide ((((Bh p0 (Int.toNat k1)) : Nat) : Int) ≥ 48)) && (decide ((((Bh p0 (Int.toNat k1)) : Nat) : Int) ≤ 57)))) || ((((Bh p0 (Int.toNat k1)) : Nat) : Int) == 95)) || ((((Bh p0 (Int.toNat k1)) : Nat) : Int) == 45))) then (some false) else (n1 ())) else none)
def AeE (s1 : Unit) : Option Bool := (some true)
def Qj (p0 : ByteArray) (y1 : Bool) : Option Bool := (if y1 then (some false) else (if ((p0.size : Nat) : Int) ≤ 9223372036854775807 then (forO (Abz p0) AeE (Int.toNat (((p0.size : Nat) : Int) - 0)) 0 ()) else none))
def Tw (p0 : ByteArray) : Option Bool := (if (((p0.size : Nat) : Int) == 0) then ((Qj p0) true) else (if (decide (((p0.size : Nat) : Int) > 32)) then ((Qj p0) true) else (if 0 < p0.size then ((Qj p0) ((((Bh p0 0) : Nat) : Int) == 45)) else none)))
def Rt (n1 : Bool → Option Bool) (y5 : Bool) (y6 : Bool) : Option Bool := (if y6 then (some false) else (n1 y5))
def Ru (p0 : Ae) (p1 : Int) (k1 : Int) (n1 : Bool → Option Bool) (y5 : Bool) : Option Bool := (if 0 ≤ k1 ∧ k1 < ((p0.nodes.length : Nat) : Int) then (if ((p0.nodes.getD (Int.toNat k1) (default : Ag)).parent == (p0.nodes.getD (Int.toNat p1) (default : Ag)).parent) then (if 0 ≤ k1 ∧ k1 < ((p0.nodes.length : Nat) : Int) then ((Rt n1 y5) (Co (p0.nodes.getD (Int.toNat k1) (default : Ag)).name (p0.nodes.getD (Int.toNat p1) (default : Ag)).name)) else none) else ((Rt n1 y5) false)) else none)
def AcQ (p0 : Ae) (p1 : Int) (k1 : Int) (s1 : Bool) (n1 : Bool → Option Bool) : Option Bool := (if s1 then ((Ru p0 p1 k1 n1) true) else (if 0 ≤ k1 ∧ k1 < ((p0.nodes.length : Nat) : Int) then ((Ru p0 p1 k1 n1) ((p0.nodes.getD (Int.toNat k1) (default : Ag)).id == (p0.nodes.getD (Int.toNat p1) (default : Ag)).parent)) else none))
def AfR (s1 : Bool) : Option Bool := (some s1)
def Va (p0 : Ae) (p1 : Int) (y1 : Bool) : Option Bool := (if y1 then (some false) else (if p1 ≤ 9223372036854775807 then (forO (AcQ p0 p1) AfR (Int.toNat (p1 - 0)) 0 false) else none))
def Aaa (p0 : Ae) (p1 : Int) : Option Bool := (if 0 ≤ p1 ∧ p1 < ((p0.nodes.length : Nat) : Int) then (if (((((((p0.nodes.getD (Int.toNat p1) (default : Ag)).kind != 0) && ((p0.nodes.getD (Int.toNat p1) (default : Ag)).kind != 1)) || (decide ((p0.nodes.getD (Int.toNat p1) (default : Ag)).control < 0))) || (decide ((p0.nodes.getD (Int.toNat p1) (default : Ag)).control > 31))) || (decide ((p0.nodes.getD (Int.toNat p1) (default : Ag)).owner < 0))) || (decide ((p0.nodes.getD (Int.toNat p1) (default : Ag)).owner > 1048576))) then (some false) else (if (p1 == 0) then (some (((((p0.nodes.getD (Int.toNat p1) (default : Ag)).id == 1) && ((p0.nodes.getD (Int.toNat p1) (default : Ag)).parent == 0)) && (Co (p0.nodes.getD (Int.toNat p1) (default : Ag)).name ByteArray.empty)) && ((p0.nodes.getD (Int.toNat p1) (default : Ag)).kind == 0))) else (if 0 ≤ (w64 (p1 - 1)) ∧ (w64 (p1 - 1)) < ((p0.nodes.length : Nat) : Int) then (if (decide ((p0.nodes.getD (Int.toNat p1) (default : Ag)).id ≤ (p0.nodes.getD (Int.toNat (w64 (p1 - 1))) (default : Ag)).id)) then ((Va p0 p1) true) else (Option.bind (Tw (p0.nodes.getD (Int.toNat p1) (default : Ag)).name) fun r17 => ((Va p0 p1) (!r17)))) else none))) else none)
def Wc (s1 : (List Int) × Int × Int) (n1 : ((List Int) × Int × Int) → Option (List Int)) (y2 : (List Int) × Int) : Option (List Int) := (n1 (y2.1,y2.2,(w64 (s1.2.2 - 1))))
def Aew (p0 : Ae) (s1 : (List Int) × Int × Int) (n1 : ((List Int) × Int × Int) → Option (List Int)) : Option (List Int) := (if (decide (s1.2.2 ≥ 0)) then (if 0 ≤ s1.2.2 ∧ s1.2.2 < ((p0.nodes.length : Nat) : Int) then (if ((p0.nodes.getD (Int.toNat s1.2.2) (default : Ag)).id == s1.2.1) then (if s1.1.length + 1 ≤ 1073741824 then (if 0 ≤ s1.2.2 ∧ s1.2.2 < ((p0.nodes.length : Nat) : Int) then ((Wc s1 n1) ((s1.1 ++ [s1.2.1]),(p0.nodes.getD (Int.toNat s1.2.2) (default : Ag)).parent)) else none) else none) else ((Wc s1 n1) (s1.1,s1.2.1))) else none) else (some s1.1))
def AaW (p0 : Ae) (p1 : Int) : Option (List Int) := (whileO (Aew p0) Fu ([],p1,(w64 (((p0.nodes.length : Nat) : Int) - 1))))
def AbN (p0 : Ae) (k1 : Nat) (x1 : Ag) (s1 : Unit) (n1 : Unit → Option Bool) : Option Bool := (Option.bind (Aaa p0 ((k1 : Nat) : Int)) fun r33 => (if (!r33) then (some false) else (n1 ())))
def Abd (p0 : Ae) (k4 : Nat) (x4 : Ag) (s4 : Unit) (n4 : Unit → Option Bool) : Option Bool := (Option.bind (AaW p0 x4.id) fun r50 => (if (decide (((r50.length : Nat) : Int) > 9)) then (some false) else (n4 ())))
def Sn (y7 : Bool) : Option Bool := (some y7)
def AbH (p0 : Ae) (s4 : Unit) : Option Bool := (if 0 ≤ (w64 (((p0.nodes.length : Nat) : Int) - 1)) ∧ (w64 (((p0.nodes.length : Nat) : Int) - 1)) < ((p0.nodes.length : Nat) : Int) then (if (decide (p0.next > (p0.nodes.getD (Int.toNat (w64 (((p0.nodes.length : Nat) : Int) - 1))) (default : Ag)).id)) then (Sn (decide (p0.next ≤ 2147483648))) else (Sn false)) else none)
def AbF (p0 : Ae) (s1 : Unit) : Option Bool := (if p0.nodes.length ≤ 9223372036854775807 then Bd (Abd p0) (AbH p0) p0.nodes 0 () else none)
def Km (p0 : Ae) : Option Bool := (if ((decide (((p0.nodes.length : Nat) : Int) < 1)) || (decide (((p0.nodes.length : Nat) : Int) > 64))) then (some false) else (if p0.nodes.length ≤ 9223372036854775807 then Bd (AbN p0) (AbF p0) p0.nodes 0 () else none))
def Aea (p1 : Int) (k1 : Nat) (x1 : Am) (s1 : Unit) (n1 : Unit → Option (Am × Bool)) : Option (Am × Bool) := (if (x1.id == p1) then (some (x1,(x1.process == p1))) else (n1 ()))
def AdZ (s1 : Unit) : Option (Am × Bool) := (some (({ id := 0,process := 0,group := 0,user := 0 } : Am),false))
def Vk (p0 : List Am) (p1 : Int) : Option (Am × Bool) := (if p0.length ≤ 9223372036854775807 then Bd (Aea p1) AdZ p0 0 () else none)
def Agc (p1 : Int) (k1 : Nat) (x1 : Ag) (s1 : Unit) (n1 : Unit → Option (Ag × Bool)) : Option (Ag × Bool) := (if (x1.id == p1) then (some (x1,true)) else (n1 ()))
def Agj (s1 : Unit) : Option (Ag × Bool) := (some (({ id := 0,parent := 0,name := ByteArray.empty,control := 0,kind := 0,owner := 0 } : Ag),false))
def Cn (p0 : Ae) (p1 : Int) : Option (Ag × Bool) := (Option.bind (Km p0) fun r1 => (if (!r1) then (some (({ id := 0,parent := 0,name := ByteArray.empty,control := 0,kind := 0,owner := 0 } : Ag),false)) else (if p0.nodes.length ≤ 9223372036854775807 then Bd (Agc p1) Agj p0.nodes 0 () else none)))
def Fo (p0 : Ae) (p1 : Int) : Option Bool := (Option.bind (Cn p0 p1) fun r1 => (some r1.2))
def Bz (n1 : Unit → Option Bool) (y4 : Bool) : Option Bool := (if y4 then (some false) else (n1 ()))
def Xe (p0 : Aa) (k1 : Nat) (x1 : Am) (s1 : Unit) (n1 : Unit → Option Bool) : Option Bool := (Option.bind (Vk p0.tasks x1.process) fun r46 => (if (decide (x1.id < 1)) then ((Bz n1) true) else (if (decide (((k1 : Nat) : Int) > 0)) then (if 0 ≤ (w64 (((k1 : Nat) : Int) - 1)) ∧ (w64 (((k1 : Nat) : Int) - 1)) < ((p0.tasks.length : Nat) : Int) then (if (decide ((p0.tasks.getD (Int.toNat (w64 (((k1 : Nat) : Int) - 1))) (default : Am)).id ≥ x1.id)) then ((Bz n1) true) else (Option.bind (Fo p0.tree x1.group) fun r51 => (if (!r51) then ((Bz n1) true) else (if (decide (x1.user < 0)) then ((Bz n1) true) else (if (decide (x1.user > 1048576)) then ((Bz n1) true) else (if (!r46.2) then ((Bz n1) true) else ((Bz n1) (r46.1.user != x1.user)))))))) else none) else (Option.bind (Fo p0.tree x1.group) fun r56 => (if (!r56) then ((Bz n1) true) else (if (decide (x1.user < 0)) then ((Bz n1) true) else (if (decide (x1.user > 1048576)) then ((Bz n1) true) else (if (!r46.2) then ((Bz n1) true) else ((Bz n1) (r46.1.user != x1.user))))))))))
def AbA (s1 : Unit) : Option Bool := (some true)
def Jh (p0 : Aa) (y1 : Bool) : Option Bool := (if y1 then (some false) else (if p0.tasks.length ≤ 9223372036854775807 then Bd (Xe p0) AbA p0.tasks 0 () else none))
def Gj (p0 : Aa) : Option Bool := (Option.bind (Km p0.tree) fun r1 => (if (!r1) then ((Jh p0) true) else (if (decide (((p0.tasks.length : Nat) : Int) > 128)) then ((Jh p0) true) else (if (decide (p0.next < 1)) then ((Jh p0) true) else (if (decide (p0.next > 2147483648)) then ((Jh p0) true) else (if (decide (((p0.tasks.length : Nat) : Int) > 0)) then (if 0 ≤ (w64 (((p0.tasks.length : Nat) : Int) - 1)) ∧ (w64 (((p0.tasks.length : Nat) : Int) - 1)) < ((p0.tasks.length : Nat) : Int) then ((Jh p0) (decide (p0.next ≤ (p0.tasks.getD (Int.toNat (w64 (((p0.tasks.length : Nat) : Int) - 1))) (default : Am)).id))) else none) else ((Jh p0) false)))))))
def Rv (p0 : Ae) (p1 : Int) : Option Int := (Option.bind (Cn p0 p1) fun r1 => (if ((!r1.2) || (p1 == 1)) then (some 0) else (Option.bind (Cn p0 r1.1.parent) fun r4 => (if (r1.1.kind == 1) then (some (Ax .i64 r4.1.control 6)) else (some r4.1.control)))))
def Jx (y2 : Int) : Option Int := (some y2)
def Ig (r1 : Ag × Bool) (y1 : Int) : Option Int := (if (r1.1.kind == 1) then (Jx (Ax .i64 y1 6)) else (Jx y1))
def Ir (p0 : Ae) (p1 : Int) : Option Int := (Option.bind (Cn p0 p1) fun r1 => (if (!r1.2) then (some 0) else (if (p1 != 1) then (Option.bind (Rv p0 p1) fun r4 => ((Ig r1) r4)) else ((Ig r1) 31))))
def Ta (n1 : (List Int) → Option (List Int)) (y3 : List Int) : Option (List Int) := (n1 y3)
def AbL (p1 : Int) (k1 : Nat) (x1 : Am) (s1 : List Int) (n1 : (List Int) → Option (List Int)) : Option (List Int) := (if (x1.group == p1) then (if s1.length + 1 ≤ 1073741824 then ((Ta n1) (s1 ++ [x1.id])) else none) else ((Ta n1) s1))
def Afq (s1 : List Int) : Option (List Int) := (some s1)
def Ha (p0 : Aa) (p1 : Int) : Option (List Int) := (Option.bind (Gj p0) fun r1 => (if (!r1) then (some []) else (if p0.tasks.length ≤ 9223372036854775807 then Bd (AbL p1) Afq p0.tasks 0 [] else none)))
def Jc (n1 : Unit → Option Bool) (y3 : Bool) : Option Bool := (if y3 then (some false) else (n1 ()))
def Wr (p0 : Aa) (k1 : Nat) (x1 : Ag) (s1 : Unit) (n1 : Unit → Option Bool) : Option Bool := (Option.bind (Ir p0.tree x1.id) fun r20 => (if ((Ax .i64 x1.control r20) != 0) then ((Jc n1) true) else (if (x1.id != 1) then (if ((kand .i64 x1.control 6) != 0) then (Option.bind (Ha p0 x1.id) fun r24 => ((Jc n1) (decide (((r24.length : Nat) : Int) > 0)))) else ((Jc n1) false)) else ((Jc n1) false))))
def Aet (s1 : Unit) : Option Bool := (some true)
def Pf (p0 : Aa) : Option Bool := (Option.bind (Gj p0) fun r1 => (if (!r1) then (some false) else (if p0.tree.nodes.length ≤ 9223372036854775807 then Bd (Wr p0) Aet p0.tree.nodes 0 () else none)))
def AfV (p1 : Int) (k1 : Nat) (x1 : Am) (s1 : Unit) (n1 : Unit → Option (Am × Bool)) : Option (Am × Bool) := (if (x1.id == p1) then (some (x1,true)) else (n1 ()))
def Agi (s1 : Unit) : Option (Am × Bool) := (some (({ id := 0,process := 0,group := 0,user := 0 } : Am),false))
def Hj (p0 : Aa) (p1 : Int) : Option (Am × Bool) := (Option.bind (Gj p0) fun r1 => (if (!r1) then (some (({ id := 0,process := 0,group := 0,user := 0 } : Am),false)) else (if p0.tasks.length ≤ 9223372036854775807 then Bd (AfV p1) Agi p0.tasks 0 () else none)))
def Hc (p0 : Ae) (p1 : Int) : Option (List Int) := (Option.bind (Fo p0 p1) fun r1 => (if (!r1) then (some []) else (Option.bind (AaW p0 p1) fun r3 => (some r3))))
def Vw (p0 : Ae) (k1 : Nat) (x1 : Int) (s1 : Unit) (n1 : Unit → Option (Int × Bool)) : Option (Int × Bool) := (Option.bind (Cn p0 x1) fun r17 => (if (r17.1.kind != 1) then (some (x1,true)) else (n1 ())))
def Aec (s1 : Unit) : Option (Int × Bool) := (some (0,false))
def Iy (p0 : Ae) (p1 : Int) : Option (Int × Bool) := (Option.bind (Hc p0 p1) fun r1 => (if r1.length ≤ 9223372036854775807 then Bd (Vw p0) Aec r1 0 () else none))
def Pe (n1 : (List Int) → Option (List Int)) (y3 : List Int) : Option (List Int) := (n1 y3)
def Wy (p1 : Int) (k1 : Nat) (x1 : Ag) (s1 : List Int) (n1 : (List Int) → Option (List Int)) : Option (List Int) := (if (x1.parent == p1) then (if s1.length + 1 ≤ 1073741824 then ((Pe n1) (s1 ++ [x1.id])) else none) else ((Pe n1) s1))
def Ach (s1 : List Int) : Option (List Int) := (some s1)
def Hv (p0 : Ae) (p1 : Int) : Option (List Int) := (Option.bind (Fo p0 p1) fun r1 => (if (!r1) then (some []) else (if p0.nodes.length ≤ 9223372036854775807 then Bd (Wy p1) Ach p0.nodes 0 [] else none)))
def Zo (p0 : Ae) (k1 : Nat) (x1 : Int) (s1 : Unit) (n1 : Unit → Option Int) : Option Int := (Option.bind (Cn p0 x1) fun r21 => (if (r21.1.kind == 1) then (some 1) else (n1 ())))
def AfT (s1 : Unit) : Option Int := (some 0)
def Kj (p0 : Ae) (p1 : Int) (y1 : Bool) : Option Int := (if y1 then (some 3) else (Option.bind (Hv p0 p1) fun r9 => (if r9.length ≤ 9223372036854775807 then Bd (Zo p0) AfT r9 0 () else none)))
def Pd (rec : Ae → Int → Option Int) (p0 : Ae) (p1 : Int) : Option Int := (Option.bind (Cn p0 p1) fun r1 => (if (!r1.2) then (some 0) else (if (r1.1.kind == 1) then (some 2) else (Option.bind (Cn p0 r1.1.parent) fun r4 => (if r4.2 then (if (r4.1.kind == 1) then ((Kj p0 p1) true) else (Option.bind (rec p0 r4.1.id) fun r7 => ((Kj p0 p1) (r7 == 3)))) else ((Kj p0 p1) false))))))
def Hx : Nat → Ae → Int → Option Int
 | 0,_,_ => none
 | n + 1,p0,p1 => Pd (Hx n) p0 p1
def Jq (p0 : Ae) (p1 : Int) : Option Int := Hx Fu p0 p1
def Zl (p0 : Aa) (k1 : Nat) (x1 : Am) (s1 : Unit) (n1 : Unit → Option Bool) : Option Bool := (Option.bind (Hj p0 x1.process) fun r100 => (Option.bind (Iy p0.tree x1.group) fun r101 => (Option.bind (Iy p0.tree r100.1.group) fun r102 => (if (r101.1 != r102.1) then (some false) else (n1 ())))))
def Hr (n4 : Unit → Option Bool) (y18 : Bool) : Option Bool := (if y18 then (some false) else (n4 ()))
def Je (p0 : Aa) (x4 : Ag) (n4 : Unit → Option Bool) (r133 : Ag × Bool) (y17 : Bool) : Option Bool := (if y17 then (some false) else (if (x4.kind == 1) then (if (r133.1.id != 1) then (if ((kand .i64 r133.1.control 6) != 0) then ((Hr n4) true) else (Option.bind (Jq p0.tree r133.1.id) fun r142 => ((Hr n4) (r142 == 3)))) else (Option.bind (Jq p0.tree r133.1.id) fun r143 => ((Hr n4) (r143 == 3)))) else ((Hr n4) false)))
def Zn (p0 : Aa) (k4 : Nat) (x4 : Ag) (s4 : Unit) (n4 : Unit → Option Bool) : Option Bool := (Option.bind (Cn p0.tree x4.parent) fun r133 => (Option.bind (Jq p0.tree x4.id) fun r134 => (if (r134 == 3) then (if (x4.control != 0) then ((Je p0 x4 n4 r133) true) else (Option.bind (Ha p0 x4.id) fun r137 => ((Je p0 x4 n4 r133) (decide (((r137.length : Nat) : Int) > 0))))) else ((Je p0 x4 n4 r133) false))))
def AfZ (s4 : Unit) : Option Bool := (some true)
def Zb (p0 : Aa) (s1 : Unit) : Option Bool := (if p0.tree.nodes.length ≤ 9223372036854775807 then Bd (Zn p0) AfZ p0.tree.nodes 0 () else none)
def Gb (p0 : Aa) : Option Bool := (Option.bind (Pf p0) fun r1 => (if (!r1) then (some false) else (if p0.tasks.length ≤ 9223372036854775807 then Bd (Zl p0) (Zb p0) p0.tasks 0 () else none)))
def Ws (p0 : Ae) (p1 : Int) : Option Int := (Option.bind (Hc p0 p1) fun r1 => (some (w64 (((r1.length : Nat) : Int) - 1))))
def Qn (p0 : Ae) : Option Ae := (if p0.nodes.length ≤ 1073741824 then (some p0) else none)
def Adw (p1 : Int) (p2 : ByteArray) (k1 : Nat) (x1 : Ag) (s1 : Unit) (n1 : Unit → Option (Ae × Int × Int)) : Option (Ae × Int × Int) := (if ((x1.parent == p1) && (Co x1.name p2)) then (some (({ nodes := [],next := 0 } : Ae),0,5)) else (n1 ()))
def Qv (p0 : Ae) (p1 : Int) (p2 : ByteArray) (y6 : Bool) : Option (Ae × Int × Int) := (if y6 then (some (({ nodes := [],next := 0 } : Ae),0,7)) else (Option.bind (Qn p0) fun r36 => (if r36.nodes.length + 1 ≤ 1073741824 then (some (({ nodes := (r36.nodes ++ [({ id := p0.next,parent := p1,name := p2,control := 0,kind := 0,owner := 0 } : Ag)]),next := (w64 (r36.next + 1)) } : Ae),p0.next,0)) else none)))
def AdB (p0 : Ae) (p1 : Int) (p2 : ByteArray) (s1 : Unit) : Option (Ae × Int × Int) := (Option.bind (Ws p0 p1) fun r32 => (if (decide (r32 ≥ 8)) then ((Qv p0 p1 p2) true) else (if (decide (((p0.nodes.length : Nat) : Int) ≥ 64)) then ((Qv p0 p1 p2) true) else ((Qv p0 p1 p2) (decide (p0.next > 2147483647))))))
def Xr (p0 : Ae) (p1 : Int) (p2 : ByteArray) (y1 : Bool) : Option (Ae × Int × Int) := (if y1 then (some (({ nodes := [],next := 0 } : Ae),0,1)) else (Option.bind (Fo p0 p1) fun r5 => (if (!r5) then (some (({ nodes := [],next := 0 } : Ae),0,4)) else (if p0.nodes.length ≤ 9223372036854775807 then Bd (Adw p1 p2) (AdB p0 p1 p2) p0.nodes 0 () else none))))
def Yl (p0 : Ae) (p1 : Int) (p2 : ByteArray) : Option (Ae × Int × Int) := (Option.bind (Km p0) fun r1 => (if (!r1) then ((Xr p0 p1 p2) true) else (Option.bind (Tw p2) fun r3 => ((Xr p0 p1 p2) (!r3)))))
def Og (p0 : Aa) : Option Aa := (Option.bind (Qn p0.tree) fun r1 => (if p0.tasks.length ≤ 1073741824 then (some ({ tree := r1,tasks := p0.tasks,next := p0.next } : Aa)) else none))
def AcJ (p0 : Aa) (p1 : Int) (p2 : ByteArray) : Option (Aa × Int × Int) := (Option.bind (Gb p0) fun r1 => (if (!r1) then (some (({ tree := ({ nodes := [],next := 0 } : Ae),tasks := [],next := 0 } : Aa),0,1)) else (Option.bind (Yl p0.tree p1 p2) fun r3 => (if (r3.2.2 != 0) then (some (({ tree := ({ nodes := [],next := 0 } : Ae),tasks := [],next := 0 } : Aa),0,r3.2.2)) else (Option.bind (Og p0) fun r5 => (some (({ tree := r3.1,tasks := r5.tasks,next := r5.next } : Aa),r3.2.1,0)))))))
def Xa (r3 : Aa) (y1 : Am) : Option (Aa × Int × Int) := (if r3.tasks.length + 1 ≤ 1073741824 then (some (({ tree := r3.tree,tasks := (r3.tasks ++ [y1]),next := (w64 (r3.next + 1)) } : Aa),y1.id,0)) else none)
def Yq (p0 : Aa) (p1 : Am) : Option (Aa × Int × Int) := (if ((decide (((p0.tasks.length : Nat) : Int) ≥ 128)) || (decide (p0.next > 2147483647))) then (some (({ tree := ({ nodes := [],next := 0 } : Ae),tasks := [],next := 0 } : Aa),0,7)) else (Option.bind (Og p0) fun r3 => (if (p1.process == 0) then ((Xa r3) ({ id := p0.next,process := p0.next,group := p1.group,user := p1.user } : Am)) else ((Xa r3) ({ id := p0.next,process := p1.process,group := p1.group,user := p1.user } : Am)))))
def Px (p0 : Aa) (p1 : Int) (p2 : Int) (y1 : Bool) : Option (Aa × Int × Int) := (if y1 then (some (({ tree := ({ nodes := [],next := 0 } : Ae),tasks := [],next := 0 } : Aa),0,1)) else (Option.bind (Fo p0.tree p1) fun r5 => (if (!r5) then (some (({ tree := ({ nodes := [],next := 0 } : Ae),tasks := [],next := 0 } : Aa),0,4)) else (Option.bind (Yq p0 ({ id := 0,process := 0,group := p1,user := p2 } : Am)) fun r7 => (some (r7.1,r7.2.1,r7.2.2))))))
def Qr (p0 : Aa) (p1 : Int) (p2 : Int) : Option (Aa × Int × Int) := (Option.bind (Gj p0) fun r1 => (if (!r1) then ((Px p0 p1 p2) true) else (if (decide (p2 < 0)) then ((Px p0 p1 p2) true) else ((Px p0 p1 p2) (decide (p2 > 1048576))))))
def Acg (p0 : Ag) : Option Bool := (some ((((p0.id == 1) && (p0.parent == 0)) && (Co p0.name ByteArray.empty)) && (p0.kind == 0)))
def AaK (p0 : Int) : Option Bool := (some ((((((decide (p0 ≥ 97)) && (decide (p0 ≤ 122))) || ((decide (p0 ≥ 65)) && (decide (p0 ≤ 90)))) || ((decide (p0 ≥ 48)) && (decide (p0 ≤ 57)))) || (p0 == 95)) || (p0 == 45)))
def Abo (k1 : Nat) (x1 : Int) (s1 : Unit) (n1 : Unit → Option Bool) : Option Bool := (Option.bind (AaK x1) fun r16 => (if (!r16) then (some false) else (n1 ())))
def Pu (y3 : Bool) : Option Bool := (some y3)
def AbJ (p0 : ByteArray) (s1 : Unit) : Option Bool := (if (!(Co p0 ByteArray.empty)) then (if (decide (((p0.size : Nat) : Int) ≤ 32)) then (if 0 < p0.size then (Pu ((((Bh p0 0) : Nat) : Int) != 45)) else none) else (Pu false)) else (Pu false))
def Uh (p0 : ByteArray) : Option Bool := (if (Jb p0).length ≤ 9223372036854775807 then Bd Abo (AbJ p0) (Jb p0) 0 () else none)
def AcH (p1 : Ag) (k1 : Nat) (x1 : Ag) (s1 : Bool) (n1 : Bool → Option Bool) : Option Bool := (if ((x1.parent == p1.parent) && (Co x1.name p1.name)) then (some false) else (n1 (s1 || (x1.id == p1.parent))))
def Agf (s1 : Bool) : Option Bool := (some s1)
def Kk (p0 : List Ag) (p1 : Ag) (y1 : Bool) : Option Bool := (if y1 then (some false) else (if p0.length ≤ 9223372036854775807 then Bd (AcH p1) Agf p0 0 false else none))
def Aai (p0 : List Ag) (p1 : Ag) : Option Bool := (if 0 ≤ (w64 (((p0.length : Nat) : Int) - 1)) ∧ (w64 (((p0.length : Nat) : Int) - 1)) < ((p0.length : Nat) : Int) then (if (decide (p1.id ≤ (p0.getD (Int.toNat (w64 (((p0.length : Nat) : Int) - 1))) (default : Ag)).id)) then ((Kk p0 p1) true) else (Option.bind (Uh p1.name) fun r3 => (if (!r3) then ((Kk p0 p1) true) else (if (p1.kind != 0) then ((Kk p0 p1) (p1.kind != 1)) else ((Kk p0 p1) false))))) else none)
def Sv (x1 : Ag) (n1 : (IMap Int) → Option Bool) (y9 : IMap Int) : Option Bool := (if (decide ((y9.get x1.id) > 8)) then (some false) else (n1 y9))
def Gn (k1 : Nat) (x1 : Ag) (s1 : IMap Int) (n1 : (IMap Int) → Option Bool) (y8 : Bool) : Option Bool := (if y8 then (some false) else (if (decide (((k1 : Nat) : Int) > 0)) then ((Sv x1 n1) (s1.set x1.id (w64 ((s1.get x1.parent) + 1)))) else ((Sv x1 n1) s1)))
def Abf (p0 : Ae) (k1 : Nat) (x1 : Ag) (s1 : IMap Int) (n1 : (IMap Int) → Option Bool) : Option Bool := (if (decide (x1.control < 0)) then ((Gn k1 x1 s1 n1) true) else (if ((Ax .i64 x1.control 31) != 0) then ((Gn k1 x1 s1 n1) true) else (if (decide (x1.owner < 0)) then ((Gn k1 x1 s1 n1) true) else (if (decide (x1.owner > 1048576)) then ((Gn k1 x1 s1 n1) true) else (if (decide (((k1 : Nat) : Int) > 0)) then (if ((k1 : Nat) : Int) ≤ ((p0.nodes.length : Nat) : Int) then (Option.bind (Aai (p0.nodes.take k1) x1) fun r43 => ((Gn k1 x1 s1 n1) (!r43))) else none) else ((Gn k1 x1 s1 n1) false))))))
def Rl (y10 : Bool) : Option Bool := (some y10)
def Abm (p0 : Ae) (s1 : IMap Int) : Option Bool := (if 0 ≤ (w64 (((p0.nodes.length : Nat) : Int) - 1)) ∧ (w64 (((p0.nodes.length : Nat) : Int) - 1)) < ((p0.nodes.length : Nat) : Int) then (if (decide (p0.next > (p0.nodes.getD (Int.toNat (w64 (((p0.nodes.length : Nat) : Int) - 1))) (default : Ag)).id)) then (Rl (decide (p0.next ≤ 2147483648))) else (Rl false)) else none)
def Qg (p0 : Ae) (y1 : Bool) : Option Bool := (if y1 then (some false) else (if p0.nodes.length ≤ 9223372036854775807 then Bd (Abf p0) (Abm p0) p0.nodes 0 (IMap.empty 0) else none))
def Kl (p0 : Ae) : Option Bool := (if (decide (((p0.nodes.length : Nat) : Int) < 1)) then ((Qg p0) true) else (if (decide (((p0.nodes.length : Nat) : Int) > 64)) then ((Qg p0) true) else (if 0 < p0.nodes.length then (Option.bind (Acg (p0.nodes.getD 0 (default : Ag))) fun r4 => ((Qg p0) (!r4))) else none)))
def AeF (p0 : Am) (p1 : Int) : Option Bool := (some (p0.id == p1))
def Mf (p1c0 : Int) (k1 : Nat) (x1 : Am) (s1 : Unit) (n1 : Unit → Option Int) : Option Int := (Option.bind (AeF x1 p1c0) fun r10 => (if r10 then (some ((k1 : Nat) : Int)) else (n1 ())))
def Mb (s1 : Unit) : Option Int := (some (-1))
def Fv (p0 : List Am) (p1c0 : Int) : Option Int := (if p0.length ≤ 9223372036854775807 then Bd (Mf p1c0) Mb p0 0 () else none)
def Ue (p0 : Aa) (p1 : Int) : Option Int := (Option.bind (Fv p0.tasks p1) fun r1 => (some r1))
def Oh (p0 : Aa) (p1 : Int) : Option (Am × Bool) := (Option.bind (Ue p0 p1) fun r1 => (if (decide (r1 < 0)) then (some (({ id := 0,process := 0,group := 0,user := 0 } : Am),false)) else (if 0 ≤ r1 ∧ r1 < ((p0.tasks.length : Nat) : Int) then (some ((p0.tasks.getD (Int.toNat r1) (default : Am)),true)) else none)))
def AcK (p0 : Ag) (p1 : Int) : Option Bool := (some (p0.id == p1))
def Le (p1c0 : Int) (k1 : Nat) (x1 : Ag) (s1 : Unit) (n1 : Unit → Option Int) : Option Int := (Option.bind (AcK x1 p1c0) fun r10 => (if r10 then (some ((k1 : Nat) : Int)) else (n1 ())))
def Ld (s1 : Unit) : Option Int := (some (-1))
def Fd (p0 : List Ag) (p1c0 : Int) : Option Int := (if p0.length ≤ 9223372036854775807 then Bd (Le p1c0) Ld p0 0 () else none)
def Eb (p0 : Ae) (p1 : Int) : Option Int := (Option.bind (Fd p0.nodes p1) fun r1 => (some r1))
def Hu (y1 : Bool) : Option Bool := (some y1)
def Vg (p0 : Aa) (p1 : Am) : Option Bool := (Option.bind (Oh p0 p1.process) fun r1 => (if (decide (p1.user ≥ 0)) then (if (decide (p1.user ≤ 1048576)) then (if r1.2 then (if (r1.1.process == r1.1.id) then (if (r1.1.user == p1.user) then (Option.bind (Eb p0.tree p1.group) fun r7 => (Hu (decide (r7 ≥ 0)))) else (Hu false)) else (Hu false)) else (Hu false)) else (Hu false)) else (Hu false)))
def Qf (x1 : Am) (n1 : Int → Option Bool) (y4 : Bool) : Option Bool := (if y4 then (some false) else (n1 x1.id))
def Yo (p0 : Aa) (k1 : Nat) (x1 : Am) (s1 : Int) (n1 : Int → Option Bool) : Option Bool := (if (decide (x1.id ≤ s1)) then ((Qf x1 n1) true) else (Option.bind (Vg p0 x1) fun r17 => ((Qf x1 n1) (!r17))))
def Ada (p0 : Aa) (s1 : Int) : Option Bool := (some (decide (p0.next > s1)))
def Ml (p0 : Aa) (y1 : Bool) : Option Bool := (if y1 then (some false) else (if p0.tasks.length ≤ 9223372036854775807 then Bd (Yo p0) (Ada p0) p0.tasks 0 0 else none))
def Ko (p0 : Aa) : Option Bool := (if (decide (((p0.tasks.length : Nat) : Int) > 128)) then ((Ml p0) true) else (if (decide (p0.next > 2147483648)) then ((Ml p0) true) else (Option.bind (Kl p0.tree) fun r3 => ((Ml p0) (!r3)))))
def Lq (n1 : (List Int) → Option (List Int)) (y3 : List Int) : Option (List Int) := (n1 y3)
def Uu (p1 : Int) (k1 : Nat) (x1 : Ag) (s1 : List Int) (n1 : (List Int) → Option (List Int)) : Option (List Int) := (if (x1.parent == p1) then (if s1.length + 1 ≤ 1073741824 then ((Lq n1) (s1 ++ [x1.id])) else none) else ((Lq n1) s1))
def Aaz (s1 : List Int) : Option (List Int) := (some s1)
def Ox (p0 : Ae) (p1 : Int) : Option (List Int) := (if p0.nodes.length ≤ 9223372036854775807 then Bd (Uu p1) Aaz p0.nodes 0 [] else none)
def Zt (p1 : Int) (k1 : Nat) (x1 : Int) (s1 : Unit) (n1 : Unit → Option Int) : Option Int := (if (p1 == x1) then (some ((k1 : Nat) : Int)) else (n1 ()))
def Zs (s1 : Unit) : Option Int := (some (-1))
def Qu (p0 : List Int) (p1 : Int) : Option Int := (if p0.length ≤ 9223372036854775807 then Bd (Zt p1) Zs p0 0 () else none)
def Jt (p0 : List Int) (p1 : Int) : Option Bool := (Option.bind (Qu p0 p1) fun r1 => (some (decide (r1 ≥ 0))))
def Dt (p0 : List Ag) : Option (List Ag) := (if 0 + p0.length ≤ 1073741824 then (some p0) else none)
def Rc (p0 : List Ag) : Option (List Ag) := (some [])
def Jo (p0 : List Am) : Option (List Am) := (if 0 + p0.length ≤ 1073741824 then (some p0) else none)
def Rd (p0 : List Am) : Option (List Am) := (some [])
def Kx (p0 : Aa) : Option Aa := (Option.bind (Dt p0.tree.nodes) fun r1 => (Option.bind (Jo p0.tasks) fun r2 => (some ({ tree := ({ nodes := r1,next := p0.tree.next } : Ae),tasks := r2,next := p0.next } : Aa))))
def AbB (r3 : Aa) (y1 : Am) : Option (Aa × Int × Int) := (if r3.tasks.length + 1 ≤ 1073741824 then (some (({ tree := r3.tree,tasks := (r3.tasks ++ [y1]),next := (w64 (r3.next + 1)) } : Aa),y1.id,0)) else none)
def AdE (p0 : Aa) (p1 : Am) : Option (Aa × Int × Int) := (if ((decide (((p0.tasks.length : Nat) : Int) ≥ 128)) || (decide (p0.next > 2147483647))) then (some (({ tree := ({ nodes := [],next := 0 } : Ae),tasks := [],next := 0 } : Aa),0,7)) else (Option.bind (Kx p0) fun r3 => (if (p1.process == 0) then ((AbB r3) ({ id := p0.next,process := p0.next,group := p1.group,user := p1.user } : Am)) else ((AbB r3) ({ id := p0.next,process := p1.process,group := p1.group,user := p1.user } : Am)))))
def Eg (p0 : Ae) (p1 : Int) : Option (Ag × Bool) := (Option.bind (Eb p0 p1) fun r1 => (if (decide (r1 < 0)) then (some (({ id := 0,parent := 0,name := ByteArray.empty,control := 0,kind := 0,owner := 0 } : Ag),false)) else (if 0 ≤ r1 ∧ r1 < ((p0.nodes.length : Nat) : Int) then (some ((p0.nodes.getD (Int.toNat r1) (default : Ag)),true)) else none)))
def Ks (y1 : List Int) : Option (List Int) := (some y1)
def Sr (p0 : Ae) (k1 : Nat) (x1 : Ag) (s1 : (List Int) × Int) (n1 : ((List Int) × Int) → Option (List Int)) : Option (List Int) := (Option.bind (Eg p0 s1.2) fun r9 => (if (!r9.2) then (Ks s1.1) else (if s1.1.length + 1 ≤ 1073741824 then (n1 ((s1.1 ++ [s1.2]),r9.1.parent)) else none)))
def Zv (s1 : (List Int) × Int) : Option (List Int) := (Ks s1.1)
def Dq (p0 : Ae) (p1 : Int) : Option (List Int) := (if p0.nodes.length ≤ 9223372036854775807 then Bd (Sr p0) Zv p0.nodes 0 ([],p1) else none)
def Afk (p0 : List Int) : Option At := (some ({ l := p0,atF := 0 } : At))
def Ng (p0 : At) (y1 : Int) : Option (Int × At) := (some (y1,({ l := p0.l,atF := (w64 (p0.atF + 1)) } : At)))
def Bq (p0 : At) (p1 : Int) : Option (Int × At) := (if ((decide (p0.atF ≥ ((p0.l.length : Nat) : Int))) || (decide (p1 < 1))) then (some (0,p0)) else (if 0 ≤ (w64 ((w64 (p0.atF + 1)) - 1)) ∧ (w64 ((w64 (p0.atF + 1)) - 1)) < ((p0.l.length : Nat) : Int) then (if (p1 : Int) ≠ 0 then (if (decide ((Int.tmod (p0.l.getD (Int.toNat (w64 ((w64 (p0.atF + 1)) - 1))) 0) p1) < 0)) then ((Ng p0) (w64 ((Int.tmod (p0.l.getD (Int.toNat (w64 ((w64 (p0.atF + 1)) - 1))) 0) p1) + p1))) else ((Ng p0) (Int.tmod (p0.l.getD (Int.toNat (w64 ((w64 (p0.atF + 1)) - 1))) 0) p1))) else none) else none))
def Mo (p0 : At) : Option (ByteArray × At) := (Option.bind (Bq p0 6) fun r3 => (if 0 ≤ r3.1 ∧ r3.1 < (([(bs [97]),(bs [98]),(bs [99]),(bs [119,101,98]),(bs [100,98,45,49]),(bs [88,95,57])].length : Nat) : Int) then (if (Int.toNat r3.1) < [(bs [97]),(bs [98]),(bs [99]),(bs [119,101,98]),(bs [100,98,45,49]),(bs [88,95,57])].length then (some (([(bs [97]),(bs [98]),(bs [99]),(bs [119,101,98]),(bs [100,98,45,49]),(bs [88,95,57])].getD (Int.toNat r3.1) ByteArray.empty),r3.2)) else none) else none))
def Fy (p0 : At) (p1 : Int) : Option (Bool × At) := (Option.bind (Bq p0 p1) fun r1 => (some ((r1.1 == (w64 (p1 - 1))),r1.2)))
def Ro (n1 : (List Ag) → Option (Ae × Int)) (y3 : List Ag) : Option (Ae × Int) := (n1 y3)
def Vo (p1 : Int) (k1 : Nat) (x1 : Ag) (s1 : List Ag) (n1 : (List Ag) → Option (Ae × Int)) : Option (Ae × Int) := (if (x1.id != p1) then (if s1.length + 1 ≤ 1073741824 then ((Ro n1) (s1 ++ [x1])) else none) else ((Ro n1) s1))
def Vr (p0 : Ae) (s1 : List Ag) : Option (Ae × Int) := (some (({ nodes := s1,next := p0.next } : Ae),0))
def Vd (p0 : Ae) (p1 : Int) : Option (Ae × Int) := (Option.bind (Km p0) fun r1 => (if (!r1) then (some (({ nodes := [],next := 0 } : Ae),1)) else (Option.bind (Fo p0 p1) fun r3 => (if (!r3) then (some (({ nodes := [],next := 0 } : Ae),4)) else (if (p1 == 1) then (some (({ nodes := [],next := 0 } : Ae),9)) else (Option.bind (Hv p0 p1) fun r6 => (if (decide (((r6.length : Nat) : Int) > 0)) then (some (({ nodes := [],next := 0 } : Ae),6)) else (if p0.nodes.length ≤ 9223372036854775807 then Bd (Vo p1) (Vr p0) p0.nodes 0 [] else none))))))))
def Ib (s1 : At × Ae × Int) (n1 : (At × Ae × Int) → Option (Ae × At)) (y3 : At × Ae) : Option (Ae × At) := (n1 (y3.1,y3.2,(w64 (s1.2.2 - 1))))
def Ki (s1 : At × Ae × Int) (n1 : (At × Ae × Int) → Option (Ae × At)) (r21 : ByteArray × At) (y4 : Ae) : Option (Ae × At) := (Option.bind (Fy r21.2 6) fun r24 => (if r24.1 then (Option.bind (Bq r24.2 ((y4.nodes.length : Nat) : Int)) fun r26 => (if 0 ≤ r26.1 ∧ r26.1 < ((y4.nodes.length : Nat) : Int) then (Option.bind (Vd y4 (y4.nodes.getD (Int.toNat r26.1) (default : Ag)).id) fun r28 => (if (r28.2 == 0) then ((Ib s1 n1) (r26.2,r28.1)) else ((Ib s1 n1) (r26.2,y4)))) else none)) else ((Ib s1 n1) (r24.2,y4))))
def Vx (s1 : At × Ae × Int) (n1 : (At × Ae × Int) → Option (Ae × At)) : Option (Ae × At) := (if (decide (s1.2.2 > 0)) then (Option.bind (Bq s1.1 ((s1.2.1.nodes.length : Nat) : Int)) fun r19 => (if 0 ≤ r19.1 ∧ r19.1 < ((s1.2.1.nodes.length : Nat) : Int) then (Option.bind (Mo r19.2) fun r21 => (Option.bind (Yl s1.2.1 (s1.2.1.nodes.getD (Int.toNat r19.1) (default : Ag)).id r21.1) fun r22 => (if (r22.2.2 == 0) then ((Ki s1 n1 r21) r22.1) else ((Ki s1 n1 r21) s1.2.1)))) else none)) else (some (s1.2.1,s1.1)))
def Mi (p0 : At) (p1 : Int) : Option (Ae × At) := (Option.bind Abn fun r1 => (Option.bind (Bq p0 (w64 (p1 + 1))) fun r2 => (whileO Vx Fu (r2.2,r1,r2.1))))
def Jl (p1 : Ae) (r1 : Bool × At) (y1 : Bool) : Option (Int × At) := (if y1 then (Option.bind (Bq r1.2 9) fun r4 => (some ((w64 (r4.1 - 1)),r4.2))) else (Option.bind (Bq r1.2 ((p1.nodes.length : Nat) : Int)) fun r5 => (if 0 ≤ r5.1 ∧ r5.1 < ((p1.nodes.length : Nat) : Int) then (some ((p1.nodes.getD (Int.toNat r5.1) (default : Ag)).id,r5.2)) else none)))
def Hi (p0 : At) (p1 : Ae) : Option (Int × At) := (Option.bind (Fy p0 15) fun r1 => (if r1.1 then ((Jl p1 r1) true) else ((Jl p1 r1) (((p1.nodes.length : Nat) : Int) == 0))))
def Ez (p0 : At) : Option (Int × At) := (Option.bind (Bq p0 9) fun r3 => (if 0 ≤ r3.1 ∧ r3.1 < (([1,9,31,2,25,4,0,32,(-1)].length : Nat) : Int) then (if (Int.toNat r3.1) < [1,9,31,2,25,4,0,32,(-1)].length then (some (([1,9,31,2,25,4,0,32,(-1)].getD (Int.toNat r3.1) 0),r3.2)) else none) else none))
def Yx (p0 : Int) : Option Bool := (some ((decide (p0 ≥ 0)) && (decide (p0 ≤ 31))))
def Wu (s1 : (List Ag) × Int) (n1 : ((List Ag) × Int) → Option Ae) (y2 : List Ag) : Option Ae := (n1 (y2,(w64 (s1.2 + 1))))
def AdM (p1 : Ag) (r1 : Ae) (s1 : (List Ag) × Int) (n1 : ((List Ag) × Int) → Option Ae) : Option Ae := (if (decide (s1.2 < ((s1.1.length : Nat) : Int))) then (if 0 ≤ s1.2 ∧ s1.2 < ((s1.1.length : Nat) : Int) then (if (Int.toNat s1.2) < s1.1.length then (if ((s1.1.getD (Int.toNat s1.2) (default : Ag)).id == p1.id) then (if 0 ≤ s1.2 ∧ s1.2 < ((s1.1.length : Nat) : Int) then (if (Int.toNat s1.2) < s1.1.length then ((Wu s1 n1) (s1.1.set (Int.toNat s1.2) p1)) else none) else none) else ((Wu s1 n1) s1.1)) else none) else none) else (some ({ nodes := s1.1,next := r1.next } : Ae)))
def Wb (p0 : Ae) (p1 : Ag) : Option Ae := (Option.bind (Qn p0) fun r1 => (whileO (AdM p1 r1) Fu (r1.nodes,0)))
def Xg (p0 : Aa) (p3 : Int) (k1 : Nat) (x1 : Int) (s1 : Unit) (n1 : Unit → Option (Aa × Int)) : Option (Aa × Int) := (Option.bind (Cn p0.tree x1) fun r36 => (if ((kand .i64 r36.1.control p3) != 0) then (some (({ tree := ({ nodes := [],next := 0 } : Ae),tasks := [],next := 0 } : Aa),9)) else (n1 ())))
def Jf (p0 : Aa) (p2 : Int) (p3 : Int) (r8 : Ag × Bool) (y4 : Bool) : Option (Aa × Int) := (if y4 then (some (({ tree := ({ nodes := [],next := 0 } : Ae),tasks := [],next := 0 } : Aa),6)) else (Option.bind (Og p0) fun r42 => (Option.bind (Wb p0.tree ({ id := r8.1.id,parent := r8.1.parent,name := r8.1.name,control := (kor .i64 (Ax .i64 r8.1.control p3) p2),kind := r8.1.kind,owner := r8.1.owner } : Ag)) fun r43 => (some (({ tree := r43,tasks := r42.tasks,next := r42.next } : Aa),0)))))
def Xk (p0 : Aa) (p1 : Int) (p2 : Int) (p3 : Int) (r8 : Ag × Bool) (s1 : Unit) : Option (Aa × Int) := (if ((Ax .i64 (kand .i64 (kor .i64 (Ax .i64 r8.1.control p3) p2) 6) r8.1.control) != 0) then (if (p1 != 1) then (Option.bind (Ha p0 p1) fun r40 => ((Jf p0 p2 p3 r8) (decide (((r40.length : Nat) : Int) > 0)))) else ((Jf p0 p2 p3 r8) false)) else ((Jf p0 p2 p3 r8) false))
def Fq (p0 : Aa) (p1 : Int) (p2 : Int) (p3 : Int) (y1 : Bool) : Option (Aa × Int) := (if y1 then (some (({ tree := ({ nodes := [],next := 0 } : Ae),tasks := [],next := 0 } : Aa),1)) else (Option.bind (Cn p0.tree p1) fun r8 => (if (!r8.2) then (some (({ tree := ({ nodes := [],next := 0 } : Ae),tasks := [],next := 0 } : Aa),4)) else (Option.bind (Ir p0.tree p1) fun r10 => (if ((Ax .i64 p2 r10) != 0) then (some (({ tree := ({ nodes := [],next := 0 } : Ae),tasks := [],next := 0 } : Aa),9)) else (Option.bind (Hv p0.tree p1) fun r12 => (if r12.length ≤ 9223372036854775807 then Bd (Xg p0 p3) (Xk p0 p1 p2 p3 r8) r12 0 () else none)))))))
def Qp (p0 : Aa) (p1 : Int) (p2 : Int) (p3 : Int) : Option (Aa × Int) := (Option.bind (Pf p0) fun r1 => (if (!r1) then ((Fq p0 p1 p2 p3) true) else (Option.bind (Yx p2) fun r3 => (if (!r3) then ((Fq p0 p1 p2 p3) true) else (Option.bind (Yx p3) fun r5 => (if (!r5) then ((Fq p0 p1 p2 p3) true) else ((Fq p0 p1 p2 p3) ((kand .i64 p2 p3) != 0))))))))
def Mc (p0 : Aa) (p1 : Int) (p2 : Int) (p3 : Int) : Option (Aa × Int) := (Option.bind (Gb p0) fun r1 => (if (!r1) then (some (({ tree := ({ nodes := [],next := 0 } : Ae),tasks := [],next := 0 } : Aa),1)) else (Option.bind (Qp p0 p1 p2 p3) fun r3 => (if (r3.2 != 0) then (some (({ tree := ({ nodes := [],next := 0 } : Ae),tasks := [],next := 0 } : Aa),r3.2)) else (Option.bind (Gb r3.1) fun r5 => (if (!r5) then (some (({ tree := ({ nodes := [],next := 0 } : Ae),tasks := [],next := 0 } : Aa),10)) else (some (r3.1,0))))))))
def Mq (r13 : Aa) (r14 : Ae) (y2 : Bool) : Option (Aa × Int) := (if y2 then (some (({ tree := ({ nodes := [],next := 0 } : Ae),tasks := [],next := 0 } : Aa),6)) else (some (({ tree := r14,tasks := r13.tasks,next := r13.next } : Aa),0)))
def Hg (p0 : Aa) (p1 : Int) (r3 : Ag × Bool) (y1 : Bool) : Option (Aa × Int) := (if y1 then (some (({ tree := ({ nodes := [],next := 0 } : Ae),tasks := [],next := 0 } : Aa),10)) else (if ((kand .i64 r3.1.control 6) != 0) then (some (({ tree := ({ nodes := [],next := 0 } : Ae),tasks := [],next := 0 } : Aa),9)) else (Option.bind (Og p0) fun r13 => (Option.bind (Wb p0.tree ({ id := r3.1.id,parent := r3.1.parent,name := r3.1.name,control := r3.1.control,kind := 1,owner := r3.1.owner } : Ag)) fun r14 => (Option.bind (Ha p0 p1) fun r15 => (if (decide (((r15.length : Nat) : Int) > 0)) then ((Mq r13 r14) true) else (Option.bind (Gb ({ tree := r14,tasks := r13.tasks,next := r13.next } : Aa)) fun r17 => ((Mq r13 r14) (!r17)))))))))
def Kw (p0 : Aa) (p1 : Int) : Option (Aa × Int) := (Option.bind (Gb p0) fun r1 => (if (!r1) then (some (({ tree := ({ nodes := [],next := 0 } : Ae),tasks := [],next := 0 } : Aa),1)) else (Option.bind (Cn p0.tree p1) fun r3 => (if (!r3.2) then (some (({ tree := ({ nodes := [],next := 0 } : Ae),tasks := [],next := 0 } : Aa),4)) else (if ((p1 == 1) || (r3.1.kind == 1)) then (some (({ tree := ({ nodes := [],next := 0 } : Ae),tasks := [],next := 0 } : Aa),9)) else (Option.bind (Cn p0.tree r3.1.parent) fun r7 => (Option.bind (Jq p0.tree r7.1.id) fun r8 => (if (r8 == 3) then ((Hg p0 p1 r3) true) else (if (r7.1.id != 1) then ((Hg p0 p1 r3) ((kand .i64 r7.1.control 6) != 0)) else ((Hg p0 p1 r3) false))))))))))
def Gq (y1 : At × Aa) : Option (Aa × At) := (some (y1.2,y1.1))
def Kf (p1 : Aa) (r1 : Int × At) (r2 : Int × At) (y2 : Bool) : Option (Aa × At) := (if y2 then (Option.bind (Ez r2.2) fun r5 => (Option.bind (Mc p1 r1.1 r5.1 0) fun r6 => (if (r6.2 == 0) then (some (r6.1,r5.2)) else (Gq (r5.2,p1))))) else (if (r2.1 == 2) then (Option.bind (Kw p1 r1.1) fun r9 => (if (r9.2 == 0) then (some (r9.1,r2.2)) else (Gq (r2.2,p1)))) else (if (r2.1 == 3) then (Option.bind (Cn p1.tree r1.1) fun r12 => (if (r12.2 && (r1.1 != 1)) then (Option.bind (Bq r2.2 3) fun r15 => (Option.bind (Wb p1.tree ({ id := r12.1.id,parent := r12.1.parent,name := r12.1.name,control := r12.1.control,kind := r12.1.kind,owner := r15.1 } : Ag)) fun r16 => (Gq (r15.2,({ tree := r16,tasks := p1.tasks,next := p1.next } : Aa))))) else (Gq (r2.2,p1)))) else (Gq (r2.2,p1)))))
def Qc (p0 : At) (p1 : Aa) : Option (Aa × At) := (Option.bind (Hi p0 p1.tree) fun r1 => (Option.bind (Bq r1.2 5) fun r2 => (if (r2.1 == 0) then ((Kf p1 r1 r2) (r2.1 == 0)) else ((Kf p1 r1 r2) (r2.1 == 1)))))
def Iz (p0 : Aa) (p1 : Int) : Option Int := (Option.bind (Gb p0) fun r1 => (if (!r1) then (some 1) else (Option.bind (Cn p0.tree p1) fun r3 => (if (!r3.2) then (some 4) else (Option.bind (Jq p0.tree p1) fun r5 => (if (r5 == 3) then (some 10) else (if ((p1 != 1) && ((kand .i64 r3.1.control 6) != 0)) then (some 6) else (some 0))))))))
def Jy (p1 : Aa) (r1 : Bool × At) (y1 : Bool) : Option (Int × At) := (if y1 then (Option.bind (Bq r1.2 9) fun r4 => (some ((w64 (r4.1 - 1)),r4.2))) else (Option.bind (Bq r1.2 ((p1.tasks.length : Nat) : Int)) fun r5 => (if 0 ≤ r5.1 ∧ r5.1 < ((p1.tasks.length : Nat) : Int) then (some ((p1.tasks.getD (Int.toNat r5.1) (default : Am)).id,r5.2)) else none)))
def Ij (p0 : At) (p1 : Aa) : Option (Int × At) := (Option.bind (Fy p0 15) fun r1 => (if r1.1 then ((Jy p1 r1) true) else ((Jy p1 r1) (((p1.tasks.length : Nat) : Int) == 0))))
def Xs (p0 : Aa) (p1 : Int) : Option (Aa × Int × Int) := (Option.bind (Gj p0) fun r1 => (if (!r1) then (some (({ tree := ({ nodes := [],next := 0 } : Ae),tasks := [],next := 0 } : Aa),0,1)) else (Option.bind (Hj p0 p1) fun r3 => (if (!r3.2) then (some (({ tree := ({ nodes := [],next := 0 } : Ae),tasks := [],next := 0 } : Aa),0,4)) else (Option.bind (Yq p0 r3.1) fun r5 => (some (r5.1,r5.2.1,r5.2.2)))))))
def Sy (s1 : (List Am) × Int) (n1 : ((List Am) × Int) → Option (Aa × Int)) (y3 : List Am) : Option (Aa × Int) := (n1 (y3,(w64 (s1.2 + 1))))
def Sz (p1 : Int) (p2 : Int) (r7 : Aa) (s1 : (List Am) × Int) (n1 : ((List Am) × Int) → Option (Aa × Int)) : Option (Aa × Int) := (if (decide (s1.2 < ((s1.1.length : Nat) : Int))) then (if 0 ≤ s1.2 ∧ s1.2 < ((s1.1.length : Nat) : Int) then (if (Int.toNat s1.2) < s1.1.length then (if ((s1.1.getD (Int.toNat s1.2) (default : Am)).id == p1) then (if 0 ≤ s1.2 ∧ s1.2 < ((s1.1.length : Nat) : Int) then (if (Int.toNat s1.2) < s1.1.length then ((Sy s1 n1) (s1.1.set (Int.toNat s1.2) ({ id := (s1.1.getD (Int.toNat s1.2) (default : Am)).id,process := (s1.1.getD (Int.toNat s1.2) (default : Am)).process,group := p2,user := (s1.1.getD (Int.toNat s1.2) (default : Am)).user } : Am))) else none) else none) else ((Sy s1 n1) s1.1)) else none) else none) else (some (({ tree := r7.tree,tasks := s1.1,next := r7.next } : Aa),0)))
def Tk (p0 : Aa) (p1 : Int) (p2 : Int) (y1 : Bool) : Option (Aa × Int) := (if y1 then (some (({ tree := ({ nodes := [],next := 0 } : Ae),tasks := [],next := 0 } : Aa),4)) else (Option.bind (Og p0) fun r7 => (whileO (Sz p1 p2 r7) Fu (r7.tasks,0))))
def Tq (p0 : Aa) (p1 : Int) (p2 : Int) : Option (Aa × Int) := (Option.bind (Gj p0) fun r1 => (if (!r1) then (some (({ tree := ({ nodes := [],next := 0 } : Ae),tasks := [],next := 0 } : Aa),1)) else (Option.bind (Hj p0 p1) fun r3 => (if (!r3.2) then ((Tk p0 p1 p2) true) else (Option.bind (Fo p0.tree p2) fun r5 => ((Tk p0 p1 p2) (!r5)))))))
def Gd (p0 : Aa) (p1 : Int) (p2 : Int) (r3 : Am × Bool) (y1 : Bool) : Option (Aa × Int) := (if y1 then (some (({ tree := ({ nodes := [],next := 0 } : Ae),tasks := [],next := 0 } : Aa),4)) else (Option.bind (Iz p0 p2) fun r7 => (if (r7 != 0) then (some (({ tree := ({ nodes := [],next := 0 } : Ae),tasks := [],next := 0 } : Aa),r7)) else (Option.bind (Iy p0.tree p2) fun r9 => (Option.bind (Iy p0.tree r3.1.group) fun r10 => (if (r9.1 != r10.1) then (some (({ tree := ({ nodes := [],next := 0 } : Ae),tasks := [],next := 0 } : Aa),9)) else (Option.bind (Tq p0 p1 p2) fun r12 => (some (r12.1,r12.2)))))))))
def Ga (p0 : Aa) (p1 : Int) (p2 : Int) : Option (Aa × Int) := (Option.bind (Gb p0) fun r1 => (if (!r1) then (some (({ tree := ({ nodes := [],next := 0 } : Ae),tasks := [],next := 0 } : Aa),1)) else (Option.bind (Hj p0 p1) fun r3 => (if (!r3.2) then ((Gd p0 p1 p2 r3) true) else (Option.bind (Fo p0.tree p2) fun r5 => ((Gd p0 p1 p2 r3) (!r5)))))))
def Uw (n1 : (List Am) → Option (Aa × Int)) (y3 : List Am) : Option (Aa × Int) := (n1 y3)
def Zg (p1 : Int) (k1 : Nat) (x1 : Am) (s1 : List Am) (n1 : (List Am) → Option (Aa × Int)) : Option (Aa × Int) := (if ((x1.id != p1) && (x1.process != p1)) then (if s1.length + 1 ≤ 1073741824 then ((Uw n1) (s1 ++ [x1])) else none) else ((Uw n1) s1))
def Zf (p0 : Aa) (r5 : Ae) (s1 : List Am) : Option (Aa × Int) := (some (({ tree := r5,tasks := s1,next := p0.next } : Aa),0))
def Aab (p0 : Aa) (p1 : Int) : Option (Aa × Int) := (Option.bind (Gj p0) fun r1 => (if (!r1) then (some (({ tree := ({ nodes := [],next := 0 } : Ae),tasks := [],next := 0 } : Aa),1)) else (Option.bind (Hj p0 p1) fun r3 => (if (!r3.2) then (some (({ tree := ({ nodes := [],next := 0 } : Ae),tasks := [],next := 0 } : Aa),4)) else (Option.bind (Qn p0.tree) fun r5 => (if p0.tasks.length ≤ 9223372036854775807 then Bd (Zg p1) (Zf p0 r5) p0.tasks 0 [] else none))))))
def Di (s3 : At × Aa × Int) (n3 : (At × Aa × Int) → Option (Aa × At)) (y13 : At × Aa) : Option (Aa × At) := (n3 (y13.1,y13.2,(w64 (s3.2.2 - 1))))
def Ek (s3 : At × Aa × Int) (n3 : (At × Aa × Int) → Option (Aa × At)) (y16 : At × Aa) : Option (Aa × At) := (Option.bind (Fy y16.1 8) fun r100 => (if r100.1 then (Option.bind (Ij r100.2 y16.2) fun r102 => (Option.bind (Aab y16.2 r102.1) fun r103 => (if (r103.2 == 0) then ((Di s3 n3) (r102.2,r103.1)) else ((Di s3 n3) (r102.2,y16.2))))) else ((Di s3 n3) (r100.2,y16.2))))
def Ej (s3 : At × Aa × Int) (n3 : (At × Aa × Int) → Option (Aa × At)) (y15 : At × Aa) : Option (Aa × At) := (Option.bind (Fy y15.1 4) fun r94 => (if r94.1 then (Option.bind (Ij r94.2 y15.2) fun r96 => (Option.bind (Hi r96.2 y15.2.tree) fun r97 => (Option.bind (Ga y15.2 r96.1 r97.1) fun r98 => (if (r98.2 == 0) then ((Ek s3 n3) (r97.2,r98.1)) else ((Ek s3 n3) (r97.2,y15.2)))))) else ((Ek s3 n3) (r94.2,y15.2))))
def Fz (s3 : At × Aa × Int) (n3 : (At × Aa × Int) → Option (Aa × At)) (r86 : Int × At) (y14 : Aa) : Option (Aa × At) := (Option.bind (Fy r86.2 3) fun r89 => (if r89.1 then (Option.bind (Ij r89.2 y14) fun r91 => (Option.bind (Xs y14 r91.1) fun r92 => (if (r92.2.2 == 0) then ((Ej s3 n3) (r91.2,r92.1)) else ((Ej s3 n3) (r91.2,y14))))) else ((Ej s3 n3) (r89.2,y14))))
def Pp (s3 : At × Aa × Int) (n3 : (At × Aa × Int) → Option (Aa × At)) : Option (Aa × At) := (if (decide (s3.2.2 > 0)) then (Option.bind (Hi s3.1 s3.2.1.tree) fun r83 => (Option.bind (Iz s3.2.1 r83.1) fun r84 => (if (r84 != 0) then ((Di s3 n3) (r83.2,s3.2.1)) else (Option.bind (Bq r83.2 3) fun r86 => (Option.bind (Qr s3.2.1 r83.1 r86.1) fun r87 => (if (r87.2.2 == 0) then ((Fz s3 n3 r86) r87.1) else ((Fz s3 n3 r86) s3.2.1))))))) else (some (s3.2.1,s3.1)))
def Pn (p2 : Int) (s1 : At × Aa × Int) (n1 : (At × Aa × Int) → Option (Aa × At)) : Option (Aa × At) := (if (decide (s1.2.2 > 0)) then (Option.bind (Qc s1.1 s1.2.1) fun r57 => (n1 (r57.2,r57.1,(w64 (s1.2.2 - 1))))) else (Option.bind (Bq s1.1 (w64 (p2 + 1))) fun r58 => (whileO Pp Fu (r58.2,s1.2.1,r58.1))))
def Ho (p0 : At) (p1 : Int) (p2 : Int) : Option (Aa × At) := (Option.bind AdC fun r1 => (Option.bind (Mi p0 p1) fun r2 => (Option.bind (Bq r2.2 (w64 (p1 + 3))) fun r3 => (whileO (Pn p2) Fu (r3.2,({ tree := r2.1,tasks := r1.tasks,next := r1.next } : Aa),r3.1)))))
def Tu (p0 : Aa) (p1 : Int) (p2 : Int) (y1 : Bool) : Option (Aa × Int × Int) := (if y1 then (some (({ tree := ({ nodes := [],next := 0 } : Ae),tasks := [],next := 0 } : Aa),0,1)) else (Option.bind (Eb p0.tree p1) fun r5 => (if (decide (r5 < 0)) then (some (({ tree := ({ nodes := [],next := 0 } : Ae),tasks := [],next := 0 } : Aa),0,4)) else (Option.bind (AdE p0 ({ id := 0,process := 0,group := p1,user := p2 } : Am)) fun r7 => (some (r7.1,r7.2.1,r7.2.2))))))
def AeB (p0 : Aa) (p1 : Int) (p2 : Int) : Option (Aa × Int × Int) := (Option.bind (Ko p0) fun r1 => (if (!r1) then ((Tu p0 p1 p2) true) else (if (decide (p2 < 0)) then ((Tu p0 p1 p2) true) else ((Tu p0 p1 p2) (decide (p2 > 1048576))))))
def Uf (p0 : Am) (p1 : Int) : Option Bool := (some (p0.process == p1))
def AaX (p0 : Am) : Option Int := (some p0.id)
def Xl (y3 : Int × Int) : Option Int := (if 0 ≤ (IntKind.u8.wrap y3.1) ∧ (IntKind.u8.wrap y3.1) < (((bs [0,1,2,2,3,3,3,3,4,4,4,4,4,4,4,4,5,5,5,5,5,5,5,5,5,5,5,5,5,5,5,5,6,6,6,6,6,6,6,6,6,6,6,6,6,6,6,6,6,6,6,6,6,6,6,6,6,6,6,6,6,6,6,6,7,7,7,7,7,7,7,7,7,7,7,7,7,7,7,7,7,7,7,7,7,7,7,7,7,7,7,7,7,7,7,7,7,7,7,7,7,7,7,7,7,7,7,7,7,7,7,7,7,7,7,7,7,7,7,7,7,7,7,7,7,7,7,7,8,8,8,8,8,8,8,8,8,8,8,8,8,8,8,8,8,8,8,8,8,8,8,8,8,8,8,8,8,8,8,8,8,8,8,8,8,8,8,8,8,8,8,8,8,8,8,8,8,8,8,8,8,8,8,8,8,8,8,8,8,8,8,8,8,8,8,8,8,8,8,8,8,8,8,8,8,8,8,8,8,8,8,8,8,8,8,8,8,8,8,8,8,8,8,8,8,8,8,8,8,8,8,8,8,8,8,8,8,8,8,8,8,8,8,8,8,8,8,8,8,8,8,8,8,8,8,8]).size : Nat) : Int) then (some (w64 (y3.2 + (w64 (((Bh (bs [0,1,2,2,3,3,3,3,4,4,4,4,4,4,4,4,5,5,5,5,5,5,5,5,5,5,5,5,5,5,5,5,6,6,6,6,6,6,6,6,6,6,6,6,6,6,6,6,6,6,6,6,6,6,6,6,6,6,6,6,6,6,6,6,7,7,7,7,7,7,7,7,7,7,7,7,7,7,7,7,7,7,7,7,7,7,7,7,7,7,7,7,7,7,7,7,7,7,7,7,7,7,7,7,7,7,7,7,7,7,7,7,7,7,7,7,7,7,7,7,7,7,7,7,7,7,7,7,8,8,8,8,8,8,8,8,8,8,8,8,8,8,8,8,8,8,8,8,8,8,8,8,8,8,8,8,8,8,8,8,8,8,8,8,8,8,8,8,8,8,8,8,8,8,8,8,8,8,8,8,8,8,8,8,8,8,8,8,8,8,8,8,8,8,8,8,8,8,8,8,8,8,8,8,8,8,8,8,8,8,8,8,8,8,8,8,8,8,8,8,8,8,8,8,8,8,8,8,8,8,8,8,8,8,8,8,8,8,8,8,8,8,8,8,8,8,8,8,8,8,8,8,8,8,8,8]) (Int.toNat (IntKind.u8.wrap y3.1))) : Nat) : Int))))) else none)
def Wo (y2 : Int × Int) : Option Int := (if (decide (y2.1 ≥ 256)) then (Xl ((kshr .u64 y2.1 8),(w64 (y2.2 + 8)))) else (Xl (y2.1,y2.2)))
def Xx (y1 : Int × Int) : Option Int := (if (decide (y1.1 ≥ 65536)) then (Wo ((kshr .u64 y1.1 16),(w64 (y1.2 + 16)))) else (Wo (y1.1,y1.2)))
def Ady (p0 : Int) : Option Int := (if (decide (p0 ≥ 4294967296)) then (Xx ((kshr .u64 p0 32),32)) else (Xx (p0,0)))
def Rb (p0 : Int) : Option Int := (Option.bind (Ady p0) fun r1 => (some r1))
def Rg (p0 : Int) : Option Bool := (some (p0 != p0))
def Mp (y1 : Bool) : Option Bool := (some y1)
def Cy (p0 : Int) (p1 : Int) : Option Bool := (Option.bind (Rg p0) fun r1 => (if r1 then (Option.bind (Rg p1) fun r3 => (if (!r3) then (Mp true) else (Mp (decide (p0 < p1))))) else (Mp (decide (p0 < p1)))))
def Dl (n1 : (List Int) → Option (List Int)) (s4 : (List Int) × Int) (n4 : ((List Int) × Int) → Option (List Int)) (y6 : Bool) : Option (List Int) := (if y6 then (if 0 ≤ (w64 (s4.2 - 1)) ∧ (w64 (s4.2 - 1)) < ((s4.1.length : Nat) : Int) then (if (Int.toNat (w64 (s4.2 - 1))) < s4.1.length then (if 0 ≤ s4.2 ∧ s4.2 < ((s4.1.length : Nat) : Int) then (if (Int.toNat s4.2) < s4.1.length then (if 0 ≤ s4.2 ∧ s4.2 < ((s4.1.length : Nat) : Int) then (if (Int.toNat s4.2) < s4.1.length then (if 0 ≤ (w64 (s4.2 - 1)) ∧ (w64 (s4.2 - 1)) < ((s4.1.length : Nat) : Int) then (if (Int.toNat (w64 (s4.2 - 1))) < s4.1.length then (n4 (((s4.1.set (Int.toNat s4.2) (s4.1.getD (Int.toNat (w64 (s4.2 - 1))) 0)).set (Int.toNat (w64 (s4.2 - 1))) (s4.1.getD (Int.toNat s4.2) 0)),(w64 (s4.2 - 1)))) else none) else none) else none) else none) else none) else none) else none) else none) else (n1 s4.1))
def Ht (p1 : Int) (n1 : (List Int) → Option (List Int)) (s4 : (List Int) × Int) (n4 : ((List Int) × Int) → Option (List Int)) : Option (List Int) := (if (decide (s4.2 > p1)) then (if 0 ≤ s4.2 ∧ s4.2 < ((s4.1.length : Nat) : Int) then (if (Int.toNat s4.2) < s4.1.length then (if 0 ≤ (w64 (s4.2 - 1)) ∧ (w64 (s4.2 - 1)) < ((s4.1.length : Nat) : Int) then (if (Int.toNat (w64 (s4.2 - 1))) < s4.1.length then (Option.bind (Cy (s4.1.getD (Int.toNat s4.2) 0) (s4.1.getD (Int.toNat (w64 (s4.2 - 1))) 0)) fun r96 => ((Dl n1 s4 n4) r96)) else none) else none) else none) else none) else ((Dl n1 s4 n4) false))
def Hs (p1 : Int) (k1 : Int) (s1 : List Int) (n1 : (List Int) → Option (List Int)) : Option (List Int) := (whileO (Ht p1 n1) Fu (s1,k1))
def Me (s1 : List Int) : Option (List Int) := (some s1)
def Dv (p0 : List Int) (p1 : Int) (p2 : Int) : Option (List Int) := (if -9223372036854775808 ≤ (w64 (p1 + 1)) ∧ p2 ≤ 9223372036854775807 then (forO (Hs p1) Me (Int.toNat (p2 - (w64 (p1 + 1)))) (w64 (p1 + 1)) p0) else none)
def Gx (p3 : Int) (s1 : (List Int) × Int) (n1 : ((List Int) × Int) → Option (List Int)) (y4 : Int) : Option (List Int) := (if 0 ≤ (w64 (p3 + s1.2)) ∧ (w64 (p3 + s1.2)) < ((s1.1.length : Nat) : Int) then (if (Int.toNat (w64 (p3 + s1.2))) < s1.1.length then (if 0 ≤ (w64 (p3 + y4)) ∧ (w64 (p3 + y4)) < ((s1.1.length : Nat) : Int) then (if (Int.toNat (w64 (p3 + y4))) < s1.1.length then (Option.bind (Cy (s1.1.getD (Int.toNat (w64 (p3 + s1.2))) 0) (s1.1.getD (Int.toNat (w64 (p3 + y4))) 0)) fun r35 => (if (!r35) then (some s1.1) else (if 0 ≤ (w64 (p3 + y4)) ∧ (w64 (p3 + y4)) < ((s1.1.length : Nat) : Int) then (if (Int.toNat (w64 (p3 + y4))) < s1.1.length then (if 0 ≤ (w64 (p3 + s1.2)) ∧ (w64 (p3 + s1.2)) < ((s1.1.length : Nat) : Int) then (if (Int.toNat (w64 (p3 + s1.2))) < s1.1.length then (if 0 ≤ (w64 (p3 + s1.2)) ∧ (w64 (p3 + s1.2)) < ((s1.1.length : Nat) : Int) then (if (Int.toNat (w64 (p3 + s1.2))) < s1.1.length then (if 0 ≤ (w64 (p3 + y4)) ∧ (w64 (p3 + y4)) < ((s1.1.length : Nat) : Int) then (if (Int.toNat (w64 (p3 + y4))) < s1.1.length then (n1 (((s1.1.set (Int.toNat (w64 (p3 + s1.2))) (s1.1.getD (Int.toNat (w64 (p3 + y4))) 0)).set (Int.toNat (w64 (p3 + y4))) (s1.1.getD (Int.toNat (w64 (p3 + s1.2))) 0)),y4)) else none) else none) else none) else none) else none) else none) else none) else none))) else none) else none) else none) else none)
def Hd (p3 : Int) (s1 : (List Int) × Int) (n1 : ((List Int) × Int) → Option (List Int)) (y3 : Bool) : Option (List Int) := (if y3 then ((Gx p3 s1 n1) (w64 ((w64 ((w64 (2 * s1.2)) + 1)) + 1))) else ((Gx p3 s1 n1) (w64 ((w64 (2 * s1.2)) + 1))))
def Qb (p2 : Int) (p3 : Int) (s1 : (List Int) × Int) (n1 : ((List Int) × Int) → Option (List Int)) : Option (List Int) := (if (decide ((w64 ((w64 (2 * s1.2)) + 1)) ≥ p2)) then (some s1.1) else (if (decide ((w64 ((w64 ((w64 (2 * s1.2)) + 1)) + 1)) < p2)) then (if 0 ≤ (w64 (p3 + (w64 ((w64 (2 * s1.2)) + 1)))) ∧ (w64 (p3 + (w64 ((w64 (2 * s1.2)) + 1)))) < ((s1.1.length : Nat) : Int) then (if (Int.toNat (w64 (p3 + (w64 ((w64 (2 * s1.2)) + 1))))) < s1.1.length then (if 0 ≤ (w64 ((w64 (p3 + (w64 ((w64 (2 * s1.2)) + 1)))) + 1)) ∧ (w64 ((w64 (p3 + (w64 ((w64 (2 * s1.2)) + 1)))) + 1)) < ((s1.1.length : Nat) : Int) then (if (Int.toNat (w64 ((w64 (p3 + (w64 ((w64 (2 * s1.2)) + 1)))) + 1))) < s1.1.length then (Option.bind (Cy (s1.1.getD (Int.toNat (w64 (p3 + (w64 ((w64 (2 * s1.2)) + 1))))) 0) (s1.1.getD (Int.toNat (w64 ((w64 (p3 + (w64 ((w64 (2 * s1.2)) + 1)))) + 1))) 0)) fun r29 => ((Hd p3 s1 n1) r29)) else none) else none) else none) else none) else ((Hd p3 s1 n1) false)))
def Hz (p0 : List Int) (p1 : Int) (p2 : Int) (p3 : Int) : Option (List Int) := (whileO (Qb p2 p3) Fu (p0,p1))
def Qe (p1 : Int) (s3 : (List Int) × Int) (n3 : ((List Int) × Int) → Option (List Int)) : Option (List Int) := (if (decide (s3.2 ≥ 0)) then (if 0 ≤ (w64 (p1 + s3.2)) ∧ (w64 (p1 + s3.2)) < ((s3.1.length : Nat) : Int) then (if (Int.toNat (w64 (p1 + s3.2))) < s3.1.length then (if 0 ≤ p1 ∧ p1 < ((s3.1.length : Nat) : Int) then (if (Int.toNat p1) < s3.1.length then (if 0 ≤ p1 ∧ p1 < ((s3.1.length : Nat) : Int) then (if (Int.toNat p1) < s3.1.length then (if 0 ≤ (w64 (p1 + s3.2)) ∧ (w64 (p1 + s3.2)) < ((s3.1.length : Nat) : Int) then (if (Int.toNat (w64 (p1 + s3.2))) < s3.1.length then (Option.bind (Hz ((s3.1.set (Int.toNat p1) (s3.1.getD (Int.toNat (w64 (p1 + s3.2))) 0)).set (Int.toNat (w64 (p1 + s3.2))) (s3.1.getD (Int.toNat p1) 0)) 0 s3.2 p1) fun r49 => (if ((s3.1.set (Int.toNat p1) (s3.1.getD (Int.toNat (w64 (p1 + s3.2))) 0)).set (Int.toNat (w64 (p1 + s3.2))) (s3.1.getD (Int.toNat p1) 0)).length = r49.length then (n3 (r49,(w64 (s3.2 - 1)))) else none)) else none) else none) else none) else none) else none) else none) else none) else none) else (some s3.1))
def Qh (p1 : Int) (p2 : Int) (s1 : (List Int) × Int) (n1 : ((List Int) × Int) → Option (List Int)) : Option (List Int) := (if (decide (s1.2 ≥ 0)) then (Option.bind (Hz s1.1 s1.2 (w64 (p2 - p1)) p1) fun r27 => (if s1.1.length = r27.length then (n1 (r27,(w64 (s1.2 - 1)))) else none)) else (whileO (Qe p1) Fu (s1.1,(w64 ((w64 (p2 - p1)) - 1)))))
def Lm (p0 : List Int) (p1 : Int) (p2 : Int) : Option (List Int) := (whileO (Qh p1 p2) Fu (p0,(w64 (Int.tdiv (w64 ((w64 (p2 - p1)) - 1)) 2))))
def Dp (p0 : List Int) (p1 : Int) (p2 : Int) (p3 : Int) : Option (Int × Int × Int) := (if 0 ≤ p2 ∧ p2 < ((p0.length : Nat) : Int) then (if 0 ≤ p1 ∧ p1 < ((p0.length : Nat) : Int) then (Option.bind (Cy (p0.getD (Int.toNat p2) 0) (p0.getD (Int.toNat p1) 0)) fun r3 => (if r3 then (some (p2,p1,(w64 (p3 + 1)))) else (some (p1,p2,p3)))) else none) else none)
def Ex (p0 : List Int) (p1 : Int) (p2 : Int) (p3 : Int) (p4 : Int) : Option (Int × Int) := (Option.bind (Dp p0 p1 p2 p4) fun r1 => (Option.bind (Dp p0 r1.2.1 p3 r1.2.2) fun r2 => (Option.bind (Dp p0 r1.1 r2.1 r2.2.2) fun r3 => (some (r3.2.1,r3.2.2)))))
def Cb (p0 : List Int) (p1 : Int) (p2 : Int) : Option (Int × Int) := (Option.bind (Ex p0 (w64 (p1 - 1)) p1 (w64 (p1 + 1)) p2) fun r1 => (some (r1.1,r1.2)))
def Dw (y1 : Int × Int) : Option (Int × Int) := (if (y1.1 == 0) then (some (y1.2,1)) else (if (y1.1 == 12) then (some (y1.2,2)) else (some (y1.2,0))))
def Dx (p0 : List Int) (y2 : Int × Int × Int × Int) : Option (Int × Int) := (Option.bind (Ex p0 y2.2.1 y2.2.2.1 y2.2.2.2 y2.1) fun r6 => (Dw (r6.2,r6.1)))
def Ep (p0 : List Int) (p1 : Int) (p2 : Int) : Option (Int × Int) := (if (decide ((w64 (p2 - p1)) ≥ 8)) then (if (decide ((w64 (p2 - p1)) ≥ 50)) then (Option.bind (Cb p0 (w64 (p1 + (w64 ((w64 (Int.tdiv (w64 (p2 - p1)) 4)) * 1)))) 0) fun r3 => (Option.bind (Cb p0 (w64 (p1 + (w64 ((w64 (Int.tdiv (w64 (p2 - p1)) 4)) * 2)))) r3.2) fun r4 => (Option.bind (Cb p0 (w64 (p1 + (w64 ((w64 (Int.tdiv (w64 (p2 - p1)) 4)) * 3)))) r4.2) fun r5 => ((Dx p0) (r5.2,r3.1,r4.1,r5.1))))) else ((Dx p0) (0,(w64 (p1 + (w64 ((w64 (Int.tdiv (w64 (p2 - p1)) 4)) * 1)))),(w64 (p1 + (w64 ((w64 (Int.tdiv (w64 (p2 - p1)) 4)) * 2)))),(w64 (p1 + (w64 ((w64 (Int.tdiv (w64 (p2 - p1)) 4)) * 3))))))) else (Dw (0,(w64 (p1 + (w64 ((w64 (Int.tdiv (w64 (p2 - p1)) 4)) * 2)))))))
def Nh (s1 : (List Int) × Int × Int) (n1 : ((List Int) × Int × Int) → Option (List Int)) : Option (List Int) := (if (decide (s1.2.1 < s1.2.2)) then (if 0 ≤ s1.2.2 ∧ s1.2.2 < ((s1.1.length : Nat) : Int) then (if (Int.toNat s1.2.2) < s1.1.length then (if 0 ≤ s1.2.1 ∧ s1.2.1 < ((s1.1.length : Nat) : Int) then (if (Int.toNat s1.2.1) < s1.1.length then (if 0 ≤ s1.2.1 ∧ s1.2.1 < ((s1.1.length : Nat) : Int) then (if (Int.toNat s1.2.1) < s1.1.length then (if 0 ≤ s1.2.2 ∧ s1.2.2 < ((s1.1.length : Nat) : Int) then (if (Int.toNat s1.2.2) < s1.1.length then (n1 (((s1.1.set (Int.toNat s1.2.1) (s1.1.getD (Int.toNat s1.2.2) 0)).set (Int.toNat s1.2.2) (s1.1.getD (Int.toNat s1.2.1) 0)),(w64 (s1.2.1 + 1)),(w64 (s1.2.2 - 1)))) else none) else none) else none) else none) else none) else none) else none) else none) else (some s1.1))
def Jd (p0 : List Int) (p1 : Int) (p2 : Int) : Option (List Int) := (whileO Nh Fu (p0,p1,(w64 (p2 - 1))))
def Ch (n1 : ((List Int) × Int) → Option (Bool × (List Int))) (y11 : (List Int) × Int) : Option (Bool × (List Int)) := (n1 (y11.1,y11.2))
def Iw (n1 : ((List Int) × Int) → Option (Bool × (List Int))) (s12 : Int) (k16 : Int) (s16 : List Int) (n16 : (List Int) → Option (Bool × (List Int))) : Option (Bool × (List Int)) := (if 0 ≤ k16 ∧ k16 < ((s16.length : Nat) : Int) then (if (Int.toNat k16) < s16.length then (if 0 ≤ (w64 (k16 - 1)) ∧ (w64 (k16 - 1)) < ((s16.length : Nat) : Int) then (if (Int.toNat (w64 (k16 - 1))) < s16.length then (Option.bind (Cy (s16.getD (Int.toNat k16) 0) (s16.getD (Int.toNat (w64 (k16 - 1))) 0)) fun r570 => (if (!r570) then ((Ch n1) (s16,s12)) else (if 0 ≤ (w64 (k16 - 1)) ∧ (w64 (k16 - 1)) < ((s16.length : Nat) : Int) then (if (Int.toNat (w64 (k16 - 1))) < s16.length then (if 0 ≤ k16 ∧ k16 < ((s16.length : Nat) : Int) then (if (Int.toNat k16) < s16.length then (if 0 ≤ k16 ∧ k16 < ((s16.length : Nat) : Int) then (if (Int.toNat k16) < s16.length then (if 0 ≤ (w64 (k16 - 1)) ∧ (w64 (k16 - 1)) < ((s16.length : Nat) : Int) then (if (Int.toNat (w64 (k16 - 1))) < s16.length then (n16 ((s16.set (Int.toNat k16) (s16.getD (Int.toNat (w64 (k16 - 1))) 0)).set (Int.toNat (w64 (k16 - 1))) (s16.getD (Int.toNat k16) 0))) else none) else none) else none) else none) else none) else none) else none) else none))) else none) else none) else none) else none)
def Ix (n1 : ((List Int) × Int) → Option (Bool × (List Int))) (s12 : Int) (s16 : List Int) : Option (Bool × (List Int)) := ((Ch n1) (s16,s12))
def Ci (p2 : Int) (n1 : ((List Int) × Int) → Option (Bool × (List Int))) (s12 : Int) (y15 : List Int) : Option (Bool × (List Int)) := (if (decide ((w64 (p2 - s12)) ≥ 2)) then (if -9223372036854775808 ≤ (w64 (s12 + 1)) ∧ p2 ≤ 9223372036854775807 then (forO (Iw n1 s12) (Ix n1 s12) (Int.toNat (p2 - (w64 (s12 + 1)))) (w64 (s12 + 1)) y15) else none) else ((Ch n1) (y15,s12)))
def Iv (p2 : Int) (n1 : ((List Int) × Int) → Option (Bool × (List Int))) (s12 : Int) (s15 : (List Int) × Int) (n15 : ((List Int) × Int) → Option (Bool × (List Int))) : Option (Bool × (List Int)) := (if (decide (s15.2 ≥ 1)) then (if 0 ≤ s15.2 ∧ s15.2 < ((s15.1.length : Nat) : Int) then (if (Int.toNat s15.2) < s15.1.length then (if 0 ≤ (w64 (s15.2 - 1)) ∧ (w64 (s15.2 - 1)) < ((s15.1.length : Nat) : Int) then (if (Int.toNat (w64 (s15.2 - 1))) < s15.1.length then (Option.bind (Cy (s15.1.getD (Int.toNat s15.2) 0) (s15.1.getD (Int.toNat (w64 (s15.2 - 1))) 0)) fun r524 => (if (!r524) then ((Ci p2 n1 s12) s15.1) else (if 0 ≤ (w64 (s15.2 - 1)) ∧ (w64 (s15.2 - 1)) < ((s15.1.length : Nat) : Int) then (if (Int.toNat (w64 (s15.2 - 1))) < s15.1.length then (if 0 ≤ s15.2 ∧ s15.2 < ((s15.1.length : Nat) : Int) then (if (Int.toNat s15.2) < s15.1.length then (if 0 ≤ s15.2 ∧ s15.2 < ((s15.1.length : Nat) : Int) then (if (Int.toNat s15.2) < s15.1.length then (if 0 ≤ (w64 (s15.2 - 1)) ∧ (w64 (s15.2 - 1)) < ((s15.1.length : Nat) : Int) then (if (Int.toNat (w64 (s15.2 - 1))) < s15.1.length then (n15 (((s15.1.set (Int.toNat s15.2) (s15.1.getD (Int.toNat (w64 (s15.2 - 1))) 0)).set (Int.toNat (w64 (s15.2 - 1))) (s15.1.getD (Int.toNat s15.2) 0)),(w64 (s15.2 - 1)))) else none) else none) else none) else none) else none) else none) else none) else none))) else none) else none) else none) else none) else ((Ci p2 n1 s12) s15.1))
def Ck (p1 : Int) (p2 : Int) (s1 : (List Int) × Int) (n1 : ((List Int) × Int) → Option (Bool × (List Int))) (s12 : Int) (n12 : Int → Option (Bool × (List Int))) (y14 : Bool) : Option (Bool × (List Int)) := (if y14 then (n12 (w64 (s12 + 1))) else (if (s12 == p2) then (some (true,s1.1)) else (if (decide ((w64 (p2 - p1)) < 50)) then (some (false,s1.1)) else (if 0 ≤ (w64 (s12 - 1)) ∧ (w64 (s12 - 1)) < ((s1.1.length : Nat) : Int) then (if (Int.toNat (w64 (s12 - 1))) < s1.1.length then (if 0 ≤ s12 ∧ s12 < ((s1.1.length : Nat) : Int) then (if (Int.toNat s12) < s1.1.length then (if 0 ≤ s12 ∧ s12 < ((s1.1.length : Nat) : Int) then (if (Int.toNat s12) < s1.1.length then (if 0 ≤ (w64 (s12 - 1)) ∧ (w64 (s12 - 1)) < ((s1.1.length : Nat) : Int) then (if (Int.toNat (w64 (s12 - 1))) < s1.1.length then (if (decide ((w64 (s12 - p1)) ≥ 2)) then (whileO (Iv p2 n1 s12) Fu (((s1.1.set (Int.toNat s12) (s1.1.getD (Int.toNat (w64 (s12 - 1))) 0)).set (Int.toNat (w64 (s12 - 1))) (s1.1.getD (Int.toNat s12) 0)),(w64 (s12 - 1)))) else ((Ci p2 n1 s12) ((s1.1.set (Int.toNat s12) (s1.1.getD (Int.toNat (w64 (s12 - 1))) 0)).set (Int.toNat (w64 (s12 - 1))) (s1.1.getD (Int.toNat s12) 0)))) else none) else none) else none) else none) else none) else none) else none) else none))))
def Fg (p1 : Int) (p2 : Int) (s1 : (List Int) × Int) (n1 : ((List Int) × Int) → Option (Bool × (List Int))) (s12 : Int) (n12 : Int → Option (Bool × (List Int))) : Option (Bool × (List Int)) := (if (decide (s12 < p2)) then (if 0 ≤ s12 ∧ s12 < ((s1.1.length : Nat) : Int) then (if (Int.toNat s12) < s1.1.length then (if 0 ≤ (w64 (s12 - 1)) ∧ (w64 (s12 - 1)) < ((s1.1.length : Nat) : Int) then (if (Int.toNat (w64 (s12 - 1))) < s1.1.length then (Option.bind (Cy (s1.1.getD (Int.toNat s12) 0) (s1.1.getD (Int.toNat (w64 (s12 - 1))) 0)) fun r491 => ((Ck p1 p2 s1 n1 s12 n12) (!r491))) else none) else none) else none) else none) else ((Ck p1 p2 s1 n1 s12 n12) false))
def Fm (p1 : Int) (p2 : Int) (k1 : Int) (s1 : (List Int) × Int) (n1 : ((List Int) × Int) → Option (Bool × (List Int))) : Option (Bool × (List Int)) := (whileO (Fg p1 p2 s1 n1) Fu s1.2)
def Jj (s1 : (List Int) × Int) : Option (Bool × (List Int)) := (some (false,s1.1))
def Cw (p0 : List Int) (p1 : Int) (p2 : Int) : Option (Bool × (List Int)) := (forO (Fm p1 p2) Jj (Int.toNat (5 - 0)) 0 (p0,(w64 (p1 + 1))))
def Em (s1 : (List Int) × Int × Int) (n1 : ((List Int) × Int × Int) → Option (Int × (List Int))) (s5 : Int) (s7 : Int) (n7 : Int → Option (Int × (List Int))) (y12 : Bool) : Option (Int × (List Int)) := (if y12 then (n7 (w64 (s7 - 1))) else (if (decide (s5 > s7)) then (some (s5,s1.1)) else (if 0 ≤ s7 ∧ s7 < ((s1.1.length : Nat) : Int) then (if (Int.toNat s7) < s1.1.length then (if 0 ≤ s5 ∧ s5 < ((s1.1.length : Nat) : Int) then (if (Int.toNat s5) < s1.1.length then (if 0 ≤ s5 ∧ s5 < ((s1.1.length : Nat) : Int) then (if (Int.toNat s5) < s1.1.length then (if 0 ≤ s7 ∧ s7 < ((s1.1.length : Nat) : Int) then (if (Int.toNat s7) < s1.1.length then (n1 (((s1.1.set (Int.toNat s5) (s1.1.getD (Int.toNat s7) 0)).set (Int.toNat s7) (s1.1.getD (Int.toNat s5) 0)),(w64 (s7 - 1)),(w64 (s5 + 1)))) else none) else none) else none) else none) else none) else none) else none) else none)))
def Lu (p1 : Int) (s1 : (List Int) × Int × Int) (n1 : ((List Int) × Int × Int) → Option (Int × (List Int))) (s5 : Int) (s7 : Int) (n7 : Int → Option (Int × (List Int))) : Option (Int × (List Int)) := (if (decide (s5 ≤ s7)) then (if 0 ≤ p1 ∧ p1 < ((s1.1.length : Nat) : Int) then (if (Int.toNat p1) < s1.1.length then (if 0 ≤ s7 ∧ s7 < ((s1.1.length : Nat) : Int) then (if (Int.toNat s7) < s1.1.length then (Option.bind (Cy (s1.1.getD (Int.toNat p1) 0) (s1.1.getD (Int.toNat s7) 0)) fun r178 => ((Em s1 n1 s5 s7 n7) r178)) else none) else none) else none) else none) else ((Em s1 n1 s5 s7 n7) false))
def Eo (p1 : Int) (s1 : (List Int) × Int × Int) (n1 : ((List Int) × Int × Int) → Option (Int × (List Int))) (s5 : Int) (n5 : Int → Option (Int × (List Int))) (y10 : Bool) : Option (Int × (List Int)) := (if y10 then (n5 (w64 (s5 + 1))) else (whileO (Lu p1 s1 n1 s5) Fu s1.2.1))
def Lv (p1 : Int) (s1 : (List Int) × Int × Int) (n1 : ((List Int) × Int × Int) → Option (Int × (List Int))) (s5 : Int) (n5 : Int → Option (Int × (List Int))) : Option (Int × (List Int)) := (if (decide (s5 ≤ s1.2.1)) then (if 0 ≤ p1 ∧ p1 < ((s1.1.length : Nat) : Int) then (if (Int.toNat p1) < s1.1.length then (if 0 ≤ s5 ∧ s5 < ((s1.1.length : Nat) : Int) then (if (Int.toNat s5) < s1.1.length then (Option.bind (Cy (s1.1.getD (Int.toNat p1) 0) (s1.1.getD (Int.toNat s5) 0)) fun r155 => ((Eo p1 s1 n1 s5 n5) (!r155))) else none) else none) else none) else none) else ((Eo p1 s1 n1 s5 n5) false))
def Ln (p1 : Int) (s1 : (List Int) × Int × Int) (n1 : ((List Int) × Int × Int) → Option (Int × (List Int))) : Option (Int × (List Int)) := (whileO (Lv p1 s1 n1) Fu s1.2.2)
def Ie (p0 : List Int) (p1 : Int) (p2 : Int) (p3 : Int) : Option (Int × (List Int)) := (if 0 ≤ p3 ∧ p3 < ((p0.length : Nat) : Int) then (if (Int.toNat p3) < p0.length then (if 0 ≤ p1 ∧ p1 < ((p0.length : Nat) : Int) then (if (Int.toNat p1) < p0.length then (if 0 ≤ p1 ∧ p1 < ((p0.length : Nat) : Int) then (if (Int.toNat p1) < p0.length then (if 0 ≤ p3 ∧ p3 < ((p0.length : Nat) : Int) then (if (Int.toNat p3) < p0.length then (whileO (Ln p1) Fu (((p0.set (Int.toNat p1) (p0.getD (Int.toNat p3) 0)).set (Int.toNat p3) (p0.getD (Int.toNat p1) 0)),(w64 (p2 - 1)),(w64 (p1 + 1)))) else none) else none) else none) else none) else none) else none) else none) else none)
def Gg (p1 : Int) (s25 : (List Int) × Int × Int) (n25 : ((List Int) × Int × Int) → Option (Int × Bool × (List Int))) (s29 : Int) (s31 : Int) (n31 : Int → Option (Int × Bool × (List Int))) (y54 : Bool) : Option (Int × Bool × (List Int)) := (if y54 then (n31 (w64 (s31 - 1))) else (if (decide (s29 > s31)) then (if 0 ≤ p1 ∧ p1 < ((s25.1.length : Nat) : Int) then (if (Int.toNat p1) < s25.1.length then (if 0 ≤ s31 ∧ s31 < ((s25.1.length : Nat) : Int) then (if (Int.toNat s31) < s25.1.length then (if 0 ≤ s31 ∧ s31 < ((s25.1.length : Nat) : Int) then (if (Int.toNat s31) < s25.1.length then (if 0 ≤ p1 ∧ p1 < ((s25.1.length : Nat) : Int) then (if (Int.toNat p1) < s25.1.length then (some (s31,false,((s25.1.set (Int.toNat s31) (s25.1.getD (Int.toNat p1) 0)).set (Int.toNat p1) (s25.1.getD (Int.toNat s31) 0)))) else none) else none) else none) else none) else none) else none) else none) else none) else (if 0 ≤ s31 ∧ s31 < ((s25.1.length : Nat) : Int) then (if (Int.toNat s31) < s25.1.length then (if 0 ≤ s29 ∧ s29 < ((s25.1.length : Nat) : Int) then (if (Int.toNat s29) < s25.1.length then (if 0 ≤ s29 ∧ s29 < ((s25.1.length : Nat) : Int) then (if (Int.toNat s29) < s25.1.length then (if 0 ≤ s31 ∧ s31 < ((s25.1.length : Nat) : Int) then (if (Int.toNat s31) < s25.1.length then (n25 (((s25.1.set (Int.toNat s29) (s25.1.getD (Int.toNat s31) 0)).set (Int.toNat s31) (s25.1.getD (Int.toNat s29) 0)),(w64 (s29 + 1)),(w64 (s31 - 1)))) else none) else none) else none) else none) else none) else none) else none) else none)))
def Ol (p1 : Int) (s25 : (List Int) × Int × Int) (n25 : ((List Int) × Int × Int) → Option (Int × Bool × (List Int))) (s29 : Int) (s31 : Int) (n31 : Int → Option (Int × Bool × (List Int))) : Option (Int × Bool × (List Int)) := (if (decide (s29 ≤ s31)) then (if 0 ≤ s31 ∧ s31 < ((s25.1.length : Nat) : Int) then (if (Int.toNat s31) < s25.1.length then (if 0 ≤ p1 ∧ p1 < ((s25.1.length : Nat) : Int) then (if (Int.toNat p1) < s25.1.length then (Option.bind (Cy (s25.1.getD (Int.toNat s31) 0) (s25.1.getD (Int.toNat p1) 0)) fun r1118 => ((Gg p1 s25 n25 s29 s31 n31) (!r1118))) else none) else none) else none) else none) else ((Gg p1 s25 n25 s29 s31 n31) false))
def Gf (p1 : Int) (s25 : (List Int) × Int × Int) (n25 : ((List Int) × Int × Int) → Option (Int × Bool × (List Int))) (s29 : Int) (n29 : Int → Option (Int × Bool × (List Int))) (y52 : Bool) : Option (Int × Bool × (List Int)) := (if y52 then (n29 (w64 (s29 + 1))) else (whileO (Ol p1 s25 n25 s29) Fu s25.2.2))
def Oc (p1 : Int) (s25 : (List Int) × Int × Int) (n25 : ((List Int) × Int × Int) → Option (Int × Bool × (List Int))) (s29 : Int) (n29 : Int → Option (Int × Bool × (List Int))) : Option (Int × Bool × (List Int)) := (if (decide (s29 ≤ s25.2.2)) then (if 0 ≤ s29 ∧ s29 < ((s25.1.length : Nat) : Int) then (if (Int.toNat s29) < s25.1.length then (if 0 ≤ p1 ∧ p1 < ((s25.1.length : Nat) : Int) then (if (Int.toNat p1) < s25.1.length then (Option.bind (Cy (s25.1.getD (Int.toNat s29) 0) (s25.1.getD (Int.toNat p1) 0)) fun r1087 => ((Gf p1 s25 n25 s29 n29) r1087)) else none) else none) else none) else none) else ((Gf p1 s25 n25 s29 n29) false))
def On (p1 : Int) (s25 : (List Int) × Int × Int) (n25 : ((List Int) × Int × Int) → Option (Int × Bool × (List Int))) : Option (Int × Bool × (List Int)) := (whileO (Oc p1 s25 n25) Fu s25.2.1)
def Gi (p0 : List Int) (p1 : Int) (p3 : Int) (s1 : Int) (s17 : Int) (n17 : Int → Option (Int × Bool × (List Int))) (y42 : Bool) : Option (Int × Bool × (List Int)) := (if y42 then (n17 (w64 (s17 - 1))) else (if (decide (s1 > s17)) then (if 0 ≤ p1 ∧ p1 < ((((p0.set (Int.toNat p1) (p0.getD (Int.toNat p3) 0)).set (Int.toNat p3) (p0.getD (Int.toNat p1) 0)).length : Nat) : Int) then (if (Int.toNat p1) < ((p0.set (Int.toNat p1) (p0.getD (Int.toNat p3) 0)).set (Int.toNat p3) (p0.getD (Int.toNat p1) 0)).length then (if 0 ≤ s17 ∧ s17 < ((((p0.set (Int.toNat p1) (p0.getD (Int.toNat p3) 0)).set (Int.toNat p3) (p0.getD (Int.toNat p1) 0)).length : Nat) : Int) then (if (Int.toNat s17) < ((p0.set (Int.toNat p1) (p0.getD (Int.toNat p3) 0)).set (Int.toNat p3) (p0.getD (Int.toNat p1) 0)).length then (if 0 ≤ s17 ∧ s17 < ((((p0.set (Int.toNat p1) (p0.getD (Int.toNat p3) 0)).set (Int.toNat p3) (p0.getD (Int.toNat p1) 0)).length : Nat) : Int) then (if (Int.toNat s17) < ((p0.set (Int.toNat p1) (p0.getD (Int.toNat p3) 0)).set (Int.toNat p3) (p0.getD (Int.toNat p1) 0)).length then (if 0 ≤ p1 ∧ p1 < ((((p0.set (Int.toNat p1) (p0.getD (Int.toNat p3) 0)).set (Int.toNat p3) (p0.getD (Int.toNat p1) 0)).length : Nat) : Int) then (if (Int.toNat p1) < ((p0.set (Int.toNat p1) (p0.getD (Int.toNat p3) 0)).set (Int.toNat p3) (p0.getD (Int.toNat p1) 0)).length then (some (s17,true,((((p0.set (Int.toNat p1) (p0.getD (Int.toNat p3) 0)).set (Int.toNat p3) (p0.getD (Int.toNat p1) 0)).set (Int.toNat s17) (((p0.set (Int.toNat p1) (p0.getD (Int.toNat p3) 0)).set (Int.toNat p3) (p0.getD (Int.toNat p1) 0)).getD (Int.toNat p1) 0)).set (Int.toNat p1) (((p0.set (Int.toNat p1) (p0.getD (Int.toNat p3) 0)).set (Int.toNat p3) (p0.getD (Int.toNat p1) 0)).getD (Int.toNat s17) 0)))) else none) else none) else none) else none) else none) else none) else none) else none) else (if 0 ≤ s17 ∧ s17 < ((((p0.set (Int.toNat p1) (p0.getD (Int.toNat p3) 0)).set (Int.toNat p3) (p0.getD (Int.toNat p1) 0)).length : Nat) : Int) then (if (Int.toNat s17) < ((p0.set (Int.toNat p1) (p0.getD (Int.toNat p3) 0)).set (Int.toNat p3) (p0.getD (Int.toNat p1) 0)).length then (if 0 ≤ s1 ∧ s1 < ((((p0.set (Int.toNat p1) (p0.getD (Int.toNat p3) 0)).set (Int.toNat p3) (p0.getD (Int.toNat p1) 0)).length : Nat) : Int) then (if (Int.toNat s1) < ((p0.set (Int.toNat p1) (p0.getD (Int.toNat p3) 0)).set (Int.toNat p3) (p0.getD (Int.toNat p1) 0)).length then (if 0 ≤ s1 ∧ s1 < ((((p0.set (Int.toNat p1) (p0.getD (Int.toNat p3) 0)).set (Int.toNat p3) (p0.getD (Int.toNat p1) 0)).length : Nat) : Int) then (if (Int.toNat s1) < ((p0.set (Int.toNat p1) (p0.getD (Int.toNat p3) 0)).set (Int.toNat p3) (p0.getD (Int.toNat p1) 0)).length then (if 0 ≤ s17 ∧ s17 < ((((p0.set (Int.toNat p1) (p0.getD (Int.toNat p3) 0)).set (Int.toNat p3) (p0.getD (Int.toNat p1) 0)).length : Nat) : Int) then (if (Int.toNat s17) < ((p0.set (Int.toNat p1) (p0.getD (Int.toNat p3) 0)).set (Int.toNat p3) (p0.getD (Int.toNat p1) 0)).length then (whileO (On p1) Fu (((((p0.set (Int.toNat p1) (p0.getD (Int.toNat p3) 0)).set (Int.toNat p3) (p0.getD (Int.toNat p1) 0)).set (Int.toNat s1) (((p0.set (Int.toNat p1) (p0.getD (Int.toNat p3) 0)).set (Int.toNat p3) (p0.getD (Int.toNat p1) 0)).getD (Int.toNat s17) 0)).set (Int.toNat s17) (((p0.set (Int.toNat p1) (p0.getD (Int.toNat p3) 0)).set (Int.toNat p3) (p0.getD (Int.toNat p1) 0)).getD (Int.toNat s1) 0)),(w64 (s1 + 1)),(w64 (s17 - 1)))) else none) else none) else none) else none) else none) else none) else none) else none)))
def Oy (p0 : List Int) (p1 : Int) (p3 : Int) (s1 : Int) (s17 : Int) (n17 : Int → Option (Int × Bool × (List Int))) : Option (Int × Bool × (List Int)) := (if (decide (s1 ≤ s17)) then (if 0 ≤ s17 ∧ s17 < ((((p0.set (Int.toNat p1) (p0.getD (Int.toNat p3) 0)).set (Int.toNat p3) (p0.getD (Int.toNat p1) 0)).length : Nat) : Int) then (if (Int.toNat s17) < ((p0.set (Int.toNat p1) (p0.getD (Int.toNat p3) 0)).set (Int.toNat p3) (p0.getD (Int.toNat p1) 0)).length then (if 0 ≤ p1 ∧ p1 < ((((p0.set (Int.toNat p1) (p0.getD (Int.toNat p3) 0)).set (Int.toNat p3) (p0.getD (Int.toNat p1) 0)).length : Nat) : Int) then (if (Int.toNat p1) < ((p0.set (Int.toNat p1) (p0.getD (Int.toNat p3) 0)).set (Int.toNat p3) (p0.getD (Int.toNat p1) 0)).length then (Option.bind (Cy (((p0.set (Int.toNat p1) (p0.getD (Int.toNat p3) 0)).set (Int.toNat p3) (p0.getD (Int.toNat p1) 0)).getD (Int.toNat s17) 0) (((p0.set (Int.toNat p1) (p0.getD (Int.toNat p3) 0)).set (Int.toNat p3) (p0.getD (Int.toNat p1) 0)).getD (Int.toNat p1) 0)) fun r874 => ((Gi p0 p1 p3 s1 s17 n17) (!r874))) else none) else none) else none) else none) else ((Gi p0 p1 p3 s1 s17 n17) false))
def Gh (p0 : List Int) (p1 : Int) (p2 : Int) (p3 : Int) (s1 : Int) (n1 : Int → Option (Int × Bool × (List Int))) (y28 : Bool) : Option (Int × Bool × (List Int)) := (if y28 then (n1 (w64 (s1 + 1))) else (whileO (Oy p0 p1 p3 s1) Fu (w64 (p2 - 1))))
def Pk (p0 : List Int) (p1 : Int) (p2 : Int) (p3 : Int) (s1 : Int) (n1 : Int → Option (Int × Bool × (List Int))) : Option (Int × Bool × (List Int)) := (if (decide (s1 ≤ (w64 (p2 - 1)))) then (if 0 ≤ s1 ∧ s1 < ((((p0.set (Int.toNat p1) (p0.getD (Int.toNat p3) 0)).set (Int.toNat p3) (p0.getD (Int.toNat p1) 0)).length : Nat) : Int) then (if (Int.toNat s1) < ((p0.set (Int.toNat p1) (p0.getD (Int.toNat p3) 0)).set (Int.toNat p3) (p0.getD (Int.toNat p1) 0)).length then (if 0 ≤ p1 ∧ p1 < ((((p0.set (Int.toNat p1) (p0.getD (Int.toNat p3) 0)).set (Int.toNat p3) (p0.getD (Int.toNat p1) 0)).length : Nat) : Int) then (if (Int.toNat p1) < ((p0.set (Int.toNat p1) (p0.getD (Int.toNat p3) 0)).set (Int.toNat p3) (p0.getD (Int.toNat p1) 0)).length then (Option.bind (Cy (((p0.set (Int.toNat p1) (p0.getD (Int.toNat p3) 0)).set (Int.toNat p3) (p0.getD (Int.toNat p1) 0)).getD (Int.toNat s1) 0) (((p0.set (Int.toNat p1) (p0.getD (Int.toNat p3) 0)).set (Int.toNat p3) (p0.getD (Int.toNat p1) 0)).getD (Int.toNat p1) 0)) fun r587 => ((Gh p0 p1 p2 p3 s1 n1) r587)) else none) else none) else none) else none) else ((Gh p0 p1 p2 p3 s1 n1) false))
def Kt (p0 : List Int) (p1 : Int) (p2 : Int) (p3 : Int) : Option (Int × Bool × (List Int)) := (if 0 ≤ p3 ∧ p3 < ((p0.length : Nat) : Int) then (if (Int.toNat p3) < p0.length then (if 0 ≤ p1 ∧ p1 < ((p0.length : Nat) : Int) then (if (Int.toNat p1) < p0.length then (if 0 ≤ p1 ∧ p1 < ((p0.length : Nat) : Int) then (if (Int.toNat p1) < p0.length then (if 0 ≤ p3 ∧ p3 < ((p0.length : Nat) : Int) then (if (Int.toNat p3) < p0.length then (whileO (Pk p0 p1 p2 p3) Fu (w64 (p1 + 1))) else none) else none) else none) else none) else none) else none) else none) else none)
def Pz (p0 : Int) : Option Int := (Option.bind (Rb (IntKind.u64.wrap p0)) fun r1 => (if (0 : Int) ≤ r1 then (some (kshl .u64 1 r1)) else none))
def Qq (p0 : Int) : Option (Int × Int) := (some ((kxor .u64 (kxor .u64 (kxor .u64 p0 (kshl .u64 p0 13)) (kshr .u64 (kxor .u64 p0 (kshl .u64 p0 13)) 7)) (kshl .u64 (kxor .u64 (kxor .u64 p0 (kshl .u64 p0 13)) (kshr .u64 (kxor .u64 p0 (kshl .u64 p0 13)) 7)) 17)),(kxor .u64 (kxor .u64 (kxor .u64 p0 (kshl .u64 p0 13)) (kshr .u64 (kxor .u64 p0 (kshl .u64 p0 13)) 7)) (kshl .u64 (kxor .u64 (kxor .u64 p0 (kshl .u64 p0 13)) (kshr .u64 (kxor .u64 p0 (kshl .u64 p0 13)) 7)) 17))))
def Fb (p1 : Int) (s1 : (List Int) × Int × Int) (n1 : ((List Int) × Int × Int) → Option (List Int)) (r15 : Int × Int) (y2 : Int) : Option (List Int) := (if 0 ≤ (w64 (p1 + y2)) ∧ (w64 (p1 + y2)) < ((s1.1.length : Nat) : Int) then (if (Int.toNat (w64 (p1 + y2))) < s1.1.length then (if 0 ≤ s1.2.2 ∧ s1.2.2 < ((s1.1.length : Nat) : Int) then (if (Int.toNat s1.2.2) < s1.1.length then (if 0 ≤ s1.2.2 ∧ s1.2.2 < ((s1.1.length : Nat) : Int) then (if (Int.toNat s1.2.2) < s1.1.length then (if 0 ≤ (w64 (p1 + y2)) ∧ (w64 (p1 + y2)) < ((s1.1.length : Nat) : Int) then (if (Int.toNat (w64 (p1 + y2))) < s1.1.length then (n1 (((s1.1.set (Int.toNat s1.2.2) (s1.1.getD (Int.toNat (w64 (p1 + y2))) 0)).set (Int.toNat (w64 (p1 + y2))) (s1.1.getD (Int.toNat s1.2.2) 0)),r15.2,(w64 (s1.2.2 + 1)))) else none) else none) else none) else none) else none) else none) else none) else none)
def Md (p1 : Int) (p2 : Int) (r2 : Int) (s1 : (List Int) × Int × Int) (n1 : ((List Int) × Int × Int) → Option (List Int)) : Option (List Int) := (if (decide (s1.2.2 ≤ (w64 ((w64 (p1 + (w64 ((w64 (Int.tdiv (w64 (p2 - p1)) 4)) * 2)))) + 1)))) then (Option.bind (Qq s1.2.1) fun r15 => (if (decide ((w64 (kand .u64 r15.1 (IntKind.u64.wrap (r2 - 1)))) ≥ (w64 (p2 - p1)))) then ((Fb p1 s1 n1 r15) (w64 ((w64 (kand .u64 r15.1 (IntKind.u64.wrap (r2 - 1)))) - (w64 (p2 - p1))))) else ((Fb p1 s1 n1 r15) (w64 (kand .u64 r15.1 (IntKind.u64.wrap (r2 - 1))))))) else (some s1.1))
def Iu (p0 : List Int) (p1 : Int) (p2 : Int) : Option (List Int) := (if (decide ((w64 (p2 - p1)) ≥ 8)) then (Option.bind (Pz (w64 (p2 - p1))) fun r2 => (whileO (Md p1 p2 r2) Fu (p0,(IntKind.u64.wrap (w64 (p2 - p1))),(w64 ((w64 (p1 + (w64 ((w64 (Int.tdiv (w64 (p2 - p1)) 4)) * 2)))) - 1))))) else (some p0))
def Gy (rec : (List Int) → Int → Int → Int → Option (List Int)) (s1 : (List Int) × Int × Int × Int × Bool × Bool) (n1 : ((List Int) × Int × Int × Int × Bool × Bool) → Option (List Int)) (y8 : (List Int) × Int) (y9 : (List Int) × Int × Int) (y10 : List Int) (y11 : Bool) : Option (List Int) := (if y11 then (Option.bind (Ie y10 s1.2.1 s1.2.2.1 y9.2.1) fun r92 => (if y10.length = r92.2.length then (n1 (r92.2,r92.1,s1.2.2.1,y8.2,s1.2.2.2.2.1,s1.2.2.2.2.2)) else none)) else (Option.bind (Kt y10 s1.2.1 s1.2.2.1 y9.2.1) fun r94 => (if y10.length = r94.2.2.length then (if (decide ((w64 (r94.1 - s1.2.1)) < (w64 (s1.2.2.1 - r94.1)))) then (Option.bind (rec r94.2.2 s1.2.1 r94.1 y8.2) fun r97 => (if r94.2.2.length = r97.length then (n1 (r97,(w64 (r94.1 + 1)),s1.2.2.1,y8.2,(decide ((w64 (r94.1 - s1.2.1)) ≥ (w64 (Int.tdiv (w64 (s1.2.2.1 - s1.2.1)) 8)))),r94.2.1)) else none)) else (Option.bind (rec r94.2.2 (w64 (r94.1 + 1)) s1.2.2.1 y8.2) fun r99 => (if r94.2.2.length = r99.length then (n1 (r99,s1.2.1,r94.1,y8.2,(decide ((w64 (s1.2.2.1 - r94.1)) ≥ (w64 (Int.tdiv (w64 (s1.2.2.1 - s1.2.1)) 8)))),r94.2.1)) else none))) else none)))
def Gz (rec : (List Int) → Int → Int → Int → Option (List Int)) (s1 : (List Int) × Int × Int × Int × Bool × Bool) (n1 : ((List Int) × Int × Int × Int × Bool × Bool) → Option (List Int)) (y8 : (List Int) × Int) (y9 : (List Int) × Int × Int) (y10 : List Int) : Option (List Int) := (if (decide (s1.2.1 > 0)) then (if 0 ≤ (w64 (s1.2.1 - 1)) ∧ (w64 (s1.2.1 - 1)) < ((y10.length : Nat) : Int) then (if (Int.toNat (w64 (s1.2.1 - 1))) < y10.length then (if 0 ≤ y9.2.1 ∧ y9.2.1 < ((y10.length : Nat) : Int) then (if (Int.toNat y9.2.1) < y10.length then (Option.bind (Cy (y10.getD (Int.toNat (w64 (s1.2.1 - 1))) 0) (y10.getD (Int.toNat y9.2.1) 0)) fun r90 => ((Gy rec s1 n1 y8 y9 y10) (!r90))) else none) else none) else none) else none) else ((Gy rec s1 n1 y8 y9 y10) false))
def Fj (rec : (List Int) → Int → Int → Int → Option (List Int)) (s1 : (List Int) × Int × Int × Int × Bool × Bool) (n1 : ((List Int) × Int × Int × Int × Bool × Bool) → Option (List Int)) (y8 : (List Int) × Int) (y9 : (List Int) × Int × Int) : Option (List Int) := (if ((s1.2.2.2.2.1 && s1.2.2.2.2.2) && (y9.2.2 == 1)) then (Option.bind (Cw y9.1 s1.2.1 s1.2.2.1) fun r82 => (if y9.1.length = r82.2.length then (if r82.1 then (some r82.2) else ((Gz rec s1 n1 y8 y9) r82.2)) else none)) else ((Gz rec s1 n1 y8 y9) y9.1))
def Fi (rec : (List Int) → Int → Int → Int → Option (List Int)) (s1 : (List Int) × Int × Int × Int × Bool × Bool) (n1 : ((List Int) × Int × Int × Int × Bool × Bool) → Option (List Int)) (y8 : (List Int) × Int) : Option (List Int) := (Option.bind (Ep y8.1 s1.2.1 s1.2.2.1) fun r75 => (if (r75.2 == 2) then (Option.bind (Jd y8.1 s1.2.1 s1.2.2.1) fun r77 => (if y8.1.length = r77.length then ((Fj rec s1 n1 y8) (r77,(w64 ((w64 (s1.2.2.1 - 1)) - (w64 (r75.1 - s1.2.1)))),1)) else none)) else ((Fj rec s1 n1 y8) (y8.1,r75.1,r75.2))))
def Ku (rec : (List Int) → Int → Int → Int → Option (List Int)) (s1 : (List Int) × Int × Int × Int × Bool × Bool) (n1 : ((List Int) × Int × Int × Int × Bool × Bool) → Option (List Int)) : Option (List Int) := (if (decide ((w64 (s1.2.2.1 - s1.2.1)) ≤ 12)) then (Option.bind (Dv s1.1 s1.2.1 s1.2.2.1) fun r67 => (if s1.1.length = r67.length then (some r67) else none)) else (if (s1.2.2.2.1 == 0) then (Option.bind (Lm s1.1 s1.2.1 s1.2.2.1) fun r70 => (if s1.1.length = r70.length then (some r70) else none)) else (if (!s1.2.2.2.2.1) then (Option.bind (Iu s1.1 s1.2.1 s1.2.2.1) fun r73 => (if s1.1.length = r73.length then ((Fi rec s1 n1) (r73,(w64 (s1.2.2.2.1 - 1)))) else none)) else ((Fi rec s1 n1) (s1.1,s1.2.2.2.1)))))
def Ft (rec : (List Int) → Int → Int → Int → Option (List Int)) (p0 : List Int) (p1 : Int) (p2 : Int) (p3 : Int) : Option (List Int) := (whileO (Ku rec) Fu (p0,p1,p2,p3,true,true))
def Ct : Nat → (List Int) → Int → Int → Int → Option (List Int)
 | 0,_,_,_,_ => none
 | n + 1,p0,p1,p2,p3 => Ft (Ct n) p0 p1 p2 p3
def Ly (p0 : List Int) (p1 : Int) (p2 : Int) (p3 : Int) : Option (List Int) := Ct Fu p0 p1 p2 p3
def Kz (p0 : List Int) : Option (List Int) := (Option.bind (Rb (IntKind.u64.wrap ((p0.length : Nat) : Int))) fun r1 => (Option.bind (Ly p0 0 ((p0.length : Nat) : Int) r1) fun r2 => (if p0.length = r2.length then (some r2) else none)))
def Lw (n4 : ((List Int) × Int) → Option (Nat × (List Int))) (y9 : (List Int) × Int) : Option (Nat × (List Int)) := (n4 (y9.1,y9.2))
def Xo (p0 : List Int) (k1 : Int) (k4 : Int) (s4 : (List Int) × Int) (n4 : ((List Int) × Int) → Option (Nat × (List Int))) : Option (Nat × (List Int)) := (if 0 ≤ k4 ∧ k4 < (((Cc p0.length (Int.toNat k1)) : Nat) : Int) then (if (Xz (Int.toNat k1) (Int.toNat k4)) < s4.1.length then (if 0 ≤ (w64 (k4 - 1)) ∧ (w64 (k4 - 1)) < (((Cc p0.length (Int.toNat k1)) : Nat) : Int) then (if (Xz (Int.toNat k1) (Int.toNat (w64 (k4 - 1)))) < s4.1.length then (if ((s4.1.getD (Xz (Int.toNat k1) (Int.toNat k4)) 0) != (s4.1.getD (Xz (Int.toNat k1) (Int.toNat (w64 (k4 - 1)))) 0)) then (if 0 ≤ k4 ∧ k4 < (((Cc p0.length (Int.toNat k1)) : Nat) : Int) then (if (Xz (Int.toNat k1) (Int.toNat k4)) < s4.1.length then (if 0 ≤ s4.2 ∧ s4.2 < ((s4.1.length : Nat) : Int) then (if (Int.toNat s4.2) < s4.1.length then ((Lw n4) ((s4.1.set (Int.toNat s4.2) (s4.1.getD (Xz (Int.toNat k1) (Int.toNat k4)) 0)),(w64 (s4.2 + 1)))) else none) else none) else none) else none) else ((Lw n4) (s4.1,s4.2))) else none) else none) else none) else none)
def Wz (s4 : (List Int) × Int) : Option (Nat × (List Int)) := (if 0 ≤ s4.2 ∧ s4.2 ≤ ((s4.1.length : Nat) : Int) then (if (Int.toNat s4.2) + (Cc s4.1.length (Int.toNat s4.2)) ≤ s4.1.length then (if 0 ≤ s4.2 ∧ s4.2 ≤ (((Si s4.1 (Int.toNat s4.2) (Cc s4.1.length (Int.toNat s4.2)) 0).length : Nat) : Int) then (some ((Int.toNat s4.2),(Si s4.1 (Int.toNat s4.2) (Cc s4.1.length (Int.toNat s4.2)) 0))) else none) else none) else none)
def Qw (p0 : List Int) (k1 : Int) (s1 : Unit) (n1 : Unit → Option (Nat × (List Int))) : Option (Nat × (List Int)) := (if 0 ≤ k1 ∧ k1 < ((p0.length : Nat) : Int) then (if (Int.toNat k1) < p0.length then (if 0 ≤ (w64 (k1 - 1)) ∧ (w64 (k1 - 1)) < ((p0.length : Nat) : Int) then (if (Int.toNat (w64 (k1 - 1))) < p0.length then (if ((p0.getD (Int.toNat k1) 0) == (p0.getD (Int.toNat (w64 (k1 - 1))) 0)) then (if 0 ≤ k1 ∧ k1 ≤ ((p0.length : Nat) : Int) then (if (((Cc p0.length (Int.toNat k1)) : Nat) : Int) ≤ 9223372036854775807 then (forO (Xo p0 k1) Wz (Int.toNat ((((Cc p0.length (Int.toNat k1)) : Nat) : Int) - 1)) 1 (p0,k1)) else none) else none) else (n1 ())) else none) else none) else none) else none)
def Xq (p0 : List Int) (s1 : Unit) : Option (Nat × (List Int)) := (some (p0.length,p0))
def Io (p0 : List Int) : Option (Nat × (List Int)) := (if (decide (((p0.length : Nat) : Int) < 2)) then (some (p0.length,p0)) else (if p0.length ≤ 9223372036854775807 then (forO (Qw p0) (Xq p0) (Int.toNat (((p0.length : Nat) : Int) - 1)) 1 ()) else none))
def Dg (n1 : (List Int) → Option (List Int)) (y3 : List Int) : Option (List Int) := (n1 y3)
def Hb (p1c0 : Int) (k1 : Nat) (x1 : Am) (s1 : List Int) (n1 : (List Int) → Option (List Int)) : Option (List Int) := (Option.bind (Uf x1 p1c0) fun r23 => (if r23 then (Option.bind (AaX x1) fun r25 => (if s1.length + 1 ≤ 1073741824 then ((Dg n1) (s1 ++ [r25])) else none)) else ((Dg n1) s1)))
def El (s1 : List Int) : Option (List Int) := (Option.bind (Kz s1) fun r27 => (if s1.length = r27.length then (Option.bind (Io r27) fun r29 => (if r27.length = r29.2.length then (if r29.1 ≤ r29.2.length then (some (r29.2.take r29.1)) else none) else none)) else none))
def Fc (p0 : Aa) (p1c0 : Int) : Option (List Int) := (if p0.tasks.length ≤ 9223372036854775807 then Bd (Hb p1c0) El p0.tasks 0 [] else none)
def Th (p0 : Aa) (p1 : Int) : Option (List Int) := (Option.bind (Fc p0 p1) fun r1 => (some r1))
def Wl (p0 : Am) (p1 : Int) : Option Bool := (some (p0.group == p1))
def Dk (n1 : (List Int) → Option (List Int)) (y3 : List Int) : Option (List Int) := (n1 y3)
def Hp (p1c0 : Int) (k1 : Nat) (x1 : Am) (s1 : List Int) (n1 : (List Int) → Option (List Int)) : Option (List Int) := (Option.bind (Wl x1 p1c0) fun r23 => (if r23 then (Option.bind (AaX x1) fun r25 => (if s1.length + 1 ≤ 1073741824 then ((Dk n1) (s1 ++ [r25])) else none)) else ((Dk n1) s1)))
def Fe (s1 : List Int) : Option (List Int) := (Option.bind (Kz s1) fun r27 => (if s1.length = r27.length then (Option.bind (Io r27) fun r29 => (if r27.length = r29.2.length then (if r29.1 ≤ r29.2.length then (some (r29.2.take r29.1)) else none) else none)) else none))
def Fw (p0 : Aa) (p1c0 : Int) : Option (List Int) := (if p0.tasks.length ≤ 9223372036854775807 then Bd (Hp p1c0) Fe p0.tasks 0 [] else none)
def Lx (p0 : Aa) (p1 : Int) : Option (List Int) := (Option.bind (Fw p0 p1) fun r1 => (some r1))
def AcL (p1 : List Int) (k1 : Nat) (x1 : Int) (s1 : Unit) (n1 : Unit → Option Bool) : Option Bool := (if k1 < p1.length then (if (x1 != (p1.getD k1 0)) then (some false) else (n1 ())) else none)
def Agb (s1 : Unit) : Option Bool := (some true)
def Zw (p0 : List Int) (p1 : List Int) : Option Bool := (if (((p0.length : Nat) : Int) != ((p1.length : Nat) : Int)) then (some false) else (if p0.length ≤ 9223372036854775807 then Bd (AcL p1) Agb p0 0 () else none))
def Yn (n1 : (List Int) → Option (List Int)) (y3 : List Int) : Option (List Int) := (n1 y3)
def Adj (p1 : Int) (k1 : Nat) (x1 : Am) (s1 : List Int) (n1 : (List Int) → Option (List Int)) : Option (List Int) := (if (x1.process == p1) then (if s1.length + 1 ≤ 1073741824 then ((Yn n1) (s1 ++ [x1.id])) else none) else ((Yn n1) s1))
def AhZ (s1 : List Int) : Option (List Int) := (some s1)
def Abk (p0 : Aa) (p1 : Int) : Option (List Int) := (Option.bind (Gj p0) fun r1 => (if (!r1) then (some []) else (if p0.tasks.length ≤ 9223372036854775807 then Bd (Adj p1) AhZ p0.tasks 0 [] else none)))
def Pj (p0 : Ae) : Option Ae := (Option.bind (Dt p0.nodes) fun r1 => (some ({ nodes := r1,next := p0.next } : Ae)))
def Kq (p0 : List Ag) (p1 : Int) (p2 : Int) : Option (Nat × (List Ag)) := (if 0 ≤ p1 ∧ p1 ≤ p2 ∧ p2 ≤ ((p0.length : Nat) : Int) ∧ ((p0.length : Nat) : Int) ≤ ((p0.length : Nat) : Int) then (if (p1 == p2) then (some (p0.length,p0)) else (if 0 ≤ p1 ∧ p1 ≤ ((p0.length : Nat) : Int) then (if 0 ≤ p2 ∧ p2 ≤ ((p0.length : Nat) : Int) then (if 0 + (Int.toNat p1) + (Cc p0.length (Int.toNat p2)) ≤ p0.length ∧ 0 < p0.length then (if 0 ≤ ((((Int.toNat p1) + (Cc p0.length (Int.toNat p2))) : Nat) : Int) ∧ ((((Int.toNat p1) + (Cc p0.length (Int.toNat p2))) : Nat) : Int) ≤ ((p0.length : Nat) : Int) ∧ 0 + p0.length ≤ (Ra p0 (0 + (Int.toNat p1)) (Cc p0.length (Int.toNat p2)) ((p0.drop (Int.toNat p2)).take (Cc p0.length (Int.toNat p2)))).length then (if ((Int.toNat p1) + (Cc p0.length (Int.toNat p2))) + (Cc p0.length ((Int.toNat p1) + (Cc p0.length (Int.toNat p2)))) ≤ (Ra p0 (0 + (Int.toNat p1)) (Cc p0.length (Int.toNat p2)) ((p0.drop (Int.toNat p2)).take (Cc p0.length (Int.toNat p2)))).length then (some (((Int.toNat p1) + (Cc p0.length (Int.toNat p2))),(Si (Ra p0 (0 + (Int.toNat p1)) (Cc p0.length (Int.toNat p2)) ((p0.drop (Int.toNat p2)).take (Cc p0.length (Int.toNat p2)))) ((Int.toNat p1) + (Cc p0.length (Int.toNat p2))) (Cc p0.length ((Int.toNat p1) + (Cc p0.length (Int.toNat p2)))) ({ id := 0,parent := 0,name := ByteArray.empty,control := 0,kind := 0,owner := 0 } : Ag)))) else none) else none) else none) else none) else none)) else none)
def Vc (p0 : Ae) (p1 : Int) : Option (Ae × Int) := (Option.bind (Eb p0 p1) fun r1 => (Option.bind (Kl p0) fun r2 => (if (!r2) then (some (({ nodes := [],next := 0 } : Ae),1)) else (if (decide (r1 < 0)) then (some (({ nodes := [],next := 0 } : Ae),4)) else (if (p1 == 1) then (some (({ nodes := [],next := 0 } : Ae),9)) else (Option.bind (Ox p0 p1) fun r6 => (if (decide (((r6.length : Nat) : Int) > 0)) then (some (({ nodes := [],next := 0 } : Ae),6)) else (Option.bind (Pj p0) fun r8 => (Option.bind (Kq r8.nodes r1 (w64 (r1 + 1))) fun r9 => (if r8.nodes.length = r9.2.length then (if r9.1 ≤ r9.2.length then (some (({ nodes := (r9.2.take r9.1),next := r8.next } : Ae),0)) else none) else none))))))))))
def Rm (p0 : Aa) (p1 : Int) : Option (Aa × Int) := (Option.bind (Ko p0) fun r1 => (if (!r1) then (some (({ tree := ({ nodes := [],next := 0 } : Ae),tasks := [],next := 0 } : Aa),1)) else (Option.bind (Vc p0.tree p1) fun r3 => (if (r3.2 != 0) then (some (({ tree := ({ nodes := [],next := 0 } : Ae),tasks := [],next := 0 } : Aa),r3.2)) else (Option.bind (Lx p0 p1) fun r5 => (if (decide (((r5.length : Nat) : Int) > 0)) then (some (({ tree := ({ nodes := [],next := 0 } : Ae),tasks := [],next := 0 } : Aa),6)) else (Option.bind (Kx p0) fun r7 => (some (({ tree := r3.1,tasks := r7.tasks,next := r7.next } : Aa),0)))))))))
def Pw (y2 : Int) : Option Int := (some y2)
def Mr (p1 : Ag) (y1 : Int) : Option Int := (if (p1.kind == 1) then (Pw (Ax .i64 y1 6)) else (Pw y1))
def Po (p0 : Ae) (p1 : Ag) : Option Int := (if (p1.id != 1) then (Option.bind (Eg p0 p1.parent) fun r2 => ((Mr p1) r2.1.control)) else ((Mr p1) 31))
def Lf (n1 : Unit → Option Bool) (y3 : Bool) : Option Bool := (if y3 then (some false) else (n1 ()))
def Xw (p0 : Aa) (k1 : Nat) (x1 : Ag) (s1 : Unit) (n1 : Unit → Option Bool) : Option Bool := (Option.bind (Po p0.tree x1) fun r20 => (if ((Ax .i64 x1.control r20) != 0) then (some false) else (if (x1.id != 1) then (if ((kand .i64 x1.control 6) != 0) then (Option.bind (Lx p0 x1.id) fun r24 => ((Lf n1) (decide (((r24.length : Nat) : Int) > 0)))) else ((Lf n1) false)) else ((Lf n1) false))))
def Acn (s1 : Unit) : Option Bool := (some true)
def Li (p0 : Aa) : Option Bool := (Option.bind (Ko p0) fun r1 => (if (!r1) then (some false) else (if p0.tree.nodes.length ≤ 9223372036854775807 then Bd (Xw p0) Acn p0.tree.nodes 0 () else none)))
def Us (p0 : Ae) (k1 : Nat) (x1 : Int) (s1 : Unit) (n1 : Unit → Option Int) : Option Int := (Option.bind (Eg p0 x1) fun r13 => (if (r13.1.kind != 1) then (some x1) else (n1 ())))
def Aav (s1 : Unit) : Option Int := (some 0)
def Hl (p0 : Ae) (p1 : Int) : Option Int := (Option.bind (Dq p0 p1) fun r1 => (if r1.length ≤ 9223372036854775807 then Bd (Us p0) Aav r1 0 () else none))
def Tl (p0 : Ae) (p1 : Int) (k1 : Nat) (x1 : Int) (s1 : Unit) (n1 : Unit → Option Bool) : Option Bool := (Option.bind (Eg p0 x1) fun r13 => (if (r13.1.kind == 1) then (some (x1 != p1)) else (n1 ())))
def Zu (s1 : Unit) : Option Bool := (some false)
def Gp (p0 : Ae) (p1 : Int) : Option Bool := (Option.bind (Dq p0 p1) fun r1 => (if r1.length ≤ 9223372036854775807 then Bd (Tl p0 p1) Zu r1 0 () else none))
def Lc (y1 : Bool) : Option Bool := (some y1)
def Pb (p1 : Ag) (r6 : Ag × Bool) (y2 : Bool) : Option Bool := (if y2 then (some false) else (some ((p1.parent == 1) || ((kand .i64 r6.1.control 6) == 0))))
def Rk (p0 : Aa) (p1 : Ag) : Option Bool := (if (p1.kind != 1) then (Option.bind (Gp p0.tree p1.id) fun r2 => (if (!r2) then (Lc true) else (if (p1.control == 0) then (Option.bind (Lx p0 p1.id) fun r5 => (Lc (((r5.length : Nat) : Int) == 0))) else (Lc false)))) else (Option.bind (Eg p0.tree p1.parent) fun r6 => (if (r6.1.kind != 1) then (Option.bind (Gp p0.tree p1.parent) fun r8 => ((Pb p1 r6) r8)) else ((Pb p1 r6) false))))
def Ov (n1 : (IMap Int) → Option Bool) (y3 : IMap Int) : Option Bool := (n1 y3)
def Ww (p0 : Aa) (k1 : Nat) (x1 : Am) (s1 : IMap Int) (n1 : (IMap Int) → Option Bool) : Option Bool := (if (x1.id == x1.process) then (Option.bind (Hl p0.tree x1.group) fun r68 => ((Ov n1) (s1.set x1.id r68))) else ((Ov n1) s1))
def Wt (p0 : Aa) (s1 : IMap Int) (k8 : Nat) (x8 : Am) (s8 : Unit) (n8 : Unit → Option Bool) : Option Bool := (Option.bind (Hl p0.tree x8.group) fun r100 => (if (r100 != (s1.get x8.process)) then (some false) else (n8 ())))
def Vy (p0 : Aa) (k11 : Nat) (x11 : Ag) (s11 : Unit) (n11 : Unit → Option Bool) : Option Bool := (Option.bind (Rk p0 x11) fun r111 => (if (!r111) then (some false) else (n11 ())))
def Abe (s11 : Unit) : Option Bool := (some true)
def Wp (p0 : Aa) (s8 : Unit) : Option Bool := (if p0.tree.nodes.length ≤ 9223372036854775807 then Bd (Vy p0) Abe p0.tree.nodes 0 () else none)
def Xi (p0 : Aa) (s1 : IMap Int) : Option Bool := (if p0.tasks.length ≤ 9223372036854775807 then Bd (Wt p0 s1) (Wp p0) p0.tasks 0 () else none)
def Cs (p0 : Aa) : Option Bool := (Option.bind (Li p0) fun r1 => (if (!r1) then (some false) else (if p0.tasks.length ≤ 9223372036854775807 then Bd (Ww p0) (Xi p0) p0.tasks 0 (IMap.empty 0) else none)))
def Lo (p1 : Int) (r1 : Ag × Bool) (y1 : Bool) : Option Int := (if y1 then (some 10) else (if ((p1 != 1) && ((kand .i64 r1.1.control 6) != 0)) then (some 6) else (some 0)))
def Lg (p0 : Aa) (p1 : Int) : Option Int := (Option.bind (Eg p0.tree p1) fun r1 => (if (!r1.2) then (some 4) else (if (r1.1.kind != 1) then (Option.bind (Gp p0.tree p1) fun r4 => ((Lo p1 r1) r4)) else ((Lo p1 r1) false))))
def Aas (p2 : Int) (k1 : Nat) (x1 : Int) (s1 : Aa) (n1 : Aa → Option (Aa × Int)) : Option (Aa × Int) := (Option.bind (Tq s1 x1 p2) fun r22 => (n1 r22.1))
def AiS (s1 : Aa) : Option (Aa × Int) := (some (s1,0))
def Nz (p0 : Aa) (p1 : Int) (p2 : Int) (y1 : Bool) : Option (Aa × Int) := (if y1 then (some (({ tree := ({ nodes := [],next := 0 } : Ae),tasks := [],next := 0 } : Aa),4)) else (Option.bind (Jq p0.tree p2) fun r8 => (if (r8 == 2) then (some (({ tree := ({ nodes := [],next := 0 } : Ae),tasks := [],next := 0 } : Aa),10)) else (Option.bind (Iz p0 p2) fun r10 => (if (r10 != 0) then (some (({ tree := ({ nodes := [],next := 0 } : Ae),tasks := [],next := 0 } : Aa),r10)) else (Option.bind (Abk p0 p1) fun r12 => (if r12.length ≤ 9223372036854775807 then Bd (Aas p2) AiS r12 0 p0 else none)))))))
def Yz (p0 : Aa) (p1 : Int) (p2 : Int) : Option (Aa × Int) := (Option.bind (Gb p0) fun r1 => (if (!r1) then (some (({ tree := ({ nodes := [],next := 0 } : Ae),tasks := [],next := 0 } : Aa),1)) else (Option.bind (Hj p0 p1) fun r3 => (if (!r3.2) then ((Nz p0 p1 p2) true) else (if (r3.1.process != p1) then ((Nz p0 p1 p2) true) else (Option.bind (Fo p0.tree p2) fun r6 => ((Nz p0 p1 p2) (!r6))))))))
end Go.Dm

/- Plain theory, part 1: models that return, loops. -/
namespace Go.Dm
def Ok {α : Type} (m : Option α) (Q : α → Prop) : Prop := ∃ a,m = some a ∧ Q a
section
variable {α β γ σ : Type} {Q : β → Prop}
theorem Ok.ret {b : β} (h : Q b) : Ok (some b) Q := ⟨b,rfl,h⟩
theorem Ok.bind {m : Option α} {f : α → Option β} {P : α → Prop} (h : Ok m P) (k : ∀ a,P a → Ok (f a) Q) : Ok (Option.bind m f) Q := by
 obtain ⟨a,rfl,ha⟩ := h
 exact k a ha
theorem Ok.step {m : Option α} {f : α → Option β} {a : α} (h : m = some a) (k : Ok (f a) Q) : Ok (Option.bind m f) Q := by
 subst h
 exact k
theorem Ok.eq {m : Option β} {b : β} (h : Ok m (· = b)) : m = some b := by
 obtain ⟨a,rfl,rfl⟩ := h
 rfl
theorem Ok.of_eq {m : Option β} {b : β} (h : m = some b) (hb : Q b) : Ok m Q := ⟨b,h,hb⟩
theorem Ok.mono {m : Option β} {P : β → Prop} (h : Ok m P) (k : ∀ b,P b → Q b) : Ok m Q := by
 obtain ⟨a,rfl,ha⟩ := h
 exact ⟨a,rfl,k a ha⟩
theorem Ok.guard {c : Prop} [Decidable c] {t : Option β} (hc : c) (h : Ok t Q) : Ok (if c then t else none) Q := by
 rw [if_pos hc]
 exact h
theorem Ok.ite {c : Bool} {t e : Option β} (ht : c = true → Ok t Q) (he : c = false → Ok e Q) : Ok (if c then t else e) Q := by
 cases c
 ·exact he rfl
 ·exact ht rfl
theorem Ok.range {body : Nat → α → σ → (σ → Option β) → Option β} {done : σ → Option β} {xs : List α} {s0 : σ} (I : List α → σ → Prop) (h0 : I [] s0)
  (step : ∀ pre x post s n,xs = pre ++ x :: post → I pre s → (∀ s',I (pre ++ [x]) s' → Ok (n s') Q) → Ok (body pre.length x s n) Q)
  (fin : ∀ s,I xs s → Ok (done s) Q) : Ok (Bd body done xs 0 s0) Q := by
 have key : ∀ (post pre : List α) (s : σ),xs = pre ++ post → I pre s → Ok (Bd body done post pre.length s) Q := by
  intro post
  induction post with
  | nil =>
   intro pre s he hi
   have : xs = pre := by simpa using he
   subst this
   exact fin s hi
  | cons x post ih =>
   intro pre s he hi
   refine step pre x post s _ he hi fun s' hi' => ?_
   have := ih (pre ++ [x]) s' (by simpa using he) hi'
   simpa using this
 exact key xs [] s0 rfl h0
theorem Ok.for {body : Int → σ → (σ → Option β) → Option β} {done : σ → Option β} {m : Nat} {a : Int} {s0 : σ} (I : Nat → σ → Prop) (h0 : I 0 s0)
  (step : ∀ (j : Nat) s n,j < m → I j s → (∀ s',I (j + 1) s' → Ok (n s') Q) → Ok (body (a + j) s n) Q)
  (fin : ∀ s,I m s → Ok (done s) Q) : Ok (forO body done m a s0) Q := by
 have key : ∀ (r j : Nat) (s : σ),j + r = m → I j s → Ok (forO body done r (a + j) s) Q := by
  intro r
  induction r with
  | zero =>
   intro j s he hi
   obtain rfl : j = m := by omega
   exact fin s hi
  | succ r ih =>
   intro j s he hi
   refine step j s _ (by omega) hi fun s' hi' => ?_
   have := ih (j + 1) s' (by omega) hi'
   have e : a + (j : Int) + 1 = a + ((j + 1 : Nat) : Int) := by omega
   rw [e]
   exact this
 have := key m 0 s0 (by omega) h0
 simpa using this
theorem Ok.while {body : σ → (σ → Option β) → Option β} {s0 : σ} (I : σ → Prop) (mu : σ → Nat) (h0 : I s0) (hf : mu s0 < Fu)
  (step : ∀ s n,I s → (∀ s',I s' → mu s' < mu s → Ok (n s') Q) → Ok (body s n) Q) : Ok (whileO body Fu s0) Q := by
 have key : ∀ (f : Nat) (s : σ),I s → mu s < f → Ok (whileO body f s) Q := by
  intro f
  induction f with
  | zero => intro s _ h; omega
  | succ f ih =>
   intro s hi hm
   exact step s _ hi fun s' hi' hm' => ih s' hi' (by omega)
 exact key Fu s0 h0 hf
end
theorem Nu : Fu = 1099511627776 := rfl
theorem Bu {n : Int} (h1 : -9223372036854775808 ≤ n) (h2 : n ≤ 9223372036854775807) : w64 n = n := AcC h1 h2
theorem Pr {α : Type} {l : List α} {i : Nat} {d : α} (h : i < l.length) : l.getD i d = l[i] := by
 simp [List.getD_eq_getElem?_getD,h]
theorem Agr {α : Type} {l : List α} {i : Nat} {d : α} (h : i < l.length) : l.getD i d ∈ l := by
 rw [Pr h]
 exact List.getElem_mem h
theorem Abj {α : Type} {pre post : List α} {x d : α} : (pre ++ x :: post).getD pre.length d = x := by
 simp [List.getD_eq_getElem?_getD]
theorem AdX {α : Type} {pre post : List α} {x y d : α} : (pre ++ [y] ++ x :: post).getD pre.length d = y := by
 simp [List.getD_eq_getElem?_getD]
theorem Hw {α β : Type} {p : α → Bool} {f : α → β} {z : β} {xs : List α} {body : Nat → α → Unit → (Unit → Option β) → Option β} {done : Unit → Option β}
  (hb : ∀ k x n,body k x () n = if p x then some (f x) else n ()) (hd : done () = some z) : Bd body done xs 0 () = some ((xs.find? p).elim z f) := by
 have key : ∀ k,Bd body done xs k () = some ((xs.find? p).elim z f) := by
  induction xs with
  | nil => intro k; simp [Bd,hd]
  | cons x r ih =>
   intro k
   rw [Bd,hb,List.find?_cons]
   cases hp : p x
   ·simpa using ih (k + 1)
   ·simp
 exact key 0
theorem Jp {α β γ : Type} {p : α → Bool} {f : α → γ} {xs : List α} {s0 : List γ} {r : List γ → Option β} {body : Nat → α → List γ → (List γ → Option β) → Option β} {done : List γ → Option β}
  (hb : ∀ k x s n,s.length + 1 ≤ 1073741824 → body k x s n = if p x then n (s ++ [f x]) else n s) (hd : ∀ s,done s = r s) (hl : s0.length + xs.length ≤ 1073741824) : Bd body done xs 0 s0 = r (s0 ++ (xs.filter p).map f) := by
 have key : ∀ k s,s.length + xs.length ≤ 1073741824 → Bd body done xs k s = r (s ++ (xs.filter p).map f) := by
  clear hl
  induction xs with
  | nil => intro k s _; simp [Bd,hd]
  | cons x q ih =>
   intro k s hl
   simp only [List.length_cons] at hl
   rw [Bd,hb _ _ _ _ (by omega),List.filter_cons]
   cases hp : p x
   ·simpa using ih (k + 1) s (by omega)
   ·simp only [if_true]
    rw [ih (k + 1) (s ++ [f x]) (by simp; omega)]
    simp
 exact key 0 s0 hl
end Go.Dm

/- Plain theory, part 2: names, trees. -/
namespace Go.Dm
def Pt (c : Int) : Bool := (((((decide (c ≥ 97)) && (decide (c ≤ 122))) || ((decide (c ≥ 65)) && (decide (c ≤ 90)))) || ((decide (c ≥ 48)) && (decide (c ≤ 57)))) || (c == 95)) || (c == 45)
def Dj (s : ByteArray) : Bool := decide (0 < s.size) && decide (s.size ≤ 32) && (((Bh s 0 : Nat) : Int) != 45) && (Jb s).all Pt
theorem AdY (s : ByteArray) : Tw s = some (Dj s) := by
 apply Ok.eq
 unfold Tw
 refine Ok.ite (fun h => ?_) fun h => ?_
 ·refine Ok.ret ?_
  have : s.size = 0 := by simpa using h
  simp [Dj,this]
 have h0 : 0 < s.size := by
  have : ¬ ((s.size : Nat) : Int) = 0 := by simpa using h
  omega
 refine Ok.ite (fun h => ?_) fun h => ?_
 ·refine Ok.ret ?_
  have : ¬ s.size ≤ 32 := by
   have := of_decide_eq_true h
   omega
  simp [Dj,this]
 have h32 : s.size ≤ 32 := by
  have := of_decide_eq_false h
  omega
 refine Ok.guard h0 ?_
 unfold Qj
 refine Ok.ite (fun h => ?_) fun h => ?_
 ·refine Ok.ret ?_
  simp only [Dj,bne,h]
  simp
 refine Ok.guard (by omega) ?_
 refine Ok.for (fun j _ => ((Jb s).take j).all Pt = true) (by simp) ?_ ?_
 ·intro j _ n hj hi hn
  have hj' : j < s.size := by omega
  unfold Abz
  refine Ok.guard (by omega) ?_
  have e : Int.toNat (0 + (j : Int)) = j := by omega
  rw [e]
  have hb : (Jb s)[j]? = some ((Bh s j : Nat) : Int) := by simp [Jb,hj']
  refine Ok.ite (fun h => ?_) fun h => ?_
  ·refine Ok.ret ?_
   have hc : Pt ((Bh s j : Nat) : Int) = false := by simpa only [Pt,Bool.not_eq_true'] using h
   have : (Jb s).all Pt = false := by
    rw [List.all_eq_false]
    exact ⟨_,List.mem_of_getElem? hb,by simp [hc]⟩
   simp [Dj,this]
  ·refine hn () ?_
   have hc : Pt ((Bh s j : Nat) : Int) = true := by simpa only [Pt,Bool.not_eq_false'] using h
   rw [List.take_add_one,List.all_append,hi,hb]
   simp [hc]
 ·intro _ hi
  refine Ok.ret ?_
  have : (Jb s).length ≤ Int.toNat (((s.size : Nat) : Int) - 0) := by rw [Rq]; omega
  rw [List.take_of_length_le this] at hi
  simp only [Dj,bne,h,hi]
  simp [h0,h32]
theorem Acc (a : ByteArray) : Co a a = true := by simp [Co]
def upR : List Ag → Int → List Int
 | [],_ => []
 | x :: r,id => if x.id == id then id :: upR r x.parent else upR r id
def upT (t : Ae) (id : Int) : List Int := upR t.nodes.reverse id
theorem Qx (l : List Ag) (id : Int) : (upR l id).length ≤ l.length := by
 induction l generalizing id with
 | nil => simp [upR]
 | cons x r ih =>
  rw [upR]
  split
  ·have := ih x.parent
   simp; omega
  ·have := ih id
   simp; omega
theorem Ahu (t : Ae) (id : Int) (hl : t.nodes.length ≤ 1000000) : AaW t id = some (upT t id) := by
 apply Ok.eq
 unfold AaW
 rw [Bu (by omega) (by omega)]
 refine Ok.while (fun s => ∃ m : Nat,s.2.2 = (m : Int) - 1 ∧ m ≤ t.nodes.length ∧ s.1.length + m ≤ t.nodes.length ∧ s.1 ++ upR (t.nodes.take m).reverse s.2.1 = upT t id) (fun s => (s.2.2 + 1).toNat) ?_ ?_ ?_
 ·exact ⟨t.nodes.length,rfl,by omega,by simp,by simp [upT]⟩
 ·rw [Nu]; simp only []; omega
 rintro ⟨o,i,c⟩ n ⟨m,hc,hm,hlen,he⟩ hn
 simp only at hc hlen he hn
 unfold Aew
 simp only
 refine Ok.ite (fun h => ?_) fun h => ?_
 ·have hpos := of_decide_eq_true h
  obtain ⟨q,rfl⟩ : ∃ q,m = q + 1 := ⟨m - 1,by omega⟩
  have hcq : c = (q : Int) := by omega
  subst hcq
  have hq : q < t.nodes.length := by omega
  refine Ok.guard (by omega) ?_
  have et : t.nodes.take (q + 1) = t.nodes.take q ++ [t.nodes.getD q default] := by
   rw [List.take_add_one,Pr hq]
   simp [hq]
  rw [et,List.reverse_append,List.reverse_cons,List.reverse_nil,List.nil_append,List.singleton_append,upR] at he
  have eq : Int.toNat (q : Int) = q := by omega
  rw [eq]
  have hw : w64 ((q : Int) - 1) = (q : Int) - 1 := Bu (by omega) (by omega)
  refine Ok.ite (fun h => ?_) fun h => ?_
  ·refine Ok.guard (by omega) ?_
   refine Ok.guard (by omega) ?_
   unfold Wc
   simp only
   rw [hw]
   rw [if_pos h] at he
   refine hn _ ⟨q,rfl,by omega,by simp; omega,?_⟩ (by simp only; omega)
   simpa using he
  ·unfold Wc
   simp only
   rw [hw]
   rw [if_neg (by rw [h]; simp)] at he
   exact hn _ ⟨q,rfl,by omega,by simp only; omega,he⟩ (by simp only; omega)
 ·have := of_decide_eq_false h
  have : m = 0 := by omega
  subst this
  refine Ok.ret ?_
  simpa [upR] using he
def Lb (pre : List Ag) (x : Ag) : Bool :=
 (x.kind == 0 || x.kind == 1) && decide (0 ≤ x.control) && decide (x.control ≤ 31) && decide (0 ≤ x.owner) && decide (x.owner ≤ 1048576) &&
 match pre.getLast? with
 | none => x.id == 1 && x.parent == 0 && Co x.name ByteArray.empty && x.kind == 0
 | some y => decide (y.id < x.id) && Dj x.name && pre.any (fun k => k.id == x.parent) && pre.all (fun k => !(k.parent == x.parent && Co k.name x.name))
theorem AjR (t : Ae) (pre post : List Ag) (x : Ag) (he : t.nodes = pre ++ x :: post) (hl : t.nodes.length ≤ 1000000) : Aaa t (pre.length : Int) = some (Lb pre x) := by
 have hlen : pre.length < t.nodes.length := by rw [he]; simp
 apply Ok.eq
 unfold Aaa
 refine Ok.guard (by omega) ?_
 have ex : t.nodes.getD (Int.toNat (pre.length : Int)) default = x := by
  rw [he]
  have : Int.toNat (pre.length : Int) = pre.length := by omega
  rw [this]
  exact Abj
 rw [ex]
 refine Ok.ite (fun h => ?_) fun h => ?_
 ·refine Ok.ret ?_
  simp only [Lb]
  simp only [Bool.or_eq_true,Bool.and_eq_true,bne_iff_ne,decide_eq_true_eq] at h
  rcases h with (((⟨h1,h2⟩ | h) | h) | h) | h
  ·simp [h1,h2]
  ·have : ¬ 0 ≤ x.control := by omega
   simp [this]
  ·have : ¬ x.control ≤ 31 := by omega
   simp [this]
  ·have : ¬ 0 ≤ x.owner := by omega
   simp [this]
  ·have : ¬ x.owner ≤ 1048576 := by omega
   simp [this]
 simp only [Bool.or_eq_false_iff,Bool.and_eq_false_imp,bne_iff_ne,decide_eq_false_iff_not,bne_eq_false_iff_eq] at h
 obtain ⟨⟨⟨⟨hk,h2⟩,h3⟩,h4⟩,h5⟩ := h
 have hk' : (x.kind == 0 || x.kind == 1) = true := by
  by_cases q : x.kind = 0
  ·simp [q]
  ·simp [hk q]
 have a2 : 0 ≤ x.control := by omega
 have a3 : x.control ≤ 31 := by omega
 have a4 : 0 ≤ x.owner := by omega
 have a5 : x.owner ≤ 1048576 := by omega
 refine Ok.ite (fun h => ?_) fun h => ?_
 ·refine Ok.ret ?_
  have : pre = [] := by
   have : pre.length = 0 := by
    have : (pre.length : Int) = 0 := by simpa using h
    omega
   exact List.length_eq_zero_iff.mp this
  subst this
  simp [Lb,hk',a2,a3,a4,a5]
 have hp : 0 < pre.length := by
  have : ¬ (pre.length : Int) = 0 := by simpa using h
  omega
 obtain ⟨pr,y,rfl⟩ : ∃ pr y,pre = pr ++ [y] := by
  have hne : pre ≠ [] := by intro e; simp [e] at hp
  exact ⟨pre.dropLast,pre.getLast hne,(List.dropLast_concat_getLast hne).symm⟩
 have hw : w64 (((pr ++ [y]).length : Int) - 1) = (pr.length : Int) := by
  rw [Bu (by simp) (by simp; simp at hlen; omega)]
  simp
 rw [hw]
 refine Ok.guard (by simp at hlen; omega) ?_
 have ey : t.nodes.getD (Int.toNat (pr.length : Int)) default = y := by
  rw [he]
  have : Int.toNat (pr.length : Int) = pr.length := by omega
  rw [this]
  exact AdX
 rw [ey]
 have eB : Lb (pr ++ [y]) x = (decide (y.id < x.id) && Dj x.name && (pr ++ [y]).any (fun k => k.id == x.parent) && (pr ++ [y]).all (fun k => !(k.parent == x.parent && Co k.name x.name))) := by
  simp [Lb,hk',a2,a3,a4,a5]
 refine Ok.ite (fun h => ?_) fun h => ?_
 ·refine Ok.ret ?_
  have : ¬ y.id < x.id := by
   have := of_decide_eq_true h
   omega
  rw [eB]
  simp [this]
 have hy : y.id < x.id := by
  have := of_decide_eq_false h
  omega
 refine Ok.step (AdY _) ?_
 unfold Va
 refine Ok.ite (fun h => ?_) fun h => ?_
 ·refine Ok.ret ?_
  have : Dj x.name = false := by simpa using h
  rw [eB]
  simp [this]
 have hv : Dj x.name = true := by simpa using h
 have hr : Lb (pr ++ [y]) x = ((pr ++ [y]).any (fun k => k.id == x.parent) && (pr ++ [y]).all (fun k => !(k.parent == x.parent && Co k.name x.name))) := by
  rw [eB]
  simp [hy,hv]
 rw [hr]
 generalize pr ++ [y] = P at *
 refine Ok.guard (by omega) ?_
 refine Ok.for (fun j s => s = (P.take j).any (fun k => k.id == x.parent) ∧ (P.take j).all (fun k => !(k.parent == x.parent && Co k.name x.name)) = true) (by simp) ?_ ?_
 ·intro j s n hj hI hn
  have hj' : j < P.length := by omega
  have ej : Int.toNat (0 + (j : Int)) = j := by omega
  have ez : t.nodes.getD j default = P[j] := by
   rw [he]
   simp [List.getD_eq_getElem?_getD,List.getElem?_append,hj']
  have tk : P.take (j + 1) = P.take j ++ [P[j]] := by
   rw [List.take_add_one]; simp [hj']
  have hbad : (P[j].parent == x.parent && Co P[j].name x.name) = true → (P.any (fun k => k.id == x.parent) && P.all (fun k => !(k.parent == x.parent && Co k.name x.name))) = false := by
   intro hb
   have : P.all (fun k => !(k.parent == x.parent && Co k.name x.name)) = false := by
    rw [List.all_eq_false]
    exact ⟨P[j],List.getElem_mem hj',by rw [hb]; simp⟩
   rw [this,Bool.and_false]
  have hJ : ∀ b : Bool,b = (P.take (j + 1)).any (fun k => k.id == x.parent) → Ok (Ru t (P.length : Int) (0 + (j : Int)) n b) (· = (P.any (fun k => k.id == x.parent) && P.all (fun k => !(k.parent == x.parent && Co k.name x.name)))) := by
   intro b hb
   unfold Ru
   refine Ok.guard (by omega) ?_
   rw [ej,ez,ex]
   have good : (P[j].parent == x.parent && Co P[j].name x.name) = false → Ok (n b) (· = (P.any (fun k => k.id == x.parent) && P.all (fun k => !(k.parent == x.parent && Co k.name x.name)))) := by
    intro hb'
    refine hn _ ⟨hb,?_⟩
    rw [tk,List.all_append,hI.2]
    simp only [List.all_cons,List.all_nil,hb']
    rfl
   refine Ok.ite (fun h => ?_) fun h => ?_
   ·refine Ok.guard (by omega) ?_
    unfold Rt
    refine Ok.ite (fun h' => ?_) fun h' => ?_
    ·exact Ok.ret (hbad (by rw [h,h']; rfl)).symm
    ·exact good (by rw [h,h']; rfl)
   ·unfold Rt
    exact good (by rw [h]; rfl)
  unfold AcQ
  have ea : (P.take (j + 1)).any (fun k => k.id == x.parent) = (s || (P[j].id == x.parent)) := by
   rw [tk,List.any_append,← hI.1]; simp
  refine Ok.ite (fun h => ?_) fun h => ?_
  ·refine hJ _ ?_
   rw [ea,h]
   rfl
  ·refine Ok.guard (by omega) ?_
   rw [ej,ez,ex]
   refine hJ _ ?_
   rw [ea,h]
   rfl
 ·intro s hI
  refine Ok.ret ?_
  have : P.take (Int.toNat ((P.length : Int) - 0)) = P := List.take_of_length_le (by omega)
  rw [this] at hI
  rw [hI.2,Bool.and_true]
  exact hI.1
end Go.Dm

/- Plain theory, part 3: trees that Check accepts. -/
namespace Go.Dm
structure WfT (t : Ae) : Prop where
 len1 : 1 ≤ t.nodes.length
 len2 : t.nodes.length ≤ 64
 node : ∀ pre x post,t.nodes = pre ++ x :: post → Lb pre x = true
 depth : ∀ x ∈ t.nodes,(upT t x.id).length ≤ 9
 last : (t.nodes.getD (t.nodes.length - 1) default).id < t.next
 nextLe : t.next ≤ 2147483648
theorem Aao (t : Ae) : Ok (Km t) (fun b => b = true ↔ WfT t) := by
 unfold Km
 refine Ok.ite (fun h => ?_) fun h => ?_
 ·refine Ok.ret ?_
  simp only [Bool.or_eq_true,decide_eq_true_eq] at h
  refine ⟨fun e => by simp at e,fun w => ?_⟩
  have := w.len1
  have := w.len2
  omega
 simp only [Bool.or_eq_false_iff,decide_eq_false_iff_not] at h
 have l1 : 1 ≤ t.nodes.length := by omega
 have l2 : t.nodes.length ≤ 64 := by omega
 refine Ok.guard (by omega) ?_
 refine Ok.range (fun pre _ => ∀ q x p,pre = q ++ x :: p → Lb q x = true) (by intro q x p e; simp at e) ?_ ?_
 ·intro pre x post s n he hI hn
  unfold AbN
  refine Ok.step (AjR t pre post x he (by omega)) ?_
  refine Ok.ite (fun h => ?_) fun h => ?_
  ·refine Ok.ret ⟨fun e => by simp at e,fun w => ?_⟩
   have := w.node pre x post he
   simp [this] at h
  ·refine hn () fun q y p e => ?_
   rcases List.eq_nil_or_concat p with rfl | ⟨p',z,rfl⟩
   ·have e2 : pre = q ∧ x = y := by
     have := List.append_inj' (s₁ := pre) (t₁ := [x]) (s₂ := q) (t₂ := [y]) (by simpa using e) rfl
     exact ⟨this.1,by simpa using this.2⟩
    rw [← e2.1,← e2.2]
    simpa using h
   ·have e2 : pre ++ [x] = (q ++ y :: p') ++ [z] := by simpa using e
    have := List.append_inj' e2 rfl
    exact hI q y p' this.1
 ·intro _ hI
  unfold AbF
  refine Ok.guard (by omega) ?_
  refine Ok.range (fun pre _ => ∀ x ∈ pre,(upT t x.id).length ≤ 9) (by simp) ?_ ?_
  ·intro pre x post s n he hJ hn
   unfold Abd
   refine Ok.step (Ahu t x.id (by omega)) ?_
   refine Ok.ite (fun h => ?_) fun h => ?_
   ·refine Ok.ret ⟨fun e => by simp at e,fun w => ?_⟩
    have := w.depth x (by rw [he]; simp)
    have := of_decide_eq_true h
    omega
   ·refine hn () fun y hy => ?_
    have hd := of_decide_eq_false h
    rcases List.mem_append.mp hy with hy | hy
    ·exact hJ y hy
    ·obtain rfl : y = x := by simpa using hy
     omega
  ·intro _ hJ
   unfold AbH Sn
   have hw : w64 ((t.nodes.length : Int) - 1) = ((t.nodes.length - 1 : Nat) : Int) := by
    rw [Bu (by omega) (by omega)]
    omega
   rw [hw]
   refine Ok.guard (by omega) ?_
   have : Int.toNat ((t.nodes.length - 1 : Nat) : Int) = t.nodes.length - 1 := by omega
   rw [this]
   refine Ok.ite (fun h => ?_) fun h => ?_
   ·refine Ok.ret ⟨fun e => ?_,fun w => ?_⟩
    ·exact ⟨l1,l2,hI,hJ,by simpa using h,by simpa using e⟩
    ·simpa using w.nextLe
   ·refine Ok.ret ⟨fun e => by simp at e,fun w => ?_⟩
    have := w.last
    have := of_decide_eq_false h
    omega
theorem Abq {t : Ae} (h : WfT t) : Km t = some true := by
 obtain ⟨b,hb,e⟩ := Aao t
 rw [hb,e.mpr h]
theorem AjE {t : Ae} (h : ¬ WfT t) : Km t = some false := by
 obtain ⟨b,hb,e⟩ := Aao t
 cases b
 ·exact hb
 ·exact absurd (e.mp rfl) h
def zN : Ag := { id := 0,parent := 0,name := ByteArray.empty,control := 0,kind := 0,owner := 0 }
def Fn (t : Ae) (id : Int) : Option Ag := t.nodes.find? (fun x => x.id == id)
def Aw (t : Ae) (id : Int) : Bool := (Fn t id).isSome
theorem Ph {t : Ae} (h : WfT t) (id : Int) : Cn t id = some ((Fn t id).elim (zN,false) (fun x => (x,true))) := by
 unfold Cn
 rw [Abq h]
 have := h.len2
 simp only [Option.bind_some,Bool.not_true,Bool.false_eq_true,if_false]
 rw [if_pos (by omega)]
 exact Hw (fun k x n => rfl) rfl
theorem AcT {t : Ae} (h : ¬ WfT t) (id : Int) : Cn t id = some (zN,false) := by
 unfold Cn
 rw [AjE h]
 rfl
theorem Kn {t : Ae} (h : WfT t) (id : Int) : Fo t id = some (Aw t id) := by
 unfold Fo
 rw [Ph h,Option.bind_some]
 unfold Aw
 cases Fn t id <;> rfl
theorem Ahv {t : Ae} (h : ¬ WfT t) (id : Int) : Fo t id = some false := by
 unfold Fo
 rw [AcT h]
 rfl
def ancN (t : Ae) (id : Int) : List Int := if Aw t id then upT t id else []
theorem Qy {t : Ae} (h : WfT t) (id : Int) : Hc t id = some (ancN t id) := by
 unfold Hc ancN
 rw [Kn h]
 have := h.len2
 cases Aw t id
 ·rfl
 ·simp [Ahu t id (by omega)]
def En (t : Ae) (id : Int) : List Int := (t.nodes.filter (fun x => x.parent == id)).map (·.id)
theorem Xj {t : Ae} (h : WfT t) (id : Int) : Hv t id = some (if Aw t id then En t id else []) := by
 unfold Hv
 rw [Kn h]
 have := h.len2
 cases Aw t id
 ·rfl
 ·simp only [Option.bind_some,Bool.not_true,Bool.false_eq_true,if_false,if_true]
  rw [if_pos (by omega)]
  refine (Jp (p := fun x : Ag => x.parent == id) (f := fun x : Ag => x.id) (r := some) ?_ (fun _ => rfl) (by simp; omega)).trans (by simp [En])
  intro k x s n hs
  unfold Wy Pe
  rw [if_pos hs]
theorem Ajx {t : Ae} (h : WfT t) (id : Int) : Ws t id = some (w64 (((ancN t id).length : Int) - 1)) := by
 unfold Ws
 rw [Qy h]
 rfl
theorem Xh (t : Ae) (h : t.nodes.length ≤ 1073741824) : Qn t = some t := by
 unfold Qn
 simp
 omega
end Go.Dm

/- Plain theory, part 4: the nodes of a tree, one behind the other. -/
namespace Go.Dm
theorem Ow {α : Type} (L : List α) : L = [] ∨ ∃ P x,L = P ++ [x] := by
 rcases List.eq_nil_or_concat L with h | ⟨P,x,h⟩
 ·exact .inl h
 ·exact .inr ⟨P,x,by simpa using h⟩
structure Sg (x : Ag) : Prop where
 kind : x.kind = 0 ∨ x.kind = 1
 c1 : 0 ≤ x.control
 c2 : x.control ≤ 31
 o1 : 0 ≤ x.owner
 o2 : x.owner ≤ 1048576
structure AbW (x : Ag) : Prop where
 id : x.id = 1
 parent : x.parent = 0
 name : Co x.name ByteArray.empty = true
 kind : x.kind = 0
structure NodeS (pre : List Ag) (x : Ag) : Prop where
 lt : ∀ y ∈ pre,y.id < x.id
 valid : Dj x.name = true
 parent : ∃ y ∈ pre,y.id = x.parent
 fresh : ∀ y ∈ pre,y.parent = x.parent → Co y.name x.name = false
inductive WfP : List Ag → Prop
 | root (x : Ag) : Sg x → AbW x → WfP [x]
 | snoc (L : List Ag) (x : Ag) : WfP L → Sg x → NodeS L x → WfP (L ++ [x])
theorem nodeV_of {pre : List Ag} {x : Ag} (h : Lb pre x = true) : Sg x := by
 simp only [Lb,Bool.and_eq_true,Bool.or_eq_true,beq_iff_eq,decide_eq_true_eq] at h
 exact ⟨h.1.1.1.1.1,h.1.1.1.1.2,h.1.1.1.2,h.1.1.2,h.1.2⟩
theorem WfP.pos {L : List Ag} (h : WfP L) : 0 < L.length := by
 cases h <;> simp
theorem wfP_of {L : List Ag} (hn : 1 ≤ L.length) (h : ∀ pre x post,L = pre ++ x :: post → Lb pre x = true) : WfP L := by
 have key : ∀ (n : Nat) (M : List Ag),M.length = n → 1 ≤ M.length → (∀ pre x post,M = pre ++ x :: post → Lb pre x = true) → WfP M ∧ ∀ y,M.getLast? = some y → ∀ z ∈ M,z.id ≤ y.id := by
  intro n
  induction n with
  | zero => intro M hM h1; omega
  | succ n ih =>
   intro M hM h1 hB
   rcases Ow M with rfl | ⟨P,x,rfl⟩
   ·simp at hM
   have hx : Lb P x = true := hB P x [] (by simp)
   have hv := nodeV_of hx
   rcases Ow P with rfl | ⟨P',y,rfl⟩
   ·simp only [Lb,List.getLast?_nil,Bool.and_eq_true,beq_iff_eq] at hx
    refine ⟨.root x hv ⟨hx.2.1.1.1,hx.2.1.1.2,hx.2.1.2,hx.2.2⟩,?_⟩
    intro y hy z hz
    simp at hy hz
    subst hy hz
    exact Int.le_refl _
   ·obtain ⟨w,hl⟩ := ih (P' ++ [y]) (by simp at hM ⊢; omega) (by simp) (fun pre u post e => hB pre u (post ++ [x]) (by rw [e]; simp))
    have hl := hl y (by simp)
    simp only [Lb,List.getLast?_append,List.getLast?_singleton,Option.some_or,Bool.and_eq_true,decide_eq_true_eq,List.any_eq_true,List.all_eq_true,beq_iff_eq] at hx
    obtain ⟨_,⟨⟨hlt,hval⟩,hpar⟩,hfr⟩ := hx
    have hs : NodeS (P' ++ [y]) x := by
     refine ⟨fun z hz => ?_,hval,hpar,fun z hz hp => ?_⟩
     ·have := hl z hz
      omega
     ·have := hfr z hz
      simpa [hp] using this
    refine ⟨.snoc _ x w hv hs,?_⟩
    intro u hu z hz
    have hu : u = x := by simpa [eq_comm] using hu
    subst hu
    rcases List.mem_append.mp hz with hz | hz
    ·have := hs.lt z hz
     omega
    ·simp at hz
     subst hz
     exact Int.le_refl _
 exact (key _ L rfl hn h).1
theorem AiF {x : Ag} (v : Sg x) (r : AbW x) : Lb [] x = true := by
 have := v.kind
 simp [Lb,v.c1,v.c2,v.o1,v.o2,r.id,r.parent,r.name,r.kind]
theorem AiM {L : List Ag} {x : Ag} (hL : 0 < L.length) (v : Sg x) (r : NodeS L x) : Lb L x = true := by
 rcases Ow L with rfl | ⟨P,y,rfl⟩
 ·simp at hL
 simp only [Lb,List.getLast?_append,List.getLast?_singleton,Option.some_or,Bool.and_eq_true,decide_eq_true_eq,List.any_eq_true,List.all_eq_true,beq_iff_eq,Bool.or_eq_true]
 refine ⟨⟨⟨⟨⟨v.kind,v.c1⟩,v.c2⟩,v.o1⟩,v.o2⟩,⟨⟨r.lt y (by simp),r.valid⟩,r.parent⟩,fun z hz => ?_⟩
 by_cases hp : z.parent = x.parent
 ·simp [r.fresh z hz hp]
 ·simp [hp]
theorem WfP.split {L : List Ag} (h : WfP L) : ∀ pre x post,L = pre ++ x :: post → Lb pre x = true := by
 induction h with
 | root x v r =>
  intro pre y post e
  have : pre = [] ∧ y = x := by
   cases pre with
   | nil => simp at e; exact ⟨rfl,e.1.symm⟩
   | cons a q => simp at e
  rw [this.1,this.2]
  exact AiF v r
 | snoc L x w v s ih =>
  intro pre y post e
  rcases Ow post with rfl | ⟨p',z,rfl⟩
  ·have := List.append_inj' (s₁ := L) (t₁ := [x]) (s₂ := pre) (t₂ := [y]) (by simpa using e) rfl
   have e2 : x = y := by simpa using this.2
   rw [← this.1,← e2]
   exact AiM w.pos v s
  ·have e2 : L ++ [x] = (pre ++ y :: p') ++ [z] := by simpa using e
   have := List.append_inj' e2 rfl
   exact ih pre y p' this.1
theorem WfP.sorted {L : List Ag} (h : WfP L) : L.Pairwise (fun a b => a.id < b.id) := by
 induction h with
 | root x v r => simp
 | snoc L x w v s ih =>
  rw [List.pairwise_append]
  exact ⟨ih,by simp,fun a ha b hb => by simp at hb; subst hb; exact s.lt a ha⟩
theorem WfP.val {L : List Ag} (h : WfP L) : ∀ x ∈ L,Sg x := by
 induction h with
 | root x v r => intro y hy; simp at hy; subst hy; exact v
 | snoc L x w v s ih =>
  intro y hy
  rcases List.mem_append.mp hy with hy | hy
  ·exact ih y hy
  ·simp at hy; subst hy; exact v
theorem WfP.first {L : List Ag} (h : WfP L) : ∃ x r,L = x :: r ∧ AbW x := by
 induction h with
 | root x v r => exact ⟨x,[],rfl,r⟩
 | snoc L x w v s ih =>
  obtain ⟨y,r,rfl,hr⟩ := ih
  exact ⟨y,r ++ [x],rfl,hr⟩
theorem WfP.ge1 {L : List Ag} (h : WfP L) : ∀ x ∈ L,1 ≤ x.id := by
 induction h with
 | root x v r => intro y hy; simp at hy; subst hy; rw [r.id]; omega
 | snoc L x w v s ih =>
  intro y hy
  rcases List.mem_append.mp hy with hy | hy
  ·exact ih y hy
  ·simp at hy; subst hy
   obtain ⟨z,hz,_⟩ := s.parent
   have := ih z hz
   have := s.lt z hz
   omega
theorem WfP.par {L : List Ag} (h : WfP L) : ∀ x ∈ L,(x.id = 1 ∧ AbW x) ∨ (1 ≤ x.parent ∧ x.parent < x.id ∧ (∃ y ∈ L,y.id = x.parent) ∧ Dj x.name = true) := by
 induction h with
 | root x v r => intro y hy; simp at hy; subst hy; exact .inl ⟨r.id,r⟩
 | snoc L x w v s ih =>
  intro y hy
  rcases List.mem_append.mp hy with hy | hy
  ·rcases ih y hy with h | ⟨h1,h2,⟨z,hz,he⟩,h3⟩
   ·exact .inl h
   ·exact .inr ⟨h1,h2,⟨z,by simp [hz],he⟩,h3⟩
  ·simp at hy; subst hy
   obtain ⟨z,hz,he⟩ := s.parent
   refine .inr ⟨?_,?_,⟨z,by simp [hz],he⟩,s.valid⟩
   ·have := w.ge1 z hz
    omega
   ·have := s.lt z hz
    omega
theorem Xn {L : List Ag} (h : L.Pairwise (fun a b => a.id < b.id)) {x y : Ag} (hx : x ∈ L) (hy : y ∈ L) (e : x.id = y.id) : x = y := by
 induction L with
 | nil => simp at hx
 | cons a r ih =>
  rw [List.pairwise_cons] at h
  rcases List.mem_cons.mp hx with ex | hx' <;> rcases List.mem_cons.mp hy with ey | hy'
  ·rw [ex,ey]
  ·have := h.1 y hy'; rw [ex] at e; omega
  ·have := h.1 x hx'; rw [ey] at e; omega
  ·exact ih h.2 hx' hy'
theorem Qo {t : Ae} {id : Int} {x : Ag} (h : Fn t id = some x) : x ∈ t.nodes ∧ x.id = id :=
 ⟨List.mem_of_find?_eq_some h,by have := List.find?_some h; simpa using this⟩
theorem getN_of {t : Ae} (hs : t.nodes.Pairwise (fun a b => a.id < b.id)) {x : Ag} (h : x ∈ t.nodes) : Fn t x.id = some x := by
 unfold Fn
 cases hf : t.nodes.find? (fun y => y.id == x.id) with
 | none =>
  rw [List.find?_eq_none] at hf
  have := hf x h
  simp at this
 | some y =>
  have h1 := List.mem_of_find?_eq_some hf
  have h2 := List.find?_some hf
  rw [Xn hs h1 h (by simpa using h2)]
theorem hasN_iff {t : Ae} {id : Int} : Aw t id = true ↔ ∃ x ∈ t.nodes,x.id = id := by
 unfold Aw Fn
 rw [List.find?_isSome]
 simp
theorem Aar {A B : List Ag} {id : Int} (h : ∀ x ∈ A,x.id ≠ id) : upR (A ++ B) id = upR B id := by
 induction A with
 | nil => rfl
 | cons a r ih =>
  rw [List.cons_append,upR,if_neg (by simpa using h a (by simp))]
  exact ih fun x hx => h x (by simp [hx])
theorem AbE {A : List Ag} {id : Int} (h : ∀ x ∈ A,x.id ≠ id) : upR A id = [] := by
 have := Aar (B := []) h
 simpa [upR] using this
theorem WfP.up {L : List Ag} (h : WfP L) : ∀ x ∈ L,upR L.reverse x.id = x.id :: upR L.reverse x.parent := by
 induction h with
 | root x v r =>
  intro y hy
  simp at hy
  subst hy
  simp [upR,r.parent,r.id]
 | snoc L x w v s ih =>
  intro y hy
  rw [List.reverse_append,List.reverse_cons,List.reverse_nil,List.nil_append,List.singleton_append]
  rcases List.mem_append.mp hy with hy | hy
  ·have hlt := s.lt y hy
   have hp : y.parent < x.id := by
    rcases w.par y hy with ⟨h1,r⟩ | ⟨_,h2,_⟩
    ·rw [r.parent]; have := w.ge1 y hy; omega
    ·omega
   rw [upR,if_neg (by simp; omega),upR,if_neg (by simp; omega)]
   exact ih y hy
  ·simp at hy
   subst hy
   obtain ⟨z,hz,he⟩ := s.parent
   have := s.lt z hz
   rw [upR,if_pos (by simp),upR,if_neg (by simp; omega)]
theorem WfT.p {t : Ae} (h : WfT t) : WfP t.nodes := wfP_of h.len1 h.node
theorem WfT.sorted {t : Ae} (h : WfT t) : t.nodes.Pairwise (fun a b => a.id < b.id) := h.p.sorted
theorem WfT.up {t : Ae} (h : WfT t) {x : Ag} (hx : x ∈ t.nodes) : upT t x.id = x.id :: upT t x.parent := h.p.up x hx
theorem WfT.upZero {t : Ae} (h : WfT t) : upT t 0 = [] := AbE fun x hx => by
 have := h.p.ge1 x (by simpa using hx)
 omega
theorem WfT.next {t : Ae} (h : WfT t) : ∀ x ∈ t.nodes,x.id < t.next := by
 have hl := h.last
 have h1 := h.len1
 have hs := h.sorted
 intro x hx
 obtain ⟨i,hi,rfl⟩ := List.getElem_of_mem hx
 rw [Pr (by omega)] at hl
 by_cases e : i = t.nodes.length - 1
 ·subst e; exact hl
 ·have := List.pairwise_iff_getElem.mp hs i (t.nodes.length - 1) hi (by omega) (by omega)
  omega
theorem WfT.root {t : Ae} (h : WfT t) : ∃ x r,t.nodes = x :: r ∧ AbW x := h.p.first
theorem WfT.mk' {t : Ae} (hp : WfP t.nodes) (h2 : t.nodes.length ≤ 64) (hd : ∀ x ∈ t.nodes,(upT t x.id).length ≤ 9) (hn : ∀ x ∈ t.nodes,x.id < t.next) (hl : t.next ≤ 2147483648) : WfT t := by
 refine ⟨hp.pos,h2,hp.split,hd,hn _ (Agr ?_),hl⟩
 have := hp.pos
 omega
end Go.Dm

/- Plain theory, part 5: dice; trees that grow and shrink. -/
namespace Go.Dm
structure Bt (d : At) : Prop where
 a0 : 0 ≤ d.atF
 a1 : d.atF ≤ (d.l.length : Int)
 l : d.l.length ≤ 600
theorem dice_roll {l : List Int} (h : l.length ≤ 600) : Bt { l := l,atF := 0 } := ⟨by simp,by simp,h⟩
theorem AcZ {d : At} (h : Bt d) (n : Int) (hn : n ≤ 1000000) : Ok (Bq d n) (fun r => Bt r.2 ∧ 0 ≤ r.1 ∧ (r.1 < n ∨ (n < 1 ∧ r.1 = 0))) := by
 have h0 := h.a0
 have h1 := h.a1
 have hl := h.l
 unfold Bq
 refine Ok.ite (fun c => ?_) fun c => ?_
 ·simp only [Bool.or_eq_true,decide_eq_true_eq] at c
  refine Ok.ret ⟨h,by simp,?_⟩
  show (0 : Int) < n ∨ (n < 1 ∧ (0 : Int) = 0)
  omega
 simp only [Bool.or_eq_false_iff,decide_eq_false_iff_not] at c
 have e1 : w64 (d.atF + 1) = d.atF + 1 := Bu (by omega) (by omega)
 have e2 : w64 (d.atF + 1 - 1) = d.atF := by
  rw [Bu (by omega) (by omega)]
  omega
 have hd : Bt { l := d.l,atF := d.atF + 1 } := ⟨by simp only; omega,by simp only; omega,hl⟩
 rw [e1,e2]
 refine Ok.guard (by omega) ?_
 refine Ok.guard (by omega) ?_
 generalize d.l.getD d.atF.toNat 0 = x
 have b1 : Int.tmod x n < n := Int.tmod_lt_of_pos x (by omega)
 have b2 : -n < Int.tmod x n := by
  have := Int.tmod_lt_of_pos (-x) (show 0 < n by omega)
  rw [Int.neg_tmod] at this
  omega
 unfold Ng
 rw [e1]
 refine Ok.ite (fun c2 => ?_) fun c2 => ?_
 ·have := of_decide_eq_true c2
  rw [Bu (by omega) (by omega)]
  refine Ok.ret ⟨hd,?_,?_⟩ <;> simp only <;> omega
 ·have := of_decide_eq_false c2
  refine Ok.ret ⟨hd,?_,?_⟩ <;> simp only <;> omega
theorem Hf {d : At} (h : Bt d) (n : Int) (h1 : 1 ≤ n) (hn : n ≤ 1000000) : Ok (Bq d n) (fun r => Bt r.2 ∧ 0 ≤ r.1 ∧ r.1 < n) :=
 (AcZ h n hn).mono fun r ⟨a,b,c⟩ => ⟨a,b,by omega⟩
theorem AaY {d : At} (h : Bt d) (n : Int) (hn : n ≤ 1000000) : Ok (Fy d n) (fun r => Bt r.2) := by
 unfold Fy
 exact Ok.bind (AcZ h n hn) fun r hr => Ok.ret hr.1
theorem Akr : ∀ s ∈ [(bs [97]),(bs [98]),(bs [99]),(bs [119,101,98]),(bs [100,98,45,49]),(bs [88,95,57])],Dj s = true := by
 intro s hs
 have : ([(bs [97]),(bs [98]),(bs [99]),(bs [119,101,98]),(bs [100,98,45,49]),(bs [88,95,57])].all Dj) = true := by kernel_rfl
 exact List.all_eq_true.mp this s hs
theorem Name_ok {d : At} (h : Bt d) : Ok (Mo d) (fun r => Bt r.2 ∧ Dj r.1 = true) := by
 unfold Mo
 refine Ok.bind (Hf h 6 (by omega) (by omega)) fun r ⟨h1,h2,h3⟩ => ?_
 refine Ok.guard ⟨h2,h3⟩ ?_
 have hlt : r.1.toNat < [(bs [97]),(bs [98]),(bs [99]),(bs [119,101,98]),(bs [100,98,45,49]),(bs [88,95,57])].length := by simp only [List.length_cons,List.length_nil]; omega
 refine Ok.guard hlt (Ok.ret ⟨h1,Akr _ (Agr hlt)⟩)
theorem AdQ {d : At} (h : Bt d) (t : Ae) (ht : t.nodes.length ≤ 1000000) : Ok (Hi d t) (fun r => Bt r.2) := by
 unfold Hi
 refine Ok.bind (AaY h 15 (by omega)) fun r hr => ?_
 have hJ : ∀ b : Bool,(b = false → 0 < t.nodes.length) → Ok (Jl t r b) (fun r => Bt r.2) := by
  intro b hb
  unfold Jl
  refine Ok.ite (fun _ => ?_) fun c => ?_
  ·exact Ok.bind (AcZ hr 9 (by omega)) fun q hq => Ok.ret hq.1
  ·have := hb c
   refine Ok.bind (Hf hr _ (by omega) (by omega)) fun q hq => ?_
   exact Ok.guard ⟨hq.2.1,hq.2.2⟩ (Ok.ret hq.1)
 refine Ok.ite (fun _ => ?_) fun _ => ?_
 ·exact hJ true (by simp)
 ·refine hJ _ fun hb => ?_
  have : ¬ ((t.nodes.length : Nat) : Int) = 0 := by simpa using hb
  omega
theorem AfD {d : At} (h : Bt d) (t : Aa) (ht : t.tasks.length ≤ 1000000) : Ok (Ij d t) (fun r => Bt r.2) := by
 unfold Ij
 refine Ok.bind (AaY h 15 (by omega)) fun r hr => ?_
 have hJ : ∀ b : Bool,(b = false → 0 < t.tasks.length) → Ok (Jy t r b) (fun r => Bt r.2) := by
  intro b hb
  unfold Jy
  refine Ok.ite (fun _ => ?_) fun c => ?_
  ·exact Ok.bind (AcZ hr 9 (by omega)) fun q hq => Ok.ret hq.1
  ·have := hb c
   refine Ok.bind (Hf hr _ (by omega) (by omega)) fun q hq => ?_
   exact Ok.guard ⟨hq.2.1,hq.2.2⟩ (Ok.ret hq.1)
 refine Ok.ite (fun _ => ?_) fun _ => ?_
 ·exact hJ true (by simp)
 ·refine hJ _ fun hb => ?_
  have : ¬ ((t.tasks.length : Nat) : Int) = 0 := by simpa using hb
  omega
theorem Ys {d : At} (h : Bt d) : Ok (Ez d) (fun r => Bt r.2 ∧ -1 ≤ r.1 ∧ r.1 ≤ 32) := by
 unfold Ez
 refine Ok.bind (Hf h 9 (by omega) (by omega)) fun r ⟨h1,h2,h3⟩ => ?_
 refine Ok.guard ⟨h2,h3⟩ ?_
 have hlt : r.1.toNat < [(1 : Int),9,31,2,25,4,0,32,(-1)].length := by simp only [List.length_cons,List.length_nil]; omega
 refine Ok.guard hlt (Ok.ret ⟨h1,?_⟩)
 have hm := Agr (d := (0 : Int)) hlt
 have : ∀ x ∈ [(1 : Int),9,31,2,25,4,0,32,(-1)],-1 ≤ x ∧ x ≤ 32 := by decide
 exact this _ hm
def zT : Ae := { nodes := [],next := 0 }
def Ry (t : Ae) (p : Int) (s : ByteArray) : Ae × Int × Int :=
 if !Dj s then (zT,0,1) else if !Aw t p then (zT,0,4) else if t.nodes.any (fun x => x.parent == p && Co x.name s) then (zT,0,5)
 else if decide (9 ≤ (upT t p).length) || decide (64 ≤ t.nodes.length) || decide (2147483647 < t.next) then (zT,0,7)
 else ({ nodes := t.nodes ++ [{ id := t.next,parent := p,name := s,control := 0,kind := 0,owner := 0 }],next := t.next + 1 },t.next,0)
theorem Alc {t : Ae} (h : WfT t) (p : Int) (s : ByteArray) : Yl t p s = some (Ry t p s) := by
 apply Ok.eq
 have h2 := h.len2
 have hnx := h.nextLe
 unfold Yl
 refine Ok.step (Abq h) ?_
 simp only [Bool.not_true,Bool.false_eq_true,if_false]
 refine Ok.step (AdY s) ?_
 unfold Xr Ry
 refine Ok.ite (fun c => ?_) fun c => ?_
 ·rw [if_pos c]; exact Ok.ret rfl
 rw [if_neg (c := (!Dj s) = true) (by rw [c]; simp)]
 refine Ok.step (Kn h p) ?_
 refine Ok.ite (fun c => ?_) fun c => ?_
 ·rw [if_pos c]; exact Ok.ret rfl
 rw [if_neg (c := (!Aw t p) = true) (by rw [c]; simp)]
 have hp : Aw t p = true := by simpa using c
 refine Ok.guard (by omega) ?_
 refine Ok.range (fun pre _ => pre.any (fun x => x.parent == p && Co x.name s) = false) rfl ?_ ?_
 ·intro pre x post u n he hI hn
  unfold Adw
  refine Ok.ite (fun c => ?_) fun c => ?_
  ·refine Ok.ret ?_
   rw [if_pos]
   ·rfl
   ·rw [he,List.any_append,List.any_cons,c]
    simp
  ·refine hn () ?_
   rw [List.any_append,hI,List.any_cons,c]
   rfl
 ·intro _ hI
  rw [if_neg (by rw [hI]; simp)]
  unfold AdB
  refine Ok.step (Ajx h p) ?_
  have ea : ancN t p = upT t p := by simp [ancN,hp]
  have hb : (upT t p).length ≤ 64 := by
   have := Qx t.nodes.reverse p
   simp at this
   unfold upT
   omega
  rw [ea,Bu (by omega) (by omega)]
  have hJ1 : ∀ c,(c = true → (decide (9 ≤ (upT t p).length) || decide (64 ≤ t.nodes.length) || decide (2147483647 < t.next)) = true) → (c = false → (decide (9 ≤ (upT t p).length) || decide (64 ≤ t.nodes.length) || decide (2147483647 < t.next)) = false) →
    Ok (Qv t p s c) (· = if decide (9 ≤ (upT t p).length) || decide (64 ≤ t.nodes.length) || decide (2147483647 < t.next) then (zT,0,7)
 else ({ nodes := t.nodes ++ [{ id := t.next,parent := p,name := s,control := 0,kind := 0,owner := 0 }],next := t.next + 1 },t.next,0)) := by
   intro c ht hf
   unfold Qv
   refine Ok.ite (fun c => ?_) fun c => ?_
   ·rw [if_pos (ht c)]; exact Ok.ret rfl
   ·rw [if_neg (by rw [hf c]; simp)]
    refine Ok.step (Xh t (by omega)) ?_
    refine Ok.guard (by omega) ?_
    have hn0 : 0 < t.next := by
     obtain ⟨x,r,e,hr⟩ := h.root
     have := h.next x (by rw [e]; simp)
     rw [hr.id] at this
     omega
    rw [Bu (by omega) (by omega)]
    exact Ok.ret rfl
  refine Ok.ite (fun c => ?_) fun c => ?_
  ·have := of_decide_eq_true c
   refine hJ1 true (fun _ => ?_) (by simp)
   have : 9 ≤ (upT t p).length := by omega
   simp [this]
  ·have h9 := of_decide_eq_false c
   refine Ok.ite (fun c => ?_) fun c => ?_
   ·have := of_decide_eq_true c
    refine hJ1 true (fun _ => ?_) (by simp)
    have : 64 ≤ t.nodes.length := by omega
    simp [this]
   ·have h64 := of_decide_eq_false c
    have a : ¬ 9 ≤ (upT t p).length := by omega
    have b : ¬ 64 ≤ t.nodes.length := by omega
    refine hJ1 _ (fun c => ?_) fun c => ?_
    ·have := of_decide_eq_true c
     have : 2147483647 < t.next := by omega
     simp [this]
    ·have := of_decide_eq_false c
     have : ¬ 2147483647 < t.next := by omega
     simp [this,a,b]
theorem Abl {L : List Ag} {x : Ag} {id : Int} (h : x.id ≠ id) : upR (L ++ [x]).reverse id = upR L.reverse id := by
 rw [List.reverse_append]
 exact Aar (A := [x].reverse) (by simpa using h)
theorem addT_wf {t : Ae} (h : WfT t) {p : Int} {s : ByteArray} {r : Ae × Int × Int} (e : Ry t p s = r) (hr : r.2.2 = 0) : WfT r.1 := by
 have h2 := h.len2
 unfold Ry at e
 split at e
 ·subst e; simp at hr
 split at e
 ·subst e; simp at hr
 split at e
 ·subst e; simp at hr
 split at e
 ·subst e; simp at hr
 rename_i hv hh ha hc
 subst e
 have hv' : Dj s = true := by simpa using hv
 have hh' : Aw t p = true := by simpa using hh
 obtain ⟨y,hy,hyp⟩ := hasN_iff.mp hh'
 simp only [Bool.or_eq_true,decide_eq_true_eq,not_or] at hc
 have ha' : ∀ x ∈ t.nodes,x.parent = p → Co x.name s = false := by
  intro x hx hp
  cases hb : Co x.name s
  ·rfl
  ·exact absurd (List.any_eq_true.mpr ⟨x,hx,by simp [hp,hb]⟩) ha
 have hnext := h.next
 refine WfT.mk' (.snoc _ _ h.p ⟨.inl rfl,by simp,by simp,by simp,by simp⟩ ⟨hnext,hv',⟨y,hy,hyp⟩,ha'⟩) (by simp; omega) ?_ ?_ (by simp only; omega)
 ·intro x hx
  rcases List.mem_append.mp hx with hx | hx
  ·have := h.depth x hx
   unfold upT at this ⊢
   simp only
   have hlt := hnext x hx
   rw [Abl (by simp only; omega)]
   exact this
  ·simp at hx
   subst hx
   unfold upT
   simp only [List.reverse_append,List.reverse_cons,List.reverse_nil,List.nil_append,List.singleton_append]
   rw [upR,if_pos (by simp)]
   have := hc.1.1
   unfold upT at this
   simp; omega
 ·intro x hx
  simp only
  rcases List.mem_append.mp hx with hx | hx
  ·have := hnext x hx
   omega
  ·simp at hx
   subst hx
   simp only
   omega
end Go.Dm

/- Plain theory, part 6: nodes that are removed or replaced; made trees. -/
namespace Go.Dm
def Ke (t : Ae) (id : Int) : Ae × Int :=
 if !Aw t id then (zT,4) else if id == 1 then (zT,9) else if decide (0 < (En t id).length) then (zT,6)
 else ({ nodes := t.nodes.filter (fun x => x.id != id),next := t.next },0)
theorem AiJ {t : Ae} (h : WfT t) (id : Int) : Vd t id = some (Ke t id) := by
 apply Ok.eq
 have h2 := h.len2
 unfold Vd Ke
 refine Ok.step (Abq h) ?_
 simp only [Bool.not_true,Bool.false_eq_true,if_false]
 refine Ok.step (Kn h id) ?_
 refine Ok.ite (fun c => ?_) fun c => ?_
 ·rw [if_pos c]; exact Ok.ret rfl
 rw [if_neg (c := (!Aw t id) = true) (by rw [c]; simp)]
 have hp : Aw t id = true := by simpa using c
 refine Ok.ite (fun c => ?_) fun c => ?_
 ·rw [if_pos c]; exact Ok.ret rfl
 rw [if_neg (c := (id == 1) = true) (by rw [c]; simp)]
 refine Ok.step (Xj h id) ?_
 rw [if_pos hp]
 refine Ok.ite (fun c => ?_) fun c => ?_
 ·have := of_decide_eq_true c
  have : 0 < (En t id).length := by omega
  rw [if_pos (c := decide (0 < (En t id).length) = true) (by simp [this])]; exact Ok.ret rfl
 have := of_decide_eq_false c
 have : ¬ 0 < (En t id).length := by omega
 rw [if_neg (c := decide (0 < (En t id).length) = true) (by simp [this])]
 refine Ok.guard (by omega) ?_
 have e := Jp (p := fun x : Ag => x.id != id) (f := fun x : Ag => x) (xs := t.nodes) (s0 := []) (r := Vr t) (body := Vo id) (done := Vr t) (fun k x s n hs => by
  unfold Vo Ro
  rw [if_pos hs]) (fun _ => rfl) (by simp; omega)
 rw [e]
 refine Ok.ret ?_
 simp
theorem AgR {A : List Ag} {id k : Int} (hk : k ≠ id) (h : ∀ x ∈ A,x.parent ≠ id) : upR (A.filter (fun x => x.id != id)) k = upR A k := by
 induction A generalizing k with
 | nil => rfl
 | cons a r ih =>
  have hr : ∀ x ∈ r,x.parent ≠ id := fun x hx => h x (by simp [hx])
  rw [List.filter_cons]
  by_cases e : a.id = id
  ·rw [if_neg (by simp [e]),ih hk hr,upR,if_neg (by simp; omega)]
  ·rw [if_pos (by simp [e]),upR,upR]
   by_cases q : a.id = k
   ·rw [if_pos (by simp [q]),if_pos (by simp [q]),ih (h a (by simp)) hr]
   ·rw [if_neg (by simp [q]),if_neg (by simp [q]),ih hk hr]
theorem WfP.remove {L : List Ag} (h : WfP L) {id : Int} (h1 : id ≠ 1) (hk : ∀ x ∈ L,x.parent ≠ id) : WfP (L.filter (fun x => x.id != id)) := by
 induction h with
 | root x v r =>
  have : (x.id != id) = true := by simp [r.id]; omega
  simp only [List.filter_cons,this,if_true,List.filter_nil]
  exact .root x v r
 | snoc L x w v s ih =>
  have hw := ih fun y hy => hk y (by simp [hy])
  rw [List.filter_append]
  by_cases e : x.id = id
  ·have : [x].filter (fun x => x.id != id) = [] := by simp [e]
   rw [this,List.append_nil]
   exact hw
  ·have : [x].filter (fun x => x.id != id) = [x] := by simp [e]
   rw [this]
   refine .snoc _ x hw v ⟨fun y hy => s.lt y (List.mem_filter.mp hy).1,s.valid,?_,fun y hy => s.fresh y (List.mem_filter.mp hy).1⟩
   obtain ⟨y,hy,hyp⟩ := s.parent
   refine ⟨y,List.mem_filter.mpr ⟨hy,?_⟩,hyp⟩
   have := hk x (by simp)
   simp only [bne_iff_ne]
   omega
theorem Ahl {t : Ae} (h : WfT t) {id : Int} {r : Ae × Int} (e : Ke t id = r) (hr : r.2 = 0) : WfT r.1 := by
 have h2 := h.len2
 unfold Ke at e
 split at e
 ·subst e; simp at hr
 split at e
 ·subst e; simp at hr
 split at e
 ·subst e; simp at hr
 rename_i hh h1 hk
 subst e
 have h1' : id ≠ 1 := by simpa using h1
 have hk' : ∀ x ∈ t.nodes,x.parent ≠ id := by
  intro x hx hp
  have hk : ¬ 0 < (En t id).length := by simpa using hk
  have : x.id ∈ En t id := by
   unfold En
   exact List.mem_map.mpr ⟨x,List.mem_filter.mpr ⟨hx,by simp [hp]⟩,rfl⟩
  have := List.length_pos_of_mem this
  omega
 refine WfT.mk' (h.p.remove h1' hk') (Nat.le_trans (List.length_filter_le _ _) h2) ?_ (fun x hx => h.next x (List.mem_filter.mp hx).1) h.nextLe
 intro x hx
 have hx' := List.mem_filter.mp hx
 have := h.depth x hx'.1
 unfold upT at this ⊢
 simp only
 rw [← List.filter_reverse,AgR (by simpa using hx'.2) (fun y hy => hk' y (by simpa using hy))]
 exact this
def Lh (x y : Ag) : Ag := if y.id == x.id then x else y
def setT (t : Ae) (x : Ag) : Ae := { nodes := t.nodes.map (Lh x),next := t.next }
theorem Ux (t : Ae) (x : Ag) (hl : t.nodes.length ≤ 1000000) : Wb t x = some (setT t x) := by
 apply Ok.eq
 unfold Wb
 refine Ok.step (Xh t (by omega)) ?_
 refine Ok.while (fun s => ∃ m : Nat,s.2 = (m : Int) ∧ m ≤ t.nodes.length ∧ s.1 = (t.nodes.take m).map (Lh x) ++ t.nodes.drop m) (fun s => (((t.nodes.length : Nat) : Int) - s.2).toNat) ?_ ?_ ?_
 ·exact ⟨0,rfl,by omega,by simp⟩
 ·rw [Nu]; simp only; omega
 rintro ⟨L,c⟩ n ⟨m,hc,hm,he⟩ hn
 simp only at hc he hn
 subst hc
 have hlen : L.length = t.nodes.length := by
  rw [he]; simp; omega
 unfold AdM Wu
 simp only
 rw [hlen]
 refine Ok.ite (fun c => ?_) fun c => ?_
 ·have hlt := of_decide_eq_true c
  have hlt' : m < t.nodes.length := by omega
  have em : Int.toNat (m : Int) = m := by omega
  rw [em]
  refine Ok.guard (by omega) ?_
  refine Ok.guard hlt' ?_
  have hw : w64 ((m : Int) + 1) = ((m + 1 : Nat) : Int) := by
   rw [Bu (by omega) (by omega)]; omega
  have hd : t.nodes.drop m = t.nodes[m] :: t.nodes.drop (m + 1) := List.drop_eq_getElem_cons hlt'
  have hg : L.getD m default = t.nodes[m] := by
   rw [he,hd,List.getD_eq_getElem?_getD,List.getElem?_append_right (by simp; omega)]
   have : m - (List.map (Lh x) (List.take m t.nodes)).length = 0 := by simp; omega
   rw [this]
   rfl
  have ht : (t.nodes.take (m + 1)).map (Lh x) ++ t.nodes.drop (m + 1) = (t.nodes.take m).map (Lh x) ++ Lh x t.nodes[m] :: t.nodes.drop (m + 1) := by
   have : t.nodes.take (m + 1) = t.nodes.take m ++ [t.nodes[m]] := by
    rw [List.take_add_one]; simp [hlt']
   rw [this,List.map_append,List.append_assoc]
   rfl
  have hml : (List.map (Lh x) (List.take m t.nodes)).length = m := by
   rw [List.length_map,List.length_take]; omega
  rw [hg,hw]
  refine Ok.ite (fun c => ?_) fun c => ?_
  ·refine Ok.guard (by omega) ?_
   refine Ok.guard hlt' ?_
   refine hn _ ⟨m + 1,rfl,by omega,?_⟩ (by simp only; omega)
   simp only
   rw [ht,he,hd,List.set_append_right _ _ (by omega),hml,Nat.sub_self,List.set_cons_zero,Lh,if_pos c]
  ·refine hn _ ⟨m + 1,rfl,by omega,?_⟩ (by simp only; omega)
   simp only
   rw [ht,he,hd]
   simp [Lh,c]
 ·have := of_decide_eq_false c
  obtain rfl : m = t.nodes.length := by omega
  refine Ok.ret ?_
  simp [he,setT]
theorem upR_map {A : List Ag} {f : Ag → Ag} {k : Int} (h : ∀ y ∈ A,(f y).id = y.id ∧ (f y).parent = y.parent) : upR (A.map f) k = upR A k := by
 induction A generalizing k with
 | nil => rfl
 | cons a r ih =>
  have h1 := h a (by simp)
  rw [List.map_cons,upR,upR,h1.1,h1.2,ih fun y hy => h y (by simp [hy]),ih fun y hy => h y (by simp [hy])]
theorem WfP.map {L : List Ag} (h : WfP L) {f : Ag → Ag} (hf : ∀ y ∈ L,(f y).id = y.id ∧ (f y).parent = y.parent ∧ (f y).name = y.name ∧ Sg (f y) ∧ (y.id = 1 → (f y).kind = 0)) : WfP (L.map f) := by
 induction h with
 | root x v r =>
  obtain ⟨h1,h2,h3,h4,h5⟩ := hf x (by simp)
  exact .root _ h4 ⟨by rw [h1,r.id],by rw [h2,r.parent],by rw [h3,r.name],h5 r.id⟩
 | snoc L x w v s ih =>
  have hw := ih fun y hy => hf y (by simp [hy])
  obtain ⟨h1,h2,h3,h4,h5⟩ := hf x (by simp)
  have hL : ∀ y ∈ L,(f y).id = y.id ∧ (f y).parent = y.parent ∧ (f y).name = y.name := fun y hy => by
   obtain ⟨a,b,c,_⟩ := hf y (by simp [hy])
   exact ⟨a,b,c⟩
  rw [List.map_append,List.map_cons,List.map_nil]
  refine .snoc _ _ hw h4 ⟨?_,by rw [h3]; exact s.valid,?_,?_⟩
  ·intro y hy
   obtain ⟨z,hz,rfl⟩ := List.mem_map.mp hy
   rw [(hL z hz).1,h1]
   exact s.lt z hz
  ·obtain ⟨z,hz,hzp⟩ := s.parent
   exact ⟨f z,List.mem_map.mpr ⟨z,hz,rfl⟩,by rw [(hL z hz).1,h2,hzp]⟩
  ·intro y hy
   obtain ⟨z,hz,rfl⟩ := List.mem_map.mp hy
   rw [(hL z hz).2.1,(hL z hz).2.2,h2,h3]
   exact s.fresh z hz
theorem WfT.map {t : Ae} (h : WfT t) {f : Ag → Ag} (hf : ∀ y ∈ t.nodes,(f y).id = y.id ∧ (f y).parent = y.parent ∧ (f y).name = y.name ∧ Sg (f y) ∧ (y.id = 1 → (f y).kind = 0)) : WfT { nodes := t.nodes.map f,next := t.next } := by
 refine WfT.mk' (h.p.map hf) (by simp; exact h.len2) ?_ ?_ h.nextLe
 ·intro x hx
  obtain ⟨z,hz,rfl⟩ := List.mem_map.mp hx
  have := h.depth z hz
  unfold upT at this ⊢
  simp only
  rw [← List.map_reverse,upR_map (fun y hy => ⟨(hf y (by simpa using hy)).1,(hf y (by simpa using hy)).2.1⟩),(hf z hz).1]
  exact this
 ·intro x hx
  obtain ⟨z,hz,rfl⟩ := List.mem_map.mp hx
  simp only
  rw [(hf z hz).1]
  exact h.next z hz
theorem setT_wf {t : Ae} (h : WfT t) {x y : Ag} (hy : y ∈ t.nodes) (h1 : x.id = y.id) (h2 : x.parent = y.parent) (h3 : x.name = y.name) (h4 : Sg x) (h5 : y.id = 1 → x.kind = 0) : WfT (setT t x) := by
 refine h.map fun z hz => ?_
 unfold Lh
 by_cases e : z.id = x.id
 ·obtain rfl : z = y := Xn h.sorted hz hy (by omega)
  rw [if_pos (by simp [e])]
  exact ⟨h1,h2,h3,h4,h5⟩
 ·rw [if_neg (by simpa using e)]
  refine ⟨rfl,rfl,rfl,h.p.val z hz,fun q => ?_⟩
  rcases h.p.par z hz with ⟨_,r⟩ | ⟨a,b,_⟩
  ·exact r.kind
  ·omega
def newT : Ae := { nodes := [{ id := 1,parent := 0,name := ByteArray.empty,control := 0,kind := 0,owner := 0 }],next := 2 }
theorem Akg : Abn = some newT := rfl
theorem newT_wf : WfT newT := by
 refine WfT.mk' (.root _ ⟨.inl rfl,by simp,by simp,by simp,by simp⟩ ⟨rfl,rfl,Acc _,rfl⟩) (by simp [newT]) ?_ ?_ (by simp [newT])
 ·intro x hx
  have := Qx newT.nodes.reverse x.id
  simp [newT] at this
  simp [upT,newT]
  omega
 ·intro x hx
  simp [newT] at hx
  subst hx
  simp [newT]
end Go.Dm

/- Plain theory, part 7: hierarchies that Check accepts. -/
namespace Go.Dm
def zK : Am := { id := 0,process := 0,group := 0,user := 0 }
def Bg (L : List Am) (id : Int) : Option Am := L.find? (fun x => x.id == id)
theorem AhX (L : List Am) (p : Int) (hl : L.length ≤ 1000000) : Vk L p = some ((Bg L p).elim (zK,false) (fun x => (x,x.process == p))) := by
 unfold Vk
 rw [if_pos (by omega)]
 exact Hw (fun k x n => rfl) rfl
structure TaskV (h : Aa) (x : Am) : Prop where
 pos : 1 ≤ x.id
 grp : Aw h.tree x.group = true
 u1 : 0 ≤ x.user
 u2 : x.user ≤ 1048576
 ldr : ∃ p,Bg h.tasks x.process = some p ∧ p.process = x.process ∧ p.user = x.user
structure WfH (h : Aa) : Prop where
 tree : WfT h.tree
 len : h.tasks.length ≤ 128
 n1 : 1 ≤ h.next
 n2 : h.next ≤ 2147483648
 sorted : h.tasks.Pairwise (fun a b => a.id < b.id)
 lt : ∀ x ∈ h.tasks,x.id < h.next
 val : ∀ x ∈ h.tasks,TaskV h x
theorem Aap (h : Aa) : Ok (Gj h) (fun b => b = true ↔ WfH h) := by
 have bad : ¬ WfH h → Ok (some false) (fun b => b = true ↔ WfH h) := fun hn => Ok.ret ⟨fun e => by simp at e,fun w => absurd w hn⟩
 unfold Gj
 refine Ok.bind (Aao h.tree) fun b hb => ?_
 unfold Jh
 refine Ok.ite (fun c => ?_) fun c => ?_
 ·have : ¬ WfT h.tree := fun w => by have := hb.mpr w; simp [this] at c
  exact bad fun w => this w.tree
 have wt : WfT h.tree := hb.mp (by simpa using c)
 refine Ok.ite (fun c => ?_) fun c => ?_
 ·have := of_decide_eq_true c
  exact bad fun w => by have := w.len; omega
 have hl : h.tasks.length ≤ 128 := by
  have := of_decide_eq_false c
  omega
 refine Ok.ite (fun c => ?_) fun c => ?_
 ·have := of_decide_eq_true c
  exact bad fun w => by have := w.n1; omega
 have hn1 := of_decide_eq_false c
 refine Ok.ite (fun c => ?_) fun c => ?_
 ·have := of_decide_eq_true c
  exact bad fun w => by have := w.n2; omega
 have hn2 := of_decide_eq_false c
 have loop : (∀ x ∈ h.tasks.getLast?,x.id < h.next) → Ok (if h.tasks.length ≤ 9223372036854775807 then Bd (Xe h) AbA h.tasks 0 () else none) (fun b => b = true ↔ WfH h) := by
  intro hlast
  refine Ok.guard (by omega) ?_
  refine Ok.range (fun pre _ => pre.Pairwise (fun a b => a.id < b.id) ∧ ∀ x ∈ pre,TaskV h x) (by simp) ?_ ?_
  ·intro pre x post s n he hI hn
   have hx : x ∈ h.tasks := by rw [he]; simp
   unfold Xe
   refine Ok.step (AhX h.tasks x.process (by omega)) ?_
   have hJt : ¬ WfH h → Ok (Bz n true) (fun b => b = true ↔ WfH h) := bad
   refine Ok.ite (fun c => ?_) fun c => ?_
   ·have := of_decide_eq_true c
    exact hJt fun w => by have := (w.val x hx).pos; omega
   have hpos := of_decide_eq_false c
   have tail : (∀ y ∈ pre,y.id < x.id) → Ok (Option.bind (Fo h.tree x.group) fun r51 => (if (!r51) then ((Bz n) true) else (if (decide (x.user < 0)) then ((Bz n) true) else (if (decide (x.user > 1048576)) then ((Bz n) true) else (if (!((Bg h.tasks x.process).elim (zK,false) (fun y => (y,y.process == x.process))).2) then ((Bz n) true) else ((Bz n) (((Bg h.tasks x.process).elim (zK,false) (fun y => (y,y.process == x.process))).1.user != x.user))))))) (fun b => b = true ↔ WfH h) := by
    intro hlt
    refine Ok.step (Kn wt x.group) ?_
    refine Ok.ite (fun c => ?_) fun c => ?_
    ·exact hJt fun w => by have := (w.val x hx).grp; simp [this] at c
    have hg : Aw h.tree x.group = true := by simpa using c
    refine Ok.ite (fun c => ?_) fun c => ?_
    ·have := of_decide_eq_true c
     exact hJt fun w => by have := (w.val x hx).u1; omega
    have hu1 := of_decide_eq_false c
    refine Ok.ite (fun c => ?_) fun c => ?_
    ·have := of_decide_eq_true c
     exact hJt fun w => by have := (w.val x hx).u2; omega
    have hu2 := of_decide_eq_false c
    cases hk : Bg h.tasks x.process with
    | none =>
     simp only [Option.elim_none]
     exact hJt fun w => by
      obtain ⟨p,hp,_⟩ := (w.val x hx).ldr
      rw [hk] at hp
      simp at hp
    | some p =>
     simp only [Option.elim_some]
     refine Ok.ite (fun c => ?_) fun c => ?_
     ·exact hJt fun w => by
       obtain ⟨q,hq,hq2,_⟩ := (w.val x hx).ldr
       rw [hk] at hq
       obtain rfl : p = q := by simpa using hq
       simp [hq2] at c
     have hp2 : p.process = x.process := by simpa using c
     unfold Bz
     refine Ok.ite (fun c => ?_) fun c => ?_
     ·refine bad fun w => ?_
      obtain ⟨q,hq,_,hq3⟩ := (w.val x hx).ldr
      rw [hk] at hq
      obtain rfl : p = q := by simpa using hq
      simp [hq3] at c
     have hp3 : p.user = x.user := by simpa using c
     refine hn () ⟨?_,?_⟩
     ·rw [List.pairwise_append]
      exact ⟨hI.1,by simp,fun a ha b hb => by simp at hb; subst hb; exact hlt a ha⟩
     ·intro y hy
      rcases List.mem_append.mp hy with hy | hy
      ·exact hI.2 y hy
      ·obtain rfl : y = x := by simpa using hy
       exact ⟨by omega,hg,by omega,by omega,p,hk,hp2,hp3⟩
   refine Ok.ite (fun c => ?_) fun c => ?_
   ·have hk := of_decide_eq_true c
    rcases Ow pre with rfl | ⟨pr,y,rfl⟩
    ·simp at hk
    have hw : w64 (((pr ++ [y]).length : Int) - 1) = (pr.length : Int) := by
     have : (pr ++ [y]).length ≤ h.tasks.length := by rw [he]; simp
     rw [Bu (by omega) (by omega)]
     simp
    have hle : pr.length < h.tasks.length := by rw [he]; simp
    have ey : h.tasks.getD (Int.toNat (pr.length : Int)) default = y := by
     rw [he,show Int.toNat (pr.length : Int) = pr.length by omega]
     exact AdX
    rw [hw,ey]
    refine Ok.guard (by omega) ?_
    refine Ok.ite (fun c => ?_) fun c => ?_
    ·have := of_decide_eq_true c
     refine hJt fun w => ?_
     have hs := w.sorted
     rw [he,List.pairwise_append] at hs
     have := hs.2.2 y (by simp) x (by simp)
     omega
    ·have hyx := of_decide_eq_false c
     refine tail fun z hz => ?_
     rcases List.mem_append.mp hz with hz | hz
     ·have := hI.1
      rw [List.pairwise_append] at this
      have := this.2.2 z hz y (by simp)
      omega
     ·obtain rfl : z = y := by simpa using hz
      omega
   ·have hk := of_decide_eq_false c
    have : pre = [] := List.length_eq_zero_iff.mp (by omega)
    subst this
    exact tail (by simp)
  ·intro _ hI
   refine Ok.ret ⟨fun _ => ⟨wt,hl,by omega,by omega,hI.1,?_,hI.2⟩,fun _ => rfl⟩
   intro x hx
   rcases Ow h.tasks with e | ⟨P,y,e⟩
   ·rw [e] at hx; simp at hx
   ·have hy := hlast y (by rw [e]; simp)
    have hp := hI.1
    rw [e] at hp hx
    rw [List.pairwise_append] at hp
    rcases List.mem_append.mp hx with hx | hx
    ·have := hp.2.2 x hx y (by simp)
     omega
    ·obtain rfl : x = y := by simpa using hx
     exact hy
 refine Ok.ite (fun c => ?_) fun c => ?_
 ·have hpos := of_decide_eq_true c
  have hw : w64 ((h.tasks.length : Int) - 1) = ((h.tasks.length - 1 : Nat) : Int) := by
   rw [Bu (by omega) (by omega)]
   omega
  rw [hw]
  refine Ok.guard (by omega) ?_
  have : Int.toNat ((h.tasks.length - 1 : Nat) : Int) = h.tasks.length - 1 := by omega
  rw [this,Pr (by omega)]
  refine Ok.ite (fun c => ?_) fun c => ?_
  ·have := of_decide_eq_true c
   exact bad fun w => by have := w.lt _ (List.getElem_mem (show h.tasks.length - 1 < h.tasks.length by omega)); omega
  ·have := of_decide_eq_false c
   refine loop fun x hx => ?_
   rw [List.getLast?_eq_getElem?] at hx
   have e : h.tasks[h.tasks.length - 1]? = some h.tasks[h.tasks.length - 1] := List.getElem?_eq_getElem (by omega)
   rw [e] at hx
   obtain rfl : h.tasks[h.tasks.length - 1] = x := by simpa using hx
   omega
 ·have := of_decide_eq_false c
  have e : h.tasks = [] := List.length_eq_zero_iff.mp (by omega)
  exact loop (by rw [e]; simp)
theorem Ky {h : Aa} (w : WfH h) : Gj h = some true := by
 obtain ⟨b,hb,e⟩ := Aap h
 rw [hb,e.mpr w]
theorem Abh {h : Aa} (w : ¬ WfH h) : Gj h = some false := by
 obtain ⟨b,hb,e⟩ := Aap h
 cases b
 ·exact hb
 ·exact absurd (e.mp rfl) w
theorem Vl {h : Aa} (w : WfH h) (id : Int) : Hj h id = some ((Bg h.tasks id).elim (zK,false) (fun x => (x,true))) := by
 unfold Hj
 rw [Ky w]
 have := w.len
 simp only [Option.bind_some,Bool.not_true,Bool.false_eq_true,if_false]
 rw [if_pos (by omega)]
 exact Hw (fun k x n => rfl) rfl
theorem Aku {h : Aa} (w : ¬ WfH h) (id : Int) : Hj h id = some (zK,false) := by
 unfold Hj
 rw [Abh w]
 rfl
def tasksK (h : Aa) (g : Int) : List Int := (h.tasks.filter (fun x => x.group == g)).map (·.id)
theorem Sp {h : Aa} (w : WfH h) (g : Int) : Ha h g = some (tasksK h g) := by
 unfold Ha
 rw [Ky w]
 have := w.len
 simp only [Option.bind_some,Bool.not_true,Bool.false_eq_true,if_false]
 rw [if_pos (by omega)]
 refine (Jp (p := fun x : Am => x.group == g) (f := fun x : Am => x.id) (r := some) ?_ (fun _ => rfl) (by simp; omega)).trans (by simp [tasksK])
 intro k x s n hs
 unfold AbL Ta
 rw [if_pos hs]
theorem Ajy {h : Aa} (w : ¬ WfH h) (g : Int) : Ha h g = some [] := by
 unfold Ha
 rw [Abh w]
 rfl
theorem Za {L : List Am} (h : L.Pairwise (fun a b => a.id < b.id)) {x y : Am} (hx : x ∈ L) (hy : y ∈ L) (e : x.id = y.id) : x = y := by
 induction L with
 | nil => simp at hx
 | cons a r ih =>
  rw [List.pairwise_cons] at h
  rcases List.mem_cons.mp hx with ex | hx' <;> rcases List.mem_cons.mp hy with ey | hy'
  ·rw [ex,ey]
  ·have := h.1 y hy'; rw [ex] at e; omega
  ·have := h.1 x hx'; rw [ey] at e; omega
  ·exact ih h.2 hx' hy'
theorem Mg {L : List Am} {id : Int} {x : Am} (h : Bg L id = some x) : x ∈ L ∧ x.id = id :=
 ⟨List.mem_of_find?_eq_some h,by have := List.find?_some h; simpa using this⟩
theorem AaT {L : List Am} (hs : L.Pairwise (fun a b => a.id < b.id)) {x : Am} (h : x ∈ L) : Bg L x.id = some x := by
 unfold Bg
 cases hf : L.find? (fun y => y.id == x.id) with
 | none =>
  rw [List.find?_eq_none] at hf
  have := hf x h
  simp at this
 | some y =>
  have h1 := List.mem_of_find?_eq_some hf
  have h2 := List.find?_some hf
  rw [Za hs h1 h (by simpa using h2)]
theorem getK_iff {L : List Am} (hs : L.Pairwise (fun a b => a.id < b.id)) {id : Int} {x : Am} : Bg L id = some x ↔ x ∈ L ∧ x.id = id :=
 ⟨Mg,fun ⟨h1,h2⟩ => by rw [← h2]; exact AaT hs h1⟩
end Go.Dm

/- Plain theory, part 8: tasks that come, go and move. -/
namespace Go.Dm
theorem AjQ {α : Type} {M : List α} {m : Nat} {d : α} (h : m < M.length) : M.set m (M.getD m d) = M := by
 rw [Pr h]
 exact List.set_getElem_self h
theorem while_map {α R : Type} {f : α → α} {L : List α} {d : α} {body : List α × Int → (List α × Int → Option R) → Option R} {ret : List α → Option R} (hl : L.length ≤ 1000000)
  (hb : ∀ (M : List α) (m : Nat) n,M.length = L.length → m < L.length → body (M,(m : Int)) n = n (M.set m (f (M.getD m d)),((m + 1 : Nat) : Int)))
  (hr : ∀ (M : List α) n,M.length = L.length → body (M,(L.length : Int)) n = ret M) : whileO body Fu (L,0) = ret (L.map f) := by
 have key : ∀ (r m F : Nat),m + r = L.length → r < F → whileO body F ((L.take m).map f ++ L.drop m,(m : Int)) = ret (L.map f) := by
  intro r
  induction r with
  | zero =>
   intro m F hm hF
   obtain ⟨F,rfl⟩ : ∃ G,F = G + 1 := ⟨F - 1,by omega⟩
   obtain rfl : m = L.length := by omega
   rw [whileO,hr _ _ (by simp)]
   simp
  | succ r ih =>
   intro m F hm hF
   obtain ⟨F,rfl⟩ : ∃ G,F = G + 1 := ⟨F - 1,by omega⟩
   have hlt : m < L.length := by omega
   rw [whileO,hb _ _ _ (by simp; omega) hlt]
   have hd : L.drop m = L[m] :: L.drop (m + 1) := List.drop_eq_getElem_cons hlt
   have hml : (List.map f (List.take m L)).length = m := by
    rw [List.length_map,List.length_take]; omega
   have hg : ((L.take m).map f ++ L.drop m).getD m d = L[m] := by
    rw [hd,List.getD_eq_getElem?_getD,List.getElem?_append_right (by omega),hml,Nat.sub_self]
    rfl
   have ht : (L.take (m + 1)).map f ++ L.drop (m + 1) = (L.take m).map f ++ f L[m] :: L.drop (m + 1) := by
    have : L.take (m + 1) = L.take m ++ [L[m]] := by
     rw [List.take_add_one]; simp [hlt]
    rw [this,List.map_append,List.append_assoc]
    rfl
   rw [hg,hd,List.set_append_right _ _ (by omega),hml,Nat.sub_self,List.set_cons_zero,← ht]
   exact ih (m + 1) F (by omega) (by omega)
 have := key L.length 0 Fu (by omega) (by rw [Nu]; omega)
 simpa using this
def zH : Aa := { tree := zT,tasks := [],next := 0 }
theorem Py (h : Aa) (h1 : h.tree.nodes.length ≤ 1000000) (h2 : h.tasks.length ≤ 1000000) : Og h = some h := by
 unfold Og
 rw [Xh _ (by omega),Option.bind_some,if_pos (by omega)]
def addK (h : Aa) (x : Am) : Aa × Int × Int :=
 if decide (128 ≤ h.tasks.length) || decide (2147483647 < h.next) then (zH,0,7)
 else ({ tree := h.tree,tasks := h.tasks ++ [{ id := h.next,process := if x.process == 0 then h.next else x.process,group := x.group,user := x.user }],next := h.next + 1 },h.next,0)
theorem Aht {h : Aa} (w : WfH h) (x : Am) : Yq h x = some (addK h x) := by
 have hl := w.len
 have h2 := w.tree.len2
 have hn := w.n1
 have hm := w.n2
 apply Ok.eq
 unfold Yq addK
 refine Ok.ite (fun c => ?_) fun c => ?_
 ·simp only [Bool.or_eq_true,decide_eq_true_eq] at c
  rw [if_pos]
  ·exact Ok.ret rfl
  ·simp only [Bool.or_eq_true,decide_eq_true_eq]
   omega
 ·simp only [Bool.or_eq_false_iff,decide_eq_false_iff_not] at c
  rw [if_neg]
  ·refine Ok.step (Py h (by omega) (by omega)) ?_
   unfold Xa
   rw [Bu (by omega) (by omega)]
   refine Ok.ite (fun c => ?_) fun c => ?_
   ·rw [if_pos (c := (x.process == 0) = true) c]
    exact Ok.guard (by omega) (Ok.ret rfl)
   ·rw [if_neg (c := (x.process == 0) = true) (by rw [c]; simp)]
    exact Ok.guard (by omega) (Ok.ret rfl)
  ·simp only [Bool.or_eq_true,decide_eq_true_eq]
   omega
theorem Uy {L M : List Am} {p : Int} : Bg (L ++ M) p = (Bg L p).or (Bg M p) := by
 unfold Bg
 rw [List.find?_append]
theorem addK_wf {h : Aa} (w : WfH h) {x : Am} (hg : Aw h.tree x.group = true) (u1 : 0 ≤ x.user) (u2 : x.user ≤ 1048576) (hp : x.process = 0 ∨ x ∈ h.tasks) {r : Aa × Int × Int} (e : addK h x = r) (hr : r.2.2 = 0) : WfH r.1 := by
 have hl := w.len
 have hn := w.n1
 have hm := w.n2
 unfold addK at e
 split at e
 ·subst e; simp at hr
 rename_i hc
 simp only [Bool.or_eq_true,decide_eq_true_eq,not_or] at hc
 subst e
 have hlt := w.lt
 refine ⟨w.tree,by simp; omega,by simp only; omega,by simp only; omega,?_,?_,?_⟩
 ·rw [List.pairwise_append]
  exact ⟨w.sorted,by simp,fun a ha b hb => by simp at hb; subst hb; exact hlt a ha⟩
 ·intro y hy
  simp only
  rcases List.mem_append.mp hy with hy | hy
  ·have := hlt y hy
   omega
  ·simp at hy; subst hy; simp only; omega
 ·intro y hy
  rcases List.mem_append.mp hy with hy | hy
  ·have v := w.val y hy
   obtain ⟨p,q1,q2,q3⟩ := v.ldr
   exact ⟨v.pos,v.grp,v.u1,v.u2,p,by simp only; rw [Uy,q1]; rfl,q2,q3⟩
  ·rw [List.mem_singleton] at hy
   subst hy
   refine ⟨by simp only; omega,hg,u1,u2,?_⟩
   simp only
   have hq : (x.process = 0 ∧ (if (x.process == 0) = true then h.next else x.process) = h.next) ∨ (x.process ≠ 0 ∧ (if (x.process == 0) = true then h.next else x.process) = x.process) := by
    by_cases h0 : x.process = 0
    ·exact .inl ⟨h0,by rw [if_pos (by simp [h0])]⟩
    ·exact .inr ⟨h0,by rw [if_neg (by simpa using h0)]⟩
   generalize (if (x.process == 0) = true then h.next else x.process) = q at hq
   rcases hq with ⟨h0,rfl⟩ | ⟨h0,rfl⟩
   ·refine ⟨{ id := h.next,process := h.next,group := x.group,user := x.user },?_,rfl,rfl⟩
    rw [Uy]
    have : Bg h.tasks h.next = none := by
     unfold Bg
     rw [List.find?_eq_none]
     intro z hz
     have := hlt z hz
     simp; omega
    rw [this]
    simp [Bg]
   ·have v := w.val x (by rcases hp with h | h; exact absurd h h0; exact h)
    obtain ⟨p,q1,q2,q3⟩ := v.ldr
    exact ⟨p,by rw [Uy,q1]; rfl,q2,q3⟩
def Vi (h : Aa) (g u : Int) : Aa × Int × Int :=
 if decide (u < 0) || decide (1048576 < u) then (zH,0,1) else if !Aw h.tree g then (zH,0,4) else addK h { id := 0,process := 0,group := g,user := u }
theorem AjJ {h : Aa} (w : WfH h) (g u : Int) : Qr h g u = some (Vi h g u) := by
 apply Ok.eq
 unfold Qr Vi
 refine Ok.step (Ky w) ?_
 simp only [Bool.not_true,Bool.false_eq_true,if_false]
 unfold Px
 by_cases h1 : u < 0
 ·simp only [h1,decide_true,if_true,Bool.true_or]
  exact Ok.ret rfl
 by_cases h2 : u > 1048576
 ·have : 1048576 < u := by omega
  simp only [h2,decide_true,if_true,Bool.or_true,ite_self]
  exact Ok.ret rfl
 ·have h3 : ¬ 1048576 < u := by omega
  simp only [h1,h2,decide_false,Bool.or_self,Bool.false_eq_true,if_false]
  refine Ok.step (Kn w.tree g) ?_
  refine Ok.ite (fun c => ?_) fun c => ?_
  ·rw [if_pos c]; exact Ok.ret rfl
  ·rw [if_neg (c := (!Aw h.tree g) = true) (by rw [c]; simp)]
   refine Ok.step (Aht w _) (Ok.ret rfl)
theorem AiB {h : Aa} (w : WfH h) {g u : Int} {r : Aa × Int × Int} (e : Vi h g u = r) (hr : r.2.2 = 0) : WfH r.1 := by
 unfold Vi at e
 split at e
 ·subst e; simp at hr
 split at e
 ·subst e; simp at hr
 rename_i h1 h2
 simp only [Bool.or_eq_true,decide_eq_true_eq,not_or] at h1
 exact addK_wf w (by simpa using h2) (by simp only; omega) (by simp only; omega) (.inl rfl) e hr
def AbD (h : Aa) (k : Int) : Aa × Int × Int := (Bg h.tasks k).elim (zH,0,4) (addK h)
theorem Ajm {h : Aa} (w : WfH h) (k : Int) : Xs h k = some (AbD h k) := by
 apply Ok.eq
 unfold Xs AbD
 refine Ok.step (Ky w) ?_
 simp only [Bool.not_true,Bool.false_eq_true,if_false]
 refine Ok.step (Vl w k) ?_
 cases Bg h.tasks k with
 | none => exact Ok.ret rfl
 | some x =>
  simp only [Option.elim_some,Bool.not_true,Bool.false_eq_true,if_false]
  exact Ok.step (Aht w _) (Ok.ret rfl)
theorem Aiw {h : Aa} (w : WfH h) {k : Int} {r : Aa × Int × Int} (e : AbD h k = r) (hr : r.2.2 = 0) : WfH r.1 := by
 unfold AbD at e
 cases hk : Bg h.tasks k with
 | none => rw [hk] at e; subst e; simp at hr
 | some x =>
  rw [hk] at e
  obtain ⟨hx,_⟩ := Mg hk
  have v := w.val x hx
  exact addK_wf w v.grp v.u1 v.u2 (.inr hx) e hr
def AdH (h : Aa) (k : Int) : Aa × Int :=
 (Bg h.tasks k).elim (zH,4) fun _ => ({ tree := h.tree,tasks := h.tasks.filter (fun x => x.id != k && x.process != k),next := h.next },0)
theorem Aks {h : Aa} (w : WfH h) (k : Int) : Aab h k = some (AdH h k) := by
 have hl := w.len
 have h2 := w.tree.len2
 apply Ok.eq
 unfold Aab AdH
 refine Ok.step (Ky w) ?_
 simp only [Bool.not_true,Bool.false_eq_true,if_false]
 refine Ok.step (Vl w k) ?_
 cases Bg h.tasks k with
 | none => exact Ok.ret rfl
 | some x =>
  simp only [Option.elim_some,Bool.not_true,Bool.false_eq_true,if_false]
  refine Ok.step (Xh _ (by omega)) ?_
  refine Ok.guard (by omega) ?_
  have e := Jp (p := fun x : Am => x.id != k && x.process != k) (f := fun x : Am => x) (xs := h.tasks) (s0 := []) (r := Zf h h.tree) (body := Zg k) (done := Zf h h.tree) (fun k x s n hs => by
   unfold Zg Uw
   rw [if_pos hs]) (fun _ => rfl) (by simp; omega)
  rw [e]
  refine Ok.ret ?_
  simp
theorem Aju {h : Aa} (w : WfH h) {k : Int} {r : Aa × Int} (e : AdH h k = r) (hr : r.2 = 0) : WfH r.1 := by
 unfold AdH at e
 cases hk : Bg h.tasks k with
 | none => rw [hk] at e; subst e; simp at hr
 | some x =>
  rw [hk] at e
  subst e
  have hs : (h.tasks.filter (fun x => x.id != k && x.process != k)).Pairwise (fun a b => a.id < b.id) := w.sorted.sublist List.filter_sublist
  refine ⟨w.tree,Nat.le_trans (List.length_filter_le _ _) w.len,w.n1,w.n2,hs,fun y hy => w.lt y (List.mem_filter.mp hy).1,fun y hy => ?_⟩
  obtain ⟨hy,hc⟩ := List.mem_filter.mp hy
  have v := w.val y hy
  obtain ⟨p,q1,q2,q3⟩ := v.ldr
  obtain ⟨m1,m2⟩ := Mg q1
  simp only [Bool.and_eq_true,bne_iff_ne] at hc
  refine ⟨v.pos,v.grp,v.u1,v.u2,p,?_,q2,q3⟩
  refine (getK_iff hs).mpr ⟨List.mem_filter.mpr ⟨m1,?_⟩,m2⟩
  simp only [Bool.and_eq_true,bne_iff_ne]
  omega
def Nq (k g : Int) (y : Am) : Am := if y.id == k then { id := y.id,process := y.process,group := g,user := y.user } else y
def Add (h : Aa) (k g : Int) : Aa × Int :=
 if (Bg h.tasks k).isSome && Aw h.tree g then ({ tree := h.tree,tasks := h.tasks.map (Nq k g),next := h.next },0) else (zH,4)
theorem Xu {h : Aa} (w : WfH h) (k g : Int) : Tq h k g = some (Add h k g) := by
 have hl := w.len
 have h2 := w.tree.len2
 apply Ok.eq
 unfold Tq Add
 refine Ok.step (Ky w) ?_
 simp only [Bool.not_true,Bool.false_eq_true,if_false]
 refine Ok.step (Vl w k) ?_
 cases hk : Bg h.tasks k with
 | none => exact Ok.ret rfl
 | some x =>
  simp only [Option.elim_some,Bool.not_true,Bool.false_eq_true,if_false,Option.isSome_some,Bool.true_and]
  refine Ok.step (Kn w.tree g) ?_
  unfold Tk
  refine Ok.ite (fun c => ?_) fun c => ?_
  ·rw [if_neg (by simpa using c)]; exact Ok.ret rfl
  ·rw [if_pos (c := Aw h.tree g = true) (by simpa using c)]
   refine Ok.step (Py h (by omega) (by omega)) ?_
   have e := while_map (f := Nq k g) (L := h.tasks) (d := default) (body := Sz k g h) (ret := fun M => some (({ tree := h.tree,tasks := M,next := h.next } : Aa),0)) (by omega) (fun M m n hM hm => by
    unfold Sz Sy
    simp only
    have em : Int.toNat (m : Int) = m := by omega
    rw [em,if_pos (by simp; omega),if_pos (by omega),if_pos (by omega),Bu (by omega) (by omega)]
    have ew : (m : Int) + 1 = ((m + 1 : Nat) : Int) := by omega
    rw [ew]
    by_cases hc : (M.getD m default).id = k
    ·rw [if_pos (by rw [hc]; simp),if_pos (by omega),if_pos (by omega),Nq,if_pos (by rw [hc]; simp)]
    ·have hc' : ((M.getD m default).id == k) = false := by simpa using hc
     rw [if_neg (by rw [hc']; simp),Nq,if_neg (by rw [hc']; simp),AjQ (by omega)]) (fun M n hM => by
    unfold Sz
    simp only
    rw [hM,if_neg (by simp)])
   rw [e]
   exact Ok.ret rfl
theorem Kb (k g : Int) (y : Am) : (Nq k g y).id = y.id ∧ (Nq k g y).process = y.process ∧ (Nq k g y).user = y.user := by
 unfold Nq
 split <;> exact ⟨rfl,rfl,rfl⟩
theorem Adv {L : List Am} {f : Am → Am} (hf : ∀ y ∈ L,(f y).id = y.id) {p : Int} : Bg (L.map f) p = (Bg L p).map f := by
 induction L with
 | nil => rfl
 | cons a r ih =>
  unfold Bg at *
  rw [List.map_cons,List.find?_cons,List.find?_cons,hf a (by simp)]
  cases (a.id == p)
  ·exact ih fun y hy => hf y (by simp [hy])
  ·rfl
theorem AcF {h : Aa} (w : WfH h) {k g : Int} {r : Aa × Int} (e : Add h k g = r) (hr : r.2 = 0) : WfH r.1 := by
 unfold Add at e
 split at e
 case isFalse => subst e; simp at hr
 rename_i hc
 subst e
 simp only [Bool.and_eq_true] at hc
 refine ⟨w.tree,by simp; exact w.len,w.n1,w.n2,?_,?_,?_⟩
 ·rw [List.pairwise_map]
  refine w.sorted.imp fun h => ?_
  rw [(Kb k g _).1,(Kb k g _).1]
  exact h
 ·intro y hy
  obtain ⟨z,hz,rfl⟩ := List.mem_map.mp hy
  rw [(Kb k g _).1]
  exact w.lt z hz
 ·intro y hy
  obtain ⟨z,hz,rfl⟩ := List.mem_map.mp hy
  have v := w.val z hz
  obtain ⟨p,q1,q2,q3⟩ := v.ldr
  refine ⟨by rw [(Kb k g _).1]; exact v.pos,?_,by rw [(Kb k g _).2.2]; exact v.u1,by rw [(Kb k g _).2.2]; exact v.u2,Nq k g p,?_,?_,?_⟩
  ·unfold Nq
   split
   ·exact hc.2
   ·exact v.grp
  ·simp only
   rw [Adv (fun y _ => (Kb k g y).1),(Kb k g _).2.1,q1]
   rfl
  ·rw [(Kb k g _).2.1,(Kb k g _).2.1,q2]
  ·rw [(Kb k g _).2.2,(Kb k g _).2.2,q3]
end Go.Dm

/- Plain theory, part 9: made hierarchies. -/
namespace Go.Dm
abbrev Tot {α : Type} (m : Option α) : Prop := Ok m (fun _ => True)
theorem Dc (t : Ae) (id : Int) : Tot (Cn t id) := by
 by_cases h : WfT t
 ·exact Ok.of_eq (Ph h id) trivial
 ·exact Ok.of_eq (AcT h id) trivial
theorem Ajn (t : Ae) (id : Int) : Tot (Fo t id) := by
 unfold Fo
 exact Ok.bind (Dc t id) fun _ _ => Ok.ret trivial
theorem AeA (t : Ae) (id : Int) : (En t id).length ≤ t.nodes.length := by
 unfold En
 rw [List.length_map]
 exact List.length_filter_le _ _
theorem Up (t : Ae) (id : Int) : Ok (Hv t id) (fun l => l.length ≤ 64) := by
 by_cases h : WfT t
 ·refine Ok.of_eq (Xj h id) ?_
  have := AeA t id
  have := h.len2
  split
  ·omega
  ·simp
 ·unfold Hv
  refine Ok.step (Ahv h id) ?_
  exact Ok.ret (by simp)
theorem Akw (t : Ae) (id : Int) : (ancN t id).length ≤ t.nodes.length := by
 unfold ancN
 have := Qx t.nodes.reverse id
 simp at this
 split
 ·exact this
 ·simp
theorem Afb (t : Ae) (id : Int) : Ok (Hc t id) (fun l => l.length ≤ 64) := by
 by_cases h : WfT t
 ·refine Ok.of_eq (Qy h id) ?_
  have := Akw t id
  have := h.len2
  omega
 ·unfold Hc
  refine Ok.step (Ahv h id) ?_
  exact Ok.ret (by simp)
theorem Aed (h : Aa) (id : Int) : Tot (Hj h id) := by
 by_cases w : WfH h
 ·exact Ok.of_eq (Vl w id) trivial
 ·exact Ok.of_eq (Aku w id) trivial
theorem Ms (h : Aa) (id : Int) : Tot (Ha h id) := by
 by_cases w : WfH h
 ·exact Ok.of_eq (Sp w id) trivial
 ·exact Ok.of_eq (Ajy w id) trivial
theorem We {α β : Type} {body : Nat → α → Unit → (Unit → Option β) → Option β} {done : Unit → Option β} {xs : List α} (hb : ∀ k x n,Tot (n ()) → Tot (body k x () n)) (hd : Tot (done ())) : Tot (Bd body done xs 0 ()) :=
 Ok.range (fun _ _ => True) trivial (fun _ _ _ _ _ _ _ hn => hb _ _ _ (hn () trivial)) (fun _ _ => hd)
theorem Aho (t : Ae) (id : Int) : Tot (Rv t id) := by
 unfold Rv
 refine Ok.bind (Dc _ _) fun _ _ => Ok.ite (fun _ => Ok.ret trivial) fun _ => ?_
 exact Ok.bind (Dc _ _) fun _ _ => Ok.ite (fun _ => Ok.ret trivial) fun _ => Ok.ret trivial
theorem Tm (t : Ae) (id : Int) : Tot (Ir t id) := by
 unfold Ir
 have hJ : ∀ r y,Tot (Ig r y) := fun r y => by
  unfold Ig Jx
  exact Ok.ite (fun _ => Ok.ret trivial) fun _ => Ok.ret trivial
 refine Ok.bind (Dc _ _) fun _ _ => Ok.ite (fun _ => Ok.ret trivial) fun _ => Ok.ite (fun _ => ?_) fun _ => hJ _ _
 exact Ok.bind (Aho _ _) fun _ _ => hJ _ _
theorem Aam (h : Aa) : Ok (Pf h) (fun b => b = true → WfH h) := by
 unfold Pf
 by_cases w : WfH h
 ·have := w.tree.len2
  refine Ok.step (Ky w) (Ok.guard (by omega) ?_)
  refine Ok.mono (P := fun _ => True) ?_ fun _ _ _ => w
  refine We (fun k x n hn => ?_) (Ok.ret trivial)
  unfold Wr
  have hJ : ∀ b,Tot (Jc n b) := fun b => by
   unfold Jc
   exact Ok.ite (fun _ => Ok.ret trivial) fun _ => hn
  refine Ok.bind (Tm _ _) fun _ _ => Ok.ite (fun _ => hJ _) fun _ => Ok.ite (fun _ => Ok.ite (fun _ => ?_) fun _ => hJ _) fun _ => hJ _
  exact Ok.bind (Ms _ _) fun _ _ => hJ _
 ·exact Ok.step (Abh w) (Ok.ret fun e => by simp at e)
theorem Sh (t : Ae) (id : Int) : Tot (Iy t id) := by
 unfold Iy
 refine Ok.bind (Afb _ _) fun l hl => Ok.guard (by omega) ?_
 refine We (fun k x n hn => ?_) (Ok.ret trivial)
 unfold Vw
 exact Ok.bind (Dc _ _) fun _ _ => Ok.ite (fun _ => Ok.ret trivial) fun _ => hn
theorem Yc (t : Ae) (id : Int) (b : Bool) : Tot (Kj t id b) := by
 unfold Kj
 refine Ok.ite (fun _ => Ok.ret trivial) fun _ => ?_
 refine Ok.bind (Up _ _) fun l hl => Ok.guard (by omega) ?_
 refine We (fun k x n hn => ?_) (Ok.ret trivial)
 unfold Zo
 exact Ok.bind (Dc _ _) fun _ _ => Ok.ite (fun _ => Ok.ret trivial) fun _ => hn
theorem AhK {t : Ae} (w : WfT t) : ∀ (n : Nat) (id : Int),id.toNat < n → Tot (Hx n t id) := by
 intro n
 induction n with
 | zero => intro id h; omega
 | succ n ih =>
  intro id hlt
  unfold Hx Pd
  refine Ok.step (Ph w id) ?_
  cases hg : Fn t id with
  | none => exact Ok.ret trivial
  | some x =>
   obtain ⟨hx,hxi⟩ := Qo hg
   simp only [Option.elim_some,Bool.not_true,Bool.false_eq_true,if_false]
   refine Ok.ite (fun _ => Ok.ret trivial) fun _ => ?_
   refine Ok.step (Ph w x.parent) ?_
   cases hp : Fn t x.parent with
   | none => exact Yc t id false
   | some p =>
    obtain ⟨hpm,hpi⟩ := Qo hp
    simp only [Option.elim_some,if_true]
    refine Ok.ite (fun _ => Yc _ _ _) fun _ => ?_
    refine Ok.bind (ih p.id ?_) fun _ _ => Yc _ _ _
    have g1 := w.p.ge1 p hpm
    rcases w.p.par x hx with ⟨_,r⟩ | ⟨a,b,_⟩
    ·have := r.parent; omega
    ·omega
theorem Nx (t : Ae) (id : Int) : Tot (Jq t id) := by
 by_cases w : WfT t
 ·by_cases hid : id.toNat < Fu
  ·exact AhK w Fu id hid
  ·unfold Jq
   rw [Nu] at *
   unfold Hx Pd
   refine Ok.step (Ph w id) ?_
   cases hg : Fn t id with
   | none => exact Ok.ret trivial
   | some x =>
    obtain ⟨hx,hxi⟩ := Qo hg
    have := w.next x hx
    have := w.nextLe
    omega
 ·unfold Jq
  rw [Nu]
  unfold Hx Pd
  exact Ok.step (AcT w id) (Ok.ret trivial)
theorem Mv (h : Aa) : Ok (Gb h) (fun b => b = true → WfH h) := by
 unfold Gb
 refine Ok.bind (Aam h) fun b hb => ?_
 refine Ok.ite (fun _ => Ok.ret fun e => by simp at e) fun c => ?_
 have w : WfH h := hb (by simpa using c)
 have := w.len
 have := w.tree.len2
 refine Ok.mono (P := fun _ => True) ?_ fun _ _ _ => w
 refine Ok.guard (by omega) (We (fun k x n hn => ?_) ?_)
 ·unfold Zl
  refine Ok.bind (Aed _ _) fun _ _ => Ok.bind (Sh _ _) fun _ _ => Ok.bind (Sh _ _) fun _ _ => ?_
  exact Ok.ite (fun _ => Ok.ret trivial) fun _ => hn
 ·unfold Zb
  refine Ok.guard (by omega) (We (fun k x n hn => ?_) (Ok.ret trivial))
  have h18 : ∀ b,Tot (Hr n b) := fun b => by
   unfold Hr
   exact Ok.ite (fun _ => Ok.ret trivial) fun _ => hn
  have h17 : ∀ r b,Tot (Je h x n r b) := fun r b => by
   unfold Je
   refine Ok.ite (fun _ => Ok.ret trivial) fun _ => Ok.ite (fun _ => Ok.ite (fun _ => Ok.ite (fun _ => h18 _) fun _ => ?_) fun _ => ?_) fun _ => h18 _
   ·exact Ok.bind (Nx _ _) fun _ _ => h18 _
   ·exact Ok.bind (Nx _ _) fun _ _ => h18 _
  unfold Zn
  refine Ok.bind (Dc _ _) fun _ _ => Ok.bind (Nx _ _) fun _ _ => ?_
  refine Ok.ite (fun _ => Ok.ite (fun _ => h17 _ _) fun _ => ?_) fun _ => h17 _ _
  exact Ok.bind (Ms _ _) fun _ _ => h17 _ _
theorem AcU (h : Aa) (id a d : Int) : Tot (Qp h id a d) := by
 unfold Qp
 refine Ok.bind (Aam h) fun b hb => ?_
 have hf : Tot (Fq h id a d true) := Ok.ret trivial
 refine Ok.ite (fun _ => hf) fun c => ?_
 have w : WfH h := hb (by simpa using c)
 have := w.len
 have := w.tree.len2
 have hJ4 : ∀ r b,Tot (Jf h a d r b) := fun r b => by
  unfold Jf
  refine Ok.ite (fun _ => Ok.ret trivial) fun _ => ?_
  refine Ok.step (Py h (by omega) (by omega)) ?_
  exact Ok.step (Ux h.tree _ (by omega)) (Ok.ret trivial)
 have hJ : ∀ b,Tot (Fq h id a d b) := fun b => by
  unfold Fq
  refine Ok.ite (fun _ => Ok.ret trivial) fun _ => ?_
  refine Ok.bind (Dc _ _) fun r _ => Ok.ite (fun _ => Ok.ret trivial) fun _ => ?_
  refine Ok.bind (Tm _ _) fun _ _ => Ok.ite (fun _ => Ok.ret trivial) fun _ => ?_
  refine Ok.bind (Up _ _) fun l hl => Ok.guard (by omega) (We (fun k x n hn => ?_) ?_)
  ·unfold Xg
   exact Ok.bind (Dc _ _) fun _ _ => Ok.ite (fun _ => Ok.ret trivial) fun _ => hn
  ·unfold Xk
   refine Ok.ite (fun _ => Ok.ite (fun _ => ?_) fun _ => hJ4 _ _) fun _ => hJ4 _ _
   exact Ok.bind (Ms _ _) fun _ _ => hJ4 _ _
 unfold Yx
 refine Ok.step rfl (Ok.ite (fun _ => hf) fun _ => Ok.step rfl (Ok.ite (fun _ => hf) fun _ => hJ _))
theorem Aim (h : Aa) (id a d : Int) : Ok (Mc h id a d) (fun r => r.2 = 0 → WfH r.1) := by
 unfold Mc
 have bad : ∀ (x : Aa) (n : Int),n ≠ 0 → Ok (some (x,n)) (fun r : Aa × Int => r.2 = 0 → WfH r.1) := fun x n hn => Ok.ret fun e => absurd e hn
 refine Ok.bind (Mv h) fun _ _ => Ok.ite (fun _ => bad _ _ (by decide)) fun _ => ?_
 refine Ok.bind (AcU _ _ _ _) fun r _ => Ok.ite (fun c => bad _ _ (by simpa using c)) fun _ => ?_
 refine Ok.bind (Mv r.1) fun b hb => Ok.ite (fun _ => bad _ _ (by decide)) fun c => ?_
 exact Ok.ret fun _ => hb (by simpa using c)
theorem AhD (h : Aa) (id : Int) : Ok (Kw h id) (fun r => r.2 = 0 → WfH r.1) := by
 unfold Kw
 have bad : ∀ (x : Aa) (n : Int),n ≠ 0 → Ok (some (x,n)) (fun r : Aa × Int => r.2 = 0 → WfH r.1) := fun x n hn => Ok.ret fun e => absurd e hn
 refine Ok.bind (Mv h) fun b hb => Ok.ite (fun _ => bad _ _ (by decide)) fun c => ?_
 have w : WfH h := hb (by simpa using c)
 have := w.len
 have := w.tree.len2
 have hJ : ∀ r b,Ok (Hg h id r b) (fun r => r.2 = 0 → WfH r.1) := fun r b => by
  unfold Hg
  refine Ok.ite (fun _ => bad _ _ (by decide)) fun _ => Ok.ite (fun _ => bad _ _ (by decide)) fun _ => ?_
  refine Ok.step (Py h (by omega) (by omega)) (Ok.step (Ux h.tree _ (by omega)) ?_)
  refine Ok.bind (Ms _ _) fun _ _ => ?_
  unfold Mq
  refine Ok.ite (fun _ => bad _ _ (by decide)) fun _ => ?_
  refine Ok.bind (Mv _) fun b hb => Ok.ite (fun _ => bad _ _ (by decide)) fun c => ?_
  exact Ok.ret fun _ => hb (by simpa using c)
 refine Ok.bind (Dc _ _) fun _ _ => Ok.ite (fun _ => bad _ _ (by decide)) fun _ => Ok.ite (fun _ => bad _ _ (by decide)) fun _ => ?_
 refine Ok.bind (Dc _ _) fun _ _ => Ok.bind (Nx _ _) fun _ _ => Ok.ite (fun _ => hJ _ _) fun _ => Ok.ite (fun _ => hJ _ _) fun _ => hJ _ _
theorem Acz (h : Aa) (g : Int) : Tot (Iz h g) := by
 unfold Iz
 refine Ok.bind (Mv h) fun b hb => Ok.ite (fun _ => Ok.ret trivial) fun c => ?_
 refine Ok.bind (Dc _ _) fun _ _ => Ok.ite (fun _ => Ok.ret trivial) fun _ => ?_
 refine Ok.bind (Nx _ _) fun _ _ => Ok.ite (fun _ => Ok.ret trivial) fun _ => Ok.ite (fun _ => Ok.ret trivial) fun _ => Ok.ret trivial
theorem AdV (h : Aa) (k g : Int) : Ok (Ga h k g) (fun r => r.2 = 0 → WfH r.1) := by
 unfold Ga
 have bad : ∀ (x : Aa) (n : Int),n ≠ 0 → Ok (some (x,n)) (fun r : Aa × Int => r.2 = 0 → WfH r.1) := fun x n hn => Ok.ret fun e => absurd e hn
 refine Ok.bind (Mv h) fun b hb => Ok.ite (fun _ => bad _ _ (by decide)) fun c => ?_
 have w : WfH h := hb (by simpa using c)
 have hJ : ∀ r b,Ok (Gd h k g r b) (fun r => r.2 = 0 → WfH r.1) := fun r b => by
  unfold Gd
  refine Ok.ite (fun _ => bad _ _ (by decide)) fun _ => ?_
  refine Ok.bind (Acz _ _) fun _ _ => Ok.ite (fun c => bad _ _ (by simpa using c)) fun _ => ?_
  refine Ok.bind (Sh _ _) fun _ _ => Ok.bind (Sh _ _) fun _ _ => Ok.ite (fun _ => bad _ _ (by decide)) fun _ => ?_
  exact Ok.step (Xu w k g) (Ok.ret fun e => AcF w rfl e)
 refine Ok.bind (Aed _ _) fun _ _ => Ok.ite (fun _ => hJ _ _) fun _ => Ok.bind (Ajn _ _) fun _ _ => hJ _ _
end Go.Dm

/- Plain theory, part 10: the program's own Check of trees. -/
namespace Go.Dm
theorem Aga (bs : ByteArray) (i : Nat) (r : List UInt8) : ByteArray.toList.loop bs i r = r.reverse ++ bs.data.toList.drop i := by
 by_cases h : i < bs.size
 ·rw [ByteArray.toList.loop,if_pos h,Aga bs (i + 1)]
  have hd : bs.data.toList.drop i = bs.get! i :: bs.data.toList.drop (i + 1) := by
   rw [List.drop_eq_getElem_cons (show i < bs.data.toList.length from h)]
   congr 1
   have : bs.get! i = bs.data[i]! := rfl
   rw [this,getElem!_pos bs.data i h]
   simp
  rw [hd]
  simp
 ·rw [ByteArray.toList.loop,if_neg h,List.drop_of_length_le (by simpa using h)]
  simp
termination_by bs.size - i
theorem Akp (bs : ByteArray) : bs.toList = bs.data.toList := by
 unfold ByteArray.toList
 rw [Aga]
 simp
theorem beqS_eq {a b : ByteArray} (h : Co a b = true) : a = b := by
 simp only [Co,beq_iff_eq,Akp] at h
 exact ByteArray.ext (Array.toList_inj.mp h)
theorem Ajg {c : Int} (h0 : 0 ≤ c) (h : c ≤ 31) : Ax .i64 c 31 = 0 := by
 have : ∀ n : Fin 32,Ax .i64 ((n.val : Nat) : Int) 31 = 0 := by decide
 have := this ⟨c.toNat,by omega⟩
 simpa [Int.toNat_of_nonneg h0] using this
theorem Ajh {c : Int} (h : 31 < c) (hc : c < 9223372036854775808) : Ax .i64 c 31 ≠ 0 := by
 obtain ⟨n,rfl⟩ : ∃ n : Nat,c = (n : Int) := ⟨c.toNat,by omega⟩
 intro e
 unfold Ax at e
 have hb : IntKind.i64.bits = 64 := rfl
 rw [hb] at e
 generalize hx : (BitVec.ofInt 64 (n : Int) &&& ~~~(BitVec.ofInt 64 31)) = x at e
 have hn : ∀ i,5 ≤ i → n.testBit i = false := by
  intro i hi
  by_cases h63 : i < 63
  ·have h0 : x.toNat < 2 ^ 64 := x.isLt
   have hle : x.toNat ≤ n := by
    rw [← hx,BitVec.toNat_and]
    refine Nat.le_trans Nat.and_le_left ?_
    rw [BitVec.ofInt_natCast,BitVec.toNat_ofNat]
    exact Nat.mod_le _ _
   have hw : IntKind.i64.wrap ((x.toNat : Nat) : Int) = ((x.toNat : Nat) : Int) := AcC (by omega) (by omega)
   rw [hw] at e
   have hx0 : x = 0#64 := by
    apply BitVec.eq_of_toNat_eq
    simp
    omega
   have : x.getLsbD i = false := by rw [hx0]; simp
   rw [← hx,BitVec.getLsbD_and,BitVec.getLsbD_not] at this
   have h31 : (BitVec.ofInt 64 31).getLsbD i = false := by
    have : (BitVec.ofInt 64 31) = BitVec.ofNat 64 31 := rfl
    rw [this,BitVec.getLsbD_ofNat]
    have : Nat.testBit 31 i = false := Nat.testBit_lt_two_pow (Nat.lt_of_lt_of_le (by decide : 31 < 2 ^ 5) (Nat.pow_le_pow_right (by decide) hi))
    simp [this]
   rw [h31] at this
   have e2 : (BitVec.ofInt 64 (n : Int)).getLsbD i = n.testBit i := by
    rw [BitVec.ofInt_natCast,BitVec.getLsbD_ofNat]
    simp
    omega
   rw [e2] at this
   have h64 : i < 64 := by omega
   simpa [h64] using this
  ·exact Nat.testBit_lt_two_pow (Nat.lt_of_lt_of_le (show n < 2 ^ 63 by omega) (Nat.pow_le_pow_right (by decide) (by omega)))
 have : n < 2 ^ 5 := Nat.lt_pow_two_of_testBit n hn
 omega
theorem Aeg (s : ByteArray) (h : s.size ≤ 9223372036854775807) : Uh s = some (Dj s) := by
 apply Ok.eq
 unfold Uh
 refine Ok.guard (by rw [Rq]; exact h) ?_
 refine Ok.range (fun pre _ => pre.all Pt = true) rfl ?_ ?_
 ·intro pre x post _ n e hI hn
  unfold Abo AaK
  refine Ok.step rfl ?_
  refine Ok.ite (fun c => ?_) fun c => ?_
  ·refine Ok.ret ?_
   have : (Jb s).all Pt = false := by
    rw [e,List.all_append,List.all_cons]
    have : Pt x = false := by simpa only [Pt,Bool.not_eq_true'] using c
    simp [this]
   simp [Dj,this]
  ·refine hn () ?_
   have : Pt x = true := by simpa only [Pt,Bool.not_eq_false'] using c
   rw [List.all_append,hI]
   simp [this]
 ·intro _ hI
  unfold AbJ Pu
  refine Ok.ite (fun c => ?_) fun c => ?_
  ·have hs : 0 < s.size := by
    rcases Nat.eq_zero_or_pos s.size with h0 | h0
    ·exfalso
     have : s = ByteArray.empty := by
      apply ByteArray.ext
      apply Array.ext
      ·exact h0
      ·intro i h1 h2
       simp at h2
     rw [this] at c
     simp [Acc] at c
    ·exact h0
   refine Ok.ite (fun c2 => ?_) fun c2 => ?_
   ·have := of_decide_eq_true c2
    refine Ok.guard hs (Ok.ret ?_)
    have h32 : s.size ≤ 32 := by omega
    simp [Dj,hs,h32,hI]
   ·have := of_decide_eq_false c2
    refine Ok.ret ?_
    have h32 : ¬ s.size ≤ 32 := by omega
    simp [Dj,h32]
  ·refine Ok.ret ?_
   have : s.size = 0 := by
    rw [beqS_eq (a := s) (b := ByteArray.empty) (by simpa using c)]
    rfl
   simp [Dj,this]
end Go.Dm

/- Plain theory, part 11: the program's Check of trees is the document's. -/
namespace Go.Dm
def NodeM (x : Ag) : Prop := x.name.size ≤ 9223372036854775807 ∧ x.control < 9223372036854775808
theorem Ajj {pre : List Ag} {y x : Ag} (hl : pre.length ≤ 1000000) (hx : NodeM x) :
  Aai (pre ++ [y]) x = some (decide (y.id < x.id) && Dj x.name && (x.kind == 0 || x.kind == 1) && (pre ++ [y]).any (fun k => k.id == x.parent) && (pre ++ [y]).all (fun k => !(k.parent == x.parent && Co k.name x.name))) := by
 apply Ok.eq
 unfold Aai
 have hw : w64 (((pre ++ [y]).length : Int) - 1) = (pre.length : Int) := by
  rw [Bu (by simp) (by simp; omega)]
  simp
 have ey : (pre ++ [y]).getD (Int.toNat (pre.length : Int)) default = y := by
  rw [show Int.toNat (pre.length : Int) = pre.length by omega]
  exact Abj (post := [])
 rw [hw,ey]
 refine Ok.guard (by simp; omega) ?_
 refine Ok.ite (fun c => ?_) fun c => ?_
 ·have := of_decide_eq_true c
  have : ¬ y.id < x.id := by omega
  refine Ok.ret ?_
  simp [this]
 have hlt : y.id < x.id := by
  have := of_decide_eq_false c
  omega
 refine Ok.step (Aeg _ hx.1) ?_
 refine Ok.ite (fun c => ?_) fun c => ?_
 ·refine Ok.ret ?_
  have : Dj x.name = false := by simpa using c
  simp [this]
 have hv : Dj x.name = true := by simpa using c
 have hloop : (x.kind == 0 || x.kind == 1) = true → Ok (Kk (pre ++ [y]) x false) (· = (decide (y.id < x.id) && Dj x.name && (x.kind == 0 || x.kind == 1) && (pre ++ [y]).any (fun k => k.id == x.parent) && (pre ++ [y]).all (fun k => !(k.parent == x.parent && Co k.name x.name)))) := by
  intro hk
  rw [hk,hv]
  simp only [hlt,decide_true,Bool.and_self,Bool.true_and]
  have hlp : (pre ++ [y]).length ≤ 9223372036854775807 := by simp; omega
  generalize pre ++ [y] = P at *
  unfold Kk
  refine Ok.guard hlp ?_
  refine Ok.range (fun pre s => s = pre.any (fun k => k.id == x.parent) ∧ pre.all (fun k => !(k.parent == x.parent && Co k.name x.name)) = true) ⟨rfl,rfl⟩ ?_ ?_
  ·intro q z post s n e hI hn
   unfold AcH
   refine Ok.ite (fun c => ?_) fun c => ?_
   ·refine Ok.ret ?_
    have : P.all (fun k => !(k.parent == x.parent && Co k.name x.name)) = false := by
     rw [e,List.all_append,List.all_cons,c]
     simp
    rw [this,Bool.and_false]
   ·refine hn _ ⟨?_,?_⟩
    ·rw [List.any_append,← hI.1]
     simp
    ·rw [List.all_append,hI.2,List.all_cons,c]
     rfl
  ·intro s hI
   refine Ok.ret ?_
   rw [hI.2,Bool.and_true]
   exact hI.1
 have hbad : (x.kind == 0 || x.kind == 1) = false → Ok (Kk (pre ++ [y]) x true) (· = (decide (y.id < x.id) && Dj x.name && (x.kind == 0 || x.kind == 1) && (pre ++ [y]).any (fun k => k.id == x.parent) && (pre ++ [y]).all (fun k => !(k.parent == x.parent && Co k.name x.name)))) := by
  intro hk
  refine Ok.ret ?_
  rw [hk]
  simp
 refine Ok.ite (fun c => ?_) fun c => ?_
 ·have h0 : ¬ x.kind = 0 := by simpa using c
  by_cases h1 : x.kind = 1
  ·have : (x.kind != 1) = false := by simp [h1]
   rw [this]
   exact hloop (by simp [h1])
  ·have : (x.kind != 1) = true := by simpa using h1
   rw [this]
   exact hbad (by simp [h0,h1])
 ·exact hloop (by
   have : x.kind = 0 := by simpa using c
   simp [this])
theorem nodes_pre {L pre post : List Ag} {x : Ag} (h : WfP L) (e : L = pre ++ x :: post) (hp : pre ≠ []) : WfP pre ∧ Sg x ∧ NodeS pre x := by
 induction h generalizing post with
 | root z v r =>
  exfalso
  have : (pre ++ x :: post).length = 1 := by rw [← e]; rfl
  simp at this
  have := List.length_pos_iff.mpr hp
  omega
 | snoc L z w v s ih =>
  rcases Ow post with rfl | ⟨p',u,rfl⟩
  ·have := List.append_inj' (s₁ := L) (t₁ := [z]) (s₂ := pre) (t₂ := [x]) (by simpa using e) rfl
   obtain ⟨rfl,e2⟩ := this
   obtain rfl : z = x := by simpa using e2
   exact ⟨w,v,s⟩
  ·have e2 : L ++ [z] = (pre ++ x :: p') ++ [u] := by simpa using e
   have := List.append_inj' e2 rfl
   exact ih this.1
theorem up_pre {L pre post : List Ag} (h : WfP L) (e : L = pre ++ post) (hp : WfP pre) {x : Ag} (hx : x ∈ pre) : upR L.reverse x.id = upR pre.reverse x.id := by
 rw [e,List.reverse_append]
 refine Aar fun y hy => ?_
 have hs := h.sorted
 rw [e,List.pairwise_append] at hs
 have := hs.2.2 x hx y (by simpa using hy)
 omega
theorem AdW (t : Ae) (hm : ∀ x ∈ t.nodes,NodeM x) : Ok (Kl t) (fun b => b = true ↔ WfT t) := by
 have bad : ¬ WfT t → Ok (some false) (fun b => b = true ↔ WfT t) := fun hn => Ok.ret ⟨fun e => by simp at e,fun w => absurd w hn⟩
 unfold Kl
 refine Ok.ite (fun c => ?_) fun c => ?_
 ·have := of_decide_eq_true c
  exact bad fun w => by have := w.len1; omega
 have l1 := of_decide_eq_false c
 refine Ok.ite (fun c => ?_) fun c => ?_
 ·have := of_decide_eq_true c
  exact bad fun w => by have := w.len2; omega
 have l2 := of_decide_eq_false c
 refine Ok.guard (by omega) ?_
 unfold Acg
 refine Ok.step rfl ?_
 unfold Qg
 have hroot0 : WfT t → ((((t.nodes.getD 0 default).id == 1 && (t.nodes.getD 0 default).parent == 0) && Co (t.nodes.getD 0 default).name ByteArray.empty) && (t.nodes.getD 0 default).kind == 0) = true := by
  intro w
  obtain ⟨x,r,e,hr⟩ := w.root
  rw [e]
  simp [hr.id,hr.parent,hr.name,hr.kind]
 refine Ok.ite (fun c => ?_) fun c => ?_
 ·exact bad fun w => by rw [hroot0 w] at c; simp at c
 have hR : AbW (t.nodes.getD 0 default) := by
  simp only [Bool.not_eq_false',Bool.and_eq_true,beq_iff_eq] at c
  exact ⟨c.1.1.1,c.1.1.2,c.1.2,c.2⟩
 refine Ok.guard (by omega) ?_
 refine Ok.range (fun pre s => (pre = [] ∧ ∀ i,s.get i = 0) ∨ (WfP pre ∧ (∀ y ∈ pre,s.get y.id = ((upR pre.reverse y.id).length : Int) - 1 ∧ (upR pre.reverse y.id).length ≤ 9) ∧ ∀ i,(∀ y ∈ pre,y.id ≠ i) → s.get i = 0)) (.inl ⟨rfl,fun i => rfl⟩) ?_ ?_
 ·intro pre x post s n he hI hn
  have hxm : x ∈ t.nodes := by rw [he]; simp
  have hJ : ∀ b,(b = true → ¬ WfT t) → (b = false → Sg x ∧ (pre ≠ [] → NodeS pre x)) → (Sg x → pre = [] → AbW x) → Ok (Gn pre.length x s n b) (fun b => b = true ↔ WfT t) := by
   intro b hbt hbf hroot
   unfold Gn
   refine Ok.ite (fun c => bad (hbt c)) fun c => ?_
   obtain ⟨hv,hs⟩ := hbf c
   unfold Sv
   rcases hI with ⟨rfl,hz⟩ | ⟨hw,hd,hz⟩
   ·simp only [List.length_nil,Int.ofNat_eq_natCast,Int.cast_ofNat_Int,gt_iff_lt,Int.lt_irrefl,decide_false,Bool.false_eq_true,if_false]
    rw [hz]
    simp only [Int.reduceLT,decide_false,Bool.false_eq_true,if_false]
    have hr := hroot hv rfl
    refine hn _ (.inr ⟨.root x hv hr,?_,fun i _ => hz i⟩)
    intro y hy
    obtain rfl : y = x := by simpa using hy
    rw [hz]
    simp [upR,hr.parent]
   ·have hne : pre ≠ [] := by
     intro e
     have := hw.pos
     simp [e] at this
    have hs := hs hne
    have hpos := hw.pos
    have hgt : decide (((pre.length : Nat) : Int) > 0) = true := by simp; omega
    rw [hgt]
    simp only [if_true]
    obtain ⟨p,hp,hpp⟩ := hs.parent
    have hdp := hd p hp
    rw [hpp] at hdp
    have hup : upR (pre ++ [x]).reverse x.id = x.id :: upR pre.reverse x.parent := by
     rw [List.reverse_append,List.reverse_cons,List.reverse_nil,List.nil_append,List.singleton_append,upR,if_pos (by simp)]
    have hgx : (s.set x.id (w64 (s.get x.parent + 1))).get x.id = ((upR pre.reverse x.parent).length : Int) := by
     rw [AcP,if_pos rfl,hdp.1,Bu (by omega) (by omega)]
     omega
    have hwx : WfP (pre ++ [x]) := .snoc pre x hw hv hs
    refine Ok.ite (fun c => ?_) fun c => ?_
    ·refine bad fun w => ?_
     have := of_decide_eq_true c
     rw [hgx] at this
     have hdx := w.depth x hxm
     unfold upT at hdx
     rw [up_pre w.p (show t.nodes = (pre ++ [x]) ++ post by rw [he]; simp) hwx (by simp),hup] at hdx
     simp at hdx
     omega
    ·have hle := of_decide_eq_false c
     rw [hgx] at hle
     refine hn _ (.inr ⟨hwx,?_,?_⟩)
     ·intro y hy
      rcases List.mem_append.mp hy with hy | hy
      ·have hlt := hs.lt y hy
       rw [AcP,if_neg (by omega),Abl (by omega)]
       exact hd y hy
      ·obtain rfl : y = x := by simpa using hy
       rw [hgx,hup]
       simp
       omega
     ·intro i hi
      have := hi x (by simp)
      rw [AcP,if_neg (by omega)]
      exact hz i fun y hy => hi y (by simp [hy])
  have hroot : Sg x → pre = [] → AbW x := by
   intro _ e
   subst e
   rw [he] at hR
   exact hR
  unfold Abf
  have hbad : ∀ P : Prop,(WfT t → P) → ¬ P → Ok (Gn pre.length x s n true) (fun b => b = true ↔ WfT t) := fun P h1 h2 => hJ true (fun _ w => h2 (h1 w)) (by simp) hroot
  refine Ok.ite (fun c => ?_) fun c => ?_
  ·have := of_decide_eq_true c
   exact hbad (0 ≤ x.control) (fun w => (w.p.val x hxm).c1) (by omega)
  have c1 := of_decide_eq_false c
  refine Ok.ite (fun c => ?_) fun c => ?_
  ·refine hbad (x.control ≤ 31) (fun w => (w.p.val x hxm).c2) fun h => ?_
   rw [Ajg (by omega) h] at c
   simp at c
  have c2 : x.control ≤ 31 := by
   by_cases h : x.control ≤ 31
   ·exact h
   ·have := Ajh (c := x.control) (by omega) (hm x hxm).2
    have c' : Ax .i64 x.control 31 = 0 := by simpa using c
    exact absurd c' this
  refine Ok.ite (fun c => ?_) fun c => ?_
  ·have := of_decide_eq_true c
   exact hbad (0 ≤ x.owner) (fun w => (w.p.val x hxm).o1) (by omega)
  have o1 := of_decide_eq_false c
  refine Ok.ite (fun c => ?_) fun c => ?_
  ·have := of_decide_eq_true c
   exact hbad (x.owner ≤ 1048576) (fun w => (w.p.val x hxm).o2) (by omega)
  have o2 := of_decide_eq_false c
  refine Ok.ite (fun c => ?_) fun c => ?_
  ·have hk := of_decide_eq_true c
   have hle : pre.length ≤ t.nodes.length := by rw [he]; simp
   refine Ok.guard (by omega) ?_
   have ht : t.nodes.take pre.length = pre := by rw [he]; simp
   rw [ht]
   rcases Ow pre with rfl | ⟨pr,y,rfl⟩
   ·simp at hk
   have hw : WfP (pr ++ [y]) := by
    rcases hI with ⟨e,_⟩ | ⟨h,_⟩
    ·simp at e
    ·exact h
   refine Ok.step (Ajj (by simp at hle; omega) (hm x hxm)) ?_
   refine hJ _ ?_ ?_ hroot
   ·intro hb w
    obtain ⟨_,v,s⟩ := nodes_pre w.p he (by simp)
    have a1 := s.lt y (by simp)
    have a2 := s.valid
    have a3 : (x.kind == 0 || x.kind == 1) = true := by
     rcases v.kind with h | h <;> simp [h]
    have a4 : (pr ++ [y]).any (fun k => k.id == x.parent) = true := by
     obtain ⟨p,hp,hpp⟩ := s.parent
     exact List.any_eq_true.mpr ⟨p,hp,by simp [hpp]⟩
    have a5 : (pr ++ [y]).all (fun k => !(k.parent == x.parent && Co k.name x.name)) = true := by
     rw [List.all_eq_true]
     intro k hk
     by_cases q : k.parent = x.parent
     ·simp [s.fresh k hk q]
     ·simp [q]
    simp only [a1,a2,a3,a4,a5,decide_true] at hb
    simp at hb
   ·intro hb
    simp only [Bool.not_eq_false',Bool.and_eq_true,decide_eq_true_eq,List.any_eq_true,List.all_eq_true,beq_iff_eq,Bool.or_eq_true] at hb
    obtain ⟨⟨⟨⟨a1,a2⟩,a3⟩,a4⟩,a5⟩ := hb
    refine ⟨⟨a3,by omega,c2,by omega,by omega⟩,fun _ => ⟨?_,a2,a4,?_⟩⟩
    ·intro z hz
     have hs := hw.sorted
     rw [List.pairwise_append] at hs
     rcases List.mem_append.mp hz with hz | hz
     ·have := hs.2.2 z hz y (by simp)
      omega
     ·obtain rfl : z = y := by simpa using hz
      exact a1
    ·intro z hz hp
     have := a5 z hz
     simpa [hp] using this
  ·have hk := of_decide_eq_false c
   have e : pre = [] := List.length_eq_zero_iff.mp (by omega)
   refine hJ false (by simp) (fun _ => ⟨?_,fun h => absurd e h⟩) hroot
   subst e
   rw [he] at hR
   exact ⟨.inl hR.kind,by omega,c2,by omega,by omega⟩
 ·intro s hI
  unfold Abm Rl
  have hw : w64 ((t.nodes.length : Int) - 1) = ((t.nodes.length - 1 : Nat) : Int) := by
   rw [Bu (by omega) (by omega)]
   omega
  rw [hw]
  refine Ok.guard (by omega) ?_
  have : Int.toNat ((t.nodes.length - 1 : Nat) : Int) = t.nodes.length - 1 := by omega
  rw [this]
  rcases hI with ⟨e,_⟩ | ⟨hp,hd,_⟩
  ·rw [e] at l1; simp at l1
  refine Ok.ite (fun c => ?_) fun c => ?_
  ·have hc := of_decide_eq_true c
   refine Ok.ret ⟨fun e => ?_,fun w => ?_⟩
   ·exact ⟨by omega,by omega,hp.split,fun x hx => (hd x hx).2,hc,by simpa using e⟩
   ·simpa using w.nextLe
  ·have := of_decide_eq_false c
   exact bad fun w => by have := w.last; omega
theorem WfP.names {L : List Ag} (h : WfP L) : ∀ x ∈ L,NodeM x := by
 intro x hx
 have v := h.val x hx
 refine ⟨?_,by have := v.c2; omega⟩
 rcases h.par x hx with ⟨_,r⟩ | ⟨_,_,_,hv⟩
 ·rw [beqS_eq r.name]
  decide
 ·simp only [Dj,Bool.and_eq_true,decide_eq_true_eq] at hv
  omega
theorem Xf {t : Ae} (w : WfT t) : Kl t = some true := by
 obtain ⟨b,hb,e⟩ := AdW t w.p.names
 rw [hb,e.mpr w]
end Go.Dm

/- Plain theory, part 12: subtrees. -/
namespace Go.Dm
theorem Zh {α : Type} {p : α → Bool} {xs : List α} {body : Nat → α → Unit → (Unit → Option Int) → Option Int} {done : Unit → Option Int}
  (hb : ∀ k x n,body k x () n = if p x then some ((k : Nat) : Int) else n ()) (hd : done () = some (-1)) : Bd body done xs 0 () = some ((xs.findIdx? p).elim (-1) (fun i => (i : Int))) := by
 have key : ∀ (ys : List α) (k : Nat),Bd body done ys k () = some ((ys.findIdx? p).elim (-1) (fun i => ((i + k : Nat) : Int))) := by
  intro ys
  induction ys with
  | nil => intro k; simp [Bd,hd]
  | cons x r ih =>
   intro k
   rw [Bd,hb,List.findIdx?_cons]
   cases hp : p x
   ·simp only [Bool.false_eq_true,if_false]
    rw [ih (k + 1)]
    cases r.findIdx? p with
    | none => rfl
    | some i =>
     simp only [Option.map_some,Option.elim_some]
     congr 2
     omega
   ·simp
 have := key xs 0
 simpa using this
theorem Mh {α : Type} (p : α → Bool) (xs : List α) (d : α) :
  (∃ i,i < xs.length ∧ xs.findIdx? p = some i ∧ xs.find? p = some (xs.getD i d)) ∨ (xs.findIdx? p = none ∧ xs.find? p = none) := by
 induction xs with
 | nil => exact .inr ⟨rfl,rfl⟩
 | cons x r ih =>
  rw [List.findIdx?_cons,List.find?_cons]
  cases hp : p x
  ·rcases ih with ⟨i,h1,h2,h3⟩ | ⟨h1,h2⟩
   ·refine .inl ⟨i + 1,by simp; omega,?_,?_⟩
    ·simp [h2]
    ·simpa using h3
   ·refine .inr ⟨?_,?_⟩
    ·simp [h1]
    ·simpa using h2
  ·exact .inl ⟨0,by simp,by simp,by simp⟩
theorem AaO (h : Aa) (id : Int) (hl : h.tasks.length ≤ 1000000) : Ue h id = some ((h.tasks.findIdx? (fun x => x.id == id)).elim (-1) (fun i => (i : Int))) := by
 unfold Ue Fv
 rw [if_pos (by omega),Zh (p := fun x : Am => x.id == id) (fun k x n => rfl) rfl]
 rfl
theorem Aes (h : Aa) (id : Int) (hl : h.tasks.length ≤ 1000000) : Oh h id = some ((Bg h.tasks id).elim (zK,false) (fun x => (x,true))) := by
 unfold Oh Bg
 rw [AaO h id hl,Option.bind_some]
 rcases Mh (fun x : Am => x.id == id) h.tasks default with ⟨i,h1,h2,h3⟩ | ⟨h1,h2⟩
 ·rw [h2,h3,Option.elim_some,Option.elim_some,if_neg (by simp),if_pos (by omega),show Int.toNat (i : Int) = i by omega]
 ·rw [h1,h2]
  rfl
theorem Td (t : Ae) (id : Int) (hl : t.nodes.length ≤ 1000000) : Eb t id = some ((t.nodes.findIdx? (fun x => x.id == id)).elim (-1) (fun i => (i : Int))) := by
 unfold Eb Fd
 rw [if_pos (by omega),Zh (p := fun x : Ag => x.id == id) (fun k x n => rfl) rfl]
 rfl
theorem AcY (t : Ae) (id : Int) (hl : t.nodes.length ≤ 1000000) : Eg t id = some ((Fn t id).elim (zN,false) (fun x => (x,true))) := by
 unfold Eg Fn
 rw [Td t id hl,Option.bind_some]
 rcases Mh (fun x : Ag => x.id == id) t.nodes default with ⟨i,h1,h2,h3⟩ | ⟨h1,h2⟩
 ·rw [h2,h3,Option.elim_some,Option.elim_some,if_neg (by simp),if_pos (by omega),show Int.toNat (i : Int) = i by omega]
 ·rw [h1,h2]
  rfl
theorem Lj (t : Ae) (id : Int) (hl : t.nodes.length ≤ 1000000) : Ok (Eb t id) (fun i => decide (i < 0) = !Aw t id ∧ decide (i ≥ 0) = Aw t id) := by
 refine Ok.of_eq (Td t id hl) ?_
 unfold Aw Fn
 rcases Mh (fun x : Ag => x.id == id) t.nodes default with ⟨i,h1,h2,h3⟩ | ⟨h1,h2⟩
 ·rw [h2,h3]
  have : ¬ (i : Int) < 0 := by omega
  simp [this]
 ·rw [h1,h2]
  simp
theorem Afm (t : Ae) (id : Int) (hl : t.nodes.length ≤ 1000000) : Ox t id = some (En t id) := by
 unfold Ox
 rw [if_pos (by omega)]
 refine (Jp (p := fun x : Ag => x.parent == id) (f := fun x : Ag => x.id) (r := some) ?_ (fun _ => rfl) (by simp; omega)).trans (by simp [En])
 intro k x s n hs
 unfold Uu Lq
 rw [if_pos hs]
theorem WfT.id_pos {t : Ae} (w : WfT t) {x : Ag} (h : x ∈ t.nodes) : 1 ≤ x.id := w.p.ge1 x h
theorem WfT.par_lt {t : Ae} (w : WfT t) {x : Ag} (h : x ∈ t.nodes) : x.parent < x.id := by
 rcases w.p.par x h with ⟨h1,r⟩ | ⟨_,h2,_⟩
 ·rw [r.parent]; omega
 ·exact h2
theorem Yr {t : Ae} {x k : Int} (h : k ∈ upT t x) : ∃ n ∈ t.nodes,n.id = x := by
 by_cases e : ∃ n ∈ t.nodes,n.id = x
 ·exact e
 ·have : upT t x = [] := AbE fun n hn hx => e ⟨n,by simpa using hn,hx⟩
  rw [this] at h
  simp at h
theorem WfT.induct {t : Ae} (w : WfT t) {P : Ag → Prop} (step : ∀ x ∈ t.nodes,(∀ y ∈ t.nodes,y.id = x.parent → P y) → P x) : ∀ x ∈ t.nodes,P x := by
 have key : ∀ (n : Nat),∀ x ∈ t.nodes,x.id.toNat < n → P x := by
  intro n
  induction n with
  | zero => intro x _ h; omega
  | succ n ih =>
   intro x hx h
   refine step x hx fun y hy e => ih y hy ?_
   have := w.par_lt hx
   have := w.id_pos hx
   omega
 intro x hx
 exact key _ x hx (Nat.lt_succ_self _)
theorem up_le {t : Ae} (w : WfT t) : ∀ x ∈ t.nodes,∀ k ∈ upT t x.id,k ≤ x.id := by
 refine w.induct fun x hx ih k hk => ?_
 rw [w.up hx] at hk
 rcases List.mem_cons.mp hk with rfl | hk
 ·exact Int.le_refl _
 ·obtain ⟨y,hy,e⟩ := Yr hk
  rw [← e] at hk
  have := ih y hy e k hk
  have := w.par_lt hx
  omega
theorem up_self {t : Ae} (w : WfT t) {x : Ag} (hx : x ∈ t.nodes) : x.id ∈ upT t x.id := by
 rw [w.up hx]
 simp
theorem up_mem {t : Ae} (w : WfT t) : ∀ x ∈ t.nodes,∀ k ∈ upT t x.id,∃ n ∈ t.nodes,n.id = k := by
 refine w.induct fun x hx ih k hk => ?_
 rw [w.up hx] at hk
 rcases List.mem_cons.mp hk with rfl | hk
 ·exact ⟨x,hx,rfl⟩
 ·obtain ⟨y,hy,e⟩ := Yr hk
  rw [← e] at hk
  exact ih y hy e k hk
theorem up_trans {t : Ae} (w : WfT t) {k y : Int} (h2 : k ∈ upT t y) : ∀ x ∈ t.nodes,y ∈ upT t x.id → k ∈ upT t x.id := by
 refine w.induct fun x hx ih h1 => ?_
 have e := w.up hx
 rw [e] at h1
 rcases List.mem_cons.mp h1 with rfl | h1
 ·exact h2
 ·rw [e]
  obtain ⟨z,hz,ez⟩ := Yr h1
  rw [← ez] at h1
  have := ih z hz ez h1
  rw [ez] at this
  exact List.mem_cons_of_mem _ this
theorem up_child {t : Ae} (w : WfT t) {y : Int} : ∀ x ∈ t.nodes,y ∈ upT t x.id → x.id = y ∨ ∃ c ∈ En t y,c ∈ upT t x.id := by
 refine w.induct fun x hx ih h1 => ?_
 have e := w.up hx
 rw [e] at h1
 rcases List.mem_cons.mp h1 with rfl | h1
 ·exact .inl rfl
 ·obtain ⟨z,hz,ez⟩ := Yr h1
  rw [← ez] at h1
  refine .inr ?_
  rcases ih z hz ez h1 with h | ⟨c,hc,hcu⟩
  ·refine ⟨x.id,?_,up_self w hx⟩
   unfold En
   exact List.mem_map.mpr ⟨x,List.mem_filter.mpr ⟨hx,by simp; omega⟩,rfl⟩
  ·refine ⟨c,hc,?_⟩
   rw [e]
   rw [ez] at hcu
   exact List.mem_cons_of_mem _ hcu
theorem kids_iff {t : Ae} {y c : Int} : c ∈ En t y ↔ ∃ x ∈ t.nodes,x.parent = y ∧ x.id = c := by
 unfold En
 constructor
 ·intro h
  obtain ⟨x,hx,e⟩ := List.mem_map.mp h
  obtain ⟨h1,h2⟩ := List.mem_filter.mp hx
  exact ⟨x,h1,by simpa using h2,e⟩
 ·rintro ⟨x,h1,h2,h3⟩
  exact List.mem_map.mpr ⟨x,List.mem_filter.mpr ⟨h1,by simp [h2]⟩,h3⟩
end Go.Dm

/- Plain theory, part 13: the program's Check of hierarchies; counts; moves. -/
namespace Go.Dm
theorem AhV (h : Aa) (x : Am) (l1 : h.tasks.length ≤ 1000000) (l2 : h.tree.nodes.length ≤ 1000000) :
  Ok (Vg h x) (fun b => b = true ↔ (0 ≤ x.user ∧ x.user ≤ 1048576 ∧ Aw h.tree x.group = true ∧ ∃ p,Bg h.tasks x.process = some p ∧ p.process = x.process ∧ p.user = x.user)) := by
 unfold Vg Hu
 refine Ok.step (Aes h x.process l1) ?_
 have no : ∀ {P : Prop},¬ P → Ok (some false) (fun b => b = true ↔ P) := fun hn => Ok.ret ⟨fun e => by simp at e,fun w => absurd w hn⟩
 refine Ok.ite (fun c => ?_) fun c => ?_
 rotate_left
 ·have := of_decide_eq_false c
  exact no fun w => by omega
 have u1 := of_decide_eq_true c
 refine Ok.ite (fun c => ?_) fun c => ?_
 rotate_left
 ·have := of_decide_eq_false c
  exact no fun w => by omega
 have u2 := of_decide_eq_true c
 cases hk : Bg h.tasks x.process with
 | none =>
  exact no fun w => by
   obtain ⟨_,_,_,p,hp,_⟩ := w
   simp at hp
 | some p =>
  obtain ⟨hp1,hp2⟩ := Mg hk
  simp only [Option.elim_some,if_true]
  refine Ok.ite (fun c => ?_) fun c => ?_
  rotate_left
  ·exact no fun w => by
    obtain ⟨_,_,_,q,hq,hq2,_⟩ := w
    obtain rfl : p = q := by simpa using hq
    have : ¬ p.process = p.id := by simpa using c
    omega
  have c1 : p.process = p.id := by simpa using c
  refine Ok.ite (fun c => ?_) fun c => ?_
  rotate_left
  ·exact no fun w => by
    obtain ⟨_,_,_,q,hq,_,hq3⟩ := w
    obtain rfl : p = q := by simpa using hq
    have : ¬ p.user = x.user := by simpa using c
    omega
  have c2 : p.user = x.user := by simpa using c
  refine Ok.bind (Lj h.tree x.group l2) fun i hi => Ok.ret ?_
  rw [hi.2]
  constructor
  ·intro hh
   exact ⟨u1,u2,hh,p,rfl,by omega,c2⟩
  ·intro w
   exact w.2.2.1
theorem Acp (h : Aa) (hm : ∀ x ∈ h.tree.nodes,NodeM x) : Ok (Ko h) (fun b => b = true ↔ WfH h) := by
 have bad : ¬ WfH h → Ok (some false) (fun b => b = true ↔ WfH h) := fun hn => Ok.ret ⟨fun e => by simp at e,fun w => absurd w hn⟩
 unfold Ko
 refine Ok.ite (fun c => ?_) fun c => ?_
 ·have := of_decide_eq_true c
  exact bad fun w => by have := w.len; omega
 have l1 := of_decide_eq_false c
 refine Ok.ite (fun c => ?_) fun c => ?_
 ·have := of_decide_eq_true c
  exact bad fun w => by have := w.n2; omega
 have n2 := of_decide_eq_false c
 refine Ok.bind (AdW h.tree hm) fun b hb => ?_
 unfold Ml
 refine Ok.ite (fun c => ?_) fun c => ?_
 ·refine bad fun w => ?_
  have := hb.mpr w.tree
  rw [this] at c
  simp at c
 have wt : WfT h.tree := hb.mp (by simpa using c)
 have l2 := wt.len2
 refine Ok.guard (by omega) ?_
 refine Ok.range (fun pre s => 0 ≤ s ∧ (∀ y ∈ pre,y.id ≤ s) ∧ (s = 0 ∨ ∃ y ∈ pre,y.id = s) ∧ pre.Pairwise (fun a b => a.id < b.id) ∧ ∀ x ∈ pre,TaskV h x) (by simp) ?_ ?_
 ·rintro pre x post s n he ⟨i0,i1,i2,i3,i4⟩ hn
  have hx : x ∈ h.tasks := by rw [he]; simp
  unfold Yo Qf
  refine Ok.ite (fun c => ?_) fun c => ?_
  ·have hle := of_decide_eq_true c
   refine bad fun w => ?_
   rcases i2 with rfl | ⟨y,hy,e⟩
   ·have := (w.val x hx).pos
    omega
   ·have hs := w.sorted
    rw [he,List.pairwise_append] at hs
    have := hs.2.2 y hy x (by simp)
    omega
  have hgt := of_decide_eq_false c
  refine Ok.bind (AhV h x (by omega) (by omega)) fun b hb => ?_
  refine Ok.ite (fun c => ?_) fun c => ?_
  ·refine bad fun w => ?_
   have v := w.val x hx
   have := hb.mpr ⟨v.u1,v.u2,v.grp,v.ldr⟩
   rw [this] at c
   simp at c
  ·obtain ⟨a1,a2,a3,a4⟩ := hb.mp (by simpa using c)
   refine hn _ ⟨by omega,?_,.inr ⟨x,by simp,rfl⟩,?_,?_⟩
   ·intro y hy
    rcases List.mem_append.mp hy with hy | hy
    ·have := i1 y hy
     omega
    ·obtain rfl : y = x := by simpa using hy
     exact Int.le_refl _
   ·rw [List.pairwise_append]
    refine ⟨i3,by simp,fun a ha b hb => ?_⟩
    obtain rfl : b = x := by simpa using hb
    have := i1 a ha
    omega
   ·intro y hy
    rcases List.mem_append.mp hy with hy | hy
    ·exact i4 y hy
    ·obtain rfl : y = x := by simpa using hy
     exact ⟨by omega,a3,a1,a2,a4⟩
 ·rintro s ⟨i0,i1,i2,i3,i4⟩
  refine Ok.ret ⟨fun e => ?_,fun w => ?_⟩
  ·have hlt : s < h.next := by
    have := of_decide_eq_true e
    omega
   exact ⟨wt,by omega,by omega,by omega,i3,fun x hx => by have := i1 x hx; omega,i4⟩
  ·rcases i2 with rfl | ⟨y,hy,e⟩
   ·have := w.n1
    simp; omega
   ·have := w.lt y hy
    simp; omega
theorem Ade {h : Aa} (w : WfH h) : Ko h = some true := by
 obtain ⟨b,hb,e⟩ := Acp h w.tree.p.names
 rw [hb,e.mpr w]
theorem Akt (l : List Int) (x : Int) (hl : l.length ≤ 1000000) : Jt l x = some (l.contains x) := by
 unfold Jt Qu
 rw [if_pos (by omega),Zh (p := fun y : Int => x == y) (fun k y n => rfl) rfl,Option.bind_some]
 rcases Mh (fun y : Int => x == y) l 0 with ⟨i,h1,h2,h3⟩ | ⟨h1,h2⟩
 ·rw [h2]
  have hm := List.mem_of_find?_eq_some h3
  have he := List.find?_some h3
  have : l.contains x = true := by
   rw [List.contains_iff_mem]
   have : x = l.getD i 0 := by simpa using he
   rw [this]
   exact hm
  rw [this]
  simp
 ·rw [h1]
  have : l.contains x = false := by
   rw [List.find?_eq_none] at h2
   cases hc : l.contains x
   ·rfl
   ·rw [List.contains_iff_mem] at hc
    have := h2 x hc
    simp at this
  rw [this]
  simp
theorem Nk (h : Aa) (h1 : h.tree.nodes.length ≤ 1000000) (h2 : h.tasks.length ≤ 1000000) : Kx h = some h := by
 unfold Kx Dt Jo
 rw [if_pos (by omega),if_pos (by omega)]
 rfl
end Go.Dm

/- Plain theory, part 14: the document's subtrees and counts; ancestors. -/
namespace Go.Dm
end Go.Dm

/- Plain theory, part 15: counts. -/
namespace Go.Dm
theorem Gr {t : Ae} (w : WfT t) (id : Int) : Dq t id = some (upT t id) := by
 apply Ok.eq
 have l2 := w.len2
 unfold Dq
 refine Ok.guard (by omega) ?_
 refine Ok.range (fun pre s => s.1 ++ upT t s.2 = upT t id ∧ s.1.length = pre.length) ⟨by simp,rfl⟩ ?_ ?_
 ·rintro pre x post ⟨o,c⟩ n he ⟨i1,i2⟩ hn
  simp only at i1 i2
  unfold Sr Ks
  refine Ok.step (AcY t c (by omega)) ?_
  cases hg : Fn t c with
  | none =>
   refine Ok.ret ?_
   have : upT t c = [] := AbE fun y hy e => by
    unfold Fn at hg
    rw [List.find?_eq_none] at hg
    have := hg y (by simpa using hy)
    simp [e] at this
   rw [this] at i1
   simpa using i1
  | some y =>
   obtain ⟨hy,hyc⟩ := Qo hg
   have hp : pre.length < t.nodes.length := by rw [he]; simp
   simp only [Option.elim_some,Bool.not_true,Bool.false_eq_true,if_false]
   refine Ok.guard (by omega) (hn _ ⟨?_,by simp [i2]⟩)
   simp only
   rw [← i1,← hyc,w.up hy]
   simp
 ·rintro ⟨o,c⟩ ⟨i1,i2⟩
  simp only at i1 i2
  refine Ok.ret ?_
  have hlen := Qx t.nodes.reverse id
  rw [List.length_reverse] at hlen
  change (upT t id).length ≤ t.nodes.length at hlen
  rw [← i1] at hlen
  have : (upT t c).length = 0 := by
   rw [List.length_append] at hlen
   omega
  have : upT t c = [] := List.length_eq_zero_iff.mp this
  rw [this] at i1
  simpa using i1
end Go.Dm

/- Plain theory, part 16: made counts. -/
namespace Go.Dm
end Go.Dm

/- Plain theory, part 17: room and refusals. -/
namespace Go.Dm
end Go.Dm

/- Plain theory, part 18: sums of counts. -/
namespace Go.Dm
theorem Zz {t : Ae} {x : Ag} (hx : x ∈ t.nodes) : Aw t x.id = true := hasN_iff.mpr ⟨x,hx,rfl⟩
end Go.Dm

/- Plain theory, part 19: charges, limits; the document's functions on counts. -/
namespace Go.Dm
theorem AhF {t : Ae} (w : WfT t) (g : Int) : (upT t g).length ≤ 64 := by
 have := Qx t.nodes.reverse g
 have := w.len2
 rw [List.length_reverse] at *
 unfold upT
 omega
end Go.Dm

/- Plain theory, part 20: the library's sort leaves an ascending list as it is. -/
namespace Go.Dm
theorem AhI (a b : Int) : Cy a b = some (decide (a < b)) := by
 unfold Cy Rg Mp
 simp
theorem asc_at {L : List Int} (h : L.Pairwise (· < ·)) {i j : Nat} (hij : i < j) (hj : j < L.length) : L.getD i 0 < L.getD j 0 := by
 rw [Pr hj,Pr (by omega)]
 exact List.pairwise_iff_getElem.mp h i j (by omega) hj hij
theorem AhW {L : List Int} (h : L.Pairwise (· < ·)) {i j : Nat} (hij : i < j) (hj : j < L.length) : decide (L.getD j 0 < L.getD i 0) = false := by
 have := asc_at h hij hj
 rw [decide_eq_false_iff_not]
 omega
theorem AiK {L : List Int} (h : L.Pairwise (· < ·)) (hl : L.length ≤ 1000000) : Dv L 0 (L.length : Int) = some L := by
 apply Ok.eq
 unfold Dv
 have e1 : w64 (0 + 1) = 1 := Bu (by omega) (by omega)
 rw [e1]
 refine Ok.guard (by omega) ?_
 refine Ok.for (fun _ s => s = L) rfl ?_ ?_
 ·intro j s n hj hs hn
  subst hs
  unfold Hs
  refine Ok.while (fun q => q = (s,1 + (j : Int))) (fun _ => 0) rfl (by rw [Nu]; omega) ?_
  intro q nn hq _
  subst hq
  unfold Ht Dl
  simp only
  have hw : w64 (1 + (j : Int) - 1) = (j : Int) := by
   rw [Bu (by omega) (by omega)]
   omega
  have ej : Int.toNat (j : Int) = j := by omega
  have ej1 : Int.toNat (1 + (j : Int)) = j + 1 := by omega
  rw [hw,ej,ej1,AhI,AhW h (show j < j + 1 by omega) (by omega)]
  refine Ok.ite (fun _ => ?_) fun _ => hn _ rfl
  refine Ok.guard (by omega) (Ok.guard (by omega) (Ok.guard (by omega) (Ok.guard (by omega) ?_)))
  exact Ok.step rfl (hn _ rfl)
 ·intro s hs
  subst hs
  exact Ok.ret rfl
theorem AdD {L : List Int} (h : L.Pairwise (· < ·)) {a b : Nat} (hab : a < b) (hb : b < L.length) (c : Int) : Dp L (a : Int) (b : Int) c = some ((a : Int),(b : Int),c) := by
 unfold Dp
 have ea : Int.toNat (a : Int) = a := by omega
 have eb : Int.toNat (b : Int) = b := by omega
 rw [if_pos (by omega),if_pos (by omega),ea,eb,AhI,AhW h hab hb]
 rfl
theorem Ads {L : List Int} (h : L.Pairwise (· < ·)) {a b c : Nat} (hab : a < b) (hbc : b < c) (hc : c < L.length) (k : Int) : Ex L (a : Int) (b : Int) (c : Int) k = some ((b : Int),k) := by
 unfold Ex
 rw [AdD h hab (by omega),Option.bind_some,AdD h hbc hc,Option.bind_some,AdD h hab (by omega)]
 rfl
theorem AbI {L : List Int} (h : L.Pairwise (· < ·)) {a : Nat} (h0 : 0 < a) (ha : a + 1 < L.length) (hl : L.length ≤ 1000000) (k : Int) : Cb L (a : Int) k = some ((a : Int),k) := by
 unfold Cb
 have e1 : w64 ((a : Int) - 1) = ((a - 1 : Nat) : Int) := by
  rw [Bu (by omega) (by omega)]
  omega
 have e2 : w64 ((a : Int) + 1) = ((a + 1 : Nat) : Int) := by
  rw [Bu (by omega) (by omega)]
  omega
 rw [e1,e2,Ads h (by omega) (by omega) ha]
 rfl
theorem pivot_asc {L : List Int} (h : L.Pairwise (· < ·)) (h12 : 12 < L.length) (hl : L.length ≤ 1000000) : Ok (Ep L 0 (L.length : Int)) (fun r => r.2 = 1) := by
 unfold Ep
 have e0 : w64 ((L.length : Int) - 0) = (L.length : Int) := by
  rw [Bu (by omega) (by omega)]
  omega
 rw [e0]
 have eq : w64 (Int.tdiv (L.length : Int) 4) = ((L.length / 4 : Nat) : Int) := by
  rw [Int.tdiv_eq_ediv_of_nonneg (by omega),Bu (by omega) (by omega)]
  omega
 rw [eq]
 have hq : 3 ≤ L.length / 4 := by omega
 have hq2 : 4 * (L.length / 4) ≤ L.length := by omega
 generalize L.length / 4 = q at *
 have m1 : w64 (0 + w64 ((q : Int) * 1)) = (q : Int) := by
  rw [Bu (n := (q : Int) * 1) (by omega) (by omega),Bu (by omega) (by omega)]
  omega
 have m2 : w64 (0 + w64 ((q : Int) * 2)) = ((2 * q : Nat) : Int) := by
  rw [Bu (n := (q : Int) * 2) (by omega) (by omega),Bu (by omega) (by omega)]
  omega
 have m3 : w64 (0 + w64 ((q : Int) * 3)) = ((3 * q : Nat) : Int) := by
  rw [Bu (n := (q : Int) * 3) (by omega) (by omega),Bu (by omega) (by omega)]
  omega
 rw [m1,m2,m3]
 unfold Dx Dw
 refine Ok.ite (fun _ => ?_) fun c => ?_
 ·refine Ok.ite (fun c => ?_) fun _ => ?_
  ·have := of_decide_eq_true c
   refine Ok.step (AbI h (by omega) (by omega) hl 0) ?_
   refine Ok.step (AbI h (by omega) (by omega) hl 0) ?_
   refine Ok.step (AbI h (by omega) (by omega) hl 0) ?_
   exact Ok.step (Ads h (by omega) (by omega) (by omega) 0) (Ok.ret rfl)
  ·exact Ok.step (Ads h (by omega) (by omega) (by omega) 0) (Ok.ret rfl)
 ·have := of_decide_eq_false c
  omega
theorem Akb {L : List Int} (h : L.Pairwise (· < ·)) (h1 : 1 ≤ L.length) (hl : L.length ≤ 1000000) : Cw L 0 (L.length : Int) = some (true,L) := by
 apply Ok.eq
 unfold Cw
 have e1 : w64 (0 + 1) = 1 := Bu (by omega) (by omega)
 rw [e1]
 refine Ok.for (fun j s => j = 0 ∧ s = (L,1)) ⟨rfl,rfl⟩ ?_ ?_
 ·rintro j s n hj ⟨rfl,rfl⟩ hn
  unfold Fm
  simp only
  refine Ok.while (fun q => ∃ i : Nat,q = ((i + 1 : Nat) : Int) ∧ i + 1 ≤ L.length) (fun q => L.length - q.toNat) ⟨0,rfl,h1⟩ (by rw [Nu]; omega) ?_
  rintro q nn ⟨i,rfl,hi⟩ hnn
  unfold Fg Ck
  simp only
  have hw : w64 (((i + 1 : Nat) : Int) - 1) = (i : Int) := by
   rw [Bu (by omega) (by omega)]
   omega
  have ei : Int.toNat (i : Int) = i := by omega
  have ei1 : Int.toNat ((i + 1 : Nat) : Int) = i + 1 := by omega
  refine Ok.ite (fun c => ?_) fun c => ?_
  ·have c := of_decide_eq_true c
   rw [hw,ei,ei1,AhI,AhW h (show i < i + 1 by omega) (by omega)]
   refine Ok.guard (by omega) (Ok.guard (by omega) (Ok.guard (by omega) (Ok.guard (by omega) ?_)))
   refine Ok.step rfl (hnn _ ⟨i + 1,?_,by omega⟩ ?_)
   ·rw [Bu (by omega) (by omega)]
    omega
   ·rw [Bu (by omega) (by omega)]
    omega
  ·have c := of_decide_eq_false c
   have : ((i + 1 : Nat) : Int) = (L.length : Int) := by omega
   simp only [Bool.false_eq_true,if_false]
   rw [if_pos (by rw [this]; simp)]
   exact Ok.ret rfl
 ·rintro s ⟨h0,_⟩
  simp at h0
theorem AjS : (List.range 1001).all (fun n => (Rb (IntKind.u64.wrap (n : Int))).any (fun k => n == 0 || decide (1 ≤ k))) = true := by decide +kernel
theorem len_bits {n : Nat} (h0 : 0 < n) (hn : n ≤ 1000) : Ok (Rb (IntKind.u64.wrap (n : Int))) (fun k => 1 ≤ k) := by
 have := List.all_eq_true.mp AjS n (by rw [List.mem_range]; omega)
 cases hb : Rb (IntKind.u64.wrap (n : Int)) with
 | none => rw [hb] at this; simp at this
 | some k =>
  rw [hb] at this
  simp at this
  exact ⟨k,rfl,by omega⟩
theorem Ajs {n : Nat} (hn : n ≤ 1000) : Ok (Rb (IntKind.u64.wrap (n : Int))) (fun _ => True) := by
 have := List.all_eq_true.mp AjS n (by rw [List.mem_range]; omega)
 cases hb : Rb (IntKind.u64.wrap (n : Int)) with
 | none => rw [hb] at this; simp at this
 | some k => exact ⟨k,rfl,trivial⟩
theorem AkW (p0 : List Int) (p1 p2 p3 : Int) : Ly p0 p1 p2 p3 = Ft (Ct 1099511627775) p0 p1 p2 p3 := by
 show Ct (1099511627775 + 1) p0 p1 p2 p3 = _
 rw [Ct]
theorem Ajq {L : List Int} (h : L.Pairwise (· < ·)) (hl : L.length ≤ 1000) : Kz L = some L := by
 apply Ok.eq
 unfold Kz
 refine Ok.bind (P := fun k => 12 < L.length → 1 ≤ k) ?_ fun k hk => ?_
 ·by_cases h0 : 0 < L.length
  ·exact (len_bits h0 hl).mono fun _ h _ => h
  ·exact (Ajs hl).mono fun _ _ h => by omega
 refine Ok.step (a := L) ?_ (Ok.guard rfl (Ok.ret rfl))
 apply Ok.eq
 rw [AkW]
 unfold Ft
 refine Ok.while (fun q => q = (L,0,(L.length : Int),k,true,true)) (fun _ => 0) rfl (by rw [Nu]; omega) ?_
 rintro q n rfl _
 unfold Ku
 simp only
 have e0 : w64 ((L.length : Int) - 0) = (L.length : Int) := by
  rw [Bu (by omega) (by omega)]
  omega
 rw [e0]
 refine Ok.ite (fun _ => ?_) fun c => ?_
 ·exact Ok.step (AiK h (by omega)) (Ok.guard rfl (Ok.ret rfl))
 ·have c := of_decide_eq_false c
  have := hk (by omega)
  refine Ok.ite (fun c => ?_) fun _ => ?_
  ·exfalso
   have : k = 0 := by simpa using c
   omega
  simp only [Bool.not_true,Bool.false_eq_true,if_false]
  unfold Fi
  simp only
  refine Ok.bind (pivot_asc h (by omega) (by omega)) fun r hr => ?_
  rw [hr]
  refine Ok.ite (fun c => by simp at c) fun _ => ?_
  unfold Fj
  simp only
  refine Ok.ite (fun _ => ?_) fun c => by simp at c
  exact Ok.step (Akb h (by omega) (by omega)) (Ok.guard rfl (Ok.ret rfl))
theorem AfX {L : List Int} (h : L.Pairwise (· < ·)) (hl : L.length ≤ 1000000) : Io L = some (L.length,L) := by
 apply Ok.eq
 unfold Io
 refine Ok.ite (fun _ => Ok.ret rfl) fun c => ?_
 refine Ok.guard (by omega) ?_
 refine Ok.for (fun _ _ => True) trivial ?_ fun _ _ => Ok.ret rfl
 intro j _ n hj _ hn
 unfold Qw
 have hw : w64 (1 + (j : Int) - 1) = (j : Int) := by
  rw [Bu (by omega) (by omega)]
  omega
 have ej : Int.toNat (j : Int) = j := by omega
 have ej1 : Int.toNat (1 + (j : Int)) = j + 1 := by omega
 rw [hw,ej,ej1]
 have := asc_at h (show j < j + 1 by omega) (by omega)
 refine Ok.guard (by omega) (Ok.guard (by omega) (Ok.guard (by omega) (Ok.guard (by omega) ?_)))
 refine Ok.ite (fun c => ?_) fun _ => hn () trivial
 have : L.getD (j + 1) 0 = L.getD j 0 := by simpa using c
 omega
theorem ids_asc {L : List Am} (h : L.Pairwise (fun a b => a.id < b.id)) (p : Am → Bool) : ((L.filter p).map (·.id)).Pairwise (· < ·) := by
 rw [List.pairwise_map]
 exact h.filter p
def Eh (h : Aa) (p : Int) : List Int := (h.tasks.filter (fun x => x.process == p)).map (·.id)
theorem Ss {h : Aa} (hs : h.tasks.Pairwise (fun a b => a.id < b.id)) (hl : h.tasks.length ≤ 1000) (g : Int) : Lx h g = some (tasksK h g) := by
 unfold Lx Fw
 rw [if_pos (by omega)]
 have ha := ids_asc hs (fun x => x.group == g)
 have hlen : ((h.tasks.filter (fun x => x.group == g)).map (·.id)).length ≤ 1000 := by
  rw [List.length_map]
  have := List.length_filter_le (fun x : Am => x.group == g) h.tasks
  omega
 rw [Jp (p := fun x : Am => x.group == g) (f := fun x : Am => x.id) (r := Fe) (fun k x s n hs => by
  unfold Hp Dk Wl AaX
  simp only [Option.bind_some]
  rw [if_pos hs]) (fun _ => rfl) (by simp; omega)]
 rw [List.nil_append]
 unfold Fe
 rw [Ajq ha hlen,Option.bind_some,if_pos rfl,AfX ha (by omega),Option.bind_some,if_pos rfl,if_pos (Nat.le_refl _),List.take_length]
 rfl
theorem AhO {h : Aa} (hs : h.tasks.Pairwise (fun a b => a.id < b.id)) (hl : h.tasks.length ≤ 1000) (g : Int) : Th h g = some (Eh h g) := by
 unfold Th Fc
 rw [if_pos (by omega)]
 have ha := ids_asc hs (fun x => x.process == g)
 have hlen : ((h.tasks.filter (fun x => x.process == g)).map (·.id)).length ≤ 1000 := by
  rw [List.length_map]
  have := List.length_filter_le (fun x : Am => x.process == g) h.tasks
  omega
 rw [Jp (p := fun x : Am => x.process == g) (f := fun x : Am => x.id) (r := El) (fun k x s n hs => by
  unfold Hb Dg Uf AaX
  simp only [Option.bind_some]
  rw [if_pos hs]) (fun _ => rfl) (by simp; omega)]
 rw [List.nil_append]
 unfold El
 rw [Ajq ha hlen,Option.bind_some,if_pos rfl,AfX ha (by omega),Option.bind_some,if_pos rfl,if_pos (Nat.le_refl _),List.take_length]
 rfl
end Go.Dm

/- Plain theory, part 21: what changes leave as it is; sizes of made hierarchies. -/
namespace Go.Dm
theorem range_ok {α β : Type} {Q : β → Prop} {body : Nat → α → Unit → (Unit → Option β) → Option β} {done : Unit → Option β} {xs : List α} (hb : ∀ k x n,Ok (n ()) Q → Ok (body k x () n) Q) (hd : Ok (done ()) Q) : Ok (Bd body done xs 0 ()) Q :=
 Ok.range (fun _ _ => True) trivial (fun _ _ _ _ _ _ _ hn => hb _ _ _ (hn () trivial)) (fun _ _ => hd)
def Hm (h : Aa) (x : Ag) : Aa := { tree := setT h.tree x,tasks := h.tasks,next := h.next }
theorem Write_ref7_like (h : Aa) (id a d : Int) : Ok (Qp h id a d) (fun r => r.2 = 0 → ∃ x,r.1 = Hm h x) := by
 have bad : ∀ (x : Aa) (n : Int),n ≠ 0 → Ok (some (x,n)) (fun r : Aa × Int => r.2 = 0 → ∃ x,r.1 = Hm h x) := fun x n hn => Ok.ret fun e => absurd e hn
 unfold Qp
 refine Ok.bind (Aam h) fun b hb => ?_
 have hf : Ok (Fq h id a d true) (fun r : Aa × Int => r.2 = 0 → ∃ x,r.1 = Hm h x) := bad _ _ (by decide)
 refine Ok.ite (fun _ => hf) fun c => ?_
 have w : WfH h := hb (by simpa using c)
 have := w.len
 have := w.tree.len2
 have hJ4 : ∀ r b,Ok (Jf h a d r b) (fun r : Aa × Int => r.2 = 0 → ∃ x,r.1 = Hm h x) := fun r b => by
  unfold Jf
  refine Ok.ite (fun _ => bad _ _ (by decide)) fun _ => ?_
  refine Ok.step (Py h (by omega) (by omega)) ?_
  exact Ok.step (Ux h.tree _ (by omega)) (Ok.ret fun _ => ⟨_,rfl⟩)
 have hJ : ∀ b,Ok (Fq h id a d b) (fun r : Aa × Int => r.2 = 0 → ∃ x,r.1 = Hm h x) := fun b => by
  unfold Fq
  refine Ok.ite (fun _ => bad _ _ (by decide)) fun _ => ?_
  refine Ok.bind (Dc _ _) fun r _ => Ok.ite (fun _ => bad _ _ (by decide)) fun _ => ?_
  refine Ok.bind (Tm _ _) fun _ _ => Ok.ite (fun _ => bad _ _ (by decide)) fun _ => ?_
  refine Ok.bind (Up _ _) fun l hl => Ok.guard (by omega) (range_ok (fun k x n hn => ?_) ?_)
  ·unfold Xg
   exact Ok.bind (Dc _ _) fun _ _ => Ok.ite (fun _ => bad _ _ (by decide)) fun _ => hn
  ·unfold Xk
   refine Ok.ite (fun _ => Ok.ite (fun _ => ?_) fun _ => hJ4 _ _) fun _ => hJ4 _ _
   exact Ok.bind (Ms _ _) fun _ _ => hJ4 _ _
 unfold Yx
 refine Ok.step rfl (Ok.ite (fun _ => hf) fun _ => Ok.step rfl (Ok.ite (fun _ => hf) fun _ => hJ _))
theorem Tree_inv {d : At} (h : Bt d) (n : Int) (h0 : 0 ≤ n) (h1 : n ≤ 1000) (P : Int → Ae → Prop)
  (hnew : ∀ c,0 ≤ c → c ≤ n → P c newT)
  (hskip : ∀ c t,WfT t → 0 ≤ c → P (c + 1) t → P c t)
  (hadd : ∀ c t p s r,WfT t → 0 ≤ c → P (c + 1) t → Dj s = true → Ry t p s = r → r.2.2 = 0 → P c r.1)
  (hrem : ∀ c t id r,WfT t → 0 ≤ c → P c t → Ke t id = r → r.2 = 0 → P c r.1) :
  Ok (Mi d n) (fun r => WfT r.1 ∧ Bt r.2 ∧ P 0 r.1) := by
 unfold Mi
 refine Ok.step Akg ?_
 rw [Bu (by omega) (by omega)]
 refine Ok.bind (Hf h (n + 1) (by omega) (by omega)) fun r ⟨a1,a2,a3⟩ => ?_
 refine Ok.while (fun s => Bt s.1 ∧ WfT s.2.1 ∧ s.2.2 ≤ 2000 ∧ 0 ≤ s.2.2 ∧ P s.2.2 s.2.1) (fun s => s.2.2.toNat) ⟨a1,newT_wf,by simp only; omega,a2,hnew _ a2 (by simp only; omega)⟩ (by rw [Nu]; simp only; omega) ?_
 rintro ⟨d,t,c⟩ k ⟨b1,b2,b3,b4,b5⟩ hk
 simp only at b1 b2 b3 b4 b5 hk
 unfold Vx
 simp only
 refine Ok.ite (fun c1 => ?_) fun c1 => ?_
 ·have hc := of_decide_eq_true c1
  have l1 := b2.len1
  have l2 := b2.len2
  have b5' : P (c - 1 + 1) t := by rw [show c - 1 + 1 = c by omega]; exact b5
  refine Ok.bind (Hf b1 _ (by omega) (by omega)) fun r2 ⟨q1,q2,q3⟩ => ?_
  refine Ok.guard ⟨q2,q3⟩ ?_
  refine Ok.bind (Name_ok q1) fun r3 ⟨u1,u2⟩ => ?_
  refine Ok.step (Alc b2 _ _) ?_
  have hw : w64 (c - 1) = c - 1 := Bu (by omega) (by omega)
  have hJ3 : ∀ y : At × Ae,Bt y.1 → WfT y.2 → P (c - 1) y.2 → Ok (Ib (d,t,c) k y) (fun r => WfT r.1 ∧ Bt r.2 ∧ P 0 r.1) := by
   intro y hy1 hy2 hy3
   unfold Ib
   simp only
   rw [hw]
   exact hk _ ⟨hy1,hy2,by simp only; omega,by simp only; omega,hy3⟩ (by simp only; omega)
  have hJ4 : ∀ y : Ae,WfT y → P (c - 1) y → Ok (Ki (d,t,c) k r3 y) (fun r => WfT r.1 ∧ Bt r.2 ∧ P 0 r.1) := by
   intro y hy hp
   unfold Ki
   refine Ok.bind (AaY u1 6 (by omega)) fun r4 hr4 => ?_
   refine Ok.ite (fun _ => ?_) fun _ => ?_
   ·have y1 := hy.len1
    have y2 := hy.len2
    refine Ok.bind (Hf hr4 _ (by omega) (by omega)) fun r5 ⟨v1,v2,v3⟩ => ?_
    refine Ok.guard ⟨v2,v3⟩ ?_
    refine Ok.step (AiJ hy _) ?_
    refine Ok.ite (fun c2 => ?_) fun _ => ?_
    ·exact hJ3 _ v1 (Ahl hy rfl (by simpa using c2)) (hrem _ _ _ _ hy (by omega) hp rfl (by simpa using c2))
    ·exact hJ3 _ v1 hy hp
   ·exact hJ3 _ hr4 hy hp
  refine Ok.ite (fun c2 => ?_) fun _ => ?_
  ·exact hJ4 _ (addT_wf b2 rfl (by simpa using c2)) (hadd _ _ _ _ _ b2 (by omega) b5' u2 rfl (by simpa using c2))
  ·exact hJ4 _ b2 (hskip _ _ b2 (by omega) b5')
 ·have hc := of_decide_eq_false c1
  have : c = 0 := by omega
  subst this
  exact Ok.ret ⟨b2,b1,b5⟩
def ownN (x : Ag) (u : Int) : Ag := { id := x.id,parent := x.parent,name := x.name,control := x.control,kind := x.kind,owner := u }
theorem AeX {h : Aa} (w : WfH h) {x : Ag} (hx : x ∈ h.tree.nodes) {u : Int} (u0 : 0 ≤ u) (u1 : u ≤ 1048576) : WfH (Hm h (ownN x u)) := by
 have v := w.tree.p.val x hx
 have wt := setT_wf w.tree (x := ownN x u) hx rfl rfl rfl ⟨v.kind,v.c1,v.c2,u0,u1⟩ (fun e => by
  rcases w.tree.p.par x hx with ⟨_,r⟩ | ⟨a,b,_⟩
  ·exact r.kind
  ·omega)
 refine ⟨wt,w.len,w.n1,w.n2,w.sorted,w.lt,fun y hy => ?_⟩
 have u := w.val y hy
 refine ⟨u.pos,?_,u.u1,u.u2,u.ldr⟩
 obtain ⟨z,hz,hzi⟩ := hasN_iff.mp u.grp
 refine hasN_iff.mpr ⟨Lh _ z,List.mem_map.mpr ⟨z,hz,rfl⟩,?_⟩
 unfold Lh
 split
 ·rename_i q
  have q : z.id = x.id := by simpa [ownN] using q
  simp only [ownN]
  omega
 ·exact hzi
structure HInv (n m : Int) (P R : Int → Aa → Prop) : Prop where
 en : ∀ h g a r c,WfH h → P c h → Mc h g a 0 = some r → r.2 = 0 → P c r.1
 co : ∀ h g r c,WfH h → P c h → Kw h g = some r → r.2 = 0 → P c r.1
 ow : ∀ h x u c,WfH h → P c h → x ∈ h.tree.nodes → x.id ≠ 1 → 0 ≤ u → u < 3 → P c (Hm h (ownN x u))
 skip : ∀ c h,WfH h → 0 ≤ c → P (c + 1) h → P c h
 sp : ∀ c h g u r,WfH h → 0 ≤ c → P (c + 1) h → Iz h g = some 0 → 0 ≤ u → u < 3 → Vi h g u = r → r.2.2 = 0 → R c r.1
 nosp : ∀ c h,WfH h → 0 ≤ c → P (c + 1) h → R c h
 nocl : ∀ c h,WfH h → 0 ≤ c → R c h → P c h
 cl : ∀ c h k r,WfH h → 0 ≤ c → R c h → AbD h k = r → r.2.2 = 0 → P c r.1
 atc : ∀ c h k g r,WfH h → 0 ≤ c → P c h → Ga h k g = some r → r.2 = 0 → P c r.1
 ex : ∀ c h k r,WfH h → 0 ≤ c → P c h → AdH h k = r → r.2 = 0 → P c r.1
theorem AjA {n m : Int} {P R : Int → Aa → Prop} (I : HInv n m P R) {c : Int} {d : At} (hd : Bt d) {h : Aa} (w : WfH h) (hp : P c h) : Ok (Qc d h) (fun r => WfH r.1 ∧ Bt r.2 ∧ P c r.1) := by
 have l1 := w.len
 have l2 := w.tree.len2
 unfold Qc
 refine Ok.bind (AdQ hd h.tree (by omega)) fun r1 h1 => Ok.bind (AcZ h1 5 (by omega)) fun r2 h2 => ?_
 have hJ1 : ∀ y : At × Aa,Bt y.1 → WfH y.2 → P c y.2 → Ok (Gq y) (fun r => WfH r.1 ∧ Bt r.2 ∧ P c r.1) := fun y a b c => Ok.ret ⟨b,a,c⟩
 have hJ : ∀ b,Ok (Kf h r1 r2 b) (fun r => WfH r.1 ∧ Bt r.2 ∧ P c r.1) := fun b => by
  unfold Kf
  refine Ok.ite (fun _ => ?_) fun _ => Ok.ite (fun _ => ?_) fun _ => Ok.ite (fun _ => ?_) fun _ => hJ1 _ h2.1 w hp
  ·refine Ok.bind (Ys h2.1) fun r3 h3 => ?_
   obtain ⟨r4,e4,h4⟩ := Aim h r1.1 r3.1 0
   refine Ok.step e4 (Ok.ite (fun c => ?_) fun _ => hJ1 _ h3.1 w hp)
   have c : r4.2 = 0 := by simpa using c
   exact Ok.ret ⟨h4 c,h3.1,I.en _ _ _ _ _ w hp e4 c⟩
  ·obtain ⟨r4,e4,h4⟩ := AhD h r1.1
   refine Ok.step e4 (Ok.ite (fun c => ?_) fun _ => hJ1 _ h2.1 w hp)
   have c : r4.2 = 0 := by simpa using c
   exact Ok.ret ⟨h4 c,h2.1,I.co _ _ _ _ w hp e4 c⟩
  ·refine Ok.step (Ph w.tree _) (Ok.ite (fun c => ?_) fun _ => hJ1 _ h2.1 w hp)
   cases hg : Fn h.tree r1.1 with
   | none => rw [hg] at c; simp at c
   | some x =>
    obtain ⟨hx,hxi⟩ := Qo hg
    rw [hg] at c
    have hx1 : x.id ≠ 1 := by
     rw [hxi]
     simpa using c
    simp only [Option.elim_some]
    refine Ok.bind (Hf h2.1 3 (by omega) (by omega)) fun r3 h3 => ?_
    refine Ok.step (Ux _ _ (by omega)) (hJ1 _ h3.1 ?_ ?_)
    ·exact AeX w hx h3.2.1 (by omega)
    ·exact I.ow _ _ _ _ w hp hx hx1 h3.2.1 h3.2.2
 exact Ok.ite (fun _ => hJ _) fun _ => hJ _
theorem AiL {n m : Int} {P R : Int → Aa → Prop} (I : HInv n m P R) {d : At} (hd : Bt d) (n0 : 0 ≤ n) (n1 : n ≤ 100) (m0 : 0 ≤ m) (m1 : m ≤ 100)
  (hstart : ∀ c,0 ≤ c → c ≤ m → Ok (Mi d n) (fun r => WfT r.1 ∧ Bt r.2 ∧ P c { tree := r.1,tasks := [],next := 1 })) : Ok (Ho d n m) (fun r => WfH r.1 ∧ Bt r.2 ∧ P 0 r.1) := by
 unfold Ho
 refine Ok.step (a := { tree := newT,tasks := [],next := 1 }) rfl ?_
 obtain ⟨r1,e1,w1,h1,_⟩ := hstart 0 (by omega) m0
 have hst : ∀ c,0 ≤ c → c ≤ m → P c { tree := r1.1,tasks := [],next := 1 } := fun c c0 c1 => by
  obtain ⟨r,e,_,_,hp⟩ := hstart c c0 c1
  rw [e1] at e
  obtain rfl := Option.some.inj e
  exact hp
 clear hstart
 refine Ok.step e1 ?_
 rw [Bu (by omega) (by omega)]
 refine Ok.bind (Hf h1 (n + 3) (by omega) (by omega)) fun r2 ⟨h2,a1,a2⟩ => ?_
 refine Ok.while (fun s => Bt s.1 ∧ WfH s.2.1 ∧ s.2.2 ≤ 2000 ∧ ∀ c,0 ≤ c → c ≤ m → P c s.2.1) (fun s => s.2.2.toNat) ⟨h2,?_,by simp only; omega,hst⟩ (by rw [Nu]; simp only; omega) ?_
 ·exact ⟨w1,by simp,by simp,by simp,by simp,by simp,by simp⟩
 rintro ⟨d,h,c⟩ k ⟨b1,b2,b3,b4⟩ hk
 simp only at b1 b2 b3 b4 hk
 unfold Pn
 simp only
 refine Ok.ite (fun c1 => ?_) fun _ => ?_
 ·have hc := of_decide_eq_true c1
  obtain ⟨r3,e3,w3,d3,_⟩ := AjA I b1 b2 (b4 0 (by omega) m0)
  refine Ok.step e3 ?_
  rw [Bu (by omega) (by omega)]
  refine hk _ ⟨d3,w3,by simp only; omega,fun q q0 q1 => ?_⟩ (by simp only; omega)
  obtain ⟨r,e,_,_,hp⟩ := AjA I b1 b2 (b4 q q0 q1)
  rw [e3] at e
  obtain rfl := Option.some.inj e
  exact hp
 rw [Bu (by omega) (by omega)]
 refine Ok.bind (Hf b1 (m + 1) (by omega) (by omega)) fun r3 ⟨h3,a3,a4⟩ => ?_
 clear hk
 refine Ok.while (fun s => Bt s.1 ∧ WfH s.2.1 ∧ s.2.2 ≤ 2000 ∧ 0 ≤ s.2.2 ∧ P s.2.2 s.2.1) (fun s => s.2.2.toNat) ⟨h3,b2,by simp only; omega,a3,b4 _ a3 (by simp only; omega)⟩ (by rw [Nu]; simp only; omega) ?_
 clear b1 b2 b3 b4 hst e1 w1 h1
 rintro ⟨d,h,c⟩ k ⟨b1,b2,b3,b4,b5⟩ hk
 simp only at b1 b2 b3 b4 b5 hk
 unfold Pp
 simp only
 refine Ok.ite (fun c1 => ?_) fun c1 => ?_
 rotate_left
 ·have hc := of_decide_eq_false c1
  have : c = 0 := by omega
  subst this
  exact Ok.ret ⟨b2,b1,b5⟩
 have hc := of_decide_eq_true c1
 have l1 := b2.len
 have l2 := b2.tree.len2
 have b5' : P (c - 1 + 1) h := by rw [show c - 1 + 1 = c by omega]; exact b5
 have c0 : 0 ≤ c - 1 := by omega
 have hw : w64 (c - 1) = c - 1 := Bu (by omega) (by omega)
 have hJ13 : ∀ y : At × Aa,Bt y.1 → WfH y.2 → P (c - 1) y.2 → Ok (Di (d,h,c) k y) (fun r => WfH r.1 ∧ Bt r.2 ∧ P 0 r.1) := fun y y1 y2 y3 => by
  unfold Di
  simp only
  rw [hw]
  exact hk _ ⟨y1,y2,by simp only; omega,by simp only; omega,y3⟩ (by simp only; omega)
 have hJ16 : ∀ y : At × Aa,Bt y.1 → WfH y.2 → P (c - 1) y.2 → Ok (Ek (d,h,c) k y) (fun r => WfH r.1 ∧ Bt r.2 ∧ P 0 r.1) := fun y y1 y2 y3 => by
  unfold Ek
  refine Ok.bind (AaY y1 8 (by omega)) fun r4 h4 => Ok.ite (fun _ => ?_) fun _ => hJ13 _ h4 y2 y3
  have := y2.len
  refine Ok.bind (AfD h4 _ (by omega)) fun r5 h5 => Ok.step (Aks y2 _) (Ok.ite (fun c => ?_) fun _ => hJ13 _ h5 y2 y3)
  exact hJ13 _ h5 (Aju y2 rfl (by simpa using c)) (I.ex _ _ _ _ y2 c0 y3 rfl (by simpa using c))
 have hJ15 : ∀ y : At × Aa,Bt y.1 → WfH y.2 → P (c - 1) y.2 → Ok (Ej (d,h,c) k y) (fun r => WfH r.1 ∧ Bt r.2 ∧ P 0 r.1) := fun y y1 y2 y3 => by
  unfold Ej
  refine Ok.bind (AaY y1 4 (by omega)) fun r4 h4 => Ok.ite (fun _ => ?_) fun _ => hJ16 _ h4 y2 y3
  have := y2.len
  have := y2.tree.len2
  refine Ok.bind (AfD h4 _ (by omega)) fun r5 h5 => Ok.bind (AdQ h5 _ (by omega)) fun r6 h6 => ?_
  obtain ⟨r7,e7,h7⟩ := AdV y.2 r5.1 r6.1
  refine Ok.step e7 (Ok.ite (fun c => ?_) fun _ => hJ16 _ h6 y2 y3)
  have c : r7.2 = 0 := by simpa using c
  exact hJ16 _ h6 (h7 c) (I.atc _ _ _ _ _ y2 c0 y3 e7 c)
 have hJ14 : ∀ (r : Int × At) (y : Aa),Bt r.2 → WfH y → R (c - 1) y → Ok (Fz (d,h,c) k r y) (fun r => WfH r.1 ∧ Bt r.2 ∧ P 0 r.1) := fun r y y1 y2 y3 => by
  have y4 := I.nocl _ _ y2 c0 y3
  unfold Fz
  refine Ok.bind (AaY y1 3 (by omega)) fun r4 h4 => Ok.ite (fun _ => ?_) fun _ => hJ15 _ h4 y2 y4
  have := y2.len
  refine Ok.bind (AfD h4 _ (by omega)) fun r5 h5 => Ok.step (Ajm y2 _) (Ok.ite (fun c => ?_) fun _ => hJ15 _ h5 y2 y4)
  exact hJ15 _ h5 (Aiw y2 rfl (by simpa using c)) (I.cl _ _ _ _ y2 c0 y3 rfl (by simpa using c))
 refine Ok.bind (AdQ b1 _ (by omega)) fun r4 h4 => ?_
 obtain ⟨a,ea,_⟩ := Acz h r4.1
 refine Ok.step ea (Ok.ite (fun _ => hJ13 _ h4 b2 (I.skip _ _ b2 c0 b5')) fun ca => ?_)
 have ca : a = 0 := by simpa using ca
 subst ca
 refine Ok.bind (Hf h4 3 (by omega) (by omega)) fun r5 h5 => Ok.step (AjJ b2 _ _) (Ok.ite (fun c => ?_) fun _ => hJ14 _ _ h5.1 b2 (I.nosp _ _ b2 c0 b5'))
 exact hJ14 _ _ h5.1 (AiB b2 rfl (by simpa using c)) (I.sp _ _ _ _ _ b2 c0 b5' ea h5.2.1 h5.2.2 rfl (by simpa using c))
theorem ok_at {α : Type} {m : Option α} {Q : α → Prop} (h : Ok m Q) {a : α} (e : m = some a) : Q a := by
 obtain ⟨b,hb,hq⟩ := h
 rw [hb] at e
 obtain rfl := Option.some.inj e
 exact hq
end Go.Dm

/- Plain theory, part 22: the program's changes of hierarchies are the document's. -/
namespace Go.Dm
theorem AjI {α : Type} {L : List α} {a n : Nat} {x : α} (h : a + n ≤ L.length) : (Si L a n x).length = L.length := by
 simp only [Si,List.length_append,List.length_take,List.length_replicate,List.length_drop]
 omega
theorem AkA {α : Type} {L : List α} {a n : Nat} {x : α} (h : a ≤ L.length) : (Si L a n x).take a = L.take a := by
 unfold Si
 rw [List.take_append_of_le_length (by rw [List.length_take]; omega),List.take_take,Nat.min_self]
theorem Ajp {α : Type} {L M : List α} {a n : Nat} (h : a + n ≤ L.length) (hm : n ≤ M.length) : (Ra L a n M).length = L.length := by
 simp only [Ra,List.length_append,List.length_take,List.length_drop]
 omega
theorem AiZ {h : Aa} (l1 : h.tasks.length ≤ 1000000) (l2 : h.tree.nodes.length ≤ 1000000) (n1 : 1 ≤ h.next) (x : Am) : AdE h x = some (addK h x) := by
 apply Ok.eq
 unfold AdE addK
 refine Ok.ite (fun c => ?_) fun c => ?_
 ·rw [if_pos]
  ·exact Ok.ret rfl
  ·simp only [Bool.or_eq_true,decide_eq_true_eq] at c ⊢
   omega
 ·simp only [Bool.or_eq_false_iff,decide_eq_false_iff_not] at c
  rw [if_neg (by simp only [Bool.or_eq_true,decide_eq_true_eq]; omega)]
  refine Ok.step (Nk h l2 l1) ?_
  unfold AbB
  simp only
  rw [Bu (by omega) (by omega)]
  refine Ok.ite (fun c => Ok.guard (by omega) (Ok.ret ?_)) fun c => Ok.guard (by omega) (Ok.ret ?_)
  ·rw [if_pos c]
  ·rw [if_neg (by rw [c]; simp)]
theorem Spawn_member_t {h : Aa} (w : WfH h) (g u : Int) : AeB h g u = some (Vi h g u) := by
 have l1 := w.len
 have l2 := w.tree.len2
 apply Ok.eq
 unfold AeB Vi
 refine Ok.step (Ade w) ?_
 simp only [Bool.not_true,Bool.false_eq_true,if_false]
 unfold Tu
 by_cases h1 : u < 0
 ·simp only [h1,decide_true,Bool.true_or,if_true]
  exact Ok.ret rfl
 by_cases h2 : u > 1048576
 ·have h2' : 1048576 < u := h2
  simp only [h1,h2,h2',decide_true,decide_false,Bool.or_true,if_true,Bool.false_eq_true,if_false]
  exact Ok.ret rfl
 have h2' : ¬ 1048576 < u := h2
 simp only [h1,h2,h2',decide_false,Bool.or_false,Bool.false_eq_true,if_false]
 refine Ok.bind (Lj h.tree g (by omega)) fun i hi => ?_
 rw [hi.1]
 cases Aw h.tree g with
 | false => exact Ok.ret rfl
 | true =>
  simp only [Bool.not_true,Bool.false_eq_true,if_false]
  exact Ok.step (AiZ (by omega) (by omega) w.n1 _) (Ok.ret rfl)
theorem Aii (L : List Ag) (i : Nat) (hi : i < L.length) (hl : L.length ≤ 1000000) :
  Ok (Kq L (i : Int) ((i + 1 : Nat) : Int)) (fun r => r.2.length = L.length ∧ r.1 ≤ L.length ∧ r.2.take r.1 = L.take i ++ L.drop (i + 1)) := by
 unfold Kq
 have ei : Int.toNat (i : Int) = i := by omega
 have ei1 : Int.toNat ((i + 1 : Nat) : Int) = i + 1 := by omega
 rw [ei,ei1]
 simp only [Tp,Nat.zero_add]
 have hd : ((L.drop (i + 1)).take (L.length - (i + 1))) = L.drop (i + 1) := by
  rw [List.take_of_length_le (by rw [List.length_drop]; omega)]
 rw [hd]
 have ho : (Ra L i (L.length - (i + 1)) (L.drop (i + 1))).length = L.length := Ajp (by omega) (by rw [List.length_drop]; omega)
 refine Ok.guard (by omega) ?_
 refine Ok.ite (fun c => ?_) fun _ => ?_
 ·have : ((i : Nat) : Int) = ((i + 1 : Nat) : Int) := by simpa using c
  omega
 refine Ok.guard (by omega) (Ok.guard (by omega) (Ok.guard (by omega) (Ok.guard (by rw [ho]; omega) (Ok.guard (by rw [ho]; omega) (Ok.ret ⟨?_,?_,?_⟩)))))
 ·simp only
  rw [AjI (by rw [ho]; omega),ho]
 ·simp only
  omega
 ·simp only
  rw [AkA (by rw [ho]; omega)]
  unfold Ra
  rw [← List.append_assoc,List.take_append_of_le_length (by
   simp only [List.length_append,List.length_take,List.length_drop]
   omega),List.take_of_length_le (by
   simp only [List.length_append,List.length_take,List.length_drop]
   omega),hd]
theorem Ajf {L : List Ag} (hs : L.Pairwise (fun a b => a.id < b.id)) {i : Nat} (hi : i < L.length) {k : Int} (e : L[i].id = k) : L.take i ++ L.drop (i + 1) = L.filter (fun x => x.id != k) := by
 have h1 : L = L.take i ++ L[i] :: L.drop (i + 1) := by
  rw [List.getElem_cons_drop,List.take_append_drop]
 have h2 := hs
 rw [h1,List.pairwise_append,List.pairwise_cons] at h2
 obtain ⟨_,⟨ha,_⟩,hb⟩ := h2
 conv => rhs; rw [h1]
 rw [List.filter_append,List.filter_cons,if_neg (by simp [e])]
 congr 1
 ·symm
  rw [List.filter_eq_self]
  intro x hx
  have := hb x hx L[i] (List.mem_cons_self ..)
  simp
  omega
 ·symm
  rw [List.filter_eq_self]
  intro x hx
  have := ha x hx
  simp
  omega
theorem AiU {t : Ae} (w : WfT t) (id : Int) : Vc t id = some (Ke t id) := by
 have l2 := w.len2
 apply Ok.eq
 unfold Vc Ke Aw Fn
 refine Ok.step (Td t id (by omega)) ?_
 refine Ok.step (Xf w) ?_
 simp only [Bool.not_true,Bool.false_eq_true,if_false]
 rcases Mh (fun x : Ag => x.id == id) t.nodes default with ⟨i,h1,h2,h3⟩ | ⟨h1,h2⟩
 ·rw [h2,h3,Option.elim_some]
  have hid : t.nodes[i].id = id := by
   have := List.find?_some h3
   rw [Pr h1] at this
   simpa using this
  refine Ok.ite (fun c => by have := of_decide_eq_true c; omega) fun _ => ?_
  simp only [Option.isSome_some,Bool.not_true,Bool.false_eq_true,if_false]
  refine Ok.ite (fun c => ?_) fun c => ?_
  ·rw [if_pos c]
   exact Ok.ret rfl
  rw [if_neg (by rw [c]; simp)]
  refine Ok.step (Afm t id (by omega)) ?_
  refine Ok.ite (fun c => ?_) fun c => ?_
  ·have c := of_decide_eq_true c
   rw [if_pos (by simp; omega)]
   exact Ok.ret rfl
  have c := of_decide_eq_false c
  rw [if_neg (by rw [decide_eq_true_eq]; omega)]
  refine Ok.step (a := t) (by unfold Pj Dt; rw [if_pos (by omega)]; rfl) ?_
  have e1 : w64 ((i : Int) + 1) = ((i + 1 : Nat) : Int) := by
   rw [Bu (by omega) (by omega)]
   omega
  rw [e1]
  refine Ok.bind (Aii t.nodes i h1 (by omega)) fun r ⟨r1,r2,r3⟩ => ?_
  refine Ok.guard r1.symm (Ok.guard (by omega) (Ok.ret ?_))
  rw [r3,Ajf w.sorted h1 hid]
 ·rw [h1,h2]
  exact Ok.ret rfl
def Mt (h : Aa) (g : Int) : Aa × Int :=
 if (Ke h.tree g).2 != 0 then (zH,(Ke h.tree g).2) else if decide (0 < (tasksK h g).length) then (zH,6)
 else ({ tree := (Ke h.tree g).1,tasks := h.tasks,next := h.next },0)
theorem Ahw {h : Aa} (w : WfH h) (g : Int) : Rm h g = some (Mt h g) := by
 have l1 := w.len
 have l2 := w.tree.len2
 apply Ok.eq
 unfold Rm Mt
 refine Ok.step (Ade w) ?_
 simp only [Bool.not_true,Bool.false_eq_true,if_false]
 refine Ok.step (AiU w.tree g) ?_
 refine Ok.ite (fun c => ?_) fun c => ?_
 ·rw [if_pos c]
  exact Ok.ret rfl
 rw [if_neg (by rw [c]; simp)]
 refine Ok.step (Ss w.sorted (by omega) g) ?_
 refine Ok.ite (fun c => ?_) fun c => ?_
 ·have c := of_decide_eq_true c
  rw [if_pos (by simp; omega)]
  exact Ok.ret rfl
 have c := of_decide_eq_false c
 rw [if_neg (by rw [decide_eq_true_eq]; omega)]
 exact Ok.step (Nk h (by omega) (by omega)) (Ok.ret rfl)
theorem AkD {h : Aa} (w : WfH h) {g : Int} {r : Aa × Int} (e : Mt h g = r) (hr : r.2 = 0) : WfH r.1 := by
 unfold Mt at e
 split at e
 ·rename_i c
  subst e
  simp only at hr
  simp [hr] at c
 ·rename_i c0
  split at e
  ·subst e; simp at hr
  ·rename_i c
   have c0 : (Ke h.tree g).2 = 0 := by simpa using c0
   have wt := Ahl w.tree rfl c0
   subst e
   refine ⟨wt,w.len,w.n1,w.n2,w.sorted,w.lt,fun y hy => ?_⟩
   have u := w.val y hy
   refine ⟨u.pos,?_,u.u1,u.u2,u.ldr⟩
   obtain ⟨z,hz,hzi⟩ := hasN_iff.mp u.grp
   have hne : y.group ≠ g := fun e => by
    have : y.id ∈ tasksK h g := List.mem_map.mpr ⟨y,List.mem_filter.mpr ⟨hy,by simpa using e⟩,rfl⟩
    have := List.length_pos_of_mem this
    rw [decide_eq_true_eq] at c
    omega
   refine hasN_iff.mpr ⟨z,?_,hzi⟩
   unfold Ke at c0 ⊢
   split at c0
   ·simp at c0
   ·split at c0
    ·simp at c0
    ·split at c0
     ·simp at c0
     ·rename_i q1 q2 q3
      rw [if_neg q1,if_neg q2,if_neg q3]
      simp only [List.mem_filter]
      refine ⟨hz,?_⟩
      simp
      omega
theorem Akh (c : Am) : AeT c c = true := by simp [AeT]
theorem Akl (c : Ag) : AgN c c = true := by simp [AgN,Acc]
end Go.Dm

/- Plain theory, part 23: spoiled hierarchies; hierarchies that are refused. -/
namespace Go.Dm
structure RawH (h : Aa) : Prop where
 nodes : h.tree.nodes.length ≤ 1000
 tasks : h.tasks.length ≤ 1000
 m : ∀ x ∈ h.tree.nodes,NodeM x
theorem WfH.raw {h : Aa} (w : WfH h) : RawH h := ⟨by have := w.tree.len2; omega,by have := w.len; omega,w.tree.p.names⟩
end Go.Dm
