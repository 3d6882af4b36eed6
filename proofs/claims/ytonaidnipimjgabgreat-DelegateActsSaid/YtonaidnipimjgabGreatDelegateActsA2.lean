/- Texts of the proof of DelegateActs: the data machine, the models of the Go functions, their contracts. -/
import Derived.Test.YtonaidnipimjgabGreatDelegateActsA1
import Derived.KernelRfl
set_option linter.unusedVariables false
set_option linter.unusedSimpArgs false
/- Models of Go types and functions, printed by a program. -/
namespace Go.Dm
set_option linter.unusedVariables false
structure Ah where
 id : Int
 parent : Int
 name : ByteArray
 control : Int
 kind : Int
 owner : Int
 deriving Inhabited
def Ak (x : Ah) : List PV := [vi x.id,vi x.parent,vs x.name,vi x.control,vi x.kind,vi x.owner]
abbrev As : Ah := default
abbrev Bg (L : List Ah) : PV := We 6 Ak (default : Ah) L
abbrev Ac (L : List Ah) : Body := rowOf 6 Ak (default : Ah) L
abbrev Ey (L : List Ah) : Nat → List PV := elems Ak (default : Ah) L
def Aig (x y : Ah) : Bool := ((x.id == y.id) && ((x.parent == y.parent) && ((x.name.toList == y.name.toList) && ((x.control == y.control) && ((x.kind == y.kind) && ((x.owner == y.owner) && true))))))
structure Af where
 nodes : List Ah
 next : Int
 deriving Inhabited
def Aj (x : Af) : List PV := [We 6 Ak (default : Ah) x.nodes,vi x.next]
structure An where
 id : Int
 process : Int
 group : Int
 user : Int
 deriving Inhabited
def Ao (x : An) : List PV := [vi x.id,vi x.process,vi x.group,vi x.user]
abbrev Ax : An := default
abbrev Dh (L : List An) : PV := We 4 Ao (default : An) L
abbrev Ae (L : List An) : Body := rowOf 4 Ao (default : An) L
abbrev Kj (L : List An) : Nat → List PV := elems Ao (default : An) L
def AiF (x y : An) : Bool := ((x.id == y.id) && ((x.process == y.process) && ((x.group == y.group) && ((x.user == y.user) && true))))
structure Aa where
 tree : Af
 tasks : List An
 next : Int
 deriving Inhabited
def Ab (x : Aa) : List PV := [We 6 Ak (default : Ah) x.tree.nodes,vi x.tree.next,We 4 Ao (default : An) x.tasks,vi x.next]
structure Aq where
 l : List Int
 atF : Int
 deriving Inhabited
def Al (x : Aq) : List PV := [We 1 Bw 0 x.l,vi x.atF]
def Abz (p0 : List Int) : Option Bool := (some (decide (((p0.length : Nat) : Int) ≤ 600)))
def Acy : Option Af := (some ({ nodes := [({ id := 1,parent := 0,name := ByteArray.empty,control := 0,kind := 0,owner := 0 } : Ah)],next := 2 } : Af))
def Aev : Option Aa := (Option.bind Acy fun r1 => (some ({ tree := r1,tasks := [],next := 1 } : Aa)))
def AcD (p0 : ByteArray) (k1 : Int) (s1 : Unit) (n1 : Unit → Option Bool) : Option Bool := (if 0 ≤ k1 ∧ k1 < ((p0.size : Nat) : Int) then (if (!((((((decide ((((Bn p0 (Int.toNat k1)) : Nat) : Int) ≥ 97)) && (decide ((((Bn p0 (Int.toNat k1)) : Nat) : Int) ≤ 122))) || ((decide ((((Bn p0 (Int.toNat k1)) : Nat) : Int) ≥ 65)) && (decide ((((Bn p0 (Int.toNat k1)) : Nat) : Int) ≤ 90)))) || ((decide ((((Bn p0 (Int.toNat k1)) : Nat) : Int) ≥ 48)) && (decide ((((Bn p0 (Int.toNat k1)) : Nat) : Int) ≤ 57)))) || ((((Bn p0 (Int.toNat k1)) : Nat) : Int) == 95)) || ((((Bn p0 (Int.toNat k1)) : Nat) : Int) == 45))) then (some false) else (n1 ())) else none)
def Aga (s1 : Unit) : Option Bool := (some true)
def Ql (p0 : ByteArray) (y1 : Bool) : Option Bool := (if y1 then (some false) else (if ((p0.size : Nat) : Int) ≤ 9223372036854775807 then (forO (AcD p0) Aga (Int.toNat (((p0.size : Nat) : Int) - 0)) 0 ()) else none))
def Vt (p0 : ByteArray) : Option Bool := (if (((p0.size : Nat) : Int) == 0) then ((Ql p0) true) else (if (decide (((p0.size : Nat) : Int) > 32)) then ((Ql p0) true) else (if 0 < p0.size then ((Ql p0) ((((Bn p0 0) : Nat) : Int) == 45)) else none)))
def Sw (n1 : Bool → Option Bool) (y5 : Bool) (y6 : Bool) : Option Bool := (if y6 then (some false) else (n1 y5))
def Ta (p0 : Af) (p1 : Int) (k1 : Int) (n1 : Bool → Option Bool) (y5 : Bool) : Option Bool := (if 0 ≤ k1 ∧ k1 < ((p0.nodes.length : Nat) : Int) then (if ((p0.nodes.getD (Int.toNat k1) (default : Ah)).parent == (p0.nodes.getD (Int.toNat p1) (default : Ah)).parent) then (if 0 ≤ k1 ∧ k1 < ((p0.nodes.length : Nat) : Int) then ((Sw n1 y5) (Cz (p0.nodes.getD (Int.toNat k1) (default : Ah)).name (p0.nodes.getD (Int.toNat p1) (default : Ah)).name)) else none) else ((Sw n1 y5) false)) else none)
def Ady (p0 : Af) (p1 : Int) (k1 : Int) (s1 : Bool) (n1 : Bool → Option Bool) : Option Bool := (if s1 then ((Ta p0 p1 k1 n1) true) else (if 0 ≤ k1 ∧ k1 < ((p0.nodes.length : Nat) : Int) then ((Ta p0 p1 k1 n1) ((p0.nodes.getD (Int.toNat k1) (default : Ah)).id == (p0.nodes.getD (Int.toNat p1) (default : Ah)).parent)) else none))
def Ahr (s1 : Bool) : Option Bool := (some s1)
def Wq (p0 : Af) (p1 : Int) (y1 : Bool) : Option Bool := (if y1 then (some false) else (if p1 ≤ 9223372036854775807 then (forO (Ady p0 p1) Ahr (Int.toNat (p1 - 0)) 0 false) else none))
def AaK (p0 : Af) (p1 : Int) : Option Bool := (if 0 ≤ p1 ∧ p1 < ((p0.nodes.length : Nat) : Int) then (if (((((((p0.nodes.getD (Int.toNat p1) (default : Ah)).kind != 0) && ((p0.nodes.getD (Int.toNat p1) (default : Ah)).kind != 1)) || (decide ((p0.nodes.getD (Int.toNat p1) (default : Ah)).control < 0))) || (decide ((p0.nodes.getD (Int.toNat p1) (default : Ah)).control > 31))) || (decide ((p0.nodes.getD (Int.toNat p1) (default : Ah)).owner < 0))) || (decide ((p0.nodes.getD (Int.toNat p1) (default : Ah)).owner > 1048576))) then (some false) else (if (p1 == 0) then (some (((((p0.nodes.getD (Int.toNat p1) (default : Ah)).id == 1) && ((p0.nodes.getD (Int.toNat p1) (default : Ah)).parent == 0)) && (Cz (p0.nodes.getD (Int.toNat p1) (default : Ah)).name ByteArray.empty)) && ((p0.nodes.getD (Int.toNat p1) (default : Ah)).kind == 0))) else (if 0 ≤ (w64 (p1 - 1)) ∧ (w64 (p1 - 1)) < ((p0.nodes.length : Nat) : Int) then (if (decide ((p0.nodes.getD (Int.toNat p1) (default : Ah)).id ≤ (p0.nodes.getD (Int.toNat (w64 (p1 - 1))) (default : Ah)).id)) then ((Wq p0 p1) true) else (Option.bind (Vt (p0.nodes.getD (Int.toNat p1) (default : Ah)).name) fun r17 => ((Wq p0 p1) (!r17)))) else none))) else none)
def Xn (s1 : (List Int) × Int × Int) (n1 : ((List Int) × Int × Int) → Option (List Int)) (y2 : (List Int) × Int) : Option (List Int) := (n1 (y2.1,y2.2,(w64 (s1.2.2 - 1))))
def AfI (p0 : Af) (s1 : (List Int) × Int × Int) (n1 : ((List Int) × Int × Int) → Option (List Int)) : Option (List Int) := (if (decide (s1.2.2 ≥ 0)) then (if 0 ≤ s1.2.2 ∧ s1.2.2 < ((p0.nodes.length : Nat) : Int) then (if ((p0.nodes.getD (Int.toNat s1.2.2) (default : Ah)).id == s1.2.1) then (if s1.1.length + 1 ≤ 1073741824 then (if 0 ≤ s1.2.2 ∧ s1.2.2 < ((p0.nodes.length : Nat) : Int) then ((Xn s1 n1) ((s1.1 ++ [s1.2.1]),(p0.nodes.getD (Int.toNat s1.2.2) (default : Ah)).parent)) else none) else none) else ((Xn s1 n1) (s1.1,s1.2.1))) else none) else (some s1.1))
def AbG (p0 : Af) (p1 : Int) : Option (List Int) := (whileO (AfI p0) Fy ([],p1,(w64 (((p0.nodes.length : Nat) : Int) - 1))))
def Ack (p0 : Af) (k1 : Nat) (x1 : Ah) (s1 : Unit) (n1 : Unit → Option Bool) : Option Bool := (Option.bind (AaK p0 ((k1 : Nat) : Int)) fun r33 => (if (!r33) then (some false) else (n1 ())))
def Acm (p0 : Af) (k4 : Nat) (x4 : Ah) (s4 : Unit) (n4 : Unit → Option Bool) : Option Bool := (Option.bind (AbG p0 x4.id) fun r50 => (if (decide (((r50.length : Nat) : Int) > 9)) then (some false) else (n4 ())))
def Ug (y7 : Bool) : Option Bool := (some y7)
def AcB (p0 : Af) (s4 : Unit) : Option Bool := (if 0 ≤ (w64 (((p0.nodes.length : Nat) : Int) - 1)) ∧ (w64 (((p0.nodes.length : Nat) : Int) - 1)) < ((p0.nodes.length : Nat) : Int) then (if (decide (p0.next > (p0.nodes.getD (Int.toNat (w64 (((p0.nodes.length : Nat) : Int) - 1))) (default : Ah)).id)) then (Ug (decide (p0.next ≤ 2147483648))) else (Ug false)) else none)
def Acw (p0 : Af) (s1 : Unit) : Option Bool := (if p0.nodes.length ≤ 9223372036854775807 then Bi (Acm p0) (AcB p0) p0.nodes 0 () else none)
def Kw (p0 : Af) : Option Bool := (if ((decide (((p0.nodes.length : Nat) : Int) < 1)) || (decide (((p0.nodes.length : Nat) : Int) > 64))) then (some false) else (if p0.nodes.length ≤ 9223372036854775807 then Bi (Ack p0) (Acw p0) p0.nodes 0 () else none))
def Afm (p1 : Int) (k1 : Nat) (x1 : An) (s1 : Unit) (n1 : Unit → Option (An × Bool)) : Option (An × Bool) := (if (x1.id == p1) then (some (x1,(x1.process == p1))) else (n1 ()))
def Afk (s1 : Unit) : Option (An × Bool) := (some (({ id := 0,process := 0,group := 0,user := 0 } : An),false))
def Wg (p0 : List An) (p1 : Int) : Option (An × Bool) := (if p0.length ≤ 9223372036854775807 then Bi (Afm p1) Afk p0 0 () else none)
def Ahs (p1 : Int) (k1 : Nat) (x1 : Ah) (s1 : Unit) (n1 : Unit → Option (Ah × Bool)) : Option (Ah × Bool) := (if (x1.id == p1) then (some (x1,true)) else (n1 ()))
def AhD (s1 : Unit) : Option (Ah × Bool) := (some (({ id := 0,parent := 0,name := ByteArray.empty,control := 0,kind := 0,owner := 0 } : Ah),false))
def Cw (p0 : Af) (p1 : Int) : Option (Ah × Bool) := (Option.bind (Kw p0) fun r1 => (if (!r1) then (some (({ id := 0,parent := 0,name := ByteArray.empty,control := 0,kind := 0,owner := 0 } : Ah),false)) else (if p0.nodes.length ≤ 9223372036854775807 then Bi (Ahs p1) AhD p0.nodes 0 () else none)))
def Ej (p0 : Af) (p1 : Int) : Option Bool := (Option.bind (Cw p0 p1) fun r1 => (some r1.2))
def Cd (n1 : Unit → Option Bool) (y4 : Bool) : Option Bool := (if y4 then (some false) else (n1 ()))
def Yo (p0 : Aa) (k1 : Nat) (x1 : An) (s1 : Unit) (n1 : Unit → Option Bool) : Option Bool := (Option.bind (Wg p0.tasks x1.process) fun r46 => (if (decide (x1.id < 1)) then ((Cd n1) true) else (if (decide (((k1 : Nat) : Int) > 0)) then (if 0 ≤ (w64 (((k1 : Nat) : Int) - 1)) ∧ (w64 (((k1 : Nat) : Int) - 1)) < ((p0.tasks.length : Nat) : Int) then (if (decide ((p0.tasks.getD (Int.toNat (w64 (((k1 : Nat) : Int) - 1))) (default : An)).id ≥ x1.id)) then ((Cd n1) true) else (Option.bind (Ej p0.tree x1.group) fun r51 => (if (!r51) then ((Cd n1) true) else (if (decide (x1.user < 0)) then ((Cd n1) true) else (if (decide (x1.user > 1048576)) then ((Cd n1) true) else (if (!r46.2) then ((Cd n1) true) else ((Cd n1) (r46.1.user != x1.user)))))))) else none) else (Option.bind (Ej p0.tree x1.group) fun r56 => (if (!r56) then ((Cd n1) true) else (if (decide (x1.user < 0)) then ((Cd n1) true) else (if (decide (x1.user > 1048576)) then ((Cd n1) true) else (if (!r46.2) then ((Cd n1) true) else ((Cd n1) (r46.1.user != x1.user))))))))))
def Acz (s1 : Unit) : Option Bool := (some true)
def Jw (p0 : Aa) (y1 : Bool) : Option Bool := (if y1 then (some false) else (if p0.tasks.length ≤ 9223372036854775807 then Bi (Yo p0) Acz p0.tasks 0 () else none))
def Fv (p0 : Aa) : Option Bool := (Option.bind (Kw p0.tree) fun r1 => (if (!r1) then ((Jw p0) true) else (if (decide (((p0.tasks.length : Nat) : Int) > 128)) then ((Jw p0) true) else (if (decide (p0.next < 1)) then ((Jw p0) true) else (if (decide (p0.next > 2147483648)) then ((Jw p0) true) else (if (decide (((p0.tasks.length : Nat) : Int) > 0)) then (if 0 ≤ (w64 (((p0.tasks.length : Nat) : Int) - 1)) ∧ (w64 (((p0.tasks.length : Nat) : Int) - 1)) < ((p0.tasks.length : Nat) : Int) then ((Jw p0) (decide (p0.next ≤ (p0.tasks.getD (Int.toNat (w64 (((p0.tasks.length : Nat) : Int) - 1))) (default : An)).id))) else none) else ((Jw p0) false)))))))
def Sv (p0 : Af) (p1 : Int) : Option Int := (Option.bind (Cw p0 p1) fun r1 => (if ((!r1.2) || (p1 == 1)) then (some 0) else (Option.bind (Cw p0 r1.1.parent) fun r4 => (if (r1.1.kind == 1) then (some (Az .i64 r4.1.control 6)) else (some r4.1.control)))))
def Kt (y2 : Int) : Option Int := (some y2)
def Ii (r1 : Ah × Bool) (y1 : Int) : Option Int := (if (r1.1.kind == 1) then (Kt (Az .i64 y1 6)) else (Kt y1))
def Iz (p0 : Af) (p1 : Int) : Option Int := (Option.bind (Cw p0 p1) fun r1 => (if (!r1.2) then (some 0) else (if (p1 != 1) then (Option.bind (Sv p0 p1) fun r4 => ((Ii r1) r4)) else ((Ii r1) 31))))
def Ub (n1 : (List Int) → Option (List Int)) (y3 : List Int) : Option (List Int) := (n1 y3)
def Aco (p1 : Int) (k1 : Nat) (x1 : An) (s1 : List Int) (n1 : (List Int) → Option (List Int)) : Option (List Int) := (if (x1.group == p1) then (if s1.length + 1 ≤ 1073741824 then ((Ub n1) (s1 ++ [x1.id])) else none) else ((Ub n1) s1))
def Agm (s1 : List Int) : Option (List Int) := (some s1)
def Ia (p0 : Aa) (p1 : Int) : Option (List Int) := (Option.bind (Fv p0) fun r1 => (if (!r1) then (some []) else (if p0.tasks.length ≤ 9223372036854775807 then Bi (Aco p1) Agm p0.tasks 0 [] else none)))
def Jq (n1 : Unit → Option Bool) (y3 : Bool) : Option Bool := (if y3 then (some false) else (n1 ()))
def Zb (p0 : Aa) (k1 : Nat) (x1 : Ah) (s1 : Unit) (n1 : Unit → Option Bool) : Option Bool := (Option.bind (Iz p0.tree x1.id) fun r20 => (if ((Az .i64 x1.control r20) != 0) then ((Jq n1) true) else (if (x1.id != 1) then (if ((kand .i64 x1.control 6) != 0) then (Option.bind (Ia p0 x1.id) fun r24 => ((Jq n1) (decide (((r24.length : Nat) : Int) > 0)))) else ((Jq n1) false)) else ((Jq n1) false))))
def AfN (s1 : Unit) : Option Bool := (some true)
def Mq (p0 : Aa) : Option Bool := (Option.bind (Fv p0) fun r1 => (if (!r1) then (some false) else (if p0.tree.nodes.length ≤ 9223372036854775807 then Bi (Zb p0) AfN p0.tree.nodes 0 () else none)))
def AhO (p1 : Int) (k1 : Nat) (x1 : An) (s1 : Unit) (n1 : Unit → Option (An × Bool)) : Option (An × Bool) := (if (x1.id == p1) then (some (x1,true)) else (n1 ()))
def AhI (s1 : Unit) : Option (An × Bool) := (some (({ id := 0,process := 0,group := 0,user := 0 } : An),false))
def Fr (p0 : Aa) (p1 : Int) : Option (An × Bool) := (Option.bind (Fv p0) fun r1 => (if (!r1) then (some (({ id := 0,process := 0,group := 0,user := 0 } : An),false)) else (if p0.tasks.length ≤ 9223372036854775807 then Bi (AhO p1) AhI p0.tasks 0 () else none)))
def Dt (p0 : Af) (p1 : Int) : Option (List Int) := (Option.bind (Ej p0 p1) fun r1 => (if (!r1) then (some []) else (Option.bind (AbG p0 p1) fun r3 => (some r3))))
def Wz (p0 : Af) (k1 : Nat) (x1 : Int) (s1 : Unit) (n1 : Unit → Option (Int × Bool)) : Option (Int × Bool) := (Option.bind (Cw p0 x1) fun r17 => (if (r17.1.kind != 1) then (some (x1,true)) else (n1 ())))
def Afd (s1 : Unit) : Option (Int × Bool) := (some (0,false))
def Jg (p0 : Af) (p1 : Int) : Option (Int × Bool) := (Option.bind (Dt p0 p1) fun r1 => (if r1.length ≤ 9223372036854775807 then Bi (Wz p0) Afd r1 0 () else none))
def Pk (n1 : (List Int) → Option (List Int)) (y3 : List Int) : Option (List Int) := (n1 y3)
def Yq (p1 : Int) (k1 : Nat) (x1 : Ah) (s1 : List Int) (n1 : (List Int) → Option (List Int)) : Option (List Int) := (if (x1.parent == p1) then (if s1.length + 1 ≤ 1073741824 then ((Pk n1) (s1 ++ [x1.id])) else none) else ((Pk n1) s1))
def AcM (s1 : List Int) : Option (List Int) := (some s1)
def Hx (p0 : Af) (p1 : Int) : Option (List Int) := (Option.bind (Ej p0 p1) fun r1 => (if (!r1) then (some []) else (if p0.nodes.length ≤ 9223372036854775807 then Bi (Yq p1) AcM p0.nodes 0 [] else none)))
def Aad (p0 : Af) (k1 : Nat) (x1 : Int) (s1 : Unit) (n1 : Unit → Option Int) : Option Int := (Option.bind (Cw p0 x1) fun r21 => (if (r21.1.kind == 1) then (some 1) else (n1 ())))
def Ahx (s1 : Unit) : Option Int := (some 0)
def Lc (p0 : Af) (p1 : Int) (y1 : Bool) : Option Int := (if y1 then (some 3) else (Option.bind (Hx p0 p1) fun r9 => (if r9.length ≤ 9223372036854775807 then Bi (Aad p0) Ahx r9 0 () else none)))
def Pr (rec : Af → Int → Option Int) (p0 : Af) (p1 : Int) : Option Int := (Option.bind (Cw p0 p1) fun r1 => (if (!r1.2) then (some 0) else (if (r1.1.kind == 1) then (some 2) else (Option.bind (Cw p0 r1.1.parent) fun r4 => (if r4.2 then (if (r4.1.kind == 1) then ((Lc p0 p1) true) else (Option.bind (rec p0 r4.1.id) fun r7 => ((Lc p0 p1) (r7 == 3)))) else ((Lc p0 p1) false))))))
def Ic : Nat → Af → Int → Option Int
 | 0,_,_ => none
 | n + 1,p0,p1 => Pr (Ic n) p0 p1
def Ke (p0 : Af) (p1 : Int) : Option Int := Ic Fy p0 p1
def Aao (p0 : Aa) (k1 : Nat) (x1 : An) (s1 : Unit) (n1 : Unit → Option Bool) : Option Bool := (Option.bind (Fr p0 x1.process) fun r100 => (Option.bind (Jg p0.tree x1.group) fun r101 => (Option.bind (Jg p0.tree r100.1.group) fun r102 => (if (r101.1 != r102.1) then (some false) else (n1 ())))))
def Hq (n4 : Unit → Option Bool) (y18 : Bool) : Option Bool := (if y18 then (some false) else (n4 ()))
def Jp (p0 : Aa) (x4 : Ah) (n4 : Unit → Option Bool) (r133 : Ah × Bool) (y17 : Bool) : Option Bool := (if y17 then (some false) else (if (x4.kind == 1) then (if (r133.1.id != 1) then (if ((kand .i64 r133.1.control 6) != 0) then ((Hq n4) true) else (Option.bind (Ke p0.tree r133.1.id) fun r142 => ((Hq n4) (r142 == 3)))) else (Option.bind (Ke p0.tree r133.1.id) fun r143 => ((Hq n4) (r143 == 3)))) else ((Hq n4) false)))
def Aan (p0 : Aa) (k4 : Nat) (x4 : Ah) (s4 : Unit) (n4 : Unit → Option Bool) : Option Bool := (Option.bind (Cw p0.tree x4.parent) fun r133 => (Option.bind (Ke p0.tree x4.id) fun r134 => (if (r134 == 3) then (if (x4.control != 0) then ((Jp p0 x4 n4 r133) true) else (Option.bind (Ia p0 x4.id) fun r137 => ((Jp p0 x4 n4 r133) (decide (((r137.length : Nat) : Int) > 0))))) else ((Jp p0 x4 n4 r133) false))))
def AhJ (s4 : Unit) : Option Bool := (some true)
def Aai (p0 : Aa) (s1 : Unit) : Option Bool := (if p0.tree.nodes.length ≤ 9223372036854775807 then Bi (Aan p0) AhJ p0.tree.nodes 0 () else none)
def Fq (p0 : Aa) : Option Bool := (Option.bind (Mq p0) fun r1 => (if (!r1) then (some false) else (if p0.tasks.length ≤ 9223372036854775807 then Bi (Aao p0) (Aai p0) p0.tasks 0 () else none)))
def Yh (p0 : Af) (p1 : Int) : Option Int := (Option.bind (Dt p0 p1) fun r1 => (some (w64 (((r1.length : Nat) : Int) - 1))))
def Rp (p0 : Af) : Option Af := (if p0.nodes.length ≤ 1073741824 then (some p0) else none)
def AeS (p1 : Int) (p2 : ByteArray) (k1 : Nat) (x1 : Ah) (s1 : Unit) (n1 : Unit → Option (Af × Int × Int)) : Option (Af × Int × Int) := (if ((x1.parent == p1) && (Cz x1.name p2)) then (some (({ nodes := [],next := 0 } : Af),0,5)) else (n1 ()))
def Rz (p0 : Af) (p1 : Int) (p2 : ByteArray) (y6 : Bool) : Option (Af × Int × Int) := (if y6 then (some (({ nodes := [],next := 0 } : Af),0,7)) else (Option.bind (Rp p0) fun r36 => (if r36.nodes.length + 1 ≤ 1073741824 then (some (({ nodes := (r36.nodes ++ [({ id := p0.next,parent := p1,name := p2,control := 0,kind := 0,owner := 0 } : Ah)]),next := (w64 (r36.next + 1)) } : Af),p0.next,0)) else none)))
def AeW (p0 : Af) (p1 : Int) (p2 : ByteArray) (s1 : Unit) : Option (Af × Int × Int) := (Option.bind (Yh p0 p1) fun r32 => (if (decide (r32 ≥ 8)) then ((Rz p0 p1 p2) true) else (if (decide (((p0.nodes.length : Nat) : Int) ≥ 64)) then ((Rz p0 p1 p2) true) else ((Rz p0 p1 p2) (decide (p0.next > 2147483647))))))
def Yv (p0 : Af) (p1 : Int) (p2 : ByteArray) (y1 : Bool) : Option (Af × Int × Int) := (if y1 then (some (({ nodes := [],next := 0 } : Af),0,1)) else (Option.bind (Ej p0 p1) fun r5 => (if (!r5) then (some (({ nodes := [],next := 0 } : Af),0,4)) else (if p0.nodes.length ≤ 9223372036854775807 then Bi (AeS p1 p2) (AeW p0 p1 p2) p0.nodes 0 () else none))))
def Aab (p0 : Af) (p1 : Int) (p2 : ByteArray) : Option (Af × Int × Int) := (Option.bind (Kw p0) fun r1 => (if (!r1) then ((Yv p0 p1 p2) true) else (Option.bind (Vt p2) fun r3 => ((Yv p0 p1 p2) (!r3)))))
def Lj (p0 : Aa) : Option Aa := (Option.bind (Rp p0.tree) fun r1 => (if p0.tasks.length ≤ 1073741824 then (some ({ tree := r1,tasks := p0.tasks,next := p0.next } : Aa)) else none))
def Sy (p0 : Aa) (p1 : Int) (p2 : ByteArray) : Option (Aa × Int × Int) := (Option.bind (Fq p0) fun r1 => (if (!r1) then (some (({ tree := ({ nodes := [],next := 0 } : Af),tasks := [],next := 0 } : Aa),0,1)) else (Option.bind (Aab p0.tree p1 p2) fun r3 => (if (r3.2.2 != 0) then (some (({ tree := ({ nodes := [],next := 0 } : Af),tasks := [],next := 0 } : Aa),0,r3.2.2)) else (Option.bind (Lj p0) fun r5 => (some (({ tree := r3.1,tasks := r5.tasks,next := r5.next } : Aa),r3.2.1,0)))))))
def Yu (r3 : Aa) (y1 : An) : Option (Aa × Int × Int) := (if r3.tasks.length + 1 ≤ 1073741824 then (some (({ tree := r3.tree,tasks := (r3.tasks ++ [y1]),next := (w64 (r3.next + 1)) } : Aa),y1.id,0)) else none)
def Aac (p0 : Aa) (p1 : An) : Option (Aa × Int × Int) := (if ((decide (((p0.tasks.length : Nat) : Int) ≥ 128)) || (decide (p0.next > 2147483647))) then (some (({ tree := ({ nodes := [],next := 0 } : Af),tasks := [],next := 0 } : Aa),0,7)) else (Option.bind (Lj p0) fun r3 => (if (p1.process == 0) then ((Yu r3) ({ id := p0.next,process := p0.next,group := p1.group,user := p1.user } : An)) else ((Yu r3) ({ id := p0.next,process := p1.process,group := p1.group,user := p1.user } : An)))))
def Rc (p0 : Aa) (p1 : Int) (p2 : Int) (y1 : Bool) : Option (Aa × Int × Int) := (if y1 then (some (({ tree := ({ nodes := [],next := 0 } : Af),tasks := [],next := 0 } : Aa),0,1)) else (Option.bind (Ej p0.tree p1) fun r5 => (if (!r5) then (some (({ tree := ({ nodes := [],next := 0 } : Af),tasks := [],next := 0 } : Aa),0,4)) else (Option.bind (Aac p0 ({ id := 0,process := 0,group := p1,user := p2 } : An)) fun r7 => (some (r7.1,r7.2.1,r7.2.2))))))
def Rt (p0 : Aa) (p1 : Int) (p2 : Int) : Option (Aa × Int × Int) := (Option.bind (Fv p0) fun r1 => (if (!r1) then ((Rc p0 p1 p2) true) else (if (decide (p2 < 0)) then ((Rc p0 p1 p2) true) else ((Rc p0 p1 p2) (decide (p2 > 1048576))))))
def Add (p0 : Ah) : Option Bool := (some ((((p0.id == 1) && (p0.parent == 0)) && (Cz p0.name ByteArray.empty)) && (p0.kind == 0)))
def Abo (p0 : Int) : Option Bool := (some ((((((decide (p0 ≥ 97)) && (decide (p0 ≤ 122))) || ((decide (p0 ≥ 65)) && (decide (p0 ≤ 90)))) || ((decide (p0 ≥ 48)) && (decide (p0 ≤ 57)))) || (p0 == 95)) || (p0 == 45)))
def Acn (k1 : Nat) (x1 : Int) (s1 : Unit) (n1 : Unit → Option Bool) : Option Bool := (Option.bind (Abo x1) fun r16 => (if (!r16) then (some false) else (n1 ())))
def Rg (y3 : Bool) : Option Bool := (some y3)
def Acv (p0 : ByteArray) (s1 : Unit) : Option Bool := (if (!(Cz p0 ByteArray.empty)) then (if (decide (((p0.size : Nat) : Int) ≤ 32)) then (if 0 < p0.size then (Rg ((((Bn p0 0) : Nat) : Int) != 45)) else none) else (Rg false)) else (Rg false))
def Vf (p0 : ByteArray) : Option Bool := (if (Jh p0).length ≤ 9223372036854775807 then Bi Acn (Acv p0) (Jh p0) 0 () else none)
def Adu (p1 : Ah) (k1 : Nat) (x1 : Ah) (s1 : Bool) (n1 : Bool → Option Bool) : Option Bool := (if ((x1.parent == p1.parent) && (Cz x1.name p1.name)) then (some false) else (n1 (s1 || (x1.id == p1.parent))))
def Aht (s1 : Bool) : Option Bool := (some s1)
def Ky (p0 : List Ah) (p1 : Ah) (y1 : Bool) : Option Bool := (if y1 then (some false) else (if p0.length ≤ 9223372036854775807 then Bi (Adu p1) Aht p0 0 false else none))
def AaD (p0 : List Ah) (p1 : Ah) : Option Bool := (if 0 ≤ (w64 (((p0.length : Nat) : Int) - 1)) ∧ (w64 (((p0.length : Nat) : Int) - 1)) < ((p0.length : Nat) : Int) then (if (decide (p1.id ≤ (p0.getD (Int.toNat (w64 (((p0.length : Nat) : Int) - 1))) (default : Ah)).id)) then ((Ky p0 p1) true) else (Option.bind (Vf p1.name) fun r3 => (if (!r3) then ((Ky p0 p1) true) else (if (p1.kind != 0) then ((Ky p0 p1) (p1.kind != 1)) else ((Ky p0 p1) false))))) else none)
def Up (x1 : Ah) (n1 : (IMap Int) → Option Bool) (y9 : IMap Int) : Option Bool := (if (decide ((y9.get x1.id) > 8)) then (some false) else (n1 y9))
def Gx (k1 : Nat) (x1 : Ah) (s1 : IMap Int) (n1 : (IMap Int) → Option Bool) (y8 : Bool) : Option Bool := (if y8 then (some false) else (if (decide (((k1 : Nat) : Int) > 0)) then ((Up x1 n1) (s1.set x1.id (w64 ((s1.get x1.parent) + 1)))) else ((Up x1 n1) s1)))
def AbN (p0 : Af) (k1 : Nat) (x1 : Ah) (s1 : IMap Int) (n1 : (IMap Int) → Option Bool) : Option Bool := (if (decide (x1.control < 0)) then ((Gx k1 x1 s1 n1) true) else (if ((Az .i64 x1.control 31) != 0) then ((Gx k1 x1 s1 n1) true) else (if (decide (x1.owner < 0)) then ((Gx k1 x1 s1 n1) true) else (if (decide (x1.owner > 1048576)) then ((Gx k1 x1 s1 n1) true) else (if (decide (((k1 : Nat) : Int) > 0)) then (if ((k1 : Nat) : Int) ≤ ((p0.nodes.length : Nat) : Int) then (Option.bind (AaD (p0.nodes.take k1) x1) fun r43 => ((Gx k1 x1 s1 n1) (!r43))) else none) else ((Gx k1 x1 s1 n1) false))))))
def Sn (y10 : Bool) : Option Bool := (some y10)
def Acd (p0 : Af) (s1 : IMap Int) : Option Bool := (if 0 ≤ (w64 (((p0.nodes.length : Nat) : Int) - 1)) ∧ (w64 (((p0.nodes.length : Nat) : Int) - 1)) < ((p0.nodes.length : Nat) : Int) then (if (decide (p0.next > (p0.nodes.getD (Int.toNat (w64 (((p0.nodes.length : Nat) : Int) - 1))) (default : Ah)).id)) then (Sn (decide (p0.next ≤ 2147483648))) else (Sn false)) else none)
def Qo (p0 : Af) (y1 : Bool) : Option Bool := (if y1 then (some false) else (if p0.nodes.length ≤ 9223372036854775807 then Bi (AbN p0) (Acd p0) p0.nodes 0 (IMap.empty 0) else none))
def Kx (p0 : Af) : Option Bool := (if (decide (((p0.nodes.length : Nat) : Int) < 1)) then ((Qo p0) true) else (if (decide (((p0.nodes.length : Nat) : Int) > 64)) then ((Qo p0) true) else (if 0 < p0.nodes.length then (Option.bind (Add (p0.nodes.getD 0 (default : Ah))) fun r4 => ((Qo p0) (!r4))) else none)))
def AfS (p0 : An) (p1 : Int) : Option Bool := (some (p0.id == p1))
def Mx (p1c0 : Int) (k1 : Nat) (x1 : An) (s1 : Unit) (n1 : Unit → Option Int) : Option Int := (Option.bind (AfS x1 p1c0) fun r10 => (if r10 then (some ((k1 : Nat) : Int)) else (n1 ())))
def Mv (s1 : Unit) : Option Int := (some (-1))
def Gb (p0 : List An) (p1c0 : Int) : Option Int := (if p0.length ≤ 9223372036854775807 then Bi (Mx p1c0) Mv p0 0 () else none)
def Vn (p0 : Aa) (p1 : Int) : Option Int := (Option.bind (Gb p0.tasks p1) fun r1 => (some r1))
def Pq (p0 : Aa) (p1 : Int) : Option (An × Bool) := (Option.bind (Vn p0 p1) fun r1 => (if (decide (r1 < 0)) then (some (({ id := 0,process := 0,group := 0,user := 0 } : An),false)) else (if 0 ≤ r1 ∧ r1 < ((p0.tasks.length : Nat) : Int) then (some ((p0.tasks.getD (Int.toNat r1) (default : An)),true)) else none)))
def Adw (p0 : Ah) (p1 : Int) : Option Bool := (some (p0.id == p1))
def Lt (p1c0 : Int) (k1 : Nat) (x1 : Ah) (s1 : Unit) (n1 : Unit → Option Int) : Option Int := (Option.bind (Adw x1 p1c0) fun r10 => (if r10 then (some ((k1 : Nat) : Int)) else (n1 ())))
def Lv (s1 : Unit) : Option Int := (some (-1))
def Fn (p0 : List Ah) (p1c0 : Int) : Option Int := (if p0.length ≤ 9223372036854775807 then Bi (Lt p1c0) Lv p0 0 () else none)
def En (p0 : Af) (p1 : Int) : Option Int := (Option.bind (Fn p0.nodes p1) fun r1 => (some r1))
def Ie (y1 : Bool) : Option Bool := (some y1)
def Wl (p0 : Aa) (p1 : An) : Option Bool := (Option.bind (Pq p0 p1.process) fun r1 => (if (decide (p1.user ≥ 0)) then (if (decide (p1.user ≤ 1048576)) then (if r1.2 then (if (r1.1.process == r1.1.id) then (if (r1.1.user == p1.user) then (Option.bind (En p0.tree p1.group) fun r7 => (Ie (decide (r7 ≥ 0)))) else (Ie false)) else (Ie false)) else (Ie false)) else (Ie false)) else (Ie false)))
def Rn (x1 : An) (n1 : Int → Option Bool) (y4 : Bool) : Option Bool := (if y4 then (some false) else (n1 x1.id))
def Zx (p0 : Aa) (k1 : Nat) (x1 : An) (s1 : Int) (n1 : Int → Option Bool) : Option Bool := (if (decide (x1.id ≤ s1)) then ((Rn x1 n1) true) else (Option.bind (Wl p0 x1) fun r17 => ((Rn x1 n1) (!r17))))
def Aee (p0 : Aa) (s1 : Int) : Option Bool := (some (decide (p0.next > s1)))
def Nm (p0 : Aa) (y1 : Bool) : Option Bool := (if y1 then (some false) else (if p0.tasks.length ≤ 9223372036854775807 then Bi (Zx p0) (Aee p0) p0.tasks 0 0 else none))
def Lp (p0 : Aa) : Option Bool := (if (decide (((p0.tasks.length : Nat) : Int) > 128)) then ((Nm p0) true) else (if (decide (p0.next > 2147483648)) then ((Nm p0) true) else (Option.bind (Kx p0.tree) fun r3 => ((Nm p0) (!r3)))))
def Ml (n1 : (List Int) → Option (List Int)) (y3 : List Int) : Option (List Int) := (n1 y3)
def Vy (p1 : Int) (k1 : Nat) (x1 : Ah) (s1 : List Int) (n1 : (List Int) → Option (List Int)) : Option (List Int) := (if (x1.parent == p1) then (if s1.length + 1 ≤ 1073741824 then ((Ml n1) (s1 ++ [x1.id])) else none) else ((Ml n1) s1))
def Abh (s1 : List Int) : Option (List Int) := (some s1)
def Ph (p0 : Af) (p1 : Int) : Option (List Int) := (if p0.nodes.length ≤ 9223372036854775807 then Bi (Vy p1) Abh p0.nodes 0 [] else none)
def AaG (p1 : Int) (k1 : Nat) (x1 : Int) (s1 : Unit) (n1 : Unit → Option Int) : Option Int := (if (p1 == x1) then (some ((k1 : Nat) : Int)) else (n1 ()))
def AaA (s1 : Unit) : Option Int := (some (-1))
def Sa (p0 : List Int) (p1 : Int) : Option Int := (if p0.length ≤ 9223372036854775807 then Bi (AaG p1) AaA p0 0 () else none)
def Ki (p0 : List Int) (p1 : Int) : Option Bool := (Option.bind (Sa p0 p1) fun r1 => (some (decide (r1 ≥ 0))))
def Ed (p0 : List Ah) : Option (List Ah) := (if 0 + p0.length ≤ 1073741824 then (some p0) else none)
def Rx (p0 : List Ah) : Option (List Ah) := (some [])
def Jz (p0 : List An) : Option (List An) := (if 0 + p0.length ≤ 1073741824 then (some p0) else none)
def Rs (p0 : List An) : Option (List An) := (some [])
def Ll (p0 : Aa) : Option Aa := (Option.bind (Ed p0.tree.nodes) fun r1 => (Option.bind (Jz p0.tasks) fun r2 => (some ({ tree := ({ nodes := r1,next := p0.tree.next } : Af),tasks := r2,next := p0.next } : Aa))))
def AbU (r3 : Aa) (y1 : An) : Option (Aa × Int × Int) := (if r3.tasks.length + 1 ≤ 1073741824 then (some (({ tree := r3.tree,tasks := (r3.tasks ++ [y1]),next := (w64 (r3.next + 1)) } : Aa),y1.id,0)) else none)
def Aez (p0 : Aa) (p1 : An) : Option (Aa × Int × Int) := (if ((decide (((p0.tasks.length : Nat) : Int) ≥ 128)) || (decide (p0.next > 2147483647))) then (some (({ tree := ({ nodes := [],next := 0 } : Af),tasks := [],next := 0 } : Aa),0,7)) else (Option.bind (Ll p0) fun r3 => (if (p1.process == 0) then ((AbU r3) ({ id := p0.next,process := p0.next,group := p1.group,user := p1.user } : An)) else ((AbU r3) ({ id := p0.next,process := p1.process,group := p1.group,user := p1.user } : An)))))
def Er (p0 : Af) (p1 : Int) : Option (Ah × Bool) := (Option.bind (En p0 p1) fun r1 => (if (decide (r1 < 0)) then (some (({ id := 0,parent := 0,name := ByteArray.empty,control := 0,kind := 0,owner := 0 } : Ah),false)) else (if 0 ≤ r1 ∧ r1 < ((p0.nodes.length : Nat) : Int) then (some ((p0.nodes.getD (Int.toNat r1) (default : Ah)),true)) else none)))
def Ld (y1 : List Int) : Option (List Int) := (some y1)
def Us (p0 : Af) (k1 : Nat) (x1 : Ah) (s1 : (List Int) × Int) (n1 : ((List Int) × Int) → Option (List Int)) : Option (List Int) := (Option.bind (Er p0 s1.2) fun r9 => (if (!r9.2) then (Ld s1.1) else (if s1.1.length + 1 ≤ 1073741824 then (n1 ((s1.1 ++ [s1.2]),r9.1.parent)) else none)))
def AaJ (s1 : (List Int) × Int) : Option (List Int) := (Ld s1.1)
def Dv (p0 : Af) (p1 : Int) : Option (List Int) := (if p0.nodes.length ≤ 9223372036854775807 then Bi (Us p0) AaJ p0.nodes 0 ([],p1) else none)
def AfJ (p0 : List Int) : Option Aq := (some ({ l := p0,atF := 0 } : Aq))
def Nq (p0 : Aq) (y1 : Int) : Option (Int × Aq) := (some (y1,({ l := p0.l,atF := (w64 (p0.atF + 1)) } : Aq)))
def Ay (p0 : Aq) (p1 : Int) : Option (Int × Aq) := (if ((decide (p0.atF ≥ ((p0.l.length : Nat) : Int))) || (decide (p1 < 1))) then (some (0,p0)) else (if 0 ≤ (w64 ((w64 (p0.atF + 1)) - 1)) ∧ (w64 ((w64 (p0.atF + 1)) - 1)) < ((p0.l.length : Nat) : Int) then (if (p1 : Int) ≠ 0 then (if (decide ((Int.tmod (p0.l.getD (Int.toNat (w64 ((w64 (p0.atF + 1)) - 1))) 0) p1) < 0)) then ((Nq p0) (w64 ((Int.tmod (p0.l.getD (Int.toNat (w64 ((w64 (p0.atF + 1)) - 1))) 0) p1) + p1))) else ((Nq p0) (Int.tmod (p0.l.getD (Int.toNat (w64 ((w64 (p0.atF + 1)) - 1))) 0) p1))) else none) else none))
def Nh (p0 : Aq) : Option (ByteArray × Aq) := (Option.bind (Ay p0 6) fun r3 => (if 0 ≤ r3.1 ∧ r3.1 < (([(bs [97]),(bs [98]),(bs [99]),(bs [119,101,98]),(bs [100,98,45,49]),(bs [88,95,57])].length : Nat) : Int) then (if (Int.toNat r3.1) < [(bs [97]),(bs [98]),(bs [99]),(bs [119,101,98]),(bs [100,98,45,49]),(bs [88,95,57])].length then (some (([(bs [97]),(bs [98]),(bs [99]),(bs [119,101,98]),(bs [100,98,45,49]),(bs [88,95,57])].getD (Int.toNat r3.1) ByteArray.empty),r3.2)) else none) else none))
def Fe (p0 : Aq) (p1 : Int) : Option (Bool × Aq) := (Option.bind (Ay p0 p1) fun r1 => (some ((r1.1 == (w64 (p1 - 1))),r1.2)))
def Sf (n1 : (List Ah) → Option (Af × Int)) (y3 : List Ah) : Option (Af × Int) := (n1 y3)
def Xa (p1 : Int) (k1 : Nat) (x1 : Ah) (s1 : List Ah) (n1 : (List Ah) → Option (Af × Int)) : Option (Af × Int) := (if (x1.id != p1) then (if s1.length + 1 ≤ 1073741824 then ((Sf n1) (s1 ++ [x1])) else none) else ((Sf n1) s1))
def Xc (p0 : Af) (s1 : List Ah) : Option (Af × Int) := (some (({ nodes := s1,next := p0.next } : Af),0))
def Td (p0 : Af) (p1 : Int) : Option (Af × Int) := (Option.bind (Kw p0) fun r1 => (if (!r1) then (some (({ nodes := [],next := 0 } : Af),1)) else (Option.bind (Ej p0 p1) fun r3 => (if (!r3) then (some (({ nodes := [],next := 0 } : Af),4)) else (if (p1 == 1) then (some (({ nodes := [],next := 0 } : Af),9)) else (Option.bind (Hx p0 p1) fun r6 => (if (decide (((r6.length : Nat) : Int) > 0)) then (some (({ nodes := [],next := 0 } : Af),6)) else (if p0.nodes.length ≤ 9223372036854775807 then Bi (Xa p1) (Xc p0) p0.nodes 0 [] else none))))))))
def Ik (s1 : Aq × Af × Int) (n1 : (Aq × Af × Int) → Option (Af × Aq)) (y3 : Aq × Af) : Option (Af × Aq) := (n1 (y3.1,y3.2,(w64 (s1.2.2 - 1))))
def Kl (s1 : Aq × Af × Int) (n1 : (Aq × Af × Int) → Option (Af × Aq)) (r21 : ByteArray × Aq) (y4 : Af) : Option (Af × Aq) := (Option.bind (Fe r21.2 6) fun r24 => (if r24.1 then (Option.bind (Ay r24.2 ((y4.nodes.length : Nat) : Int)) fun r26 => (if 0 ≤ r26.1 ∧ r26.1 < ((y4.nodes.length : Nat) : Int) then (Option.bind (Td y4 (y4.nodes.getD (Int.toNat r26.1) (default : Ah)).id) fun r28 => (if (r28.2 == 0) then ((Ik s1 n1) (r26.2,r28.1)) else ((Ik s1 n1) (r26.2,y4)))) else none)) else ((Ik s1 n1) (r24.2,y4))))
def Xh (s1 : Aq × Af × Int) (n1 : (Aq × Af × Int) → Option (Af × Aq)) : Option (Af × Aq) := (if (decide (s1.2.2 > 0)) then (Option.bind (Ay s1.1 ((s1.2.1.nodes.length : Nat) : Int)) fun r19 => (if 0 ≤ r19.1 ∧ r19.1 < ((s1.2.1.nodes.length : Nat) : Int) then (Option.bind (Nh r19.2) fun r21 => (Option.bind (Aab s1.2.1 (s1.2.1.nodes.getD (Int.toNat r19.1) (default : Ah)).id r21.1) fun r22 => (if (r22.2.2 == 0) then ((Kl s1 n1 r21) r22.1) else ((Kl s1 n1 r21) s1.2.1)))) else none)) else (some (s1.2.1,s1.1)))
def Rh (p0 : Aq) (p1 : Int) : Option (Af × Aq) := (Option.bind Acy fun r1 => (Option.bind (Ay p0 (w64 (p1 + 1))) fun r2 => (whileO Xh Fy (r2.2,r1,r2.1))))
def Ka (p1 : Af) (r1 : Bool × Aq) (y1 : Bool) : Option (Int × Aq) := (if y1 then (Option.bind (Ay r1.2 9) fun r4 => (some ((w64 (r4.1 - 1)),r4.2))) else (Option.bind (Ay r1.2 ((p1.nodes.length : Nat) : Int)) fun r5 => (if 0 ≤ r5.1 ∧ r5.1 < ((p1.nodes.length : Nat) : Int) then (some ((p1.nodes.getD (Int.toNat r5.1) (default : Ah)).id,r5.2)) else none)))
def Ho (p0 : Aq) (p1 : Af) : Option (Int × Aq) := (Option.bind (Fe p0 15) fun r1 => (if r1.1 then ((Ka p1 r1) true) else ((Ka p1 r1) (((p1.nodes.length : Nat) : Int) == 0))))
def Ec (p0 : Aq) : Option (Int × Aq) := (Option.bind (Ay p0 9) fun r3 => (if 0 ≤ r3.1 ∧ r3.1 < (([1,9,31,2,25,4,0,32,(-1)].length : Nat) : Int) then (if (Int.toNat r3.1) < [1,9,31,2,25,4,0,32,(-1)].length then (some (([1,9,31,2,25,4,0,32,(-1)].getD (Int.toNat r3.1) 0),r3.2)) else none) else none))
def Zk (p0 : Int) : Option Bool := (some ((decide (p0 ≥ 0)) && (decide (p0 ≤ 31))))
def Ym (s1 : (List Ah) × Int) (n1 : ((List Ah) × Int) → Option Af) (y2 : List Ah) : Option Af := (n1 (y2,(w64 (s1.2 + 1))))
def AeD (p1 : Ah) (r1 : Af) (s1 : (List Ah) × Int) (n1 : ((List Ah) × Int) → Option Af) : Option Af := (if (decide (s1.2 < ((s1.1.length : Nat) : Int))) then (if 0 ≤ s1.2 ∧ s1.2 < ((s1.1.length : Nat) : Int) then (if (Int.toNat s1.2) < s1.1.length then (if ((s1.1.getD (Int.toNat s1.2) (default : Ah)).id == p1.id) then (if 0 ≤ s1.2 ∧ s1.2 < ((s1.1.length : Nat) : Int) then (if (Int.toNat s1.2) < s1.1.length then ((Ym s1 n1) (s1.1.set (Int.toNat s1.2) p1)) else none) else none) else ((Ym s1 n1) s1.1)) else none) else none) else (some ({ nodes := s1.1,next := r1.next } : Af)))
def Xl (p0 : Af) (p1 : Ah) : Option Af := (Option.bind (Rp p0) fun r1 => (whileO (AeD p1 r1) Fy (r1.nodes,0)))
def Yb (p0 : Aa) (p3 : Int) (k1 : Nat) (x1 : Int) (s1 : Unit) (n1 : Unit → Option (Aa × Int)) : Option (Aa × Int) := (Option.bind (Cw p0.tree x1) fun r36 => (if ((kand .i64 r36.1.control p3) != 0) then (some (({ tree := ({ nodes := [],next := 0 } : Af),tasks := [],next := 0 } : Aa),9)) else (n1 ())))
def Ji (p0 : Aa) (p2 : Int) (p3 : Int) (r8 : Ah × Bool) (y4 : Bool) : Option (Aa × Int) := (if y4 then (some (({ tree := ({ nodes := [],next := 0 } : Af),tasks := [],next := 0 } : Aa),6)) else (Option.bind (Lj p0) fun r42 => (Option.bind (Xl p0.tree ({ id := r8.1.id,parent := r8.1.parent,name := r8.1.name,control := (kor .i64 (Az .i64 r8.1.control p3) p2),kind := r8.1.kind,owner := r8.1.owner } : Ah)) fun r43 => (some (({ tree := r43,tasks := r42.tasks,next := r42.next } : Aa),0)))))
def Uf (p0 : Aa) (p1 : Int) (p2 : Int) (p3 : Int) (r8 : Ah × Bool) (s1 : Unit) : Option (Aa × Int) := (if ((Az .i64 (kand .i64 (kor .i64 (Az .i64 r8.1.control p3) p2) 6) r8.1.control) != 0) then (if (p1 != 1) then (Option.bind (Ia p0 p1) fun r40 => ((Ji p0 p2 p3 r8) (decide (((r40.length : Nat) : Int) > 0)))) else ((Ji p0 p2 p3 r8) false)) else ((Ji p0 p2 p3 r8) false))
def Ht (p0 : Aa) (p1 : Int) (p2 : Int) (p3 : Int) (y1 : Bool) : Option (Aa × Int) := (if y1 then (some (({ tree := ({ nodes := [],next := 0 } : Af),tasks := [],next := 0 } : Aa),1)) else (Option.bind (Cw p0.tree p1) fun r8 => (if (!r8.2) then (some (({ tree := ({ nodes := [],next := 0 } : Af),tasks := [],next := 0 } : Aa),4)) else (Option.bind (Iz p0.tree p1) fun r10 => (if ((Az .i64 p2 r10) != 0) then (some (({ tree := ({ nodes := [],next := 0 } : Af),tasks := [],next := 0 } : Aa),9)) else (Option.bind (Hx p0.tree p1) fun r12 => (if r12.length ≤ 9223372036854775807 then Bi (Yb p0 p3) (Uf p0 p1 p2 p3 r8) r12 0 () else none)))))))
def Rq (p0 : Aa) (p1 : Int) (p2 : Int) (p3 : Int) : Option (Aa × Int) := (Option.bind (Mq p0) fun r1 => (if (!r1) then ((Ht p0 p1 p2 p3) true) else (Option.bind (Zk p2) fun r3 => (if (!r3) then ((Ht p0 p1 p2 p3) true) else (Option.bind (Zk p3) fun r5 => (if (!r5) then ((Ht p0 p1 p2 p3) true) else ((Ht p0 p1 p2 p3) ((kand .i64 p2 p3) != 0))))))))
def Mu (p0 : Aa) (p1 : Int) (p2 : Int) (p3 : Int) : Option (Aa × Int) := (Option.bind (Fq p0) fun r1 => (if (!r1) then (some (({ tree := ({ nodes := [],next := 0 } : Af),tasks := [],next := 0 } : Aa),1)) else (Option.bind (Rq p0 p1 p2 p3) fun r3 => (if (r3.2 != 0) then (some (({ tree := ({ nodes := [],next := 0 } : Af),tasks := [],next := 0 } : Aa),r3.2)) else (Option.bind (Fq r3.1) fun r5 => (if (!r5) then (some (({ tree := ({ nodes := [],next := 0 } : Af),tasks := [],next := 0 } : Aa),10)) else (some (r3.1,0))))))))
def Ni (r13 : Aa) (r14 : Af) (y2 : Bool) : Option (Aa × Int) := (if y2 then (some (({ tree := ({ nodes := [],next := 0 } : Af),tasks := [],next := 0 } : Aa),6)) else (some (({ tree := r14,tasks := r13.tasks,next := r13.next } : Aa),0)))
def Hg (p0 : Aa) (p1 : Int) (r3 : Ah × Bool) (y1 : Bool) : Option (Aa × Int) := (if y1 then (some (({ tree := ({ nodes := [],next := 0 } : Af),tasks := [],next := 0 } : Aa),10)) else (if ((kand .i64 r3.1.control 6) != 0) then (some (({ tree := ({ nodes := [],next := 0 } : Af),tasks := [],next := 0 } : Aa),9)) else (Option.bind (Lj p0) fun r13 => (Option.bind (Xl p0.tree ({ id := r3.1.id,parent := r3.1.parent,name := r3.1.name,control := r3.1.control,kind := 1,owner := r3.1.owner } : Ah)) fun r14 => (Option.bind (Ia p0 p1) fun r15 => (if (decide (((r15.length : Nat) : Int) > 0)) then ((Ni r13 r14) true) else (Option.bind (Fq ({ tree := r14,tasks := r13.tasks,next := r13.next } : Aa)) fun r17 => ((Ni r13 r14) (!r17)))))))))
def Lo (p0 : Aa) (p1 : Int) : Option (Aa × Int) := (Option.bind (Fq p0) fun r1 => (if (!r1) then (some (({ tree := ({ nodes := [],next := 0 } : Af),tasks := [],next := 0 } : Aa),1)) else (Option.bind (Cw p0.tree p1) fun r3 => (if (!r3.2) then (some (({ tree := ({ nodes := [],next := 0 } : Af),tasks := [],next := 0 } : Aa),4)) else (if ((p1 == 1) || (r3.1.kind == 1)) then (some (({ tree := ({ nodes := [],next := 0 } : Af),tasks := [],next := 0 } : Aa),9)) else (Option.bind (Cw p0.tree r3.1.parent) fun r7 => (Option.bind (Ke p0.tree r7.1.id) fun r8 => (if (r8 == 3) then ((Hg p0 p1 r3) true) else (if (r7.1.id != 1) then ((Hg p0 p1 r3) ((kand .i64 r7.1.control 6) != 0)) else ((Hg p0 p1 r3) false))))))))))
def Gu (y1 : Aq × Aa) : Option (Aa × Aq) := (some (y1.2,y1.1))
def Ks (p1 : Aa) (r1 : Int × Aq) (r2 : Int × Aq) (y2 : Bool) : Option (Aa × Aq) := (if y2 then (Option.bind (Ec r2.2) fun r5 => (Option.bind (Mu p1 r1.1 r5.1 0) fun r6 => (if (r6.2 == 0) then (some (r6.1,r5.2)) else (Gu (r5.2,p1))))) else (if (r2.1 == 2) then (Option.bind (Lo p1 r1.1) fun r9 => (if (r9.2 == 0) then (some (r9.1,r2.2)) else (Gu (r2.2,p1)))) else (if (r2.1 == 3) then (Option.bind (Cw p1.tree r1.1) fun r12 => (if (r12.2 && (r1.1 != 1)) then (Option.bind (Ay r2.2 3) fun r15 => (Option.bind (Xl p1.tree ({ id := r12.1.id,parent := r12.1.parent,name := r12.1.name,control := r12.1.control,kind := r12.1.kind,owner := r15.1 } : Ah)) fun r16 => (Gu (r15.2,({ tree := r16,tasks := p1.tasks,next := p1.next } : Aa))))) else (Gu (r2.2,p1)))) else (Gu (r2.2,p1)))))
def Rd (p0 : Aq) (p1 : Aa) : Option (Aa × Aq) := (Option.bind (Ho p0 p1.tree) fun r1 => (Option.bind (Ay r1.2 5) fun r2 => (if (r2.1 == 0) then ((Ks p1 r1 r2) (r2.1 == 0)) else ((Ks p1 r1 r2) (r2.1 == 1)))))
def Lb (p0 : Aa) (p1 : Int) : Option Int := (Option.bind (Fq p0) fun r1 => (if (!r1) then (some 1) else (Option.bind (Cw p0.tree p1) fun r3 => (if (!r3.2) then (some 4) else (Option.bind (Ke p0.tree p1) fun r5 => (if (r5 == 3) then (some 10) else (if ((p1 != 1) && ((kand .i64 r3.1.control 6) != 0)) then (some 6) else (some 0))))))))
def Kv (p1 : Aa) (r1 : Bool × Aq) (y1 : Bool) : Option (Int × Aq) := (if y1 then (Option.bind (Ay r1.2 9) fun r4 => (some ((w64 (r4.1 - 1)),r4.2))) else (Option.bind (Ay r1.2 ((p1.tasks.length : Nat) : Int)) fun r5 => (if 0 ≤ r5.1 ∧ r5.1 < ((p1.tasks.length : Nat) : Int) then (some ((p1.tasks.getD (Int.toNat r5.1) (default : An)).id,r5.2)) else none)))
def Is (p0 : Aq) (p1 : Aa) : Option (Int × Aq) := (Option.bind (Fe p0 15) fun r1 => (if r1.1 then ((Kv p1 r1) true) else ((Kv p1 r1) (((p1.tasks.length : Nat) : Int) == 0))))
def Ya (p0 : Aa) (p1 : Int) : Option (Aa × Int × Int) := (Option.bind (Fv p0) fun r1 => (if (!r1) then (some (({ tree := ({ nodes := [],next := 0 } : Af),tasks := [],next := 0 } : Aa),0,1)) else (Option.bind (Fr p0 p1) fun r3 => (if (!r3.2) then (some (({ tree := ({ nodes := [],next := 0 } : Af),tasks := [],next := 0 } : Aa),0,4)) else (Option.bind (Aac p0 r3.1) fun r5 => (some (r5.1,r5.2.1,r5.2.2)))))))
def Ui (s1 : (List An) × Int) (n1 : ((List An) × Int) → Option (Aa × Int)) (y3 : List An) : Option (Aa × Int) := (n1 (y3,(w64 (s1.2 + 1))))
def Ue (p1 : Int) (p2 : Int) (r7 : Aa) (s1 : (List An) × Int) (n1 : ((List An) × Int) → Option (Aa × Int)) : Option (Aa × Int) := (if (decide (s1.2 < ((s1.1.length : Nat) : Int))) then (if 0 ≤ s1.2 ∧ s1.2 < ((s1.1.length : Nat) : Int) then (if (Int.toNat s1.2) < s1.1.length then (if ((s1.1.getD (Int.toNat s1.2) (default : An)).id == p1) then (if 0 ≤ s1.2 ∧ s1.2 < ((s1.1.length : Nat) : Int) then (if (Int.toNat s1.2) < s1.1.length then ((Ui s1 n1) (s1.1.set (Int.toNat s1.2) ({ id := (s1.1.getD (Int.toNat s1.2) (default : An)).id,process := (s1.1.getD (Int.toNat s1.2) (default : An)).process,group := p2,user := (s1.1.getD (Int.toNat s1.2) (default : An)).user } : An))) else none) else none) else ((Ui s1 n1) s1.1)) else none) else none) else (some (({ tree := r7.tree,tasks := s1.1,next := r7.next } : Aa),0)))
def Um (p0 : Aa) (p1 : Int) (p2 : Int) (y1 : Bool) : Option (Aa × Int) := (if y1 then (some (({ tree := ({ nodes := [],next := 0 } : Af),tasks := [],next := 0 } : Aa),4)) else (Option.bind (Lj p0) fun r7 => (whileO (Ue p1 p2 r7) Fy (r7.tasks,0))))
def Vl (p0 : Aa) (p1 : Int) (p2 : Int) : Option (Aa × Int) := (Option.bind (Fv p0) fun r1 => (if (!r1) then (some (({ tree := ({ nodes := [],next := 0 } : Af),tasks := [],next := 0 } : Aa),1)) else (Option.bind (Fr p0 p1) fun r3 => (if (!r3.2) then ((Um p0 p1 p2) true) else (Option.bind (Ej p0.tree p2) fun r5 => ((Um p0 p1 p2) (!r5)))))))
def Gi (p0 : Aa) (p1 : Int) (p2 : Int) (r3 : An × Bool) (y1 : Bool) : Option (Aa × Int) := (if y1 then (some (({ tree := ({ nodes := [],next := 0 } : Af),tasks := [],next := 0 } : Aa),4)) else (Option.bind (Lb p0 p2) fun r7 => (if (r7 != 0) then (some (({ tree := ({ nodes := [],next := 0 } : Af),tasks := [],next := 0 } : Aa),r7)) else (Option.bind (Jg p0.tree p2) fun r9 => (Option.bind (Jg p0.tree r3.1.group) fun r10 => (if (r9.1 != r10.1) then (some (({ tree := ({ nodes := [],next := 0 } : Af),tasks := [],next := 0 } : Aa),9)) else (Option.bind (Vl p0 p1 p2) fun r12 => (some (r12.1,r12.2)))))))))
def Gf (p0 : Aa) (p1 : Int) (p2 : Int) : Option (Aa × Int) := (Option.bind (Fq p0) fun r1 => (if (!r1) then (some (({ tree := ({ nodes := [],next := 0 } : Af),tasks := [],next := 0 } : Aa),1)) else (Option.bind (Fr p0 p1) fun r3 => (if (!r3.2) then ((Gi p0 p1 p2 r3) true) else (Option.bind (Ej p0.tree p2) fun r5 => ((Gi p0 p1 p2 r3) (!r5)))))))
def Wn (n1 : (List An) → Option (Aa × Int)) (y3 : List An) : Option (Aa × Int) := (n1 y3)
def Aaj (p1 : Int) (k1 : Nat) (x1 : An) (s1 : List An) (n1 : (List An) → Option (Aa × Int)) : Option (Aa × Int) := (if ((x1.id != p1) && (x1.process != p1)) then (if s1.length + 1 ≤ 1073741824 then ((Wn n1) (s1 ++ [x1])) else none) else ((Wn n1) s1))
def Aae (p0 : Aa) (r5 : Af) (s1 : List An) : Option (Aa × Int) := (some (({ tree := r5,tasks := s1,next := p0.next } : Aa),0))
def Aaz (p0 : Aa) (p1 : Int) : Option (Aa × Int) := (Option.bind (Fv p0) fun r1 => (if (!r1) then (some (({ tree := ({ nodes := [],next := 0 } : Af),tasks := [],next := 0 } : Aa),1)) else (Option.bind (Fr p0 p1) fun r3 => (if (!r3.2) then (some (({ tree := ({ nodes := [],next := 0 } : Af),tasks := [],next := 0 } : Aa),4)) else (Option.bind (Rp p0.tree) fun r5 => (if p0.tasks.length ≤ 9223372036854775807 then Bi (Aaj p1) (Aae p0 r5) p0.tasks 0 [] else none))))))
def Dq (s3 : Aq × Aa × Int) (n3 : (Aq × Aa × Int) → Option (Aa × Aq)) (y13 : Aq × Aa) : Option (Aa × Aq) := (n3 (y13.1,y13.2,(w64 (s3.2.2 - 1))))
def Es (s3 : Aq × Aa × Int) (n3 : (Aq × Aa × Int) → Option (Aa × Aq)) (y16 : Aq × Aa) : Option (Aa × Aq) := (Option.bind (Fe y16.1 8) fun r100 => (if r100.1 then (Option.bind (Is r100.2 y16.2) fun r102 => (Option.bind (Aaz y16.2 r102.1) fun r103 => (if (r103.2 == 0) then ((Dq s3 n3) (r102.2,r103.1)) else ((Dq s3 n3) (r102.2,y16.2))))) else ((Dq s3 n3) (r100.2,y16.2))))
def Et (s3 : Aq × Aa × Int) (n3 : (Aq × Aa × Int) → Option (Aa × Aq)) (y15 : Aq × Aa) : Option (Aa × Aq) := (Option.bind (Fe y15.1 4) fun r94 => (if r94.1 then (Option.bind (Is r94.2 y15.2) fun r96 => (Option.bind (Ho r96.2 y15.2.tree) fun r97 => (Option.bind (Gf y15.2 r96.1 r97.1) fun r98 => (if (r98.2 == 0) then ((Es s3 n3) (r97.2,r98.1)) else ((Es s3 n3) (r97.2,y15.2)))))) else ((Es s3 n3) (r94.2,y15.2))))
def Gc (s3 : Aq × Aa × Int) (n3 : (Aq × Aa × Int) → Option (Aa × Aq)) (r86 : Int × Aq) (y14 : Aa) : Option (Aa × Aq) := (Option.bind (Fe r86.2 3) fun r89 => (if r89.1 then (Option.bind (Is r89.2 y14) fun r91 => (Option.bind (Ya y14 r91.1) fun r92 => (if (r92.2.2 == 0) then ((Et s3 n3) (r91.2,r92.1)) else ((Et s3 n3) (r91.2,y14))))) else ((Et s3 n3) (r89.2,y14))))
def Qy (s3 : Aq × Aa × Int) (n3 : (Aq × Aa × Int) → Option (Aa × Aq)) : Option (Aa × Aq) := (if (decide (s3.2.2 > 0)) then (Option.bind (Ho s3.1 s3.2.1.tree) fun r83 => (Option.bind (Lb s3.2.1 r83.1) fun r84 => (if (r84 != 0) then ((Dq s3 n3) (r83.2,s3.2.1)) else (Option.bind (Ay r83.2 3) fun r86 => (Option.bind (Rt s3.2.1 r83.1 r86.1) fun r87 => (if (r87.2.2 == 0) then ((Gc s3 n3 r86) r87.1) else ((Gc s3 n3 r86) s3.2.1))))))) else (some (s3.2.1,s3.1)))
def Ro (p2 : Int) (s1 : Aq × Aa × Int) (n1 : (Aq × Aa × Int) → Option (Aa × Aq)) : Option (Aa × Aq) := (if (decide (s1.2.2 > 0)) then (Option.bind (Rd s1.1 s1.2.1) fun r57 => (n1 (r57.2,r57.1,(w64 (s1.2.2 - 1))))) else (Option.bind (Ay s1.1 (w64 (p2 + 1))) fun r58 => (whileO Qy Fy (r58.2,s1.2.1,r58.1))))
def Kh (p0 : Aq) (p1 : Int) (p2 : Int) : Option (Aa × Aq) := (Option.bind Aev fun r1 => (Option.bind (Rh p0 p1) fun r2 => (Option.bind (Ay r2.2 (w64 (p1 + 3))) fun r3 => (whileO (Ro p2) Fy (r3.2,({ tree := r2.1,tasks := r1.tasks,next := r1.next } : Aa),r3.1)))))
def Vs (p0 : Aa) (p1 : Int) (p2 : Int) (y1 : Bool) : Option (Aa × Int × Int) := (if y1 then (some (({ tree := ({ nodes := [],next := 0 } : Af),tasks := [],next := 0 } : Aa),0,1)) else (Option.bind (En p0.tree p1) fun r5 => (if (decide (r5 < 0)) then (some (({ tree := ({ nodes := [],next := 0 } : Af),tasks := [],next := 0 } : Aa),0,4)) else (Option.bind (Aez p0 ({ id := 0,process := 0,group := p1,user := p2 } : An)) fun r7 => (some (r7.1,r7.2.1,r7.2.2))))))
def AfE (p0 : Aa) (p1 : Int) (p2 : Int) : Option (Aa × Int × Int) := (Option.bind (Lp p0) fun r1 => (if (!r1) then ((Vs p0 p1 p2) true) else (if (decide (p2 < 0)) then ((Vs p0 p1 p2) true) else ((Vs p0 p1 p2) (decide (p2 > 1048576))))))
def Vu (p0 : An) (p1 : Int) : Option Bool := (some (p0.process == p1))
def AbH (p0 : An) : Option Int := (some p0.id)
def Yc (y3 : Int × Int) : Option Int := (if 0 ≤ (IntKind.u8.wrap y3.1) ∧ (IntKind.u8.wrap y3.1) < (((bs [0,1,2,2,3,3,3,3,4,4,4,4,4,4,4,4,5,5,5,5,5,5,5,5,5,5,5,5,5,5,5,5,6,6,6,6,6,6,6,6,6,6,6,6,6,6,6,6,6,6,6,6,6,6,6,6,6,6,6,6,6,6,6,6,7,7,7,7,7,7,7,7,7,7,7,7,7,7,7,7,7,7,7,7,7,7,7,7,7,7,7,7,7,7,7,7,7,7,7,7,7,7,7,7,7,7,7,7,7,7,7,7,7,7,7,7,7,7,7,7,7,7,7,7,7,7,7,7,8,8,8,8,8,8,8,8,8,8,8,8,8,8,8,8,8,8,8,8,8,8,8,8,8,8,8,8,8,8,8,8,8,8,8,8,8,8,8,8,8,8,8,8,8,8,8,8,8,8,8,8,8,8,8,8,8,8,8,8,8,8,8,8,8,8,8,8,8,8,8,8,8,8,8,8,8,8,8,8,8,8,8,8,8,8,8,8,8,8,8,8,8,8,8,8,8,8,8,8,8,8,8,8,8,8,8,8,8,8,8,8,8,8,8,8,8,8,8,8,8,8,8,8,8,8,8,8]).size : Nat) : Int) then (some (w64 (y3.2 + (w64 (((Bn (bs [0,1,2,2,3,3,3,3,4,4,4,4,4,4,4,4,5,5,5,5,5,5,5,5,5,5,5,5,5,5,5,5,6,6,6,6,6,6,6,6,6,6,6,6,6,6,6,6,6,6,6,6,6,6,6,6,6,6,6,6,6,6,6,6,7,7,7,7,7,7,7,7,7,7,7,7,7,7,7,7,7,7,7,7,7,7,7,7,7,7,7,7,7,7,7,7,7,7,7,7,7,7,7,7,7,7,7,7,7,7,7,7,7,7,7,7,7,7,7,7,7,7,7,7,7,7,7,7,8,8,8,8,8,8,8,8,8,8,8,8,8,8,8,8,8,8,8,8,8,8,8,8,8,8,8,8,8,8,8,8,8,8,8,8,8,8,8,8,8,8,8,8,8,8,8,8,8,8,8,8,8,8,8,8,8,8,8,8,8,8,8,8,8,8,8,8,8,8,8,8,8,8,8,8,8,8,8,8,8,8,8,8,8,8,8,8,8,8,8,8,8,8,8,8,8,8,8,8,8,8,8,8,8,8,8,8,8,8,8,8,8,8,8,8,8,8,8,8,8,8,8,8,8,8,8,8]) (Int.toNat (IntKind.u8.wrap y3.1))) : Nat) : Int))))) else none)
def Yi (y2 : Int × Int) : Option Int := (if (decide (y2.1 ≥ 256)) then (Yc ((kshr .u64 y2.1 8),(w64 (y2.2 + 8)))) else (Yc (y2.1,y2.2)))
def Yw (y1 : Int × Int) : Option Int := (if (decide (y1.1 ≥ 65536)) then (Yi ((kshr .u64 y1.1 16),(w64 (y1.2 + 16)))) else (Yi (y1.1,y1.2)))
def AeU (p0 : Int) : Option Int := (if (decide (p0 ≥ 4294967296)) then (Yw ((kshr .u64 p0 32),32)) else (Yw (p0,0)))
def Rv (p0 : Int) : Option Int := (Option.bind (AeU p0) fun r1 => (some r1))
def Sh (p0 : Int) : Option Bool := (some (p0 != p0))
def Na (y1 : Bool) : Option Bool := (some y1)
def Dc (p0 : Int) (p1 : Int) : Option Bool := (Option.bind (Sh p0) fun r1 => (if r1 then (Option.bind (Sh p1) fun r3 => (if (!r3) then (Na true) else (Na (decide (p0 < p1))))) else (Na (decide (p0 < p1)))))
def Dp (n1 : (List Int) → Option (List Int)) (s4 : (List Int) × Int) (n4 : ((List Int) × Int) → Option (List Int)) (y6 : Bool) : Option (List Int) := (if y6 then (if 0 ≤ (w64 (s4.2 - 1)) ∧ (w64 (s4.2 - 1)) < ((s4.1.length : Nat) : Int) then (if (Int.toNat (w64 (s4.2 - 1))) < s4.1.length then (if 0 ≤ s4.2 ∧ s4.2 < ((s4.1.length : Nat) : Int) then (if (Int.toNat s4.2) < s4.1.length then (if 0 ≤ s4.2 ∧ s4.2 < ((s4.1.length : Nat) : Int) then (if (Int.toNat s4.2) < s4.1.length then (if 0 ≤ (w64 (s4.2 - 1)) ∧ (w64 (s4.2 - 1)) < ((s4.1.length : Nat) : Int) then (if (Int.toNat (w64 (s4.2 - 1))) < s4.1.length then (n4 (((s4.1.set (Int.toNat s4.2) (s4.1.getD (Int.toNat (w64 (s4.2 - 1))) 0)).set (Int.toNat (w64 (s4.2 - 1))) (s4.1.getD (Int.toNat s4.2) 0)),(w64 (s4.2 - 1)))) else none) else none) else none) else none) else none) else none) else none) else none) else (n1 s4.1))
def Hu (p1 : Int) (n1 : (List Int) → Option (List Int)) (s4 : (List Int) × Int) (n4 : ((List Int) × Int) → Option (List Int)) : Option (List Int) := (if (decide (s4.2 > p1)) then (if 0 ≤ s4.2 ∧ s4.2 < ((s4.1.length : Nat) : Int) then (if (Int.toNat s4.2) < s4.1.length then (if 0 ≤ (w64 (s4.2 - 1)) ∧ (w64 (s4.2 - 1)) < ((s4.1.length : Nat) : Int) then (if (Int.toNat (w64 (s4.2 - 1))) < s4.1.length then (Option.bind (Dc (s4.1.getD (Int.toNat s4.2) 0) (s4.1.getD (Int.toNat (w64 (s4.2 - 1))) 0)) fun r96 => ((Dp n1 s4 n4) r96)) else none) else none) else none) else none) else ((Dp n1 s4 n4) false))
def Hw (p1 : Int) (k1 : Int) (s1 : List Int) (n1 : (List Int) → Option (List Int)) : Option (List Int) := (whileO (Hu p1 n1) Fy (s1,k1))
def Mz (s1 : List Int) : Option (List Int) := (some s1)
def Eg (p0 : List Int) (p1 : Int) (p2 : Int) : Option (List Int) := (if -9223372036854775808 ≤ (w64 (p1 + 1)) ∧ p2 ≤ 9223372036854775807 then (forO (Hw p1) Mz (Int.toNat (p2 - (w64 (p1 + 1)))) (w64 (p1 + 1)) p0) else none)
def He (p3 : Int) (s1 : (List Int) × Int) (n1 : ((List Int) × Int) → Option (List Int)) (y4 : Int) : Option (List Int) := (if 0 ≤ (w64 (p3 + s1.2)) ∧ (w64 (p3 + s1.2)) < ((s1.1.length : Nat) : Int) then (if (Int.toNat (w64 (p3 + s1.2))) < s1.1.length then (if 0 ≤ (w64 (p3 + y4)) ∧ (w64 (p3 + y4)) < ((s1.1.length : Nat) : Int) then (if (Int.toNat (w64 (p3 + y4))) < s1.1.length then (Option.bind (Dc (s1.1.getD (Int.toNat (w64 (p3 + s1.2))) 0) (s1.1.getD (Int.toNat (w64 (p3 + y4))) 0)) fun r35 => (if (!r35) then (some s1.1) else (if 0 ≤ (w64 (p3 + y4)) ∧ (w64 (p3 + y4)) < ((s1.1.length : Nat) : Int) then (if (Int.toNat (w64 (p3 + y4))) < s1.1.length then (if 0 ≤ (w64 (p3 + s1.2)) ∧ (w64 (p3 + s1.2)) < ((s1.1.length : Nat) : Int) then (if (Int.toNat (w64 (p3 + s1.2))) < s1.1.length then (if 0 ≤ (w64 (p3 + s1.2)) ∧ (w64 (p3 + s1.2)) < ((s1.1.length : Nat) : Int) then (if (Int.toNat (w64 (p3 + s1.2))) < s1.1.length then (if 0 ≤ (w64 (p3 + y4)) ∧ (w64 (p3 + y4)) < ((s1.1.length : Nat) : Int) then (if (Int.toNat (w64 (p3 + y4))) < s1.1.length then (n1 (((s1.1.set (Int.toNat (w64 (p3 + s1.2))) (s1.1.getD (Int.toNat (w64 (p3 + y4))) 0)).set (Int.toNat (w64 (p3 + y4))) (s1.1.getD (Int.toNat (w64 (p3 + s1.2))) 0)),y4)) else none) else none) else none) else none) else none) else none) else none) else none))) else none) else none) else none) else none)
def Hf (p3 : Int) (s1 : (List Int) × Int) (n1 : ((List Int) × Int) → Option (List Int)) (y3 : Bool) : Option (List Int) := (if y3 then ((He p3 s1 n1) (w64 ((w64 ((w64 (2 * s1.2)) + 1)) + 1))) else ((He p3 s1 n1) (w64 ((w64 (2 * s1.2)) + 1))))
def Rf (p2 : Int) (p3 : Int) (s1 : (List Int) × Int) (n1 : ((List Int) × Int) → Option (List Int)) : Option (List Int) := (if (decide ((w64 ((w64 (2 * s1.2)) + 1)) ≥ p2)) then (some s1.1) else (if (decide ((w64 ((w64 ((w64 (2 * s1.2)) + 1)) + 1)) < p2)) then (if 0 ≤ (w64 (p3 + (w64 ((w64 (2 * s1.2)) + 1)))) ∧ (w64 (p3 + (w64 ((w64 (2 * s1.2)) + 1)))) < ((s1.1.length : Nat) : Int) then (if (Int.toNat (w64 (p3 + (w64 ((w64 (2 * s1.2)) + 1))))) < s1.1.length then (if 0 ≤ (w64 ((w64 (p3 + (w64 ((w64 (2 * s1.2)) + 1)))) + 1)) ∧ (w64 ((w64 (p3 + (w64 ((w64 (2 * s1.2)) + 1)))) + 1)) < ((s1.1.length : Nat) : Int) then (if (Int.toNat (w64 ((w64 (p3 + (w64 ((w64 (2 * s1.2)) + 1)))) + 1))) < s1.1.length then (Option.bind (Dc (s1.1.getD (Int.toNat (w64 (p3 + (w64 ((w64 (2 * s1.2)) + 1))))) 0) (s1.1.getD (Int.toNat (w64 ((w64 (p3 + (w64 ((w64 (2 * s1.2)) + 1)))) + 1))) 0)) fun r29 => ((Hf p3 s1 n1) r29)) else none) else none) else none) else none) else ((Hf p3 s1 n1) false)))
def Hy (p0 : List Int) (p1 : Int) (p2 : Int) (p3 : Int) : Option (List Int) := (whileO (Rf p2 p3) Fy (p0,p1))
def Rb (p1 : Int) (s3 : (List Int) × Int) (n3 : ((List Int) × Int) → Option (List Int)) : Option (List Int) := (if (decide (s3.2 ≥ 0)) then (if 0 ≤ (w64 (p1 + s3.2)) ∧ (w64 (p1 + s3.2)) < ((s3.1.length : Nat) : Int) then (if (Int.toNat (w64 (p1 + s3.2))) < s3.1.length then (if 0 ≤ p1 ∧ p1 < ((s3.1.length : Nat) : Int) then (if (Int.toNat p1) < s3.1.length then (if 0 ≤ p1 ∧ p1 < ((s3.1.length : Nat) : Int) then (if (Int.toNat p1) < s3.1.length then (if 0 ≤ (w64 (p1 + s3.2)) ∧ (w64 (p1 + s3.2)) < ((s3.1.length : Nat) : Int) then (if (Int.toNat (w64 (p1 + s3.2))) < s3.1.length then (Option.bind (Hy ((s3.1.set (Int.toNat p1) (s3.1.getD (Int.toNat (w64 (p1 + s3.2))) 0)).set (Int.toNat (w64 (p1 + s3.2))) (s3.1.getD (Int.toNat p1) 0)) 0 s3.2 p1) fun r49 => (if ((s3.1.set (Int.toNat p1) (s3.1.getD (Int.toNat (w64 (p1 + s3.2))) 0)).set (Int.toNat (w64 (p1 + s3.2))) (s3.1.getD (Int.toNat p1) 0)).length = r49.length then (n3 (r49,(w64 (s3.2 - 1)))) else none)) else none) else none) else none) else none) else none) else none) else none) else none) else (some s3.1))
def Qv (p1 : Int) (p2 : Int) (s1 : (List Int) × Int) (n1 : ((List Int) × Int) → Option (List Int)) : Option (List Int) := (if (decide (s1.2 ≥ 0)) then (Option.bind (Hy s1.1 s1.2 (w64 (p2 - p1)) p1) fun r27 => (if s1.1.length = r27.length then (n1 (r27,(w64 (s1.2 - 1)))) else none)) else (whileO (Rb p1) Fy (s1.1,(w64 ((w64 (p2 - p1)) - 1)))))
def Lz (p0 : List Int) (p1 : Int) (p2 : Int) : Option (List Int) := (whileO (Qv p1 p2) Fy (p0,(w64 (Int.tdiv (w64 ((w64 (p2 - p1)) - 1)) 2))))
def Dz (p0 : List Int) (p1 : Int) (p2 : Int) (p3 : Int) : Option (Int × Int × Int) := (if 0 ≤ p2 ∧ p2 < ((p0.length : Nat) : Int) then (if 0 ≤ p1 ∧ p1 < ((p0.length : Nat) : Int) then (Option.bind (Dc (p0.getD (Int.toNat p2) 0) (p0.getD (Int.toNat p1) 0)) fun r3 => (if r3 then (some (p2,p1,(w64 (p3 + 1)))) else (some (p1,p2,p3)))) else none) else none)
def Fg (p0 : List Int) (p1 : Int) (p2 : Int) (p3 : Int) (p4 : Int) : Option (Int × Int) := (Option.bind (Dz p0 p1 p2 p4) fun r1 => (Option.bind (Dz p0 r1.2.1 p3 r1.2.2) fun r2 => (Option.bind (Dz p0 r1.1 r2.1 r2.2.2) fun r3 => (some (r3.2.1,r3.2.2)))))
def Cj (p0 : List Int) (p1 : Int) (p2 : Int) : Option (Int × Int) := (Option.bind (Fg p0 (w64 (p1 - 1)) p1 (w64 (p1 + 1)) p2) fun r1 => (some (r1.1,r1.2)))
def Ee (y1 : Int × Int) : Option (Int × Int) := (if (y1.1 == 0) then (some (y1.2,1)) else (if (y1.1 == 12) then (some (y1.2,2)) else (some (y1.2,0))))
def Eh (p0 : List Int) (y2 : Int × Int × Int × Int) : Option (Int × Int) := (Option.bind (Fg p0 y2.2.1 y2.2.2.1 y2.2.2.2 y2.1) fun r6 => (Ee (r6.2,r6.1)))
def Ex (p0 : List Int) (p1 : Int) (p2 : Int) : Option (Int × Int) := (if (decide ((w64 (p2 - p1)) ≥ 8)) then (if (decide ((w64 (p2 - p1)) ≥ 50)) then (Option.bind (Cj p0 (w64 (p1 + (w64 ((w64 (Int.tdiv (w64 (p2 - p1)) 4)) * 1)))) 0) fun r3 => (Option.bind (Cj p0 (w64 (p1 + (w64 ((w64 (Int.tdiv (w64 (p2 - p1)) 4)) * 2)))) r3.2) fun r4 => (Option.bind (Cj p0 (w64 (p1 + (w64 ((w64 (Int.tdiv (w64 (p2 - p1)) 4)) * 3)))) r4.2) fun r5 => ((Eh p0) (r5.2,r3.1,r4.1,r5.1))))) else ((Eh p0) (0,(w64 (p1 + (w64 ((w64 (Int.tdiv (w64 (p2 - p1)) 4)) * 1)))),(w64 (p1 + (w64 ((w64 (Int.tdiv (w64 (p2 - p1)) 4)) * 2)))),(w64 (p1 + (w64 ((w64 (Int.tdiv (w64 (p2 - p1)) 4)) * 3))))))) else (Ee (0,(w64 (p1 + (w64 ((w64 (Int.tdiv (w64 (p2 - p1)) 4)) * 2)))))))
def Ny (s1 : (List Int) × Int × Int) (n1 : ((List Int) × Int × Int) → Option (List Int)) : Option (List Int) := (if (decide (s1.2.1 < s1.2.2)) then (if 0 ≤ s1.2.2 ∧ s1.2.2 < ((s1.1.length : Nat) : Int) then (if (Int.toNat s1.2.2) < s1.1.length then (if 0 ≤ s1.2.1 ∧ s1.2.1 < ((s1.1.length : Nat) : Int) then (if (Int.toNat s1.2.1) < s1.1.length then (if 0 ≤ s1.2.1 ∧ s1.2.1 < ((s1.1.length : Nat) : Int) then (if (Int.toNat s1.2.1) < s1.1.length then (if 0 ≤ s1.2.2 ∧ s1.2.2 < ((s1.1.length : Nat) : Int) then (if (Int.toNat s1.2.2) < s1.1.length then (n1 (((s1.1.set (Int.toNat s1.2.1) (s1.1.getD (Int.toNat s1.2.2) 0)).set (Int.toNat s1.2.2) (s1.1.getD (Int.toNat s1.2.1) 0)),(w64 (s1.2.1 + 1)),(w64 (s1.2.2 - 1)))) else none) else none) else none) else none) else none) else none) else none) else none) else (some s1.1))
def Jv (p0 : List Int) (p1 : Int) (p2 : Int) : Option (List Int) := (whileO Ny Fy (p0,p1,(w64 (p2 - 1))))
def Cm (n1 : ((List Int) × Int) → Option (Bool × (List Int))) (y11 : (List Int) × Int) : Option (Bool × (List Int)) := (n1 (y11.1,y11.2))
def Jd (n1 : ((List Int) × Int) → Option (Bool × (List Int))) (s12 : Int) (k16 : Int) (s16 : List Int) (n16 : (List Int) → Option (Bool × (List Int))) : Option (Bool × (List Int)) := (if 0 ≤ k16 ∧ k16 < ((s16.length : Nat) : Int) then (if (Int.toNat k16) < s16.length then (if 0 ≤ (w64 (k16 - 1)) ∧ (w64 (k16 - 1)) < ((s16.length : Nat) : Int) then (if (Int.toNat (w64 (k16 - 1))) < s16.length then (Option.bind (Dc (s16.getD (Int.toNat k16) 0) (s16.getD (Int.toNat (w64 (k16 - 1))) 0)) fun r570 => (if (!r570) then ((Cm n1) (s16,s12)) else (if 0 ≤ (w64 (k16 - 1)) ∧ (w64 (k16 - 1)) < ((s16.length : Nat) : Int) then (if (Int.toNat (w64 (k16 - 1))) < s16.length then (if 0 ≤ k16 ∧ k16 < ((s16.length : Nat) : Int) then (if (Int.toNat k16) < s16.length then (if 0 ≤ k16 ∧ k16 < ((s16.length : Nat) : Int) then (if (Int.toNat k16) < s16.length then (if 0 ≤ (w64 (k16 - 1)) ∧ (w64 (k16 - 1)) < ((s16.length : Nat) : Int) then (if (Int.toNat (w64 (k16 - 1))) < s16.length then (n16 ((s16.set (Int.toNat k16) (s16.getD (Int.toNat (w64 (k16 - 1))) 0)).set (Int.toNat (w64 (k16 - 1))) (s16.getD (Int.toNat k16) 0))) else none) else none) else none) else none) else none) else none) else none) else none))) else none) else none) else none) else none)
def Jc (n1 : ((List Int) × Int) → Option (Bool × (List Int))) (s12 : Int) (s16 : List Int) : Option (Bool × (List Int)) := ((Cm n1) (s16,s12))
def Co (p2 : Int) (n1 : ((List Int) × Int) → Option (Bool × (List Int))) (s12 : Int) (y15 : List Int) : Option (Bool × (List Int)) := (if (decide ((w64 (p2 - s12)) ≥ 2)) then (if -9223372036854775808 ≤ (w64 (s12 + 1)) ∧ p2 ≤ 9223372036854775807 then (forO (Jd n1 s12) (Jc n1 s12) (Int.toNat (p2 - (w64 (s12 + 1)))) (w64 (s12 + 1)) y15) else none) else ((Cm n1) (y15,s12)))
def Je (p2 : Int) (n1 : ((List Int) × Int) → Option (Bool × (List Int))) (s12 : Int) (s15 : (List Int) × Int) (n15 : ((List Int) × Int) → Option (Bool × (List Int))) : Option (Bool × (List Int)) := (if (decide (s15.2 ≥ 1)) then (if 0 ≤ s15.2 ∧ s15.2 < ((s15.1.length : Nat) : Int) then (if (Int.toNat s15.2) < s15.1.length then (if 0 ≤ (w64 (s15.2 - 1)) ∧ (w64 (s15.2 - 1)) < ((s15.1.length : Nat) : Int) then (if (Int.toNat (w64 (s15.2 - 1))) < s15.1.length then (Option.bind (Dc (s15.1.getD (Int.toNat s15.2) 0) (s15.1.getD (Int.toNat (w64 (s15.2 - 1))) 0)) fun r524 => (if (!r524) then ((Co p2 n1 s12) s15.1) else (if 0 ≤ (w64 (s15.2 - 1)) ∧ (w64 (s15.2 - 1)) < ((s15.1.length : Nat) : Int) then (if (Int.toNat (w64 (s15.2 - 1))) < s15.1.length then (if 0 ≤ s15.2 ∧ s15.2 < ((s15.1.length : Nat) : Int) then (if (Int.toNat s15.2) < s15.1.length then (if 0 ≤ s15.2 ∧ s15.2 < ((s15.1.length : Nat) : Int) then (if (Int.toNat s15.2) < s15.1.length then (if 0 ≤ (w64 (s15.2 - 1)) ∧ (w64 (s15.2 - 1)) < ((s15.1.length : Nat) : Int) then (if (Int.toNat (w64 (s15.2 - 1))) < s15.1.length then (n15 (((s15.1.set (Int.toNat s15.2) (s15.1.getD (Int.toNat (w64 (s15.2 - 1))) 0)).set (Int.toNat (w64 (s15.2 - 1))) (s15.1.getD (Int.toNat s15.2) 0)),(w64 (s15.2 - 1)))) else none) else none) else none) else none) else none) else none) else none) else none))) else none) else none) else none) else none) else ((Co p2 n1 s12) s15.1))
def Cn (p1 : Int) (p2 : Int) (s1 : (List Int) × Int) (n1 : ((List Int) × Int) → Option (Bool × (List Int))) (s12 : Int) (n12 : Int → Option (Bool × (List Int))) (y14 : Bool) : Option (Bool × (List Int)) := (if y14 then (n12 (w64 (s12 + 1))) else (if (s12 == p2) then (some (true,s1.1)) else (if (decide ((w64 (p2 - p1)) < 50)) then (some (false,s1.1)) else (if 0 ≤ (w64 (s12 - 1)) ∧ (w64 (s12 - 1)) < ((s1.1.length : Nat) : Int) then (if (Int.toNat (w64 (s12 - 1))) < s1.1.length then (if 0 ≤ s12 ∧ s12 < ((s1.1.length : Nat) : Int) then (if (Int.toNat s12) < s1.1.length then (if 0 ≤ s12 ∧ s12 < ((s1.1.length : Nat) : Int) then (if (Int.toNat s12) < s1.1.length then (if 0 ≤ (w64 (s12 - 1)) ∧ (w64 (s12 - 1)) < ((s1.1.length : Nat) : Int) then (if (Int.toNat (w64 (s12 - 1))) < s1.1.length then (if (decide ((w64 (s12 - p1)) ≥ 2)) then (whileO (Je p2 n1 s12) Fy (((s1.1.set (Int.toNat s12) (s1.1.getD (Int.toNat (w64 (s12 - 1))) 0)).set (Int.toNat (w64 (s12 - 1))) (s1.1.getD (Int.toNat s12) 0)),(w64 (s12 - 1)))) else ((Co p2 n1 s12) ((s1.1.set (Int.toNat s12) (s1.1.getD (Int.toNat (w64 (s12 - 1))) 0)).set (Int.toNat (w64 (s12 - 1))) (s1.1.getD (Int.toNat s12) 0)))) else none) else none) else none) else none) else none) else none) else none) else none))))
def Fo (p1 : Int) (p2 : Int) (s1 : (List Int) × Int) (n1 : ((List Int) × Int) → Option (Bool × (List Int))) (s12 : Int) (n12 : Int → Option (Bool × (List Int))) : Option (Bool × (List Int)) := (if (decide (s12 < p2)) then (if 0 ≤ s12 ∧ s12 < ((s1.1.length : Nat) : Int) then (if (Int.toNat s12) < s1.1.length then (if 0 ≤ (w64 (s12 - 1)) ∧ (w64 (s12 - 1)) < ((s1.1.length : Nat) : Int) then (if (Int.toNat (w64 (s12 - 1))) < s1.1.length then (Option.bind (Dc (s1.1.getD (Int.toNat s12) 0) (s1.1.getD (Int.toNat (w64 (s12 - 1))) 0)) fun r491 => ((Cn p1 p2 s1 n1 s12 n12) (!r491))) else none) else none) else none) else none) else ((Cn p1 p2 s1 n1 s12 n12) false))
def Fu (p1 : Int) (p2 : Int) (k1 : Int) (s1 : (List Int) × Int) (n1 : ((List Int) × Int) → Option (Bool × (List Int))) : Option (Bool × (List Int)) := (whileO (Fo p1 p2 s1 n1) Fy s1.2)
def Jo (s1 : (List Int) × Int) : Option (Bool × (List Int)) := (some (false,s1.1))
def Db (p0 : List Int) (p1 : Int) (p2 : Int) : Option (Bool × (List Int)) := (forO (Fu p1 p2) Jo (Int.toNat (5 - 0)) 0 (p0,(w64 (p1 + 1))))
def Eu (s1 : (List Int) × Int × Int) (n1 : ((List Int) × Int × Int) → Option (Int × (List Int))) (s5 : Int) (s7 : Int) (n7 : Int → Option (Int × (List Int))) (y12 : Bool) : Option (Int × (List Int)) := (if y12 then (n7 (w64 (s7 - 1))) else (if (decide (s5 > s7)) then (some (s5,s1.1)) else (if 0 ≤ s7 ∧ s7 < ((s1.1.length : Nat) : Int) then (if (Int.toNat s7) < s1.1.length then (if 0 ≤ s5 ∧ s5 < ((s1.1.length : Nat) : Int) then (if (Int.toNat s5) < s1.1.length then (if 0 ≤ s5 ∧ s5 < ((s1.1.length : Nat) : Int) then (if (Int.toNat s5) < s1.1.length then (if 0 ≤ s7 ∧ s7 < ((s1.1.length : Nat) : Int) then (if (Int.toNat s7) < s1.1.length then (n1 (((s1.1.set (Int.toNat s5) (s1.1.getD (Int.toNat s7) 0)).set (Int.toNat s7) (s1.1.getD (Int.toNat s5) 0)),(w64 (s7 - 1)),(w64 (s5 + 1)))) else none) else none) else none) else none) else none) else none) else none) else none)))
def Mg (p1 : Int) (s1 : (List Int) × Int × Int) (n1 : ((List Int) × Int × Int) → Option (Int × (List Int))) (s5 : Int) (s7 : Int) (n7 : Int → Option (Int × (List Int))) : Option (Int × (List Int)) := (if (decide (s5 ≤ s7)) then (if 0 ≤ p1 ∧ p1 < ((s1.1.length : Nat) : Int) then (if (Int.toNat p1) < s1.1.length then (if 0 ≤ s7 ∧ s7 < ((s1.1.length : Nat) : Int) then (if (Int.toNat s7) < s1.1.length then (Option.bind (Dc (s1.1.getD (Int.toNat p1) 0) (s1.1.getD (Int.toNat s7) 0)) fun r178 => ((Eu s1 n1 s5 s7 n7) r178)) else none) else none) else none) else none) else ((Eu s1 n1 s5 s7 n7) false))
def Ev (p1 : Int) (s1 : (List Int) × Int × Int) (n1 : ((List Int) × Int × Int) → Option (Int × (List Int))) (s5 : Int) (n5 : Int → Option (Int × (List Int))) (y10 : Bool) : Option (Int × (List Int)) := (if y10 then (n5 (w64 (s5 + 1))) else (whileO (Mg p1 s1 n1 s5) Fy s1.2.1))
def Mf (p1 : Int) (s1 : (List Int) × Int × Int) (n1 : ((List Int) × Int × Int) → Option (Int × (List Int))) (s5 : Int) (n5 : Int → Option (Int × (List Int))) : Option (Int × (List Int)) := (if (decide (s5 ≤ s1.2.1)) then (if 0 ≤ p1 ∧ p1 < ((s1.1.length : Nat) : Int) then (if (Int.toNat p1) < s1.1.length then (if 0 ≤ s5 ∧ s5 < ((s1.1.length : Nat) : Int) then (if (Int.toNat s5) < s1.1.length then (Option.bind (Dc (s1.1.getD (Int.toNat p1) 0) (s1.1.getD (Int.toNat s5) 0)) fun r155 => ((Ev p1 s1 n1 s5 n5) (!r155))) else none) else none) else none) else none) else ((Ev p1 s1 n1 s5 n5) false))
def Mm (p1 : Int) (s1 : (List Int) × Int × Int) (n1 : ((List Int) × Int × Int) → Option (Int × (List Int))) : Option (Int × (List Int)) := (whileO (Mf p1 s1 n1) Fy s1.2.2)
def Ij (p0 : List Int) (p1 : Int) (p2 : Int) (p3 : Int) : Option (Int × (List Int)) := (if 0 ≤ p3 ∧ p3 < ((p0.length : Nat) : Int) then (if (Int.toNat p3) < p0.length then (if 0 ≤ p1 ∧ p1 < ((p0.length : Nat) : Int) then (if (Int.toNat p1) < p0.length then (if 0 ≤ p1 ∧ p1 < ((p0.length : Nat) : Int) then (if (Int.toNat p1) < p0.length then (if 0 ≤ p3 ∧ p3 < ((p0.length : Nat) : Int) then (if (Int.toNat p3) < p0.length then (whileO (Mm p1) Fy (((p0.set (Int.toNat p1) (p0.getD (Int.toNat p3) 0)).set (Int.toNat p3) (p0.getD (Int.toNat p1) 0)),(w64 (p2 - 1)),(w64 (p1 + 1)))) else none) else none) else none) else none) else none) else none) else none) else none)
def Gl (p1 : Int) (s25 : (List Int) × Int × Int) (n25 : ((List Int) × Int × Int) → Option (Int × Bool × (List Int))) (s29 : Int) (s31 : Int) (n31 : Int → Option (Int × Bool × (List Int))) (y54 : Bool) : Option (Int × Bool × (List Int)) := (if y54 then (n31 (w64 (s31 - 1))) else (if (decide (s29 > s31)) then (if 0 ≤ p1 ∧ p1 < ((s25.1.length : Nat) : Int) then (if (Int.toNat p1) < s25.1.length then (if 0 ≤ s31 ∧ s31 < ((s25.1.length : Nat) : Int) then (if (Int.toNat s31) < s25.1.length then (if 0 ≤ s31 ∧ s31 < ((s25.1.length : Nat) : Int) then (if (Int.toNat s31) < s25.1.length then (if 0 ≤ p1 ∧ p1 < ((s25.1.length : Nat) : Int) then (if (Int.toNat p1) < s25.1.length then (some (s31,false,((s25.1.set (Int.toNat s31) (s25.1.getD (Int.toNat p1) 0)).set (Int.toNat p1) (s25.1.getD (Int.toNat s31) 0)))) else none) else none) else none) else none) else none) else none) else none) else none) else (if 0 ≤ s31 ∧ s31 < ((s25.1.length : Nat) : Int) then (if (Int.toNat s31) < s25.1.length then (if 0 ≤ s29 ∧ s29 < ((s25.1.length : Nat) : Int) then (if (Int.toNat s29) < s25.1.length then (if 0 ≤ s29 ∧ s29 < ((s25.1.length : Nat) : Int) then (if (Int.toNat s29) < s25.1.length then (if 0 ≤ s31 ∧ s31 < ((s25.1.length : Nat) : Int) then (if (Int.toNat s31) < s25.1.length then (n25 (((s25.1.set (Int.toNat s29) (s25.1.getD (Int.toNat s31) 0)).set (Int.toNat s31) (s25.1.getD (Int.toNat s29) 0)),(w64 (s29 + 1)),(w64 (s31 - 1)))) else none) else none) else none) else none) else none) else none) else none) else none)))
def Ps (p1 : Int) (s25 : (List Int) × Int × Int) (n25 : ((List Int) × Int × Int) → Option (Int × Bool × (List Int))) (s29 : Int) (s31 : Int) (n31 : Int → Option (Int × Bool × (List Int))) : Option (Int × Bool × (List Int)) := (if (decide (s29 ≤ s31)) then (if 0 ≤ s31 ∧ s31 < ((s25.1.length : Nat) : Int) then (if (Int.toNat s31) < s25.1.length then (if 0 ≤ p1 ∧ p1 < ((s25.1.length : Nat) : Int) then (if (Int.toNat p1) < s25.1.length then (Option.bind (Dc (s25.1.getD (Int.toNat s31) 0) (s25.1.getD (Int.toNat p1) 0)) fun r1118 => ((Gl p1 s25 n25 s29 s31 n31) (!r1118))) else none) else none) else none) else none) else ((Gl p1 s25 n25 s29 s31 n31) false))
def Gn (p1 : Int) (s25 : (List Int) × Int × Int) (n25 : ((List Int) × Int × Int) → Option (Int × Bool × (List Int))) (s29 : Int) (n29 : Int → Option (Int × Bool × (List Int))) (y52 : Bool) : Option (Int × Bool × (List Int)) := (if y52 then (n29 (w64 (s29 + 1))) else (whileO (Ps p1 s25 n25 s29) Fy s25.2.2))
def Pc (p1 : Int) (s25 : (List Int) × Int × Int) (n25 : ((List Int) × Int × Int) → Option (Int × Bool × (List Int))) (s29 : Int) (n29 : Int → Option (Int × Bool × (List Int))) : Option (Int × Bool × (List Int)) := (if (decide (s29 ≤ s25.2.2)) then (if 0 ≤ s29 ∧ s29 < ((s25.1.length : Nat) : Int) then (if (Int.toNat s29) < s25.1.length then (if 0 ≤ p1 ∧ p1 < ((s25.1.length : Nat) : Int) then (if (Int.toNat p1) < s25.1.length then (Option.bind (Dc (s25.1.getD (Int.toNat s29) 0) (s25.1.getD (Int.toNat p1) 0)) fun r1087 => ((Gn p1 s25 n25 s29 n29) r1087)) else none) else none) else none) else none) else ((Gn p1 s25 n25 s29 n29) false))
def Pi (p1 : Int) (s25 : (List Int) × Int × Int) (n25 : ((List Int) × Int × Int) → Option (Int × Bool × (List Int))) : Option (Int × Bool × (List Int)) := (whileO (Pc p1 s25 n25) Fy s25.2.1)
def Gm (p0 : List Int) (p1 : Int) (p3 : Int) (s1 : Int) (s17 : Int) (n17 : Int → Option (Int × Bool × (List Int))) (y42 : Bool) : Option (Int × Bool × (List Int)) := (if y42 then (n17 (w64 (s17 - 1))) else (if (decide (s1 > s17)) then (if 0 ≤ p1 ∧ p1 < ((((p0.set (Int.toNat p1) (p0.getD (Int.toNat p3) 0)).set (Int.toNat p3) (p0.getD (Int.toNat p1) 0)).length : Nat) : Int) then (if (Int.toNat p1) < ((p0.set (Int.toNat p1) (p0.getD (Int.toNat p3) 0)).set (Int.toNat p3) (p0.getD (Int.toNat p1) 0)).length then (if 0 ≤ s17 ∧ s17 < ((((p0.set (Int.toNat p1) (p0.getD (Int.toNat p3) 0)).set (Int.toNat p3) (p0.getD (Int.toNat p1) 0)).length : Nat) : Int) then (if (Int.toNat s17) < ((p0.set (Int.toNat p1) (p0.getD (Int.toNat p3) 0)).set (Int.toNat p3) (p0.getD (Int.toNat p1) 0)).length then (if 0 ≤ s17 ∧ s17 < ((((p0.set (Int.toNat p1) (p0.getD (Int.toNat p3) 0)).set (Int.toNat p3) (p0.getD (Int.toNat p1) 0)).length : Nat) : Int) then (if (Int.toNat s17) < ((p0.set (Int.toNat p1) (p0.getD (Int.toNat p3) 0)).set (Int.toNat p3) (p0.getD (Int.toNat p1) 0)).length then (if 0 ≤ p1 ∧ p1 < ((((p0.set (Int.toNat p1) (p0.getD (Int.toNat p3) 0)).set (Int.toNat p3) (p0.getD (Int.toNat p1) 0)).length : Nat) : Int) then (if (Int.toNat p1) < ((p0.set (Int.toNat p1) (p0.getD (Int.toNat p3) 0)).set (Int.toNat p3) (p0.getD (Int.toNat p1) 0)).length then (some (s17,true,((((p0.set (Int.toNat p1) (p0.getD (Int.toNat p3) 0)).set (Int.toNat p3) (p0.getD (Int.toNat p1) 0)).set (Int.toNat s17) (((p0.set (Int.toNat p1) (p0.getD (Int.toNat p3) 0)).set (Int.toNat p3) (p0.getD (Int.toNat p1) 0)).getD (Int.toNat p1) 0)).set (Int.toNat p1) (((p0.set (Int.toNat p1) (p0.getD (Int.toNat p3) 0)).set (Int.toNat p3) (p0.getD (Int.toNat p1) 0)).getD (Int.toNat s17) 0)))) else none) else none) else none) else none) else none) else none) else none) else none) else (if 0 ≤ s17 ∧ s17 < ((((p0.set (Int.toNat p1) (p0.getD (Int.toNat p3) 0)).set (Int.toNat p3) (p0.getD (Int.toNat p1) 0)).length : Nat) : Int) then (if (Int.toNat s17) < ((p0.set (Int.toNat p1) (p0.getD (Int.toNat p3) 0)).set (Int.toNat p3) (p0.getD (Int.toNat p1) 0)).length then (if 0 ≤ s1 ∧ s1 < ((((p0.set (Int.toNat p1) (p0.getD (Int.toNat p3) 0)).set (Int.toNat p3) (p0.getD (Int.toNat p1) 0)).length : Nat) : Int) then (if (Int.toNat s1) < ((p0.set (Int.toNat p1) (p0.getD (Int.toNat p3) 0)).set (Int.toNat p3) (p0.getD (Int.toNat p1) 0)).length then (if 0 ≤ s1 ∧ s1 < ((((p0.set (Int.toNat p1) (p0.getD (Int.toNat p3) 0)).set (Int.toNat p3) (p0.getD (Int.toNat p1) 0)).length : Nat) : Int) then (if (Int.toNat s1) < ((p0.set (Int.toNat p1) (p0.getD (Int.toNat p3) 0)).set (Int.toNat p3) (p0.getD (Int.toNat p1) 0)).length then (if 0 ≤ s17 ∧ s17 < ((((p0.set (Int.toNat p1) (p0.getD (Int.toNat p3) 0)).set (Int.toNat p3) (p0.getD (Int.toNat p1) 0)).length : Nat) : Int) then (if (Int.toNat s17) < ((p0.set (Int.toNat p1) (p0.getD (Int.toNat p3) 0)).set (Int.toNat p3) (p0.getD (Int.toNat p1) 0)).length then (whileO (Pi p1) Fy (((((p0.set (Int.toNat p1) (p0.getD (Int.toNat p3) 0)).set (Int.toNat p3) (p0.getD (Int.toNat p1) 0)).set (Int.toNat s1) (((p0.set (Int.toNat p1) (p0.getD (Int.toNat p3) 0)).set (Int.toNat p3) (p0.getD (Int.toNat p1) 0)).getD (Int.toNat s17) 0)).set (Int.toNat s17) (((p0.set (Int.toNat p1) (p0.getD (Int.toNat p3) 0)).set (Int.toNat p3) (p0.getD (Int.toNat p1) 0)).getD (Int.toNat s1) 0)),(w64 (s1 + 1)),(w64 (s17 - 1)))) else none) else none) else none) else none) else none) else none) else none) else none)))
def Pa (p0 : List Int) (p1 : Int) (p3 : Int) (s1 : Int) (s17 : Int) (n17 : Int → Option (Int × Bool × (List Int))) : Option (Int × Bool × (List Int)) := (if (decide (s1 ≤ s17)) then (if 0 ≤ s17 ∧ s17 < ((((p0.set (Int.toNat p1) (p0.getD (Int.toNat p3) 0)).set (Int.toNat p3) (p0.getD (Int.toNat p1) 0)).length : Nat) : Int) then (if (Int.toNat s17) < ((p0.set (Int.toNat p1) (p0.getD (Int.toNat p3) 0)).set (Int.toNat p3) (p0.getD (Int.toNat p1) 0)).length then (if 0 ≤ p1 ∧ p1 < ((((p0.set (Int.toNat p1) (p0.getD (Int.toNat p3) 0)).set (Int.toNat p3) (p0.getD (Int.toNat p1) 0)).length : Nat) : Int) then (if (Int.toNat p1) < ((p0.set (Int.toNat p1) (p0.getD (Int.toNat p3) 0)).set (Int.toNat p3) (p0.getD (Int.toNat p1) 0)).length then (Option.bind (Dc (((p0.set (Int.toNat p1) (p0.getD (Int.toNat p3) 0)).set (Int.toNat p3) (p0.getD (Int.toNat p1) 0)).getD (Int.toNat s17) 0) (((p0.set (Int.toNat p1) (p0.getD (Int.toNat p3) 0)).set (Int.toNat p3) (p0.getD (Int.toNat p1) 0)).getD (Int.toNat p1) 0)) fun r874 => ((Gm p0 p1 p3 s1 s17 n17) (!r874))) else none) else none) else none) else none) else ((Gm p0 p1 p3 s1 s17 n17) false))
def Gp (p0 : List Int) (p1 : Int) (p2 : Int) (p3 : Int) (s1 : Int) (n1 : Int → Option (Int × Bool × (List Int))) (y28 : Bool) : Option (Int × Bool × (List Int)) := (if y28 then (n1 (w64 (s1 + 1))) else (whileO (Pa p0 p1 p3 s1) Fy (w64 (p2 - 1))))
def Qg (p0 : List Int) (p1 : Int) (p2 : Int) (p3 : Int) (s1 : Int) (n1 : Int → Option (Int × Bool × (List Int))) : Option (Int × Bool × (List Int)) := (if (decide (s1 ≤ (w64 (p2 - 1)))) then (if 0 ≤ s1 ∧ s1 < ((((p0.set (Int.toNat p1) (p0.getD (Int.toNat p3) 0)).set (Int.toNat p3) (p0.getD (Int.toNat p1) 0)).length : Nat) : Int) then (if (Int.toNat s1) < ((p0.set (Int.toNat p1) (p0.getD (Int.toNat p3) 0)).set (Int.toNat p3) (p0.getD (Int.toNat p1) 0)).length then (if 0 ≤ p1 ∧ p1 < ((((p0.set (Int.toNat p1) (p0.getD (Int.toNat p3) 0)).set (Int.toNat p3) (p0.getD (Int.toNat p1) 0)).length : Nat) : Int) then (if (Int.toNat p1) < ((p0.set (Int.toNat p1) (p0.getD (Int.toNat p3) 0)).set (Int.toNat p3) (p0.getD (Int.toNat p1) 0)).length then (Option.bind (Dc (((p0.set (Int.toNat p1) (p0.getD (Int.toNat p3) 0)).set (Int.toNat p3) (p0.getD (Int.toNat p1) 0)).getD (Int.toNat s1) 0) (((p0.set (Int.toNat p1) (p0.getD (Int.toNat p3) 0)).set (Int.toNat p3) (p0.getD (Int.toNat p1) 0)).getD (Int.toNat p1) 0)) fun r587 => ((Gp p0 p1 p2 p3 s1 n1) r587)) else none) else none) else none) else none) else ((Gp p0 p1 p2 p3 s1 n1) false))
def Lh (p0 : List Int) (p1 : Int) (p2 : Int) (p3 : Int) : Option (Int × Bool × (List Int)) := (if 0 ≤ p3 ∧ p3 < ((p0.length : Nat) : Int) then (if (Int.toNat p3) < p0.length then (if 0 ≤ p1 ∧ p1 < ((p0.length : Nat) : Int) then (if (Int.toNat p1) < p0.length then (if 0 ≤ p1 ∧ p1 < ((p0.length : Nat) : Int) then (if (Int.toNat p1) < p0.length then (if 0 ≤ p3 ∧ p3 < ((p0.length : Nat) : Int) then (if (Int.toNat p3) < p0.length then (whileO (Qg p0 p1 p2 p3) Fy (w64 (p1 + 1))) else none) else none) else none) else none) else none) else none) else none) else none)
def Re (p0 : Int) : Option Int := (Option.bind (Rv (IntKind.u64.wrap p0)) fun r1 => (if (0 : Int) ≤ r1 then (some (kshl .u64 1 r1)) else none))
def Rr (p0 : Int) : Option (Int × Int) := (some ((kxor .u64 (kxor .u64 (kxor .u64 p0 (kshl .u64 p0 13)) (kshr .u64 (kxor .u64 p0 (kshl .u64 p0 13)) 7)) (kshl .u64 (kxor .u64 (kxor .u64 p0 (kshl .u64 p0 13)) (kshr .u64 (kxor .u64 p0 (kshl .u64 p0 13)) 7)) 17)),(kxor .u64 (kxor .u64 (kxor .u64 p0 (kshl .u64 p0 13)) (kshr .u64 (kxor .u64 p0 (kshl .u64 p0 13)) 7)) (kshl .u64 (kxor .u64 (kxor .u64 p0 (kshl .u64 p0 13)) (kshr .u64 (kxor .u64 p0 (kshl .u64 p0 13)) 7)) 17))))
def Fm (p1 : Int) (s1 : (List Int) × Int × Int) (n1 : ((List Int) × Int × Int) → Option (List Int)) (r15 : Int × Int) (y2 : Int) : Option (List Int) := (if 0 ≤ (w64 (p1 + y2)) ∧ (w64 (p1 + y2)) < ((s1.1.length : Nat) : Int) then (if (Int.toNat (w64 (p1 + y2))) < s1.1.length then (if 0 ≤ s1.2.2 ∧ s1.2.2 < ((s1.1.length : Nat) : Int) then (if (Int.toNat s1.2.2) < s1.1.length then (if 0 ≤ s1.2.2 ∧ s1.2.2 < ((s1.1.length : Nat) : Int) then (if (Int.toNat s1.2.2) < s1.1.length then (if 0 ≤ (w64 (p1 + y2)) ∧ (w64 (p1 + y2)) < ((s1.1.length : Nat) : Int) then (if (Int.toNat (w64 (p1 + y2))) < s1.1.length then (n1 (((s1.1.set (Int.toNat s1.2.2) (s1.1.getD (Int.toNat (w64 (p1 + y2))) 0)).set (Int.toNat (w64 (p1 + y2))) (s1.1.getD (Int.toNat s1.2.2) 0)),r15.2,(w64 (s1.2.2 + 1)))) else none) else none) else none) else none) else none) else none) else none) else none)
def My (p1 : Int) (p2 : Int) (r2 : Int) (s1 : (List Int) × Int × Int) (n1 : ((List Int) × Int × Int) → Option (List Int)) : Option (List Int) := (if (decide (s1.2.2 ≤ (w64 ((w64 (p1 + (w64 ((w64 (Int.tdiv (w64 (p2 - p1)) 4)) * 2)))) + 1)))) then (Option.bind (Rr s1.2.1) fun r15 => (if (decide ((w64 (kand .u64 r15.1 (IntKind.u64.wrap (r2 - 1)))) ≥ (w64 (p2 - p1)))) then ((Fm p1 s1 n1 r15) (w64 ((w64 (kand .u64 r15.1 (IntKind.u64.wrap (r2 - 1)))) - (w64 (p2 - p1))))) else ((Fm p1 s1 n1 r15) (w64 (kand .u64 r15.1 (IntKind.u64.wrap (r2 - 1))))))) else (some s1.1))
def Jb (p0 : List Int) (p1 : Int) (p2 : Int) : Option (List Int) := (if (decide ((w64 (p2 - p1)) ≥ 8)) then (Option.bind (Re (w64 (p2 - p1))) fun r2 => (whileO (My p1 p2 r2) Fy (p0,(IntKind.u64.wrap (w64 (p2 - p1))),(w64 ((w64 (p1 + (w64 ((w64 (Int.tdiv (w64 (p2 - p1)) 4)) * 2)))) - 1))))) else (some p0))
def Hc (rec : (List Int) → Int → Int → Int → Option (List Int)) (s1 : (List Int) × Int × Int × Int × Bool × Bool) (n1 : ((List Int) × Int × Int × Int × Bool × Bool) → Option (List Int)) (y8 : (List Int) × Int) (y9 : (List Int) × Int × Int) (y10 : List Int) (y11 : Bool) : Option (List Int) := (if y11 then (Option.bind (Ij y10 s1.2.1 s1.2.2.1 y9.2.1) fun r92 => (if y10.length = r92.2.length then (n1 (r92.2,r92.1,s1.2.2.1,y8.2,s1.2.2.2.2.1,s1.2.2.2.2.2)) else none)) else (Option.bind (Lh y10 s1.2.1 s1.2.2.1 y9.2.1) fun r94 => (if y10.length = r94.2.2.length then (if (decide ((w64 (r94.1 - s1.2.1)) < (w64 (s1.2.2.1 - r94.1)))) then (Option.bind (rec r94.2.2 s1.2.1 r94.1 y8.2) fun r97 => (if r94.2.2.length = r97.length then (n1 (r97,(w64 (r94.1 + 1)),s1.2.2.1,y8.2,(decide ((w64 (r94.1 - s1.2.1)) ≥ (w64 (Int.tdiv (w64 (s1.2.2.1 - s1.2.1)) 8)))),r94.2.1)) else none)) else (Option.bind (rec r94.2.2 (w64 (r94.1 + 1)) s1.2.2.1 y8.2) fun r99 => (if r94.2.2.length = r99.length then (n1 (r99,s1.2.1,r94.1,y8.2,(decide ((w64 (s1.2.2.1 - r94.1)) ≥ (w64 (Int.tdiv (w64 (s1.2.2.1 - s1.2.1)) 8)))),r94.2.1)) else none))) else none)))
def Hh (rec : (List Int) → Int → Int → Int → Option (List Int)) (s1 : (List Int) × Int × Int × Int × Bool × Bool) (n1 : ((List Int) × Int × Int × Int × Bool × Bool) → Option (List Int)) (y8 : (List Int) × Int) (y9 : (List Int) × Int × Int) (y10 : List Int) : Option (List Int) := (if (decide (s1.2.1 > 0)) then (if 0 ≤ (w64 (s1.2.1 - 1)) ∧ (w64 (s1.2.1 - 1)) < ((y10.length : Nat) : Int) then (if (Int.toNat (w64 (s1.2.1 - 1))) < y10.length then (if 0 ≤ y9.2.1 ∧ y9.2.1 < ((y10.length : Nat) : Int) then (if (Int.toNat y9.2.1) < y10.length then (Option.bind (Dc (y10.getD (Int.toNat (w64 (s1.2.1 - 1))) 0) (y10.getD (Int.toNat y9.2.1) 0)) fun r90 => ((Hc rec s1 n1 y8 y9 y10) (!r90))) else none) else none) else none) else none) else ((Hc rec s1 n1 y8 y9 y10) false))
def Ft (rec : (List Int) → Int → Int → Int → Option (List Int)) (s1 : (List Int) × Int × Int × Int × Bool × Bool) (n1 : ((List Int) × Int × Int × Int × Bool × Bool) → Option (List Int)) (y8 : (List Int) × Int) (y9 : (List Int) × Int × Int) : Option (List Int) := (if ((s1.2.2.2.2.1 && s1.2.2.2.2.2) && (y9.2.2 == 1)) then (Option.bind (Db y9.1 s1.2.1 s1.2.2.1) fun r82 => (if y9.1.length = r82.2.length then (if r82.1 then (some r82.2) else ((Hh rec s1 n1 y8 y9) r82.2)) else none)) else ((Hh rec s1 n1 y8 y9) y9.1))
def Fp (rec : (List Int) → Int → Int → Int → Option (List Int)) (s1 : (List Int) × Int × Int × Int × Bool × Bool) (n1 : ((List Int) × Int × Int × Int × Bool × Bool) → Option (List Int)) (y8 : (List Int) × Int) : Option (List Int) := (Option.bind (Ex y8.1 s1.2.1 s1.2.2.1) fun r75 => (if (r75.2 == 2) then (Option.bind (Jv y8.1 s1.2.1 s1.2.2.1) fun r77 => (if y8.1.length = r77.length then ((Ft rec s1 n1 y8) (r77,(w64 ((w64 (s1.2.2.1 - 1)) - (w64 (r75.1 - s1.2.1)))),1)) else none)) else ((Ft rec s1 n1 y8) (y8.1,r75.1,r75.2))))
def Le (rec : (List Int) → Int → Int → Int → Option (List Int)) (s1 : (List Int) × Int × Int × Int × Bool × Bool) (n1 : ((List Int) × Int × Int × Int × Bool × Bool) → Option (List Int)) : Option (List Int) := (if (decide ((w64 (s1.2.2.1 - s1.2.1)) ≤ 12)) then (Option.bind (Eg s1.1 s1.2.1 s1.2.2.1) fun r67 => (if s1.1.length = r67.length then (some r67) else none)) else (if (s1.2.2.2.1 == 0) then (Option.bind (Lz s1.1 s1.2.1 s1.2.2.1) fun r70 => (if s1.1.length = r70.length then (some r70) else none)) else (if (!s1.2.2.2.2.1) then (Option.bind (Jb s1.1 s1.2.1 s1.2.2.1) fun r73 => (if s1.1.length = r73.length then ((Fp rec s1 n1) (r73,(w64 (s1.2.2.2.1 - 1)))) else none)) else ((Fp rec s1 n1) (s1.1,s1.2.2.2.1)))))
def Fx (rec : (List Int) → Int → Int → Int → Option (List Int)) (p0 : List Int) (p1 : Int) (p2 : Int) (p3 : Int) : Option (List Int) := (whileO (Le rec) Fy (p0,p1,p2,p3,true,true))
def Cv : Nat → (List Int) → Int → Int → Int → Option (List Int)
 | 0,_,_,_,_ => none
 | n + 1,p0,p1,p2,p3 => Fx (Cv n) p0 p1 p2 p3
def Mp (p0 : List Int) (p1 : Int) (p2 : Int) (p3 : Int) : Option (List Int) := Cv Fy p0 p1 p2 p3
def Lu (p0 : List Int) : Option (List Int) := (Option.bind (Rv (IntKind.u64.wrap ((p0.length : Nat) : Int))) fun r1 => (Option.bind (Mp p0 0 ((p0.length : Nat) : Int) r1) fun r2 => (if p0.length = r2.length then (some r2) else none)))
def Mr (n4 : ((List Int) × Int) → Option (Nat × (List Int))) (y9 : (List Int) × Int) : Option (Nat × (List Int)) := (n4 (y9.1,y9.2))
def Zc (p0 : List Int) (k1 : Int) (k4 : Int) (s4 : (List Int) × Int) (n4 : ((List Int) × Int) → Option (Nat × (List Int))) : Option (Nat × (List Int)) := (if 0 ≤ k4 ∧ k4 < (((Ci p0.length (Int.toNat k1)) : Nat) : Int) then (if (Ye (Int.toNat k1) (Int.toNat k4)) < s4.1.length then (if 0 ≤ (w64 (k4 - 1)) ∧ (w64 (k4 - 1)) < (((Ci p0.length (Int.toNat k1)) : Nat) : Int) then (if (Ye (Int.toNat k1) (Int.toNat (w64 (k4 - 1)))) < s4.1.length then (if ((s4.1.getD (Ye (Int.toNat k1) (Int.toNat k4)) 0) != (s4.1.getD (Ye (Int.toNat k1) (Int.toNat (w64 (k4 - 1)))) 0)) then (if 0 ≤ k4 ∧ k4 < (((Ci p0.length (Int.toNat k1)) : Nat) : Int) then (if (Ye (Int.toNat k1) (Int.toNat k4)) < s4.1.length then (if 0 ≤ s4.2 ∧ s4.2 < ((s4.1.length : Nat) : Int) then (if (Int.toNat s4.2) < s4.1.length then ((Mr n4) ((s4.1.set (Int.toNat s4.2) (s4.1.getD (Ye (Int.toNat k1) (Int.toNat k4)) 0)),(w64 (s4.2 + 1)))) else none) else none) else none) else none) else ((Mr n4) (s4.1,s4.2))) else none) else none) else none) else none)
def Yj (s4 : (List Int) × Int) : Option (Nat × (List Int)) := (if 0 ≤ s4.2 ∧ s4.2 ≤ ((s4.1.length : Nat) : Int) then (if (Int.toNat s4.2) + (Ci s4.1.length (Int.toNat s4.2)) ≤ s4.1.length then (if 0 ≤ s4.2 ∧ s4.2 ≤ (((Tm s4.1 (Int.toNat s4.2) (Ci s4.1.length (Int.toNat s4.2)) 0).length : Nat) : Int) then (some ((Int.toNat s4.2),(Tm s4.1 (Int.toNat s4.2) (Ci s4.1.length (Int.toNat s4.2)) 0))) else none) else none) else none)
def Sd (p0 : List Int) (k1 : Int) (s1 : Unit) (n1 : Unit → Option (Nat × (List Int))) : Option (Nat × (List Int)) := (if 0 ≤ k1 ∧ k1 < ((p0.length : Nat) : Int) then (if (Int.toNat k1) < p0.length then (if 0 ≤ (w64 (k1 - 1)) ∧ (w64 (k1 - 1)) < ((p0.length : Nat) : Int) then (if (Int.toNat (w64 (k1 - 1))) < p0.length then (if ((p0.getD (Int.toNat k1) 0) == (p0.getD (Int.toNat (w64 (k1 - 1))) 0)) then (if 0 ≤ k1 ∧ k1 ≤ ((p0.length : Nat) : Int) then (if (((Ci p0.length (Int.toNat k1)) : Nat) : Int) ≤ 9223372036854775807 then (forO (Zc p0 k1) Yj (Int.toNat ((((Ci p0.length (Int.toNat k1)) : Nat) : Int) - 1)) 1 (p0,k1)) else none) else none) else (n1 ())) else none) else none) else none) else none)
def Yp (p0 : List Int) (s1 : Unit) : Option (Nat × (List Int)) := (some (p0.length,p0))
def Ir (p0 : List Int) : Option (Nat × (List Int)) := (if (decide (((p0.length : Nat) : Int) < 2)) then (some (p0.length,p0)) else (if p0.length ≤ 9223372036854775807 then (forO (Sd p0) (Yp p0) (Int.toNat (((p0.length : Nat) : Int) - 1)) 1 ()) else none))
def Di (n1 : (List Int) → Option (List Int)) (y3 : List Int) : Option (List Int) := (n1 y3)
def Hb (p1c0 : Int) (k1 : Nat) (x1 : An) (s1 : List Int) (n1 : (List Int) → Option (List Int)) : Option (List Int) := (Option.bind (Vu x1 p1c0) fun r23 => (if r23 then (Option.bind (AbH x1) fun r25 => (if s1.length + 1 ≤ 1073741824 then ((Di n1) (s1 ++ [r25])) else none)) else ((Di n1) s1)))
def Ew (s1 : List Int) : Option (List Int) := (Option.bind (Lu s1) fun r27 => (if s1.length = r27.length then (Option.bind (Ir r27) fun r29 => (if r27.length = r29.2.length then (if r29.1 ≤ r29.2.length then (some (r29.2.take r29.1)) else none) else none)) else none))
def Fh (p0 : Aa) (p1c0 : Int) : Option (List Int) := (if p0.tasks.length ≤ 9223372036854775807 then Bi (Hb p1c0) Ew p0.tasks 0 [] else none)
def Uk (p0 : Aa) (p1 : Int) : Option (List Int) := (Option.bind (Fh p0 p1) fun r1 => (some r1))
def Yx (p0 : An) (p1 : Int) : Option Bool := (some (p0.group == p1))
def Dr (n1 : (List Int) → Option (List Int)) (y3 : List Int) : Option (List Int) := (n1 y3)
def Hs (p1c0 : Int) (k1 : Nat) (x1 : An) (s1 : List Int) (n1 : (List Int) → Option (List Int)) : Option (List Int) := (Option.bind (Yx x1 p1c0) fun r23 => (if r23 then (Option.bind (AbH x1) fun r25 => (if s1.length + 1 ≤ 1073741824 then ((Dr n1) (s1 ++ [r25])) else none)) else ((Dr n1) s1)))
def Fk (s1 : List Int) : Option (List Int) := (Option.bind (Lu s1) fun r27 => (if s1.length = r27.length then (Option.bind (Ir r27) fun r29 => (if r27.length = r29.2.length then (if r29.1 ≤ r29.2.length then (some (r29.2.take r29.1)) else none) else none)) else none))
def Ga (p0 : Aa) (p1c0 : Int) : Option (List Int) := (if p0.tasks.length ≤ 9223372036854775807 then Bi (Hs p1c0) Fk p0.tasks 0 [] else none)
def Ms (p0 : Aa) (p1 : Int) : Option (List Int) := (Option.bind (Ga p0 p1) fun r1 => (some r1))
def Qs (p0 : Aq) : Option (ByteArray × Aq) := (Option.bind (Ay p0 12) fun r3 => (if 0 ≤ r3.1 ∧ r3.1 < (([(bs [97]),(bs [98]),(bs [99]),(bs [119,101,98]),(bs [100,98,45,49]),(bs [88,95,57]),ByteArray.empty,(bs [45,97]),(bs [97,47,98]),(bs [195,169]),(bs [97,97,97,97,97,97,97,97,97,97,97,97,97,97,97,97,97,97,97,97,97,97,97,97,97,97,97,97,97,97,97,97]),(bs [97,97,97,97,97,97,97,97,97,97,97,97,97,97,97,97,97,97,97,97,97,97,97,97,97,97,97,97,97,97,97,97,97])].length : Nat) : Int) then (if (Int.toNat r3.1) < [(bs [97]),(bs [98]),(bs [99]),(bs [119,101,98]),(bs [100,98,45,49]),(bs [88,95,57]),ByteArray.empty,(bs [45,97]),(bs [97,47,98]),(bs [195,169]),(bs [97,97,97,97,97,97,97,97,97,97,97,97,97,97,97,97,97,97,97,97,97,97,97,97,97,97,97,97,97,97,97,97]),(bs [97,97,97,97,97,97,97,97,97,97,97,97,97,97,97,97,97,97,97,97,97,97,97,97,97,97,97,97,97,97,97,97,97])].length then (some (([(bs [97]),(bs [98]),(bs [99]),(bs [119,101,98]),(bs [100,98,45,49]),(bs [88,95,57]),ByteArray.empty,(bs [45,97]),(bs [97,47,98]),(bs [195,169]),(bs [97,97,97,97,97,97,97,97,97,97,97,97,97,97,97,97,97,97,97,97,97,97,97,97,97,97,97,97,97,97,97,97]),(bs [97,97,97,97,97,97,97,97,97,97,97,97,97,97,97,97,97,97,97,97,97,97,97,97,97,97,97,97,97,97,97,97,97])].getD (Int.toNat r3.1) ByteArray.empty),r3.2)) else none) else none))
def Ku (p0 : Aq) : Option (Int × Aq) := (Option.bind (Ay p0 8) fun r3 => (if 0 ≤ r3.1 ∧ r3.1 < (([0,1,2,1,7,(-1),1048576,1048577].length : Nat) : Int) then (if (Int.toNat r3.1) < [0,1,2,1,7,(-1),1048576,1048577].length then (some (([0,1,2,1,7,(-1),1048576,1048577].getD (Int.toNat r3.1) 0),r3.2)) else none) else none))
def Ce (y1 : Aq × Int × Int × (List Ah)) (y2 : Aq × (List An)) : Option (Aa × Aq) := (some (({ tree := ({ nodes := y1.2.2.2,next := y1.2.1 } : Af),tasks := y2.2,next := y1.2.2.1 } : Aa),y2.1))
def Bo (r1 : Aa) (y1 : Aq × Int × Int × (List Ah)) : Option (Aa × Aq) := (if (decide (((r1.tasks.length : Nat) : Int) > 0)) then (Option.bind (Ay y1.1 ((r1.tasks.length : Nat) : Int)) fun r31 => (if 0 ≤ r31.1 ∧ r31.1 < ((r1.tasks.length : Nat) : Int) then (Option.bind (Ay r31.2 8) fun r33 => (if (r33.1 == 0) then (Option.bind (Ay r33.2 9) fun r35 => (if (Int.toNat r31.1) < r1.tasks.length then ((Ce y1) (r35.2,(r1.tasks.set (Int.toNat r31.1) ({ id := r35.1,process := (r1.tasks.getD (Int.toNat r31.1) (default : An)).process,group := (r1.tasks.getD (Int.toNat r31.1) (default : An)).group,user := (r1.tasks.getD (Int.toNat r31.1) (default : An)).user } : An)))) else none)) else (if (r33.1 == 1) then (Option.bind (Ay r33.2 9) fun r38 => (if (Int.toNat r31.1) < r1.tasks.length then ((Ce y1) (r38.2,(r1.tasks.set (Int.toNat r31.1) ({ id := (r1.tasks.getD (Int.toNat r31.1) (default : An)).id,process := r38.1,group := (r1.tasks.getD (Int.toNat r31.1) (default : An)).group,user := (r1.tasks.getD (Int.toNat r31.1) (default : An)).user } : An)))) else none)) else (if (r33.1 == 2) then (Option.bind (Ay r33.2 9) fun r41 => (if (Int.toNat r31.1) < r1.tasks.length then ((Ce y1) (r41.2,(r1.tasks.set (Int.toNat r31.1) ({ id := (r1.tasks.getD (Int.toNat r31.1) (default : An)).id,process := (r1.tasks.getD (Int.toNat r31.1) (default : An)).process,group := r41.1,user := (r1.tasks.getD (Int.toNat r31.1) (default : An)).user } : An)))) else none)) else (if (r33.1 == 3) then (Option.bind (Ku r33.2) fun r44 => (if (Int.toNat r31.1) < r1.tasks.length then ((Ce y1) (r44.2,(r1.tasks.set (Int.toNat r31.1) ({ id := (r1.tasks.getD (Int.toNat r31.1) (default : An)).id,process := (r1.tasks.getD (Int.toNat r31.1) (default : An)).process,group := (r1.tasks.getD (Int.toNat r31.1) (default : An)).group,user := r44.1 } : An)))) else none)) else ((Ce y1) (r33.2,r1.tasks))))))) else none)) else ((Ce y1) (y1.1,r1.tasks)))
def Hv (p0 : Aq) (p1 : Aa) : Option (Aa × Aq) := (Option.bind (Lj p1) fun r1 => (Option.bind (Ay p0 ((r1.tree.nodes.length : Nat) : Int)) fun r2 => (if 0 ≤ r2.1 ∧ r2.1 < ((r1.tree.nodes.length : Nat) : Int) then (Option.bind (Ay r2.2 12) fun r4 => (if (r4.1 == 0) then (Option.bind (Ay r4.2 9) fun r6 => (if (Int.toNat r2.1) < r1.tree.nodes.length then ((Bo r1) (r6.2,r1.tree.next,r1.next,(r1.tree.nodes.set (Int.toNat r2.1) ({ id := r6.1,parent := (r1.tree.nodes.getD (Int.toNat r2.1) (default : Ah)).parent,name := (r1.tree.nodes.getD (Int.toNat r2.1) (default : Ah)).name,control := (r1.tree.nodes.getD (Int.toNat r2.1) (default : Ah)).control,kind := (r1.tree.nodes.getD (Int.toNat r2.1) (default : Ah)).kind,owner := (r1.tree.nodes.getD (Int.toNat r2.1) (default : Ah)).owner } : Ah)))) else none)) else (if (r4.1 == 1) then (Option.bind (Ay r4.2 9) fun r9 => (if (Int.toNat r2.1) < r1.tree.nodes.length then ((Bo r1) (r9.2,r1.tree.next,r1.next,(r1.tree.nodes.set (Int.toNat r2.1) ({ id := (r1.tree.nodes.getD (Int.toNat r2.1) (default : Ah)).id,parent := r9.1,name := (r1.tree.nodes.getD (Int.toNat r2.1) (default : Ah)).name,control := (r1.tree.nodes.getD (Int.toNat r2.1) (default : Ah)).control,kind := (r1.tree.nodes.getD (Int.toNat r2.1) (default : Ah)).kind,owner := (r1.tree.nodes.getD (Int.toNat r2.1) (default : Ah)).owner } : Ah)))) else none)) else (if (r4.1 == 2) then (Option.bind (Qs r4.2) fun r12 => (if (Int.toNat r2.1) < r1.tree.nodes.length then ((Bo r1) (r12.2,r1.tree.next,r1.next,(r1.tree.nodes.set (Int.toNat r2.1) ({ id := (r1.tree.nodes.getD (Int.toNat r2.1) (default : Ah)).id,parent := (r1.tree.nodes.getD (Int.toNat r2.1) (default : Ah)).parent,name := r12.1,control := (r1.tree.nodes.getD (Int.toNat r2.1) (default : Ah)).control,kind := (r1.tree.nodes.getD (Int.toNat r2.1) (default : Ah)).kind,owner := (r1.tree.nodes.getD (Int.toNat r2.1) (default : Ah)).owner } : Ah)))) else none)) else (if (r4.1 == 3) then (Option.bind (Ec r4.2) fun r15 => (if (Int.toNat r2.1) < r1.tree.nodes.length then ((Bo r1) (r15.2,r1.tree.next,r1.next,(r1.tree.nodes.set (Int.toNat r2.1) ({ id := (r1.tree.nodes.getD (Int.toNat r2.1) (default : Ah)).id,parent := (r1.tree.nodes.getD (Int.toNat r2.1) (default : Ah)).parent,name := (r1.tree.nodes.getD (Int.toNat r2.1) (default : Ah)).name,control := r15.1,kind := (r1.tree.nodes.getD (Int.toNat r2.1) (default : Ah)).kind,owner := (r1.tree.nodes.getD (Int.toNat r2.1) (default : Ah)).owner } : Ah)))) else none)) else (if (r4.1 == 4) then (Option.bind (Ay r4.2 4) fun r18 => (if (Int.toNat r2.1) < r1.tree.nodes.length then ((Bo r1) (r18.2,r1.tree.next,r1.next,(r1.tree.nodes.set (Int.toNat r2.1) ({ id := (r1.tree.nodes.getD (Int.toNat r2.1) (default : Ah)).id,parent := (r1.tree.nodes.getD (Int.toNat r2.1) (default : Ah)).parent,name := (r1.tree.nodes.getD (Int.toNat r2.1) (default : Ah)).name,control := (r1.tree.nodes.getD (Int.toNat r2.1) (default : Ah)).control,kind := (w64 (r18.1 - 1)),owner := (r1.tree.nodes.getD (Int.toNat r2.1) (default : Ah)).owner } : Ah)))) else none)) else (if (r4.1 == 5) then (Option.bind (Ku r4.2) fun r21 => (if (Int.toNat r2.1) < r1.tree.nodes.length then ((Bo r1) (r21.2,r1.tree.next,r1.next,(r1.tree.nodes.set (Int.toNat r2.1) ({ id := (r1.tree.nodes.getD (Int.toNat r2.1) (default : Ah)).id,parent := (r1.tree.nodes.getD (Int.toNat r2.1) (default : Ah)).parent,name := (r1.tree.nodes.getD (Int.toNat r2.1) (default : Ah)).name,control := (r1.tree.nodes.getD (Int.toNat r2.1) (default : Ah)).control,kind := (r1.tree.nodes.getD (Int.toNat r2.1) (default : Ah)).kind,owner := r21.1 } : Ah)))) else none)) else (if (r4.1 == 6) then (Option.bind (Ay r4.2 9) fun r24 => ((Bo r1) (r24.2,r24.1,r1.next,r1.tree.nodes))) else (if (r4.1 == 7) then (Option.bind (Ay r4.2 9) fun r26 => ((Bo r1) (r26.2,r1.tree.next,r26.1,r1.tree.nodes))) else (if (r4.1 == 8) then (if (Int.toNat r2.1) < r1.tree.nodes.length then (if r1.tree.nodes.length + 1 ≤ 1073741824 then ((Bo r1) (r4.2,r1.tree.next,r1.next,(r1.tree.nodes ++ [(r1.tree.nodes.getD (Int.toNat r2.1) (default : Ah))]))) else none) else none) else ((Bo r1) (r4.2,r1.tree.next,r1.next,r1.tree.nodes)))))))))))) else none)))
def Rk (n1 : (List Int) → Option (List Int)) (y3 : List Int) : Option (List Int) := (n1 y3)
def Zr (p1 : Int) (k1 : Nat) (x1 : An) (s1 : List Int) (n1 : (List Int) → Option (List Int)) : Option (List Int) := (if (x1.process == p1) then (if s1.length + 1 ≤ 1073741824 then ((Rk n1) (s1 ++ [x1.id])) else none) else ((Rk n1) s1))
def Aen (s1 : List Int) : Option (List Int) := (some s1)
def Qt (p0 : Aa) (p1 : Int) : Option (List Int) := (Option.bind (Fv p0) fun r1 => (if (!r1) then (some []) else (if p0.tasks.length ≤ 9223372036854775807 then Bi (Zr p1) Aen p0.tasks 0 [] else none)))
def Adv (p1 : Af) (k1 : Nat) (x1 : Ah) (s1 : Unit) (n1 : Unit → Option Bool) : Option Bool := (if k1 < p1.nodes.length then (if (!(Aig x1 (p1.nodes.getD k1 (default : Ah)))) then (some false) else (n1 ())) else none)
def AhB (s1 : Unit) : Option Bool := (some true)
def AaI (p0 : Af) (p1 : Af) : Option Bool := (if ((((p0.nodes.length : Nat) : Int) != ((p1.nodes.length : Nat) : Int)) || (p0.next != p1.next)) then (some false) else (if p0.nodes.length ≤ 9223372036854775807 then Bi (Adv p1) AhB p0.nodes 0 () else none))
def AdB (p1 : Aa) (k1 : Nat) (x1 : An) (s1 : Unit) (n1 : Unit → Option Bool) : Option Bool := (if k1 < p1.tasks.length then (if (!(AiF x1 (p1.tasks.getD k1 (default : An)))) then (some false) else (n1 ())) else none)
def AhG (s1 : Unit) : Option Bool := (some true)
def Tc (p0 : Aa) (p1 : Aa) (y1 : Bool) : Option Bool := (if y1 then (some false) else (if p0.tasks.length ≤ 9223372036854775807 then Bi (AdB p1) AhG p0.tasks 0 () else none))
def Aaw (p0 : Aa) (p1 : Aa) : Option Bool := (Option.bind (AaI p0.tree p1.tree) fun r1 => (if (!r1) then ((Tc p0 p1) true) else (if (((p0.tasks.length : Nat) : Int) != ((p1.tasks.length : Nat) : Int)) then ((Tc p0 p1) true) else ((Tc p0 p1) (p0.next != p1.next)))))
def Pz (p0 : Af) : Option Af := (Option.bind (Ed p0.nodes) fun r1 => (some ({ nodes := r1,next := p0.next } : Af)))
def Li (p0 : List Ah) (p1 : Int) (p2 : Int) : Option (Nat × (List Ah)) := (if 0 ≤ p1 ∧ p1 ≤ p2 ∧ p2 ≤ ((p0.length : Nat) : Int) ∧ ((p0.length : Nat) : Int) ≤ ((p0.length : Nat) : Int) then (if (p1 == p2) then (some (p0.length,p0)) else (if 0 ≤ p1 ∧ p1 ≤ ((p0.length : Nat) : Int) then (if 0 ≤ p2 ∧ p2 ≤ ((p0.length : Nat) : Int) then (if 0 + (Int.toNat p1) + (Ci p0.length (Int.toNat p2)) ≤ p0.length ∧ 0 < p0.length then (if 0 ≤ ((((Int.toNat p1) + (Ci p0.length (Int.toNat p2))) : Nat) : Int) ∧ ((((Int.toNat p1) + (Ci p0.length (Int.toNat p2))) : Nat) : Int) ≤ ((p0.length : Nat) : Int) ∧ 0 + p0.length ≤ (Ry p0 (0 + (Int.toNat p1)) (Ci p0.length (Int.toNat p2)) ((p0.drop (Int.toNat p2)).take (Ci p0.length (Int.toNat p2)))).length then (if ((Int.toNat p1) + (Ci p0.length (Int.toNat p2))) + (Ci p0.length ((Int.toNat p1) + (Ci p0.length (Int.toNat p2)))) ≤ (Ry p0 (0 + (Int.toNat p1)) (Ci p0.length (Int.toNat p2)) ((p0.drop (Int.toNat p2)).take (Ci p0.length (Int.toNat p2)))).length then (some (((Int.toNat p1) + (Ci p0.length (Int.toNat p2))),(Tm (Ry p0 (0 + (Int.toNat p1)) (Ci p0.length (Int.toNat p2)) ((p0.drop (Int.toNat p2)).take (Ci p0.length (Int.toNat p2)))) ((Int.toNat p1) + (Ci p0.length (Int.toNat p2))) (Ci p0.length ((Int.toNat p1) + (Ci p0.length (Int.toNat p2)))) ({ id := 0,parent := 0,name := ByteArray.empty,control := 0,kind := 0,owner := 0 } : Ah)))) else none) else none) else none) else none) else none)) else none)
def Wo (p0 : Af) (p1 : Int) : Option (Af × Int) := (Option.bind (En p0 p1) fun r1 => (Option.bind (Kx p0) fun r2 => (if (!r2) then (some (({ nodes := [],next := 0 } : Af),1)) else (if (decide (r1 < 0)) then (some (({ nodes := [],next := 0 } : Af),4)) else (if (p1 == 1) then (some (({ nodes := [],next := 0 } : Af),9)) else (Option.bind (Ph p0 p1) fun r6 => (if (decide (((r6.length : Nat) : Int) > 0)) then (some (({ nodes := [],next := 0 } : Af),6)) else (Option.bind (Pz p0) fun r8 => (Option.bind (Li r8.nodes r1 (w64 (r1 + 1))) fun r9 => (if r8.nodes.length = r9.2.length then (if r9.1 ≤ r9.2.length then (some (({ nodes := (r9.2.take r9.1),next := r8.next } : Af),0)) else none) else none))))))))))
def Se (p0 : Aa) (p1 : Int) : Option (Aa × Int) := (Option.bind (Lp p0) fun r1 => (if (!r1) then (some (({ tree := ({ nodes := [],next := 0 } : Af),tasks := [],next := 0 } : Aa),1)) else (Option.bind (Wo p0.tree p1) fun r3 => (if (r3.2 != 0) then (some (({ tree := ({ nodes := [],next := 0 } : Af),tasks := [],next := 0 } : Aa),r3.2)) else (Option.bind (Ms p0 p1) fun r5 => (if (decide (((r5.length : Nat) : Int) > 0)) then (some (({ tree := ({ nodes := [],next := 0 } : Af),tasks := [],next := 0 } : Aa),6)) else (Option.bind (Ll p0) fun r7 => (some (({ tree := r3.1,tasks := r7.tasks,next := r7.next } : Aa),0)))))))))
def Wm (p0 : Aa) (p1 : Int) : Option (Aa × Int) := (Option.bind (Fv p0) fun r1 => (if (!r1) then (some (({ tree := ({ nodes := [],next := 0 } : Af),tasks := [],next := 0 } : Aa),1)) else (Option.bind (Td p0.tree p1) fun r3 => (if (r3.2 != 0) then (some (({ tree := ({ nodes := [],next := 0 } : Af),tasks := [],next := 0 } : Aa),r3.2)) else (Option.bind (Ia p0 p1) fun r5 => (if (decide (((r5.length : Nat) : Int) > 0)) then (some (({ tree := ({ nodes := [],next := 0 } : Af),tasks := [],next := 0 } : Aa),6)) else (Option.bind (Lj p0) fun r7 => (some (({ tree := r3.1,tasks := r7.tasks,next := r7.next } : Aa),0)))))))))
def Ra (y2 : Int) : Option Int := (some y2)
def Nf (p1 : Ah) (y1 : Int) : Option Int := (if (p1.kind == 1) then (Ra (Az .i64 y1 6)) else (Ra y1))
def Qu (p0 : Af) (p1 : Ah) : Option Int := (if (p1.id != 1) then (Option.bind (Er p0 p1.parent) fun r2 => ((Nf p1) r2.1.control)) else ((Nf p1) 31))
def Lx (n1 : Unit → Option Bool) (y3 : Bool) : Option Bool := (if y3 then (some false) else (n1 ()))
def Yl (p0 : Aa) (k1 : Nat) (x1 : Ah) (s1 : Unit) (n1 : Unit → Option Bool) : Option Bool := (Option.bind (Qu p0.tree x1) fun r20 => (if ((Az .i64 x1.control r20) != 0) then (some false) else (if (x1.id != 1) then (if ((kand .i64 x1.control 6) != 0) then (Option.bind (Ms p0 x1.id) fun r24 => ((Lx n1) (decide (((r24.length : Nat) : Int) > 0)))) else ((Lx n1) false)) else ((Lx n1) false))))
def Adr (s1 : Unit) : Option Bool := (some true)
def Mc (p0 : Aa) : Option Bool := (Option.bind (Lp p0) fun r1 => (if (!r1) then (some false) else (if p0.tree.nodes.length ≤ 9223372036854775807 then Bi (Yl p0) Adr p0.tree.nodes 0 () else none)))
def Vx (p0 : Af) (k1 : Nat) (x1 : Int) (s1 : Unit) (n1 : Unit → Option Int) : Option Int := (Option.bind (Er p0 x1) fun r13 => (if (r13.1.kind != 1) then (some x1) else (n1 ())))
def Abe (s1 : Unit) : Option Int := (some 0)
def Hn (p0 : Af) (p1 : Int) : Option Int := (Option.bind (Dv p0 p1) fun r1 => (if r1.length ≤ 9223372036854775807 then Bi (Vx p0) Abe r1 0 () else none))
def Tz (p0 : Af) (p1 : Int) (k1 : Nat) (x1 : Int) (s1 : Unit) (n1 : Unit → Option Bool) : Option Bool := (Option.bind (Er p0 x1) fun r13 => (if (r13.1.kind == 1) then (some (x1 != p1)) else (n1 ())))
def Aax (s1 : Unit) : Option Bool := (some false)
def Gt (p0 : Af) (p1 : Int) : Option Bool := (Option.bind (Dv p0 p1) fun r1 => (if r1.length ≤ 9223372036854775807 then Bi (Tz p0 p1) Aax r1 0 () else none))
def Lw (y1 : Bool) : Option Bool := (some y1)
def Pw (p1 : Ah) (r6 : Ah × Bool) (y2 : Bool) : Option Bool := (if y2 then (some false) else (some ((p1.parent == 1) || ((kand .i64 r6.1.control 6) == 0))))
def Sj (p0 : Aa) (p1 : Ah) : Option Bool := (if (p1.kind != 1) then (Option.bind (Gt p0.tree p1.id) fun r2 => (if (!r2) then (Lw true) else (if (p1.control == 0) then (Option.bind (Ms p0 p1.id) fun r5 => (Lw (((r5.length : Nat) : Int) == 0))) else (Lw false)))) else (Option.bind (Er p0.tree p1.parent) fun r6 => (if (r6.1.kind != 1) then (Option.bind (Gt p0.tree p1.parent) fun r8 => ((Pw p1 r6) r8)) else ((Pw p1 r6) false))))
def Pp (n1 : (IMap Int) → Option Bool) (y3 : IMap Int) : Option Bool := (n1 y3)
def Yg (p0 : Aa) (k1 : Nat) (x1 : An) (s1 : IMap Int) (n1 : (IMap Int) → Option Bool) : Option Bool := (if (x1.id == x1.process) then (Option.bind (Hn p0.tree x1.group) fun r68 => ((Pp n1) (s1.set x1.id r68))) else ((Pp n1) s1))
def Xw (p0 : Aa) (s1 : IMap Int) (k8 : Nat) (x8 : An) (s8 : Unit) (n8 : Unit → Option Bool) : Option Bool := (Option.bind (Hn p0.tree x8.group) fun r100 => (if (r100 != (s1.get x8.process)) then (some false) else (n8 ())))
def Xj (p0 : Aa) (k11 : Nat) (x11 : Ah) (s11 : Unit) (n11 : Unit → Option Bool) : Option Bool := (Option.bind (Sj p0 x11) fun r111 => (if (!r111) then (some false) else (n11 ())))
def Acl (s11 : Unit) : Option Bool := (some true)
def Za (p0 : Aa) (s8 : Unit) : Option Bool := (if p0.tree.nodes.length ≤ 9223372036854775807 then Bi (Xj p0) Acl p0.tree.nodes 0 () else none)
def Xy (p0 : Aa) (s1 : IMap Int) : Option Bool := (if p0.tasks.length ≤ 9223372036854775807 then Bi (Xw p0 s1) (Za p0) p0.tasks 0 () else none)
def Ct (p0 : Aa) : Option Bool := (Option.bind (Mc p0) fun r1 => (if (!r1) then (some false) else (if p0.tasks.length ≤ 9223372036854775807 then Bi (Yg p0) (Xy p0) p0.tasks 0 (IMap.empty 0) else none)))
def Mo (p1 : Int) (r1 : Ah × Bool) (y1 : Bool) : Option Int := (if y1 then (some 10) else (if ((p1 != 1) && ((kand .i64 r1.1.control 6) != 0)) then (some 6) else (some 0)))
def Ls (p0 : Aa) (p1 : Int) : Option Int := (Option.bind (Er p0.tree p1) fun r1 => (if (!r1.2) then (some 4) else (if (r1.1.kind != 1) then (Option.bind (Gt p0.tree p1) fun r4 => ((Mo p1 r1) r4)) else ((Mo p1 r1) false))))
def Wy (p2 : Int) (k1 : Nat) (x1 : Int) (s1 : Aa) (n1 : Aa → Option (Aa × Int)) : Option (Aa × Int) := (Option.bind (Vl s1 x1 p2) fun r22 => (n1 r22.1))
def Afn (s1 : Aa) : Option (Aa × Int) := (some (s1,0))
def Kg (p0 : Aa) (p1 : Int) (p2 : Int) (y1 : Bool) : Option (Aa × Int) := (if y1 then (some (({ tree := ({ nodes := [],next := 0 } : Af),tasks := [],next := 0 } : Aa),4)) else (Option.bind (Ke p0.tree p2) fun r8 => (if (r8 == 2) then (some (({ tree := ({ nodes := [],next := 0 } : Af),tasks := [],next := 0 } : Aa),10)) else (Option.bind (Lb p0 p2) fun r10 => (if (r10 != 0) then (some (({ tree := ({ nodes := [],next := 0 } : Af),tasks := [],next := 0 } : Aa),r10)) else (Option.bind (Qt p0 p1) fun r12 => (if r12.length ≤ 9223372036854775807 then Bi (Wy p2) Afn r12 0 p0 else none)))))))
def Qb (p0 : Aa) (p1 : Int) (p2 : Int) : Option (Aa × Int) := (Option.bind (Fq p0) fun r1 => (if (!r1) then (some (({ tree := ({ nodes := [],next := 0 } : Af),tasks := [],next := 0 } : Aa),1)) else (Option.bind (Fr p0 p1) fun r3 => (if (!r3.2) then ((Kg p0 p1 p2) true) else (if (r3.1.process != p1) then ((Kg p0 p1 p2) true) else (Option.bind (Ej p0.tree p2) fun r6 => ((Kg p0 p1 p2) (!r6))))))))
end Go.Dm

/- Plain theory, part 1: models that return, loops. -/
namespace Go.Dm
def Ok {α : Type} (m : Option α) (Q : α → Prop) : Prop := ∃ a,m = some a ∧ Q a
section
variable {α β γ σ : Type} {Q : β → Prop}
theorem Ok.ret {b : β} (h : Q b) : Ok (some b) Q := ⟨b,rfl,h⟩
theorem Ok.bind {m : Option α} {f : α → Option β} {P : α → Prop} (h : Ok m P) (k : ∀ a,P a → Ok (f a) Q) : Ok (Option.bind m f) Q := by
 obtain ⟨a,rfl,ha⟩ := h
 exact k a ha
theorem Ok.step {m : Option α} {f : α → Option β} {a : α} (h : m = some a) (k : Ok (f a) Q) : Ok (Option.bind m f) Q := by
 subst h
 exact k
theorem Ok.eq {m : Option β} {b : β} (h : Ok m (· = b)) : m = some b := by
 obtain ⟨a,rfl,rfl⟩ := h
 rfl
theorem Ok.of_eq {m : Option β} {b : β} (h : m = some b) (hb : Q b) : Ok m Q := ⟨b,h,hb⟩
theorem Ok.mono {m : Option β} {P : β → Prop} (h : Ok m P) (k : ∀ b,P b → Q b) : Ok m Q := by
 obtain ⟨a,rfl,ha⟩ := h
 exact ⟨a,rfl,k a ha⟩
theorem Ok.guard {c : Prop} [Decidable c] {t : Option β} (hc : c) (h : Ok t Q) : Ok (if c then t else none) Q := by
 rw [if_pos hc]
 exact h
theorem Ok.ite {c : Bool} {t e : Option β} (ht : c = true → Ok t Q) (he : c = false → Ok e Q) : Ok (if c then t else e) Q := by
 cases c
 ·exact he rfl
 ·exact ht rfl
theorem Ok.range {body : Nat → α → σ → (σ → Option β) → Option β} {done : σ → Option β} {xs : List α} {s0 : σ} (I : List α → σ → Prop) (h0 : I [] s0)
  (step : ∀ pre x post s n,xs = pre ++ x :: post → I pre s → (∀ s',I (pre ++ [x]) s' → Ok (n s') Q) → Ok (body pre.length x s n) Q)
  (fin : ∀ s,I xs s → Ok (done s) Q) : Ok (Bi body done xs 0 s0) Q := by
 have key : ∀ (post pre : List α) (s : σ),xs = pre ++ post → I pre s → Ok (Bi body done post pre.length s) Q := by
  intro post
  induction post with
  | nil =>
   intro pre s he hi
   have : xs = pre := by simpa using he
   subst this
   exact fin s hi
  | cons x post ih =>
   intro pre s he hi
   refine step pre x post s _ he hi fun s' hi' => ?_
   have := ih (pre ++ [x]) s' (by simpa using he) hi'
   simpa using this
 exact key xs [] s0 rfl h0
theorem Ok.for {body : Int → σ → (σ → Option β) → Option β} {done : σ → Option β} {m : Nat} {a : Int} {s0 : σ} (I : Nat → σ → Prop) (h0 : I 0 s0)
  (step : ∀ (j : Nat) s n,j < m → I j s → (∀ s',I (j + 1) s' → Ok (n s') Q) → Ok (body (a + j) s n) Q)
  (fin : ∀ s,I m s → Ok (done s) Q) : Ok (forO body done m a s0) Q := by
 have key : ∀ (r j : Nat) (s : σ),j + r = m → I j s → Ok (forO body done r (a + j) s) Q := by
  intro r
  induction r with
  | zero =>
   intro j s he hi
   obtain rfl : j = m := by omega
   exact fin s hi
  | succ r ih =>
   intro j s he hi
   refine step j s _ (by omega) hi fun s' hi' => ?_
   have := ih (j + 1) s' (by omega) hi'
   have e : a + (j : Int) + 1 = a + ((j + 1 : Nat) : Int) := by omega
   rw [e]
   exact this
 have := key m 0 s0 (by omega) h0
 simpa using this
theorem Ok.while {body : σ → (σ → Option β) → Option β} {s0 : σ} (I : σ → Prop) (mu : σ → Nat) (h0 : I s0) (hf : mu s0 < Fy)
  (step : ∀ s n,I s → (∀ s',I s' → mu s' < mu s → Ok (n s') Q) → Ok (body s n) Q) : Ok (whileO body Fy s0) Q := by
 have key : ∀ (f : Nat) (s : σ),I s → mu s < f → Ok (whileO body f s) Q := by
  intro f
  induction f with
  | zero => intro s _ h; omega
  | succ f ih =>
   intro s hi hm
   exact step s _ hi fun s' hi' hm' => ih s' hi' (by omega)
 exact key Fy s0 h0 hf
end
theorem Ov : Fy = 1099511627776 := rfl
theorem Bz {n : Int} (h1 : -9223372036854775808 ≤ n) (h2 : n ≤ 9223372036854775807) : w64 n = n := AcY h1 h2
theorem Qp {α : Type} {l : List α} {i : Nat} {d : α} (h : i < l.length) : l.getD i d = l[i] := by
 simp [List.getD_eq_getElem?_getD,h]
theorem AcC {α : Type} {l : List α} {i : Nat} {d : α} (h : i < l.length) : l.getD i d ∈ l := by
 rw [Qp h]
 exact List.getElem_mem h
theorem Aca {α : Type} {pre post : List α} {x d : α} : (pre ++ x :: post).getD pre.length d = x := by
 simp [List.getD_eq_getElem?_getD]
theorem Aff {α : Type} {pre post : List α} {x y d : α} : (pre ++ [y] ++ x :: post).getD pre.length d = y := by
 simp [List.getD_eq_getElem?_getD]
theorem Gj {α β : Type} {p : α → Bool} {f : α → β} {z : β} {xs : List α} {body : Nat → α → Unit → (Unit → Option β) → Option β} {done : Unit → Option β}
  (hb : ∀ k x n,body k x () n = if p x then some (f x) else n ()) (hd : done () = some z) : Bi body done xs 0 () = some ((xs.find? p).elim z f) := by
 have key : ∀ k,Bi body done xs k () = some ((xs.find? p).elim z f) := by
  induction xs with
  | nil => intro k; simp [Bi,hd]
  | cons x r ih =>
   intro k
   rw [Bi,hb,List.find?_cons]
   cases hp : p x
   ·simpa using ih (k + 1)
   ·simp
 exact key 0
theorem Kc {α β γ : Type} {p : α → Bool} {f : α → γ} {xs : List α} {s0 : List γ} {r : List γ → Option β} {body : Nat → α → List γ → (List γ → Option β) → Option β} {done : List γ → Option β}
  (hb : ∀ k x s n,s.length + 1 ≤ 1073741824 → body k x s n = if p x then n (s ++ [f x]) else n s) (hd : ∀ s,done s = r s) (hl : s0.length + xs.length ≤ 1073741824) : Bi body done xs 0 s0 = r (s0 ++ (xs.filter p).map f) := by
 have key : ∀ k s,s.length + xs.length ≤ 1073741824 → Bi body done xs k s = r (s ++ (xs.filter p).map f) := by
  clear hl
  induction xs with
  | nil => intro k s _; simp [Bi,hd]
  | cons x q ih =>
   intro k s hl
   simp only [List.length_cons] at hl
   rw [Bi,hb _ _ _ _ (by omega),List.filter_cons]
   cases hp : p x
   ·simpa using ih (k + 1) s (by omega)
   ·simp only [if_true]
    rw [ih (k + 1) (s ++ [f x]) (by simp; omega)]
    simp
 exact key 0 s0 hl
end Go.Dm

/- Plain theory, part 2: names, trees. -/
namespace Go.Dm
def Ri (c : Int) : Bool := (((((decide (c ≥ 97)) && (decide (c ≤ 122))) || ((decide (c ≥ 65)) && (decide (c ≤ 90)))) || ((decide (c ≥ 48)) && (decide (c ≤ 57)))) || (c == 95)) || (c == 45)
def Dy (s : ByteArray) : Bool := decide (0 < s.size) && decide (s.size ≤ 32) && (((Bn s 0 : Nat) : Int) != 45) && (Jh s).all Ri
theorem AeZ (s : ByteArray) : Vt s = some (Dy s) := by
 apply Ok.eq
 unfold Vt
 refine Ok.ite (fun h => ?_) fun h => ?_
 ·refine Ok.ret ?_
  have : s.size = 0 := by simpa using h
  simp [Dy,this]
 have h0 : 0 < s.size := by
  have : ¬ ((s.size : Nat) : Int) = 0 := by simpa using h
  omega
 refine Ok.ite (fun h => ?_) fun h => ?_
 ·refine Ok.ret ?_
  have : ¬ s.size ≤ 32 := by
   have := of_decide_eq_true h
   omega
  simp [Dy,this]
 have h32 : s.size ≤ 32 := by
  have := of_decide_eq_false h
  omega
 refine Ok.guard h0 ?_
 unfold Ql
 refine Ok.ite (fun h => ?_) fun h => ?_
 ·refine Ok.ret ?_
  simp only [Dy,bne,h]
  simp
 refine Ok.guard (by omega) ?_
 refine Ok.for (fun j _ => ((Jh s).take j).all Ri = true) (by simp) ?_ ?_
 ·intro j _ n hj hi hn
  have hj' : j < s.size := by omega
  unfold AcD
  refine Ok.guard (by omega) ?_
  have e : Int.toNat (0 + (j : Int)) = j := by omega
  rw [e]
  have hb : (Jh s)[j]? = some ((Bn s j : Nat) : Int) := by simp [Jh,hj']
  refine Ok.ite (fun h => ?_) fun h => ?_
  ·refine Ok.ret ?_
   have hc : Ri ((Bn s j : Nat) : Int) = false := by simpa only [Ri,Bool.not_eq_true'] using h
   have : (Jh s).all Ri = false := by
    rw [List.all_eq_false]
    exact ⟨_,List.mem_of_getElem? hb,by simp [hc]⟩
   simp [Dy,this]
  ·refine hn () ?_
   have hc : Ri ((Bn s j : Nat) : Int) = true := by simpa only [Ri,Bool.not_eq_false'] using h
   rw [List.take_add_one,List.all_append,hi,hb]
   simp [hc]
 ·intro _ hi
  refine Ok.ret ?_
  have : (Jh s).length ≤ Int.toNat (((s.size : Nat) : Int) - 0) := by rw [Sp]; omega
  rw [List.take_of_length_le this] at hi
  simp only [Dy,bne,h,hi]
  simp [h0,h32]
theorem Agd (a : ByteArray) : Cz a a = true := by simp [Cz]
def upR : List Ah → Int → List Int
 | [],_ => []
 | x :: r,id => if x.id == id then id :: upR r x.parent else upR r id
def upT (t : Af) (id : Int) : List Int := upR t.nodes.reverse id
theorem Rw (l : List Ah) (id : Int) : (upR l id).length ≤ l.length := by
 induction l generalizing id with
 | nil => simp [upR]
 | cons x r ih =>
  rw [upR]
  split
  ·have := ih x.parent
   simp; omega
  ·have := ih id
   simp; omega
theorem Aiv (t : Af) (id : Int) (hl : t.nodes.length ≤ 1000000) : AbG t id = some (upT t id) := by
 apply Ok.eq
 unfold AbG
 rw [Bz (by omega) (by omega)]
 refine Ok.while (fun s => ∃ m : Nat,s.2.2 = (m : Int) - 1 ∧ m ≤ t.nodes.length ∧ s.1.length + m ≤ t.nodes.length ∧ s.1 ++ upR (t.nodes.take m).reverse s.2.1 = upT t id) (fun s => (s.2.2 + 1).toNat) ?_ ?_ ?_
 ·exact ⟨t.nodes.length,rfl,by omega,by simp,by simp [upT]⟩
 ·rw [Ov]; simp only []; omega
 rintro ⟨o,i,c⟩ n ⟨m,hc,hm,hlen,he⟩ hn
 simp only at hc hlen he hn
 unfold AfI
 simp only
 refine Ok.ite (fun h => ?_) fun h => ?_
 ·have hpos := of_decide_eq_true h
  obtain ⟨q,rfl⟩ : ∃ q,m = q + 1 := ⟨m - 1,by omega⟩
  have hcq : c = (q : Int) := by omega
  subst hcq
  have hq : q < t.nodes.length := by omega
  refine Ok.guard (by omega) ?_
  have et : t.nodes.take (q + 1) = t.nodes.take q ++ [t.nodes.getD q default] := by
   rw [List.take_add_one,Qp hq]
   simp [hq]
  rw [et,List.reverse_append,List.reverse_cons,List.reverse_nil,List.nil_append,List.singleton_append,upR] at he
  have eq : Int.toNat (q : Int) = q := by omega
  rw [eq]
  have hw : w64 ((q : Int) - 1) = (q : Int) - 1 := Bz (by omega) (by omega)
  refine Ok.ite (fun h => ?_) fun h => ?_
  ·refine Ok.guard (by omega) ?_
   refine Ok.guard (by omega) ?_
   unfold Xn
   simp only
   rw [hw]
   rw [if_pos h] at he
   refine hn _ ⟨q,rfl,by omega,by simp; omega,?_⟩ (by simp only; omega)
   simpa using he
  ·unfold Xn
   simp only
   rw [hw]
   rw [if_neg (by rw [h]; simp)] at he
   exact hn _ ⟨q,rfl,by omega,by simp only; omega,he⟩ (by simp only; omega)
 ·have := of_decide_eq_false h
  have : m = 0 := by omega
  subst this
  refine Ok.ret ?_
  simpa [upR] using he
def Lr (pre : List Ah) (x : Ah) : Bool :=
 (x.kind == 0 || x.kind == 1) && decide (0 ≤ x.control) && decide (x.control ≤ 31) && decide (0 ≤ x.owner) && decide (x.owner ≤ 1048576) &&
 match pre.getLast? with
 | none => x.id == 1 && x.parent == 0 && Cz x.name ByteArray.empty && x.kind == 0
 | some y => decide (y.id < x.id) && Dy x.name && pre.any (fun k => k.id == x.parent) && pre.all (fun k => !(k.parent == x.parent && Cz k.name x.name))
theorem AlC (t : Af) (pre post : List Ah) (x : Ah) (he : t.nodes = pre ++ x :: post) (hl : t.nodes.length ≤ 1000000) : AaK t (pre.length : Int) = some (Lr pre x) := by
 have hlen : pre.length < t.nodes.length := by rw [he]; simp
 apply Ok.eq
 unfold AaK
 refine Ok.guard (by omega) ?_
 have ex : t.nodes.getD (Int.toNat (pre.length : Int)) default = x := by
  rw [he]
  have : Int.toNat (pre.length : Int) = pre.length := by omega
  rw [this]
  exact Aca
 rw [ex]
 refine Ok.ite (fun h => ?_) fun h => ?_
 ·refine Ok.ret ?_
  simp only [Lr]
  simp only [Bool.or_eq_true,Bool.and_eq_true,bne_iff_ne,decide_eq_true_eq] at h
  rcases h with (((⟨h1,h2⟩ | h) | h) | h) | h
  ·simp [h1,h2]
  ·have : ¬ 0 ≤ x.control := by omega
   simp [this]
  ·have : ¬ x.control ≤ 31 := by omega
   simp [this]
  ·have : ¬ 0 ≤ x.owner := by omega
   simp [this]
  ·have : ¬ x.owner ≤ 1048576 := by omega
   simp [this]
 simp only [Bool.or_eq_false_iff,Bool.and_eq_false_imp,bne_iff_ne,decide_eq_false_iff_not,bne_eq_false_iff_eq] at h
 obtain ⟨⟨⟨⟨hk,h2⟩,h3⟩,h4⟩,h5⟩ := h
 have hk' : (x.kind == 0 || x.kind == 1) = true := by
  by_cases q : x.kind = 0
  ·simp [q]
  ·simp [hk q]
 have a2 : 0 ≤ x.control := by omega
 have a3 : x.control ≤ 31 := by omega
 have a4 : 0 ≤ x.owner := by omega
 have a5 : x.owner ≤ 1048576 := by omega
 refine Ok.ite (fun h => ?_) fun h => ?_
 ·refine Ok.ret ?_
  have : pre = [] := by
   have : pre.length = 0 := by
    have : (pre.length : Int) = 0 := by simpa using h
    omega
   exact List.length_eq_zero_iff.mp this
  subst this
  simp [Lr,hk',a2,a3,a4,a5]
 have hp : 0 < pre.length := by
  have : ¬ (pre.length : Int) = 0 := by simpa using h
  omega
 obtain ⟨pr,y,rfl⟩ : ∃ pr y,pre = pr ++ [y] := by
  have hne : pre ≠ [] := by intro e; simp [e] at hp
  exact ⟨pre.dropLast,pre.getLast hne,(List.dropLast_concat_getLast hne).symm⟩
 have hw : w64 (((pr ++ [y]).length : Int) - 1) = (pr.length : Int) := by
  rw [Bz (by simp) (by simp; simp at hlen; omega)]
  simp
 rw [hw]
 refine Ok.guard (by simp at hlen; omega) ?_
 have ey : t.nodes.getD (Int.toNat (pr.length : Int)) default = y := by
  rw [he]
  have : Int.toNat (pr.length : Int) = pr.length := by omega
  rw [this]
  exact Aff
 rw [ey]
 have eB : Lr (pr ++ [y]) x = (decide (y.id < x.id) && Dy x.name && (pr ++ [y]).any (fun k => k.id == x.parent) && (pr ++ [y]).all (fun k => !(k.parent == x.parent && Cz k.name x.name))) := by
  simp [Lr,hk',a2,a3,a4,a5]
 refine Ok.ite (fun h => ?_) fun h => ?_
 ·refine Ok.ret ?_
  have : ¬ y.id < x.id := by
   have := of_decide_eq_true h
   omega
  rw [eB]
  simp [this]
 have hy : y.id < x.id := by
  have := of_decide_eq_false h
  omega
 refine Ok.step (AeZ _) ?_
 unfold Wq
 refine Ok.ite (fun h => ?_) fun h => ?_
 ·refine Ok.ret ?_
  have : Dy x.name = false := by simpa using h
  rw [eB]
  simp [this]
 have hv : Dy x.name = true := by simpa using h
 have hr : Lr (pr ++ [y]) x = ((pr ++ [y]).any (fun k => k.id == x.parent) && (pr ++ [y]).all (fun k => !(k.parent == x.parent && Cz k.name x.name))) := by
  rw [eB]
  simp [hy,hv]
 rw [hr]
 generalize pr ++ [y] = P at *
 refine Ok.guard (by omega) ?_
 refine Ok.for (fun j s => s = (P.take j).any (fun k => k.id == x.parent) ∧ (P.take j).all (fun k => !(k.parent == x.parent && Cz k.name x.name)) = true) (by simp) ?_ ?_
 ·intro j s n hj hI hn
  have hj' : j < P.length := by omega
  have ej : Int.toNat (0 + (j : Int)) = j := by omega
  have ez : t.nodes.getD j default = P[j] := by
   rw [he]
   simp [List.getD_eq_getElem?_getD,List.getElem?_append,hj']
  have tk : P.take (j + 1) = P.take j ++ [P[j]] := by
   rw [List.take_add_one]; simp [hj']
  have hbad : (P[j].parent == x.parent && Cz P[j].name x.name) = true → (P.any (fun k => k.id == x.parent) && P.all (fun k => !(k.parent == x.parent && Cz k.name x.name))) = false := by
   intro hb
   have : P.all (fun k => !(k.parent == x.parent && Cz k.name x.name)) = false := by
    rw [List.all_eq_false]
    exact ⟨P[j],List.getElem_mem hj',by rw [hb]; simp⟩
   rw [this,Bool.and_false]
  have hJ : ∀ b : Bool,b = (P.take (j + 1)).any (fun k => k.id == x.parent) → Ok (Ta t (P.length : Int) (0 + (j : Int)) n b) (· = (P.any (fun k => k.id == x.parent) && P.all (fun k => !(k.parent == x.parent && Cz k.name x.name)))) := by
   intro b hb
   unfold Ta
   refine Ok.guard (by omega) ?_
   rw [ej,ez,ex]
   have good : (P[j].parent == x.parent && Cz P[j].name x.name) = false → Ok (n b) (· = (P.any (fun k => k.id == x.parent) && P.all (fun k => !(k.parent == x.parent && Cz k.name x.name)))) := by
    intro hb'
    refine hn _ ⟨hb,?_⟩
    rw [tk,List.all_append,hI.2]
    simp only [List.all_cons,List.all_nil,hb']
    rfl
   refine Ok.ite (fun h => ?_) fun h => ?_
   ·refine Ok.guard (by omega) ?_
    unfold Sw
    refine Ok.ite (fun h' => ?_) fun h' => ?_
    ·exact Ok.ret (hbad (by rw [h,h']; rfl)).symm
    ·exact good (by rw [h,h']; rfl)
   ·unfold Sw
    exact good (by rw [h]; rfl)
  unfold Ady
  have ea : (P.take (j + 1)).any (fun k => k.id == x.parent) = (s || (P[j].id == x.parent)) := by
   rw [tk,List.any_append,← hI.1]; simp
  refine Ok.ite (fun h => ?_) fun h => ?_
  ·refine hJ _ ?_
   rw [ea,h]
   rfl
  ·refine Ok.guard (by omega) ?_
   rw [ej,ez,ex]
   refine hJ _ ?_
   rw [ea,h]
   rfl
 ·intro s hI
  refine Ok.ret ?_
  have : P.take (Int.toNat ((P.length : Int) - 0)) = P := List.take_of_length_le (by omega)
  rw [this] at hI
  rw [hI.2,Bool.and_true]
  exact hI.1
end Go.Dm

/- Plain theory, part 3: trees that Check accepts. -/
namespace Go.Dm
structure WfT (t : Af) : Prop where
 len1 : 1 ≤ t.nodes.length
 len2 : t.nodes.length ≤ 64
 node : ∀ pre x post,t.nodes = pre ++ x :: post → Lr pre x = true
 depth : ∀ x ∈ t.nodes,(upT t x.id).length ≤ 9
 last : (t.nodes.getD (t.nodes.length - 1) default).id < t.next
 nextLe : t.next ≤ 2147483648
theorem AaT (t : Af) : Ok (Kw t) (fun b => b = true ↔ WfT t) := by
 unfold Kw
 refine Ok.ite (fun h => ?_) fun h => ?_
 ·refine Ok.ret ?_
  simp only [Bool.or_eq_true,decide_eq_true_eq] at h
  refine ⟨fun e => by simp at e,fun w => ?_⟩
  have := w.len1
  have := w.len2
  omega
 simp only [Bool.or_eq_false_iff,decide_eq_false_iff_not] at h
 have l1 : 1 ≤ t.nodes.length := by omega
 have l2 : t.nodes.length ≤ 64 := by omega
 refine Ok.guard (by omega) ?_
 refine Ok.range (fun pre _ => ∀ q x p,pre = q ++ x :: p → Lr q x = true) (by intro q x p e; simp at e) ?_ ?_
 ·intro pre x post s n he hI hn
  unfold Ack
  refine Ok.step (AlC t pre post x he (by omega)) ?_
  refine Ok.ite (fun h => ?_) fun h => ?_
  ·refine Ok.ret ⟨fun e => by simp at e,fun w => ?_⟩
   have := w.node pre x post he
   simp [this] at h
  ·refine hn () fun q y p e => ?_
   rcases List.eq_nil_or_concat p with rfl | ⟨p',z,rfl⟩
   ·have e2 : pre = q ∧ x = y := by
     have := List.append_inj' (s₁ := pre) (t₁ := [x]) (s₂ := q) (t₂ := [y]) (by simpa using e) rfl
     exact ⟨this.1,by simpa using this.2⟩
    rw [← e2.1,← e2.2]
    simpa using h
   ·have e2 : pre ++ [x] = (q ++ y :: p') ++ [z] := by simpa using e
    have := List.append_inj' e2 rfl
    exact hI q y p' this.1
 ·intro _ hI
  unfold Acw
  refine Ok.guard (by omega) ?_
  refine Ok.range (fun pre _ => ∀ x ∈ pre,(upT t x.id).length ≤ 9) (by simp) ?_ ?_
  ·intro pre x post s n he hJ hn
   unfold Acm
   refine Ok.step (Aiv t x.id (by omega)) ?_
   refine Ok.ite (fun h => ?_) fun h => ?_
   ·refine Ok.ret ⟨fun e => by simp at e,fun w => ?_⟩
    have := w.depth x (by rw [he]; simp)
    have := of_decide_eq_true h
    omega
   ·refine hn () fun y hy => ?_
    have hd := of_decide_eq_false h
    rcases List.mem_append.mp hy with hy | hy
    ·exact hJ y hy
    ·obtain rfl : y = x := by simpa using hy
     omega
  ·intro _ hJ
   unfold AcB Ug
   have hw : w64 ((t.nodes.length : Int) - 1) = ((t.nodes.length - 1 : Nat) : Int) := by
    rw [Bz (by omega) (by omega)]
    omega
   rw [hw]
   refine Ok.guard (by omega) ?_
   have : Int.toNat ((t.nodes.length - 1 : Nat) : Int) = t.nodes.length - 1 := by omega
   rw [this]
   refine Ok.ite (fun h => ?_) fun h => ?_
   ·refine Ok.ret ⟨fun e => ?_,fun w => ?_⟩
    ·exact ⟨l1,l2,hI,hJ,by simpa using h,by simpa using e⟩
    ·simpa using w.nextLe
   ·refine Ok.ret ⟨fun e => by simp at e,fun w => ?_⟩
    have := w.last
    have := of_decide_eq_false h
    omega
theorem AcA {t : Af} (h : WfT t) : Kw t = some true := by
 obtain ⟨b,hb,e⟩ := AaT t
 rw [hb,e.mpr h]
theorem Alt {t : Af} (h : ¬ WfT t) : Kw t = some false := by
 obtain ⟨b,hb,e⟩ := AaT t
 cases b
 ·exact hb
 ·exact absurd (e.mp rfl) h
def zN : Ah := { id := 0,parent := 0,name := ByteArray.empty,control := 0,kind := 0,owner := 0 }
def Hr (t : Af) (id : Int) : Option Ah := t.nodes.find? (fun x => x.id == id)
def Bd (t : Af) (id : Int) : Bool := (Hr t id).isSome
theorem Qe {t : Af} (h : WfT t) (id : Int) : Cw t id = some ((Hr t id).elim (zN,false) (fun x => (x,true))) := by
 unfold Cw
 rw [AcA h]
 have := h.len2
 simp only [Option.bind_some,Bool.not_true,Bool.false_eq_true,if_false]
 rw [if_pos (by omega)]
 exact Gj (fun k x n => rfl) rfl
theorem Aaf {t : Af} (h : ¬ WfT t) (id : Int) : Cw t id = some (zN,false) := by
 unfold Cw
 rw [Alt h]
 rfl
theorem Hd {t : Af} (h : WfT t) (id : Int) : Ej t id = some (Bd t id) := by
 unfold Ej
 rw [Qe h,Option.bind_some]
 unfold Bd
 cases Hr t id <;> rfl
theorem AeV {t : Af} (h : ¬ WfT t) (id : Int) : Ej t id = some false := by
 unfold Ej
 rw [Aaf h]
 rfl
def ancN (t : Af) (id : Int) : List Int := if Bd t id then upT t id else []
theorem Kn {t : Af} (h : WfT t) (id : Int) : Dt t id = some (ancN t id) := by
 unfold Dt ancN
 rw [Hd h]
 have := h.len2
 cases Bd t id
 ·rfl
 ·simp [Aiv t id (by omega)]
def Gk (t : Af) (id : Int) : List Int := (t.nodes.filter (fun x => x.parent == id)).map (·.id)
theorem Tq {t : Af} (h : WfT t) (id : Int) : Hx t id = some (if Bd t id then Gk t id else []) := by
 unfold Hx
 rw [Hd h]
 have := h.len2
 cases Bd t id
 ·rfl
 ·simp only [Option.bind_some,Bool.not_true,Bool.false_eq_true,if_false,if_true]
  rw [if_pos (by omega)]
  refine (Kc (p := fun x : Ah => x.parent == id) (f := fun x : Ah => x.id) (r := some) ?_ (fun _ => rfl) (by simp; omega)).trans (by simp [Gk])
  intro k x s n hs
  unfold Yq Pk
  rw [if_pos hs]
theorem Alj {t : Af} (h : WfT t) (id : Int) : Yh t id = some (w64 (((ancN t id).length : Int) - 1)) := by
 unfold Yh
 rw [Kn h]
 rfl
theorem Yz (t : Af) (h : t.nodes.length ≤ 1073741824) : Rp t = some t := by
 unfold Rp
 simp
 omega
end Go.Dm

/- Plain theory, part 4: the nodes of a tree, one behind the other. -/
namespace Go.Dm
theorem Px {α : Type} (L : List α) : L = [] ∨ ∃ P x,L = P ++ [x] := by
 rcases List.eq_nil_or_concat L with h | ⟨P,x,h⟩
 ·exact .inl h
 ·exact .inr ⟨P,x,by simpa using h⟩
structure Tr (x : Ah) : Prop where
 kind : x.kind = 0 ∨ x.kind = 1
 c1 : 0 ≤ x.control
 c2 : x.control ≤ 31
 o1 : 0 ≤ x.owner
 o2 : x.owner ≤ 1048576
structure AcT (x : Ah) : Prop where
 id : x.id = 1
 parent : x.parent = 0
 name : Cz x.name ByteArray.empty = true
 kind : x.kind = 0
structure NodeS (pre : List Ah) (x : Ah) : Prop where
 lt : ∀ y ∈ pre,y.id < x.id
 valid : Dy x.name = true
 parent : ∃ y ∈ pre,y.id = x.parent
 fresh : ∀ y ∈ pre,y.parent = x.parent → Cz y.name x.name = false
inductive WfP : List Ah → Prop
 | root (x : Ah) : Tr x → AcT x → WfP [x]
 | snoc (L : List Ah) (x : Ah) : WfP L → Tr x → NodeS L x → WfP (L ++ [x])
theorem nodeV_of {pre : List Ah} {x : Ah} (h : Lr pre x = true) : Tr x := by
 simp only [Lr,Bool.and_eq_true,Bool.or_eq_true,beq_iff_eq,decide_eq_true_eq] at h
 exact ⟨h.1.1.1.1.1,h.1.1.1.1.2,h.1.1.1.2,h.1.1.2,h.1.2⟩
theorem WfP.pos {L : List Ah} (h : WfP L) : 0 < L.length := by
 cases h <;> simp
theorem wfP_of {L : List Ah} (hn : 1 ≤ L.length) (h : ∀ pre x post,L = pre ++ x :: post → Lr pre x = true) : WfP L := by
 have key : ∀ (n : Nat) (M : List Ah),M.length = n → 1 ≤ M.length → (∀ pre x post,M = pre ++ x :: post → Lr pre x = true) → WfP M ∧ ∀ y,M.getLast? = some y → ∀ z ∈ M,z.id ≤ y.id := by
  intro n
  induction n with
  | zero => intro M hM h1; omega
  | succ n ih =>
   intro M hM h1 hB
   rcases Px M with rfl | ⟨P,x,rfl⟩
   ·simp at hM
   have hx : Lr P x = true := hB P x [] (by simp)
   have hv := nodeV_of hx
   rcases Px P with rfl | ⟨P',y,rfl⟩
   ·simp only [Lr,List.getLast?_nil,Bool.and_eq_true,beq_iff_eq] at hx
    refine ⟨.root x hv ⟨hx.2.1.1.1,hx.2.1.1.2,hx.2.1.2,hx.2.2⟩,?_⟩
    intro y hy z hz
    simp at hy hz
    subst hy hz
    exact Int.le_refl _
   ·obtain ⟨w,hl⟩ := ih (P' ++ [y]) (by simp at hM ⊢; omega) (by simp) (fun pre u post e => hB pre u (post ++ [x]) (by rw [e]; simp))
    have hl := hl y (by simp)
    simp only [Lr,List.getLast?_append,List.getLast?_singleton,Option.some_or,Bool.and_eq_true,decide_eq_true_eq,List.any_eq_true,List.all_eq_true,beq_iff_eq] at hx
    obtain ⟨_,⟨⟨hlt,hval⟩,hpar⟩,hfr⟩ := hx
    have hs : NodeS (P' ++ [y]) x := by
     refine ⟨fun z hz => ?_,hval,hpar,fun z hz hp => ?_⟩
     ·have := hl z hz
      omega
     ·have := hfr z hz
      simpa [hp] using this
    refine ⟨.snoc _ x w hv hs,?_⟩
    intro u hu z hz
    have hu : u = x := by simpa [eq_comm] using hu
    subst hu
    rcases List.mem_append.mp hz with hz | hz
    ·have := hs.lt z hz
     omega
    ·simp at hz
     subst hz
     exact Int.le_refl _
 exact (key _ L rfl hn h).1
theorem AkW {x : Ah} (v : Tr x) (r : AcT x) : Lr [] x = true := by
 have := v.kind
 simp [Lr,v.c1,v.c2,v.o1,v.o2,r.id,r.parent,r.name,r.kind]
theorem AkH {L : List Ah} {x : Ah} (hL : 0 < L.length) (v : Tr x) (r : NodeS L x) : Lr L x = true := by
 rcases Px L with rfl | ⟨P,y,rfl⟩
 ·simp at hL
 simp only [Lr,List.getLast?_append,List.getLast?_singleton,Option.some_or,Bool.and_eq_true,decide_eq_true_eq,List.any_eq_true,List.all_eq_true,beq_iff_eq,Bool.or_eq_true]
 refine ⟨⟨⟨⟨⟨v.kind,v.c1⟩,v.c2⟩,v.o1⟩,v.o2⟩,⟨⟨r.lt y (by simp),r.valid⟩,r.parent⟩,fun z hz => ?_⟩
 by_cases hp : z.parent = x.parent
 ·simp [r.fresh z hz hp]
 ·simp [hp]
theorem WfP.split {L : List Ah} (h : WfP L) : ∀ pre x post,L = pre ++ x :: post → Lr pre x = true := by
 induction h with
 | root x v r =>
  intro pre y post e
  have : pre = [] ∧ y = x := by
   cases pre with
   | nil => simp at e; exact ⟨rfl,e.1.symm⟩
   | cons a q => simp at e
  rw [this.1,this.2]
  exact AkW v r
 | snoc L x w v s ih =>
  intro pre y post e
  rcases Px post with rfl | ⟨p',z,rfl⟩
  ·have := List.append_inj' (s₁ := L) (t₁ := [x]) (s₂ := pre) (t₂ := [y]) (by simpa using e) rfl
   have e2 : x = y := by simpa using this.2
   rw [← this.1,← e2]
   exact AkH w.pos v s
  ·have e2 : L ++ [x] = (pre ++ y :: p') ++ [z] := by simpa using e
   have := List.append_inj' e2 rfl
   exact ih pre y p' this.1
theorem WfP.sorted {L : List Ah} (h : WfP L) : L.Pairwise (fun a b => a.id < b.id) := by
 induction h with
 | root x v r => simp
 | snoc L x w v s ih =>
  rw [List.pairwise_append]
  exact ⟨ih,by simp,fun a ha b hb => by simp at hb; subst hb; exact s.lt a ha⟩
theorem WfP.val {L : List Ah} (h : WfP L) : ∀ x ∈ L,Tr x := by
 induction h with
 | root x v r => intro y hy; simp at hy; subst hy; exact v
 | snoc L x w v s ih =>
  intro y hy
  rcases List.mem_append.mp hy with hy | hy
  ·exact ih y hy
  ·simp at hy; subst hy; exact v
theorem WfP.first {L : List Ah} (h : WfP L) : ∃ x r,L = x :: r ∧ AcT x := by
 induction h with
 | root x v r => exact ⟨x,[],rfl,r⟩
 | snoc L x w v s ih =>
  obtain ⟨y,r,rfl,hr⟩ := ih
  exact ⟨y,r ++ [x],rfl,hr⟩
theorem WfP.ge1 {L : List Ah} (h : WfP L) : ∀ x ∈ L,1 ≤ x.id := by
 induction h with
 | root x v r => intro y hy; simp at hy; subst hy; rw [r.id]; omega
 | snoc L x w v s ih =>
  intro y hy
  rcases List.mem_append.mp hy with hy | hy
  ·exact ih y hy
  ·simp at hy; subst hy
   obtain ⟨z,hz,_⟩ := s.parent
   have := ih z hz
   have := s.lt z hz
   omega
theorem WfP.par {L : List Ah} (h : WfP L) : ∀ x ∈ L,(x.id = 1 ∧ AcT x) ∨ (1 ≤ x.parent ∧ x.parent < x.id ∧ (∃ y ∈ L,y.id = x.parent) ∧ Dy x.name = true) := by
 induction h with
 | root x v r => intro y hy; simp at hy; subst hy; exact .inl ⟨r.id,r⟩
 | snoc L x w v s ih =>
  intro y hy
  rcases List.mem_append.mp hy with hy | hy
  ·rcases ih y hy with h | ⟨h1,h2,⟨z,hz,he⟩,h3⟩
   ·exact .inl h
   ·exact .inr ⟨h1,h2,⟨z,by simp [hz],he⟩,h3⟩
  ·simp at hy; subst hy
   obtain ⟨z,hz,he⟩ := s.parent
   refine .inr ⟨?_,?_,⟨z,by simp [hz],he⟩,s.valid⟩
   ·have := w.ge1 z hz
    omega
   ·have := s.lt z hz
    omega
theorem Ajg {L : List Ah} (h : L.Pairwise (fun a b => a.id < b.id)) {x y : Ah} (hx : x ∈ L) (hy : y ∈ L) (e : x.id = y.id) : x = y := by
 induction L with
 | nil => simp at hx
 | cons a r ih =>
  rw [List.pairwise_cons] at h
  rcases List.mem_cons.mp hx with ex | hx' <;> rcases List.mem_cons.mp hy with ey | hy'
  ·rw [ex,ey]
  ·have := h.1 y hy'; rw [ex] at e; omega
  ·have := h.1 x hx'; rw [ey] at e; omega
  ·exact ih h.2 hx' hy'
theorem Ur {t : Af} {id : Int} {x : Ah} (h : Hr t id = some x) : x ∈ t.nodes ∧ x.id = id :=
 ⟨List.mem_of_find?_eq_some h,by have := List.find?_some h; simpa using this⟩
theorem getN_of {t : Af} (hs : t.nodes.Pairwise (fun a b => a.id < b.id)) {x : Ah} (h : x ∈ t.nodes) : Hr t x.id = some x := by
 unfold Hr
 cases hf : t.nodes.find? (fun y => y.id == x.id) with
 | none =>
  rw [List.find?_eq_none] at hf
  have := hf x h
  simp at this
 | some y =>
  have h1 := List.mem_of_find?_eq_some hf
  have h2 := List.find?_some hf
  rw [Ajg hs h1 h (by simpa using h2)]
theorem hasN_iff {t : Af} {id : Int} : Bd t id = true ↔ ∃ x ∈ t.nodes,x.id = id := by
 unfold Bd Hr
 rw [List.find?_isSome]
 simp
theorem AaW {A B : List Ah} {id : Int} (h : ∀ x ∈ A,x.id ≠ id) : upR (A ++ B) id = upR B id := by
 induction A with
 | nil => rfl
 | cons a r ih =>
  rw [List.cons_append,upR,if_neg (by simpa using h a (by simp))]
  exact ih fun x hx => h x (by simp [hx])
theorem AeB {A : List Ah} {id : Int} (h : ∀ x ∈ A,x.id ≠ id) : upR A id = [] := by
 have := AaW (B := []) h
 simpa [upR] using this
theorem WfP.up {L : List Ah} (h : WfP L) : ∀ x ∈ L,upR L.reverse x.id = x.id :: upR L.reverse x.parent := by
 induction h with
 | root x v r =>
  intro y hy
  simp at hy
  subst hy
  simp [upR,r.parent,r.id]
 | snoc L x w v s ih =>
  intro y hy
  rw [List.reverse_append,List.reverse_cons,List.reverse_nil,List.nil_append,List.singleton_append]
  rcases List.mem_append.mp hy with hy | hy
  ·have hlt := s.lt y hy
   have hp : y.parent < x.id := by
    rcases w.par y hy with ⟨h1,r⟩ | ⟨_,h2,_⟩
    ·rw [r.parent]; have := w.ge1 y hy; omega
    ·omega
   rw [upR,if_neg (by simp; omega),upR,if_neg (by simp; omega)]
   exact ih y hy
  ·simp at hy
   subst hy
   obtain ⟨z,hz,he⟩ := s.parent
   have := s.lt z hz
   rw [upR,if_pos (by simp),upR,if_neg (by simp; omega)]
theorem WfT.p {t : Af} (h : WfT t) : WfP t.nodes := wfP_of h.len1 h.node
theorem WfT.sorted {t : Af} (h : WfT t) : t.nodes.Pairwise (fun a b => a.id < b.id) := h.p.sorted
theorem WfT.up {t : Af} (h : WfT t) {x : Ah} (hx : x ∈ t.nodes) : upT t x.id = x.id :: upT t x.parent := h.p.up x hx
theorem WfT.next {t : Af} (h : WfT t) : ∀ x ∈ t.nodes,x.id < t.next := by
 have hl := h.last
 have h1 := h.len1
 have hs := h.sorted
 intro x hx
 obtain ⟨i,hi,rfl⟩ := List.getElem_of_mem hx
 rw [Qp (by omega)] at hl
 by_cases e : i = t.nodes.length - 1
 ·subst e; exact hl
 ·have := List.pairwise_iff_getElem.mp hs i (t.nodes.length - 1) hi (by omega) (by omega)
  omega
theorem WfT.root {t : Af} (h : WfT t) : ∃ x r,t.nodes = x :: r ∧ AcT x := h.p.first
theorem WfT.mk' {t : Af} (hp : WfP t.nodes) (h2 : t.nodes.length ≤ 64) (hd : ∀ x ∈ t.nodes,(upT t x.id).length ≤ 9) (hn : ∀ x ∈ t.nodes,x.id < t.next) (hl : t.next ≤ 2147483648) : WfT t := by
 refine ⟨hp.pos,h2,hp.split,hd,hn _ (AcC ?_),hl⟩
 have := hp.pos
 omega
end Go.Dm

/- Plain theory, part 5: dice; trees that grow and shrink. -/
namespace Go.Dm
structure Bp (d : Aq) : Prop where
 a0 : 0 ≤ d.atF
 a1 : d.atF ≤ (d.l.length : Int)
 l : d.l.length ≤ 600
theorem dice_roll {l : List Int} (h : l.length ≤ 600) : Bp { l := l,atF := 0 } := ⟨by simp,by simp,h⟩
theorem Kp {d : Aq} (h : Bp d) (n : Int) (hn : n ≤ 1000000) : Ok (Ay d n) (fun r => Bp r.2 ∧ 0 ≤ r.1 ∧ (r.1 < n ∨ (n < 1 ∧ r.1 = 0))) := by
 have h0 := h.a0
 have h1 := h.a1
 have hl := h.l
 unfold Ay
 refine Ok.ite (fun c => ?_) fun c => ?_
 ·simp only [Bool.or_eq_true,decide_eq_true_eq] at c
  refine Ok.ret ⟨h,by simp,?_⟩
  show (0 : Int) < n ∨ (n < 1 ∧ (0 : Int) = 0)
  omega
 simp only [Bool.or_eq_false_iff,decide_eq_false_iff_not] at c
 have e1 : w64 (d.atF + 1) = d.atF + 1 := Bz (by omega) (by omega)
 have e2 : w64 (d.atF + 1 - 1) = d.atF := by
  rw [Bz (by omega) (by omega)]
  omega
 have hd : Bp { l := d.l,atF := d.atF + 1 } := ⟨by simp only; omega,by simp only; omega,hl⟩
 rw [e1,e2]
 refine Ok.guard (by omega) ?_
 refine Ok.guard (by omega) ?_
 generalize d.l.getD d.atF.toNat 0 = x
 have b1 : Int.tmod x n < n := Int.tmod_lt_of_pos x (by omega)
 have b2 : -n < Int.tmod x n := by
  have := Int.tmod_lt_of_pos (-x) (show 0 < n by omega)
  rw [Int.neg_tmod] at this
  omega
 unfold Nq
 rw [e1]
 refine Ok.ite (fun c2 => ?_) fun c2 => ?_
 ·have := of_decide_eq_true c2
  rw [Bz (by omega) (by omega)]
  refine Ok.ret ⟨hd,?_,?_⟩ <;> simp only <;> omega
 ·have := of_decide_eq_false c2
  refine Ok.ret ⟨hd,?_,?_⟩ <;> simp only <;> omega
theorem Dg {d : Aq} (h : Bp d) (n : Int) (h1 : 1 ≤ n) (hn : n ≤ 1000000) : Ok (Ay d n) (fun r => Bp r.2 ∧ 0 ≤ r.1 ∧ r.1 < n) :=
 (Kp h n hn).mono fun r ⟨a,b,c⟩ => ⟨a,b,by omega⟩
theorem Aaa {d : Aq} (h : Bp d) (n : Int) (hn : n ≤ 1000000) : Ok (Fe d n) (fun r => Bp r.2) := by
 unfold Fe
 exact Ok.bind (Kp h n hn) fun r hr => Ok.ret hr.1
theorem AlR : ∀ s ∈ [(bs [97]),(bs [98]),(bs [99]),(bs [119,101,98]),(bs [100,98,45,49]),(bs [88,95,57])],Dy s = true := by
 intro s hs
 have : ([(bs [97]),(bs [98]),(bs [99]),(bs [119,101,98]),(bs [100,98,45,49]),(bs [88,95,57])].all Dy) = true := by kernel_rfl
 exact List.all_eq_true.mp this s hs
theorem Name_ok {d : Aq} (h : Bp d) : Ok (Nh d) (fun r => Bp r.2 ∧ Dy r.1 = true) := by
 unfold Nh
 refine Ok.bind (Dg h 6 (by omega) (by omega)) fun r ⟨h1,h2,h3⟩ => ?_
 refine Ok.guard ⟨h2,h3⟩ ?_
 have hlt : r.1.toNat < [(bs [97]),(bs [98]),(bs [99]),(bs [119,101,98]),(bs [100,98,45,49]),(bs [88,95,57])].length := by simp only [List.length_cons,List.length_nil]; omega
 refine Ok.guard hlt (Ok.ret ⟨h1,AlR _ (AcC hlt)⟩)
theorem AeM {d : Aq} (h : Bp d) (t : Af) (ht : t.nodes.length ≤ 1000000) : Ok (Ho d t) (fun r => Bp r.2) := by
 unfold Ho
 refine Ok.bind (Aaa h 15 (by omega)) fun r hr => ?_
 have hJ : ∀ b : Bool,(b = false → 0 < t.nodes.length) → Ok (Ka t r b) (fun r => Bp r.2) := by
  intro b hb
  unfold Ka
  refine Ok.ite (fun _ => ?_) fun c => ?_
  ·exact Ok.bind (Kp hr 9 (by omega)) fun q hq => Ok.ret hq.1
  ·have := hb c
   refine Ok.bind (Dg hr _ (by omega) (by omega)) fun q hq => ?_
   exact Ok.guard ⟨hq.2.1,hq.2.2⟩ (Ok.ret hq.1)
 refine Ok.ite (fun _ => ?_) fun _ => ?_
 ·exact hJ true (by simp)
 ·refine hJ _ fun hb => ?_
  have : ¬ ((t.nodes.length : Nat) : Int) = 0 := by simpa using hb
  omega
theorem AgN {d : Aq} (h : Bp d) (t : Aa) (ht : t.tasks.length ≤ 1000000) : Ok (Is d t) (fun r => Bp r.2) := by
 unfold Is
 refine Ok.bind (Aaa h 15 (by omega)) fun r hr => ?_
 have hJ : ∀ b : Bool,(b = false → 0 < t.tasks.length) → Ok (Kv t r b) (fun r => Bp r.2) := by
  intro b hb
  unfold Kv
  refine Ok.ite (fun _ => ?_) fun c => ?_
  ·exact Ok.bind (Kp hr 9 (by omega)) fun q hq => Ok.ret hq.1
  ·have := hb c
   refine Ok.bind (Dg hr _ (by omega) (by omega)) fun q hq => ?_
   exact Ok.guard ⟨hq.2.1,hq.2.2⟩ (Ok.ret hq.1)
 refine Ok.ite (fun _ => ?_) fun _ => ?_
 ·exact hJ true (by simp)
 ·refine hJ _ fun hb => ?_
  have : ¬ ((t.tasks.length : Nat) : Int) = 0 := by simpa using hb
  omega
theorem Vd {d : Aq} (h : Bp d) : Ok (Ec d) (fun r => Bp r.2 ∧ -1 ≤ r.1 ∧ r.1 ≤ 32) := by
 unfold Ec
 refine Ok.bind (Dg h 9 (by omega) (by omega)) fun r ⟨h1,h2,h3⟩ => ?_
 refine Ok.guard ⟨h2,h3⟩ ?_
 have hlt : r.1.toNat < [(1 : Int),9,31,2,25,4,0,32,(-1)].length := by simp only [List.length_cons,List.length_nil]; omega
 refine Ok.guard hlt (Ok.ret ⟨h1,?_⟩)
 have hm := AcC (d := (0 : Int)) hlt
 have : ∀ x ∈ [(1 : Int),9,31,2,25,4,0,32,(-1)],-1 ≤ x ∧ x ≤ 32 := by decide
 exact this _ hm
def zT : Af := { nodes := [],next := 0 }
def Yf (t : Af) (p : Int) (s : ByteArray) : Af × Int × Int :=
 if !Dy s then (zT,0,1) else if !Bd t p then (zT,0,4) else if t.nodes.any (fun x => x.parent == p && Cz x.name s) then (zT,0,5)
 else if decide (9 ≤ (upT t p).length) || decide (64 ≤ t.nodes.length) || decide (2147483647 < t.next) then (zT,0,7)
 else ({ nodes := t.nodes ++ [{ id := t.next,parent := p,name := s,control := 0,kind := 0,owner := 0 }],next := t.next + 1 },t.next,0)
theorem Aio {t : Af} (h : WfT t) (p : Int) (s : ByteArray) : Aab t p s = some (Yf t p s) := by
 apply Ok.eq
 have h2 := h.len2
 have hnx := h.nextLe
 unfold Aab
 refine Ok.step (AcA h) ?_
 simp only [Bool.not_true,Bool.false_eq_true,if_false]
 refine Ok.step (AeZ s) ?_
 unfold Yv Yf
 refine Ok.ite (fun c => ?_) fun c => ?_
 ·rw [if_pos c]; exact Ok.ret rfl
 rw [if_neg (c := (!Dy s) = true) (by rw [c]; simp)]
 refine Ok.step (Hd h p) ?_
 refine Ok.ite (fun c => ?_) fun c => ?_
 ·rw [if_pos c]; exact Ok.ret rfl
 rw [if_neg (c := (!Bd t p) = true) (by rw [c]; simp)]
 have hp : Bd t p = true := by simpa using c
 refine Ok.guard (by omega) ?_
 refine Ok.range (fun pre _ => pre.any (fun x => x.parent == p && Cz x.name s) = false) rfl ?_ ?_
 ·intro pre x post u n he hI hn
  unfold AeS
  refine Ok.ite (fun c => ?_) fun c => ?_
  ·refine Ok.ret ?_
   rw [if_pos]
   ·rfl
   ·rw [he,List.any_append,List.any_cons,c]
    simp
  ·refine hn () ?_
   rw [List.any_append,hI,List.any_cons,c]
   rfl
 ·intro _ hI
  rw [if_neg (by rw [hI]; simp)]
  unfold AeW
  refine Ok.step (Alj h p) ?_
  have ea : ancN t p = upT t p := by simp [ancN,hp]
  have hb : (upT t p).length ≤ 64 := by
   have := Rw t.nodes.reverse p
   simp at this
   unfold upT
   omega
  rw [ea,Bz (by omega) (by omega)]
  have hJ1 : ∀ c,(c = true → (decide (9 ≤ (upT t p).length) || decide (64 ≤ t.nodes.length) || decide (2147483647 < t.next)) = true) → (c = false → (decide (9 ≤ (upT t p).length) || decide (64 ≤ t.nodes.length) || decide (2147483647 < t.next)) = false) →
    Ok (Rz t p s c) (· = if decide (9 ≤ (upT t p).length) || decide (64 ≤ t.nodes.length) || decide (2147483647 < t.next) then (zT,0,7)
 else ({ nodes := t.nodes ++ [{ id := t.next,parent := p,name := s,control := 0,kind := 0,owner := 0 }],next := t.next + 1 },t.next,0)) := by
   intro c ht hf
   unfold Rz
   refine Ok.ite (fun c => ?_) fun c => ?_
   ·rw [if_pos (ht c)]; exact Ok.ret rfl
   ·rw [if_neg (by rw [hf c]; simp)]
    refine Ok.step (Yz t (by omega)) ?_
    refine Ok.guard (by omega) ?_
    have hn0 : 0 < t.next := by
     obtain ⟨x,r,e,hr⟩ := h.root
     have := h.next x (by rw [e]; simp)
     rw [hr.id] at this
     omega
    rw [Bz (by omega) (by omega)]
    exact Ok.ret rfl
  refine Ok.ite (fun c => ?_) fun c => ?_
  ·have := of_decide_eq_true c
   refine hJ1 true (fun _ => ?_) (by simp)
   have : 9 ≤ (upT t p).length := by omega
   simp [this]
  ·have h9 := of_decide_eq_false c
   refine Ok.ite (fun c => ?_) fun c => ?_
   ·have := of_decide_eq_true c
    refine hJ1 true (fun _ => ?_) (by simp)
    have : 64 ≤ t.nodes.length := by omega
    simp [this]
   ·have h64 := of_decide_eq_false c
    have a : ¬ 9 ≤ (upT t p).length := by omega
    have b : ¬ 64 ≤ t.nodes.length := by omega
    refine hJ1 _ (fun c => ?_) fun c => ?_
    ·have := of_decide_eq_true c
     have : 2147483647 < t.next := by omega
     simp [this]
    ·have := of_decide_eq_false c
     have : ¬ 2147483647 < t.next := by omega
     simp [this,a,b]
theorem Acc {L : List Ah} {x : Ah} {id : Int} (h : x.id ≠ id) : upR (L ++ [x]).reverse id = upR L.reverse id := by
 rw [List.reverse_append]
 exact AaW (A := [x].reverse) (by simpa using h)
theorem addT_wf {t : Af} (h : WfT t) {p : Int} {s : ByteArray} {r : Af × Int × Int} (e : Yf t p s = r) (hr : r.2.2 = 0) : WfT r.1 := by
 have h2 := h.len2
 unfold Yf at e
 split at e
 ·subst e; simp at hr
 split at e
 ·subst e; simp at hr
 split at e
 ·subst e; simp at hr
 split at e
 ·subst e; simp at hr
 rename_i hv hh ha hc
 subst e
 have hv' : Dy s = true := by simpa using hv
 have hh' : Bd t p = true := by simpa using hh
 obtain ⟨y,hy,hyp⟩ := hasN_iff.mp hh'
 simp only [Bool.or_eq_true,decide_eq_true_eq,not_or] at hc
 have ha' : ∀ x ∈ t.nodes,x.parent = p → Cz x.name s = false := by
  intro x hx hp
  cases hb : Cz x.name s
  ·rfl
  ·exact absurd (List.any_eq_true.mpr ⟨x,hx,by simp [hp,hb]⟩) ha
 have hnext := h.next
 refine WfT.mk' (.snoc _ _ h.p ⟨.inl rfl,by simp,by simp,by simp,by simp⟩ ⟨hnext,hv',⟨y,hy,hyp⟩,ha'⟩) (by simp; omega) ?_ ?_ (by simp only; omega)
 ·intro x hx
  rcases List.mem_append.mp hx with hx | hx
  ·have := h.depth x hx
   unfold upT at this ⊢
   simp only
   have hlt := hnext x hx
   rw [Acc (by simp only; omega)]
   exact this
  ·simp at hx
   subst hx
   unfold upT
   simp only [List.reverse_append,List.reverse_cons,List.reverse_nil,List.nil_append,List.singleton_append]
   rw [upR,if_pos (by simp)]
   have := hc.1.1
   unfold upT at this
   simp; omega
 ·intro x hx
  simp only
  rcases List.mem_append.mp hx with hx | hx
  ·have := hnext x hx
   omega
  ·simp at hx
   subst hx
   simp only
   omega
end Go.Dm

/- Plain theory, part 6: nodes that are removed or replaced; made trees. -/
namespace Go.Dm
def Ot (t : Af) (id : Int) : Af × Int :=
 if !Bd t id then (zT,4) else if id == 1 then (zT,9) else if decide (0 < (Gk t id).length) then (zT,6)
 else ({ nodes := t.nodes.filter (fun x => x.id != id),next := t.next },0)
theorem AeY {t : Af} (h : WfT t) (id : Int) : Td t id = some (Ot t id) := by
 apply Ok.eq
 have h2 := h.len2
 unfold Td Ot
 refine Ok.step (AcA h) ?_
 simp only [Bool.not_true,Bool.false_eq_true,if_false]
 refine Ok.step (Hd h id) ?_
 refine Ok.ite (fun c => ?_) fun c => ?_
 ·rw [if_pos c]; exact Ok.ret rfl
 rw [if_neg (c := (!Bd t id) = true) (by rw [c]; simp)]
 have hp : Bd t id = true := by simpa using c
 refine Ok.ite (fun c => ?_) fun c => ?_
 ·rw [if_pos c]; exact Ok.ret rfl
 rw [if_neg (c := (id == 1) = true) (by rw [c]; simp)]
 refine Ok.step (Tq h id) ?_
 rw [if_pos hp]
 refine Ok.ite (fun c => ?_) fun c => ?_
 ·have := of_decide_eq_true c
  have : 0 < (Gk t id).length := by omega
  rw [if_pos (c := decide (0 < (Gk t id).length) = true) (by simp [this])]; exact Ok.ret rfl
 have := of_decide_eq_false c
 have : ¬ 0 < (Gk t id).length := by omega
 rw [if_neg (c := decide (0 < (Gk t id).length) = true) (by simp [this])]
 refine Ok.guard (by omega) ?_
 have e := Kc (p := fun x : Ah => x.id != id) (f := fun x : Ah => x) (xs := t.nodes) (s0 := []) (r := Xc t) (body := Xa id) (done := Xc t) (fun k x s n hs => by
  unfold Xa Sf
  rw [if_pos hs]) (fun _ => rfl) (by simp; omega)
 rw [e]
 refine Ok.ret ?_
 simp
theorem AmI {A : List Ah} {id k : Int} (hk : k ≠ id) (h : ∀ x ∈ A,x.parent ≠ id) : upR (A.filter (fun x => x.id != id)) k = upR A k := by
 induction A generalizing k with
 | nil => rfl
 | cons a r ih =>
  have hr : ∀ x ∈ r,x.parent ≠ id := fun x hx => h x (by simp [hx])
  rw [List.filter_cons]
  by_cases e : a.id = id
  ·rw [if_neg (by simp [e]),ih hk hr,upR,if_neg (by simp; omega)]
  ·rw [if_pos (by simp [e]),upR,upR]
   by_cases q : a.id = k
   ·rw [if_pos (by simp [q]),if_pos (by simp [q]),ih (h a (by simp)) hr]
   ·rw [if_neg (by simp [q]),if_neg (by simp [q]),ih hk hr]
theorem WfP.remove {L : List Ah} (h : WfP L) {id : Int} (h1 : id ≠ 1) (hk : ∀ x ∈ L,x.parent ≠ id) : WfP (L.filter (fun x => x.id != id)) := by
 induction h with
 | root x v r =>
  have : (x.id != id) = true := by simp [r.id]; omega
  simp only [List.filter_cons,this,if_true,List.filter_nil]
  exact .root x v r
 | snoc L x w v s ih =>
  have hw := ih fun y hy => hk y (by simp [hy])
  rw [List.filter_append]
  by_cases e : x.id = id
  ·have : [x].filter (fun x => x.id != id) = [] := by simp [e]
   rw [this,List.append_nil]
   exact hw
  ·have : [x].filter (fun x => x.id != id) = [x] := by simp [e]
   rw [this]
   refine .snoc _ x hw v ⟨fun y hy => s.lt y (List.mem_filter.mp hy).1,s.valid,?_,fun y hy => s.fresh y (List.mem_filter.mp hy).1⟩
   obtain ⟨y,hy,hyp⟩ := s.parent
   refine ⟨y,List.mem_filter.mpr ⟨hy,?_⟩,hyp⟩
   have := hk x (by simp)
   simp only [bne_iff_ne]
   omega
theorem Ajj {t : Af} (h : WfT t) {id : Int} {r : Af × Int} (e : Ot t id = r) (hr : r.2 = 0) : WfT r.1 := by
 have h2 := h.len2
 unfold Ot at e
 split at e
 ·subst e; simp at hr
 split at e
 ·subst e; simp at hr
 split at e
 ·subst e; simp at hr
 rename_i hh h1 hk
 subst e
 have h1' : id ≠ 1 := by simpa using h1
 have hk' : ∀ x ∈ t.nodes,x.parent ≠ id := by
  intro x hx hp
  have hk : ¬ 0 < (Gk t id).length := by simpa using hk
  have : x.id ∈ Gk t id := by
   unfold Gk
   exact List.mem_map.mpr ⟨x,List.mem_filter.mpr ⟨hx,by simp [hp]⟩,rfl⟩
  have := List.length_pos_of_mem this
  omega
 refine WfT.mk' (h.p.remove h1' hk') (Nat.le_trans (List.length_filter_le _ _) h2) ?_ (fun x hx => h.next x (List.mem_filter.mp hx).1) h.nextLe
 intro x hx
 have hx' := List.mem_filter.mp hx
 have := h.depth x hx'.1
 unfold upT at this ⊢
 simp only
 rw [← List.filter_reverse,AmI (by simpa using hx'.2) (fun y hy => hk' y (by simpa using hy))]
 exact this
def Th (x y : Ah) : Ah := if y.id == x.id then x else y
def setT (t : Af) (x : Ah) : Af := { nodes := t.nodes.map (Th x),next := t.next }
theorem Wt (t : Af) (x : Ah) (hl : t.nodes.length ≤ 1000000) : Xl t x = some (setT t x) := by
 apply Ok.eq
 unfold Xl
 refine Ok.step (Yz t (by omega)) ?_
 refine Ok.while (fun s => ∃ m : Nat,s.2 = (m : Int) ∧ m ≤ t.nodes.length ∧ s.1 = (t.nodes.take m).map (Th x) ++ t.nodes.drop m) (fun s => (((t.nodes.length : Nat) : Int) - s.2).toNat) ?_ ?_ ?_
 ·exact ⟨0,rfl,by omega,by simp⟩
 ·rw [Ov]; simp only; omega
 rintro ⟨L,c⟩ n ⟨m,hc,hm,he⟩ hn
 simp only at hc he hn
 subst hc
 have hlen : L.length = t.nodes.length := by
  rw [he]; simp; omega
 unfold AeD Ym
 simp only
 rw [hlen]
 refine Ok.ite (fun c => ?_) fun c => ?_
 ·have hlt := of_decide_eq_true c
  have hlt' : m < t.nodes.length := by omega
  have em : Int.toNat (m : Int) = m := by omega
  rw [em]
  refine Ok.guard (by omega) ?_
  refine Ok.guard hlt' ?_
  have hw : w64 ((m : Int) + 1) = ((m + 1 : Nat) : Int) := by
   rw [Bz (by omega) (by omega)]; omega
  have hd : t.nodes.drop m = t.nodes[m] :: t.nodes.drop (m + 1) := List.drop_eq_getElem_cons hlt'
  have hg : L.getD m default = t.nodes[m] := by
   rw [he,hd,List.getD_eq_getElem?_getD,List.getElem?_append_right (by simp; omega)]
   have : m - (List.map (Th x) (List.take m t.nodes)).length = 0 := by simp; omega
   rw [this]
   rfl
  have ht : (t.nodes.take (m + 1)).map (Th x) ++ t.nodes.drop (m + 1) = (t.nodes.take m).map (Th x) ++ Th x t.nodes[m] :: t.nodes.drop (m + 1) := by
   have : t.nodes.take (m + 1) = t.nodes.take m ++ [t.nodes[m]] := by
    rw [List.take_add_one]; simp [hlt']
   rw [this,List.map_append,List.append_assoc]
   rfl
  have hml : (List.map (Th x) (List.take m t.nodes)).length = m := by
   rw [List.length_map,List.length_take]; omega
  rw [hg,hw]
  refine Ok.ite (fun c => ?_) fun c => ?_
  ·refine Ok.guard (by omega) ?_
   refine Ok.guard hlt' ?_
   refine hn _ ⟨m + 1,rfl,by omega,?_⟩ (by simp only; omega)
   simp only
   rw [ht,he,hd,List.set_append_right _ _ (by omega),hml,Nat.sub_self,List.set_cons_zero,Th,if_pos c]
  ·refine hn _ ⟨m + 1,rfl,by omega,?_⟩ (by simp only; omega)
   simp only
   rw [ht,he,hd]
   simp [Th,c]
 ·have := of_decide_eq_false c
  obtain rfl : m = t.nodes.length := by omega
  refine Ok.ret ?_
  simp [he,setT]
theorem upR_map {A : List Ah} {f : Ah → Ah} {k : Int} (h : ∀ y ∈ A,(f y).id = y.id ∧ (f y).parent = y.parent) : upR (A.map f) k = upR A k := by
 induction A generalizing k with
 | nil => rfl
 | cons a r ih =>
  have h1 := h a (by simp)
  rw [List.map_cons,upR,upR,h1.1,h1.2,ih fun y hy => h y (by simp [hy]),ih fun y hy => h y (by simp [hy])]
theorem WfP.map {L : List Ah} (h : WfP L) {f : Ah → Ah} (hf : ∀ y ∈ L,(f y).id = y.id ∧ (f y).parent = y.parent ∧ (f y).name = y.name ∧ Tr (f y) ∧ (y.id = 1 → (f y).kind = 0)) : WfP (L.map f) := by
 induction h with
 | root x v r =>
  obtain ⟨h1,h2,h3,h4,h5⟩ := hf x (by simp)
  exact .root _ h4 ⟨by rw [h1,r.id],by rw [h2,r.parent],by rw [h3,r.name],h5 r.id⟩
 | snoc L x w v s ih =>
  have hw := ih fun y hy => hf y (by simp [hy])
  obtain ⟨h1,h2,h3,h4,h5⟩ := hf x (by simp)
  have hL : ∀ y ∈ L,(f y).id = y.id ∧ (f y).parent = y.parent ∧ (f y).name = y.name := fun y hy => by
   obtain ⟨a,b,c,_⟩ := hf y (by simp [hy])
   exact ⟨a,b,c⟩
  rw [List.map_append,List.map_cons,List.map_nil]
  refine .snoc _ _ hw h4 ⟨?_,by rw [h3]; exact s.valid,?_,?_⟩
  ·intro y hy
   obtain ⟨z,hz,rfl⟩ := List.mem_map.mp hy
   rw [(hL z hz).1,h1]
   exact s.lt z hz
  ·obtain ⟨z,hz,hzp⟩ := s.parent
   exact ⟨f z,List.mem_map.mpr ⟨z,hz,rfl⟩,by rw [(hL z hz).1,h2,hzp]⟩
  ·intro y hy
   obtain ⟨z,hz,rfl⟩ := List.mem_map.mp hy
   rw [(hL z hz).2.1,(hL z hz).2.2,h2,h3]
   exact s.fresh z hz
theorem WfT.map {t : Af} (h : WfT t) {f : Ah → Ah} (hf : ∀ y ∈ t.nodes,(f y).id = y.id ∧ (f y).parent = y.parent ∧ (f y).name = y.name ∧ Tr (f y) ∧ (y.id = 1 → (f y).kind = 0)) : WfT { nodes := t.nodes.map f,next := t.next } := by
 refine WfT.mk' (h.p.map hf) (by simp; exact h.len2) ?_ ?_ h.nextLe
 ·intro x hx
  obtain ⟨z,hz,rfl⟩ := List.mem_map.mp hx
  have := h.depth z hz
  unfold upT at this ⊢
  simp only
  rw [← List.map_reverse,upR_map (fun y hy => ⟨(hf y (by simpa using hy)).1,(hf y (by simpa using hy)).2.1⟩),(hf z hz).1]
  exact this
 ·intro x hx
  obtain ⟨z,hz,rfl⟩ := List.mem_map.mp hx
  simp only
  rw [(hf z hz).1]
  exact h.next z hz
theorem setT_wf {t : Af} (h : WfT t) {x y : Ah} (hy : y ∈ t.nodes) (h1 : x.id = y.id) (h2 : x.parent = y.parent) (h3 : x.name = y.name) (h4 : Tr x) (h5 : y.id = 1 → x.kind = 0) : WfT (setT t x) := by
 refine h.map fun z hz => ?_
 unfold Th
 by_cases e : z.id = x.id
 ·obtain rfl : z = y := Ajg h.sorted hz hy (by omega)
  rw [if_pos (by simp [e])]
  exact ⟨h1,h2,h3,h4,h5⟩
 ·rw [if_neg (by simpa using e)]
  refine ⟨rfl,rfl,rfl,h.p.val z hz,fun q => ?_⟩
  rcases h.p.par z hz with ⟨_,r⟩ | ⟨a,b,_⟩
  ·exact r.kind
  ·omega
def newT : Af := { nodes := [{ id := 1,parent := 0,name := ByteArray.empty,control := 0,kind := 0,owner := 0 }],next := 2 }
theorem Amg : Acy = some newT := rfl
theorem newT_wf : WfT newT := by
 refine WfT.mk' (.root _ ⟨.inl rfl,by simp,by simp,by simp,by simp⟩ ⟨rfl,rfl,Agd _,rfl⟩) (by simp [newT]) ?_ ?_ (by simp [newT])
 ·intro x hx
  have := Rw newT.nodes.reverse x.id
  simp [newT] at this
  simp [upT,newT]
  omega
 ·intro x hx
  simp [newT] at hx
  subst hx
  simp [newT]
theorem Tree_ok {d : Aq} (h : Bp d) (n : Int) (h0 : 0 ≤ n) (h1 : n ≤ 1000) : Ok (Rh d n) (fun r => WfT r.1 ∧ Bp r.2) := by
 unfold Rh
 refine Ok.step Amg ?_
 rw [Bz (by omega) (by omega)]
 refine Ok.bind (Dg h (n + 1) (by omega) (by omega)) fun r ⟨a1,a2,a3⟩ => ?_
 refine Ok.while (fun s => Bp s.1 ∧ WfT s.2.1 ∧ s.2.2 ≤ 2000) (fun s => s.2.2.toNat) ⟨a1,newT_wf,by simp only; omega⟩ (by rw [Ov]; simp only; omega) ?_
 rintro ⟨d,t,c⟩ k ⟨b1,b2,b3⟩ hk
 simp only at b1 b2 b3 hk
 unfold Xh
 simp only
 refine Ok.ite (fun c1 => ?_) fun c1 => ?_
 ·have hc := of_decide_eq_true c1
  have l1 := b2.len1
  have l2 := b2.len2
  refine Ok.bind (Dg b1 _ (by omega) (by omega)) fun r2 ⟨q1,q2,q3⟩ => ?_
  refine Ok.guard ⟨q2,q3⟩ ?_
  refine Ok.bind (Name_ok q1) fun r3 ⟨u1,u2⟩ => ?_
  refine Ok.step (Aio b2 _ _) ?_
  have hw : w64 (c - 1) = c - 1 := Bz (by omega) (by omega)
  have hJ3 : ∀ y : Aq × Af,Bp y.1 → WfT y.2 → Ok (Ik (d,t,c) k y) (fun r => WfT r.1 ∧ Bp r.2) := by
   intro y hy1 hy2
   unfold Ik
   simp only
   rw [hw]
   exact hk _ ⟨hy1,hy2,by simp only; omega⟩ (by simp only; omega)
  have hJ4 : ∀ y : Af,WfT y → Ok (Kl (d,t,c) k r3 y) (fun r => WfT r.1 ∧ Bp r.2) := by
   intro y hy
   unfold Kl
   refine Ok.bind (Aaa u1 6 (by omega)) fun r4 hr4 => ?_
   refine Ok.ite (fun _ => ?_) fun _ => ?_
   ·have y1 := hy.len1
    have y2 := hy.len2
    refine Ok.bind (Dg hr4 _ (by omega) (by omega)) fun r5 ⟨v1,v2,v3⟩ => ?_
    refine Ok.guard ⟨v2,v3⟩ ?_
    refine Ok.step (AeY hy _) ?_
    refine Ok.ite (fun c2 => ?_) fun _ => ?_
    ·exact hJ3 _ v1 (Ajj hy rfl (by simpa using c2))
    ·exact hJ3 _ v1 hy
   ·exact hJ3 _ hr4 hy
  refine Ok.ite (fun c2 => ?_) fun _ => ?_
  ·exact hJ4 _ (addT_wf b2 rfl (by simpa using c2))
  ·exact hJ4 _ b2
 ·exact Ok.ret ⟨b2,b1⟩
end Go.Dm

/- Plain theory, part 7: hierarchies that Check accepts. -/
namespace Go.Dm
def zK : An := { id := 0,process := 0,group := 0,user := 0 }
def Bm (L : List An) (id : Int) : Option An := L.find? (fun x => x.id == id)
theorem AjR (L : List An) (p : Int) (hl : L.length ≤ 1000000) : Wg L p = some ((Bm L p).elim (zK,false) (fun x => (x,x.process == p))) := by
 unfold Wg
 rw [if_pos (by omega)]
 exact Gj (fun k x n => rfl) rfl
structure TaskV (h : Aa) (x : An) : Prop where
 pos : 1 ≤ x.id
 grp : Bd h.tree x.group = true
 u1 : 0 ≤ x.user
 u2 : x.user ≤ 1048576
 ldr : ∃ p,Bm h.tasks x.process = some p ∧ p.process = x.process ∧ p.user = x.user
structure WfH (h : Aa) : Prop where
 tree : WfT h.tree
 len : h.tasks.length ≤ 128
 n1 : 1 ≤ h.next
 n2 : h.next ≤ 2147483648
 sorted : h.tasks.Pairwise (fun a b => a.id < b.id)
 lt : ∀ x ∈ h.tasks,x.id < h.next
 val : ∀ x ∈ h.tasks,TaskV h x
theorem AaQ (h : Aa) : Ok (Fv h) (fun b => b = true ↔ WfH h) := by
 have bad : ¬ WfH h → Ok (some false) (fun b => b = true ↔ WfH h) := fun hn => Ok.ret ⟨fun e => by simp at e,fun w => absurd w hn⟩
 unfold Fv
 refine Ok.bind (AaT h.tree) fun b hb => ?_
 unfold Jw
 refine Ok.ite (fun c => ?_) fun c => ?_
 ·have : ¬ WfT h.tree := fun w => by have := hb.mpr w; simp [this] at c
  exact bad fun w => this w.tree
 have wt : WfT h.tree := hb.mp (by simpa using c)
 refine Ok.ite (fun c => ?_) fun c => ?_
 ·have := of_decide_eq_true c
  exact bad fun w => by have := w.len; omega
 have hl : h.tasks.length ≤ 128 := by
  have := of_decide_eq_false c
  omega
 refine Ok.ite (fun c => ?_) fun c => ?_
 ·have := of_decide_eq_true c
  exact bad fun w => by have := w.n1; omega
 have hn1 := of_decide_eq_false c
 refine Ok.ite (fun c => ?_) fun c => ?_
 ·have := of_decide_eq_true c
  exact bad fun w => by have := w.n2; omega
 have hn2 := of_decide_eq_false c
 have loop : (∀ x ∈ h.tasks.getLast?,x.id < h.next) → Ok (if h.tasks.length ≤ 9223372036854775807 then Bi (Yo h) Acz h.tasks 0 () else none) (fun b => b = true ↔ WfH h) := by
  intro hlast
  refine Ok.guard (by omega) ?_
  refine Ok.range (fun pre _ => pre.Pairwise (fun a b => a.id < b.id) ∧ ∀ x ∈ pre,TaskV h x) (by simp) ?_ ?_
  ·intro pre x post s n he hI hn
   have hx : x ∈ h.tasks := by rw [he]; simp
   unfold Yo
   refine Ok.step (AjR h.tasks x.process (by omega)) ?_
   have hJt : ¬ WfH h → Ok (Cd n true) (fun b => b = true ↔ WfH h) := bad
   refine Ok.ite (fun c => ?_) fun c => ?_
   ·have := of_decide_eq_true c
    exact hJt fun w => by have := (w.val x hx).pos; omega
   have hpos := of_decide_eq_false c
   have tail : (∀ y ∈ pre,y.id < x.id) → Ok (Option.bind (Ej h.tree x.group) fun r51 => (if (!r51) then ((Cd n) true) else (if (decide (x.user < 0)) then ((Cd n) true) else (if (decide (x.user > 1048576)) then ((Cd n) true) else (if (!((Bm h.tasks x.process).elim (zK,false) (fun y => (y,y.process == x.process))).2) then ((Cd n) true) else ((Cd n) (((Bm h.tasks x.process).elim (zK,false) (fun y => (y,y.process == x.process))).1.user != x.user))))))) (fun b => b = true ↔ WfH h) := by
    intro hlt
    refine Ok.step (Hd wt x.group) ?_
    refine Ok.ite (fun c => ?_) fun c => ?_
    ·exact hJt fun w => by have := (w.val x hx).grp; simp [this] at c
    have hg : Bd h.tree x.group = true := by simpa using c
    refine Ok.ite (fun c => ?_) fun c => ?_
    ·have := of_decide_eq_true c
     exact hJt fun w => by have := (w.val x hx).u1; omega
    have hu1 := of_decide_eq_false c
    refine Ok.ite (fun c => ?_) fun c => ?_
    ·have := of_decide_eq_true c
     exact hJt fun w => by have := (w.val x hx).u2; omega
    have hu2 := of_decide_eq_false c
    cases hk : Bm h.tasks x.process with
    | none =>
     simp only [Option.elim_none]
     exact hJt fun w => by
      obtain ⟨p,hp,_⟩ := (w.val x hx).ldr
      rw [hk] at hp
      simp at hp
    | some p =>
     simp only [Option.elim_some]
     refine Ok.ite (fun c => ?_) fun c => ?_
     ·exact hJt fun w => by
       obtain ⟨q,hq,hq2,_⟩ := (w.val x hx).ldr
       rw [hk] at hq
       obtain rfl : p = q := by simpa using hq
       simp [hq2] at c
     have hp2 : p.process = x.process := by simpa using c
     unfold Cd
     refine Ok.ite (fun c => ?_) fun c => ?_
     ·refine bad fun w => ?_
      obtain ⟨q,hq,_,hq3⟩ := (w.val x hx).ldr
      rw [hk] at hq
      obtain rfl : p = q := by simpa using hq
      simp [hq3] at c
     have hp3 : p.user = x.user := by simpa using c
     refine hn () ⟨?_,?_⟩
     ·rw [List.pairwise_append]
      exact ⟨hI.1,by simp,fun a ha b hb => by simp at hb; subst hb; exact hlt a ha⟩
     ·intro y hy
      rcases List.mem_append.mp hy with hy | hy
      ·exact hI.2 y hy
      ·obtain rfl : y = x := by simpa using hy
       exact ⟨by omega,hg,by omega,by omega,p,hk,hp2,hp3⟩
   refine Ok.ite (fun c => ?_) fun c => ?_
   ·have hk := of_decide_eq_true c
    rcases Px pre with rfl | ⟨pr,y,rfl⟩
    ·simp at hk
    have hw : w64 (((pr ++ [y]).length : Int) - 1) = (pr.length : Int) := by
     have : (pr ++ [y]).length ≤ h.tasks.length := by rw [he]; simp
     rw [Bz (by omega) (by omega)]
     simp
    have hle : pr.length < h.tasks.length := by rw [he]; simp
    have ey : h.tasks.getD (Int.toNat (pr.length : Int)) default = y := by
     rw [he,show Int.toNat (pr.length : Int) = pr.length by omega]
     exact Aff
    rw [hw,ey]
    refine Ok.guard (by omega) ?_
    refine Ok.ite (fun c => ?_) fun c => ?_
    ·have := of_decide_eq_true c
     refine hJt fun w => ?_
     have hs := w.sorted
     rw [he,List.pairwise_append] at hs
     have := hs.2.2 y (by simp) x (by simp)
     omega
    ·have hyx := of_decide_eq_false c
     refine tail fun z hz => ?_
     rcases List.mem_append.mp hz with hz | hz
     ·have := hI.1
      rw [List.pairwise_append] at this
      have := this.2.2 z hz y (by simp)
      omega
     ·obtain rfl : z = y := by simpa using hz
      omega
   ·have hk := of_decide_eq_false c
    have : pre = [] := List.length_eq_zero_iff.mp (by omega)
    subst this
    exact tail (by simp)
  ·intro _ hI
   refine Ok.ret ⟨fun _ => ⟨wt,hl,by omega,by omega,hI.1,?_,hI.2⟩,fun _ => rfl⟩
   intro x hx
   rcases Px h.tasks with e | ⟨P,y,e⟩
   ·rw [e] at hx; simp at hx
   ·have hy := hlast y (by rw [e]; simp)
    have hp := hI.1
    rw [e] at hp hx
    rw [List.pairwise_append] at hp
    rcases List.mem_append.mp hx with hx | hx
    ·have := hp.2.2 x hx y (by simp)
     omega
    ·obtain rfl : x = y := by simpa using hx
     exact hy
 refine Ok.ite (fun c => ?_) fun c => ?_
 ·have hpos := of_decide_eq_true c
  have hw : w64 ((h.tasks.length : Int) - 1) = ((h.tasks.length - 1 : Nat) : Int) := by
   rw [Bz (by omega) (by omega)]
   omega
  rw [hw]
  refine Ok.guard (by omega) ?_
  have : Int.toNat ((h.tasks.length - 1 : Nat) : Int) = h.tasks.length - 1 := by omega
  rw [this,Qp (by omega)]
  refine Ok.ite (fun c => ?_) fun c => ?_
  ·have := of_decide_eq_true c
   exact bad fun w => by have := w.lt _ (List.getElem_mem (show h.tasks.length - 1 < h.tasks.length by omega)); omega
  ·have := of_decide_eq_false c
   refine loop fun x hx => ?_
   rw [List.getLast?_eq_getElem?] at hx
   have e : h.tasks[h.tasks.length - 1]? = some h.tasks[h.tasks.length - 1] := List.getElem?_eq_getElem (by omega)
   rw [e] at hx
   obtain rfl : h.tasks[h.tasks.length - 1] = x := by simpa using hx
   omega
 ·have := of_decide_eq_false c
  have e : h.tasks = [] := List.length_eq_zero_iff.mp (by omega)
  exact loop (by rw [e]; simp)
theorem Jy {h : Aa} (w : WfH h) : Fv h = some true := by
 obtain ⟨b,hb,e⟩ := AaQ h
 rw [hb,e.mpr w]
theorem Acx {h : Aa} (w : ¬ WfH h) : Fv h = some false := by
 obtain ⟨b,hb,e⟩ := AaQ h
 cases b
 ·exact hb
 ·exact absurd (e.mp rfl) w
theorem Wh {h : Aa} (w : WfH h) (id : Int) : Fr h id = some ((Bm h.tasks id).elim (zK,false) (fun x => (x,true))) := by
 unfold Fr
 rw [Jy w]
 have := w.len
 simp only [Option.bind_some,Bool.not_true,Bool.false_eq_true,if_false]
 rw [if_pos (by omega)]
 exact Gj (fun k x n => rfl) rfl
theorem Ama {h : Aa} (w : ¬ WfH h) (id : Int) : Fr h id = some (zK,false) := by
 unfold Fr
 rw [Acx w]
 rfl
def Hk (h : Aa) (g : Int) : List Int := (h.tasks.filter (fun x => x.group == g)).map (·.id)
theorem Rm {h : Aa} (w : WfH h) (g : Int) : Ia h g = some (Hk h g) := by
 unfold Ia
 rw [Jy w]
 have := w.len
 simp only [Option.bind_some,Bool.not_true,Bool.false_eq_true,if_false]
 rw [if_pos (by omega)]
 refine (Kc (p := fun x : An => x.group == g) (f := fun x : An => x.id) (r := some) ?_ (fun _ => rfl) (by simp; omega)).trans (by simp [Hk])
 intro k x s n hs
 unfold Aco Ub
 rw [if_pos hs]
theorem AkZ {h : Aa} (w : ¬ WfH h) (g : Int) : Ia h g = some [] := by
 unfold Ia
 rw [Acx w]
 rfl
theorem AdD {L : List An} (h : L.Pairwise (fun a b => a.id < b.id)) {x y : An} (hx : x ∈ L) (hy : y ∈ L) (e : x.id = y.id) : x = y := by
 induction L with
 | nil => simp at hx
 | cons a r ih =>
  rw [List.pairwise_cons] at h
  rcases List.mem_cons.mp hx with ex | hx' <;> rcases List.mem_cons.mp hy with ey | hy'
  ·rw [ex,ey]
  ·have := h.1 y hy'; rw [ex] at e; omega
  ·have := h.1 x hx'; rw [ey] at e; omega
  ·exact ih h.2 hx' hy'
theorem Ox {L : List An} {id : Int} {x : An} (h : Bm L id = some x) : x ∈ L ∧ x.id = id :=
 ⟨List.mem_of_find?_eq_some h,by have := List.find?_some h; simpa using this⟩
theorem AgU {L : List An} (hs : L.Pairwise (fun a b => a.id < b.id)) {x : An} (h : x ∈ L) : Bm L x.id = some x := by
 unfold Bm
 cases hf : L.find? (fun y => y.id == x.id) with
 | none =>
  rw [List.find?_eq_none] at hf
  have := hf x h
  simp at this
 | some y =>
  have h1 := List.mem_of_find?_eq_some hf
  have h2 := List.find?_some hf
  rw [AdD hs h1 h (by simpa using h2)]
theorem getK_iff {L : List An} (hs : L.Pairwise (fun a b => a.id < b.id)) {id : Int} {x : An} : Bm L id = some x ↔ x ∈ L ∧ x.id = id :=
 ⟨Ox,fun ⟨h1,h2⟩ => by rw [← h2]; exact AgU hs h1⟩
end Go.Dm

/- Plain theory, part 8: tasks that come, go and move. -/
namespace Go.Dm
theorem AlD {α : Type} {M : List α} {m : Nat} {d : α} (h : m < M.length) : M.set m (M.getD m d) = M := by
 rw [Qp h]
 exact List.set_getElem_self h
theorem while_map {α R : Type} {f : α → α} {L : List α} {d : α} {body : List α × Int → (List α × Int → Option R) → Option R} {ret : List α → Option R} (hl : L.length ≤ 1000000)
  (hb : ∀ (M : List α) (m : Nat) n,M.length = L.length → m < L.length → body (M,(m : Int)) n = n (M.set m (f (M.getD m d)),((m + 1 : Nat) : Int)))
  (hr : ∀ (M : List α) n,M.length = L.length → body (M,(L.length : Int)) n = ret M) : whileO body Fy (L,0) = ret (L.map f) := by
 have key : ∀ (r m F : Nat),m + r = L.length → r < F → whileO body F ((L.take m).map f ++ L.drop m,(m : Int)) = ret (L.map f) := by
  intro r
  induction r with
  | zero =>
   intro m F hm hF
   obtain ⟨F,rfl⟩ : ∃ G,F = G + 1 := ⟨F - 1,by omega⟩
   obtain rfl : m = L.length := by omega
   rw [whileO,hr _ _ (by simp)]
   simp
  | succ r ih =>
   intro m F hm hF
   obtain ⟨F,rfl⟩ : ∃ G,F = G + 1 := ⟨F - 1,by omega⟩
   have hlt : m < L.length := by omega
   rw [whileO,hb _ _ _ (by simp; omega) hlt]
   have hd : L.drop m = L[m] :: L.drop (m + 1) := List.drop_eq_getElem_cons hlt
   have hml : (List.map f (List.take m L)).length = m := by
    rw [List.length_map,List.length_take]; omega
   have hg : ((L.take m).map f ++ L.drop m).getD m d = L[m] := by
    rw [hd,List.getD_eq_getElem?_getD,List.getElem?_append_right (by omega),hml,Nat.sub_self]
    rfl
   have ht : (L.take (m + 1)).map f ++ L.drop (m + 1) = (L.take m).map f ++ f L[m] :: L.drop (m + 1) := by
    have : L.take (m + 1) = L.take m ++ [L[m]] := by
     rw [List.take_add_one]; simp [hlt]
    rw [this,List.map_append,List.append_assoc]
    rfl
   rw [hg,hd,List.set_append_right _ _ (by omega),hml,Nat.sub_self,List.set_cons_zero,← ht]
   exact ih (m + 1) F (by omega) (by omega)
 have := key L.length 0 Fy (by omega) (by rw [Ov]; omega)
 simpa using this
def zH : Aa := { tree := zT,tasks := [],next := 0 }
theorem Ju (h : Aa) (h1 : h.tree.nodes.length ≤ 1000000) (h2 : h.tasks.length ≤ 1000000) : Lj h = some h := by
 unfold Lj
 rw [Yz _ (by omega),Option.bind_some,if_pos (by omega)]
def addK (h : Aa) (x : An) : Aa × Int × Int :=
 if decide (128 ≤ h.tasks.length) || decide (2147483647 < h.next) then (zH,0,7)
 else ({ tree := h.tree,tasks := h.tasks ++ [{ id := h.next,process := if x.process == 0 then h.next else x.process,group := x.group,user := x.user }],next := h.next + 1 },h.next,0)
theorem AiV {h : Aa} (w : WfH h) (x : An) : Aac h x = some (addK h x) := by
 have hl := w.len
 have h2 := w.tree.len2
 have hn := w.n1
 have hm := w.n2
 apply Ok.eq
 unfold Aac addK
 refine Ok.ite (fun c => ?_) fun c => ?_
 ·simp only [Bool.or_eq_true,decide_eq_true_eq] at c
  rw [if_pos]
  ·exact Ok.ret rfl
  ·simp only [Bool.or_eq_true,decide_eq_true_eq]
   omega
 ·simp only [Bool.or_eq_false_iff,decide_eq_false_iff_not] at c
  rw [if_neg]
  ·refine Ok.step (Ju h (by omega) (by omega)) ?_
   unfold Yu
   rw [Bz (by omega) (by omega)]
   refine Ok.ite (fun c => ?_) fun c => ?_
   ·rw [if_pos (c := (x.process == 0) = true) c]
    exact Ok.guard (by omega) (Ok.ret rfl)
   ·rw [if_neg (c := (x.process == 0) = true) (by rw [c]; simp)]
    exact Ok.guard (by omega) (Ok.ret rfl)
  ·simp only [Bool.or_eq_true,decide_eq_true_eq]
   omega
theorem AdF {L M : List An} {p : Int} : Bm (L ++ M) p = (Bm L p).or (Bm M p) := by
 unfold Bm
 rw [List.find?_append]
theorem addK_wf {h : Aa} (w : WfH h) {x : An} (hg : Bd h.tree x.group = true) (u1 : 0 ≤ x.user) (u2 : x.user ≤ 1048576) (hp : x.process = 0 ∨ x ∈ h.tasks) {r : Aa × Int × Int} (e : addK h x = r) (hr : r.2.2 = 0) : WfH r.1 := by
 have hl := w.len
 have hn := w.n1
 have hm := w.n2
 unfold addK at e
 split at e
 ·subst e; simp at hr
 rename_i hc
 simp only [Bool.or_eq_true,decide_eq_true_eq,not_or] at hc
 subst e
 have hlt := w.lt
 refine ⟨w.tree,by simp; omega,by simp only; omega,by simp only; omega,?_,?_,?_⟩
 ·rw [List.pairwise_append]
  exact ⟨w.sorted,by simp,fun a ha b hb => by simp at hb; subst hb; exact hlt a ha⟩
 ·intro y hy
  simp only
  rcases List.mem_append.mp hy with hy | hy
  ·have := hlt y hy
   omega
  ·simp at hy; subst hy; simp only; omega
 ·intro y hy
  rcases List.mem_append.mp hy with hy | hy
  ·have v := w.val y hy
   obtain ⟨p,q1,q2,q3⟩ := v.ldr
   exact ⟨v.pos,v.grp,v.u1,v.u2,p,by simp only; rw [AdF,q1]; rfl,q2,q3⟩
  ·rw [List.mem_singleton] at hy
   subst hy
   refine ⟨by simp only; omega,hg,u1,u2,?_⟩
   simp only
   have hq : (x.process = 0 ∧ (if (x.process == 0) = true then h.next else x.process) = h.next) ∨ (x.process ≠ 0 ∧ (if (x.process == 0) = true then h.next else x.process) = x.process) := by
    by_cases h0 : x.process = 0
    ·exact .inl ⟨h0,by rw [if_pos (by simp [h0])]⟩
    ·exact .inr ⟨h0,by rw [if_neg (by simpa using h0)]⟩
   generalize (if (x.process == 0) = true then h.next else x.process) = q at hq
   rcases hq with ⟨h0,rfl⟩ | ⟨h0,rfl⟩
   ·refine ⟨{ id := h.next,process := h.next,group := x.group,user := x.user },?_,rfl,rfl⟩
    rw [AdF]
    have : Bm h.tasks h.next = none := by
     unfold Bm
     rw [List.find?_eq_none]
     intro z hz
     have := hlt z hz
     simp; omega
    rw [this]
    simp [Bm]
   ·have v := w.val x (by rcases hp with h | h; exact absurd h h0; exact h)
    obtain ⟨p,q1,q2,q3⟩ := v.ldr
    exact ⟨p,by rw [AdF,q1]; rfl,q2,q3⟩
def AdN (h : Aa) (g u : Int) : Aa × Int × Int :=
 if decide (u < 0) || decide (1048576 < u) then (zH,0,1) else if !Bd h.tree g then (zH,0,4) else addK h { id := 0,process := 0,group := g,user := u }
theorem Ali {h : Aa} (w : WfH h) (g u : Int) : Rt h g u = some (AdN h g u) := by
 apply Ok.eq
 unfold Rt AdN
 refine Ok.step (Jy w) ?_
 simp only [Bool.not_true,Bool.false_eq_true,if_false]
 unfold Rc
 by_cases h1 : u < 0
 ·simp only [h1,decide_true,if_true,Bool.true_or]
  exact Ok.ret rfl
 by_cases h2 : u > 1048576
 ·have : 1048576 < u := by omega
  simp only [h2,decide_true,if_true,Bool.or_true,ite_self]
  exact Ok.ret rfl
 ·have h3 : ¬ 1048576 < u := by omega
  simp only [h1,h2,decide_false,Bool.or_self,Bool.false_eq_true,if_false]
  refine Ok.step (Hd w.tree g) ?_
  refine Ok.ite (fun c => ?_) fun c => ?_
  ·rw [if_pos c]; exact Ok.ret rfl
  ·rw [if_neg (c := (!Bd h.tree g) = true) (by rw [c]; simp)]
   refine Ok.step (AiV w _) (Ok.ret rfl)
theorem spawnK_wf {h : Aa} (w : WfH h) {g u : Int} {r : Aa × Int × Int} (e : AdN h g u = r) (hr : r.2.2 = 0) : WfH r.1 := by
 unfold AdN at e
 split at e
 ·subst e; simp at hr
 split at e
 ·subst e; simp at hr
 rename_i h1 h2
 simp only [Bool.or_eq_true,decide_eq_true_eq,not_or] at h1
 exact addK_wf w (by simpa using h2) (by simp only; omega) (by simp only; omega) (.inl rfl) e hr
def AiZ (h : Aa) (k : Int) : Aa × Int × Int := (Bm h.tasks k).elim (zH,0,4) (addK h)
theorem Alw {h : Aa} (w : WfH h) (k : Int) : Ya h k = some (AiZ h k) := by
 apply Ok.eq
 unfold Ya AiZ
 refine Ok.step (Jy w) ?_
 simp only [Bool.not_true,Bool.false_eq_true,if_false]
 refine Ok.step (Wh w k) ?_
 cases Bm h.tasks k with
 | none => exact Ok.ret rfl
 | some x =>
  simp only [Option.elim_some,Bool.not_true,Bool.false_eq_true,if_false]
  exact Ok.step (AiV w _) (Ok.ret rfl)
theorem cloneK_wf {h : Aa} (w : WfH h) {k : Int} {r : Aa × Int × Int} (e : AiZ h k = r) (hr : r.2.2 = 0) : WfH r.1 := by
 unfold AiZ at e
 cases hk : Bm h.tasks k with
 | none => rw [hk] at e; subst e; simp at hr
 | some x =>
  rw [hk] at e
  obtain ⟨hx,_⟩ := Ox hk
  have v := w.val x hx
  exact addK_wf w v.grp v.u1 v.u2 (.inr hx) e hr
def exitK (h : Aa) (k : Int) : Aa × Int :=
 (Bm h.tasks k).elim (zH,4) fun _ => ({ tree := h.tree,tasks := h.tasks.filter (fun x => x.id != k && x.process != k),next := h.next },0)
theorem Amo {h : Aa} (w : WfH h) (k : Int) : Aaz h k = some (exitK h k) := by
 have hl := w.len
 have h2 := w.tree.len2
 apply Ok.eq
 unfold Aaz exitK
 refine Ok.step (Jy w) ?_
 simp only [Bool.not_true,Bool.false_eq_true,if_false]
 refine Ok.step (Wh w k) ?_
 cases Bm h.tasks k with
 | none => exact Ok.ret rfl
 | some x =>
  simp only [Option.elim_some,Bool.not_true,Bool.false_eq_true,if_false]
  refine Ok.step (Yz _ (by omega)) ?_
  refine Ok.guard (by omega) ?_
  have e := Kc (p := fun x : An => x.id != k && x.process != k) (f := fun x : An => x) (xs := h.tasks) (s0 := []) (r := Aae h h.tree) (body := Aaj k) (done := Aae h h.tree) (fun k x s n hs => by
   unfold Aaj Wn
   rw [if_pos hs]) (fun _ => rfl) (by simp; omega)
  rw [e]
  refine Ok.ret ?_
  simp
theorem exitK_wf {h : Aa} (w : WfH h) {k : Int} {r : Aa × Int} (e : exitK h k = r) (hr : r.2 = 0) : WfH r.1 := by
 unfold exitK at e
 cases hk : Bm h.tasks k with
 | none => rw [hk] at e; subst e; simp at hr
 | some x =>
  rw [hk] at e
  subst e
  have hs : (h.tasks.filter (fun x => x.id != k && x.process != k)).Pairwise (fun a b => a.id < b.id) := w.sorted.sublist List.filter_sublist
  refine ⟨w.tree,Nat.le_trans (List.length_filter_le _ _) w.len,w.n1,w.n2,hs,fun y hy => w.lt y (List.mem_filter.mp hy).1,fun y hy => ?_⟩
  obtain ⟨hy,hc⟩ := List.mem_filter.mp hy
  have v := w.val y hy
  obtain ⟨p,q1,q2,q3⟩ := v.ldr
  obtain ⟨m1,m2⟩ := Ox q1
  simp only [Bool.and_eq_true,bne_iff_ne] at hc
  refine ⟨v.pos,v.grp,v.u1,v.u2,p,?_,q2,q3⟩
  refine (getK_iff hs).mpr ⟨List.mem_filter.mpr ⟨m1,?_⟩,m2⟩
  simp only [Bool.and_eq_true,bne_iff_ne]
  omega
def Qd (k g : Int) (y : An) : An := if y.id == k then { id := y.id,process := y.process,group := g,user := y.user } else y
def AdR (h : Aa) (k g : Int) : Aa × Int :=
 if (Bm h.tasks k).isSome && Bd h.tree g then ({ tree := h.tree,tasks := h.tasks.map (Qd k g),next := h.next },0) else (zH,4)
theorem Xs {h : Aa} (w : WfH h) (k g : Int) : Vl h k g = some (AdR h k g) := by
 have hl := w.len
 have h2 := w.tree.len2
 apply Ok.eq
 unfold Vl AdR
 refine Ok.step (Jy w) ?_
 simp only [Bool.not_true,Bool.false_eq_true,if_false]
 refine Ok.step (Wh w k) ?_
 cases hk : Bm h.tasks k with
 | none => exact Ok.ret rfl
 | some x =>
  simp only [Option.elim_some,Bool.not_true,Bool.false_eq_true,if_false,Option.isSome_some,Bool.true_and]
  refine Ok.step (Hd w.tree g) ?_
  unfold Um
  refine Ok.ite (fun c => ?_) fun c => ?_
  ·rw [if_neg (by simpa using c)]; exact Ok.ret rfl
  ·rw [if_pos (c := Bd h.tree g = true) (by simpa using c)]
   refine Ok.step (Ju h (by omega) (by omega)) ?_
   have e := while_map (f := Qd k g) (L := h.tasks) (d := default) (body := Ue k g h) (ret := fun M => some (({ tree := h.tree,tasks := M,next := h.next } : Aa),0)) (by omega) (fun M m n hM hm => by
    unfold Ue Ui
    simp only
    have em : Int.toNat (m : Int) = m := by omega
    rw [em,if_pos (by simp; omega),if_pos (by omega),if_pos (by omega),Bz (by omega) (by omega)]
    have ew : (m : Int) + 1 = ((m + 1 : Nat) : Int) := by omega
    rw [ew]
    by_cases hc : (M.getD m default).id = k
    ·rw [if_pos (by rw [hc]; simp),if_pos (by omega),if_pos (by omega),Qd,if_pos (by rw [hc]; simp)]
    ·have hc' : ((M.getD m default).id == k) = false := by simpa using hc
     rw [if_neg (by rw [hc']; simp),Qd,if_neg (by rw [hc']; simp),AlD (by omega)]) (fun M n hM => by
    unfold Ue
    simp only
    rw [hM,if_neg (by simp)])
   rw [e]
   exact Ok.ret rfl
theorem Kr (k g : Int) (y : An) : (Qd k g y).id = y.id ∧ (Qd k g y).process = y.process ∧ (Qd k g y).user = y.user := by
 unfold Qd
 split <;> exact ⟨rfl,rfl,rfl⟩
theorem AeJ {L : List An} {f : An → An} (hf : ∀ y ∈ L,(f y).id = y.id) {p : Int} : Bm (L.map f) p = (Bm L p).map f := by
 induction L with
 | nil => rfl
 | cons a r ih =>
  unfold Bm at *
  rw [List.map_cons,List.find?_cons,List.find?_cons,hf a (by simp)]
  cases (a.id == p)
  ·exact ih fun y hy => hf y (by simp [hy])
  ·rfl
theorem AcQ {h : Aa} (w : WfH h) {k g : Int} {r : Aa × Int} (e : AdR h k g = r) (hr : r.2 = 0) : WfH r.1 := by
 unfold AdR at e
 split at e
 case isFalse => subst e; simp at hr
 rename_i hc
 subst e
 simp only [Bool.and_eq_true] at hc
 refine ⟨w.tree,by simp; exact w.len,w.n1,w.n2,?_,?_,?_⟩
 ·rw [List.pairwise_map]
  refine w.sorted.imp fun h => ?_
  rw [(Kr k g _).1,(Kr k g _).1]
  exact h
 ·intro y hy
  obtain ⟨z,hz,rfl⟩ := List.mem_map.mp hy
  rw [(Kr k g _).1]
  exact w.lt z hz
 ·intro y hy
  obtain ⟨z,hz,rfl⟩ := List.mem_map.mp hy
  have v := w.val z hz
  obtain ⟨p,q1,q2,q3⟩ := v.ldr
  refine ⟨by rw [(Kr k g _).1]; exact v.pos,?_,by rw [(Kr k g _).2.2]; exact v.u1,by rw [(Kr k g _).2.2]; exact v.u2,Qd k g p,?_,?_,?_⟩
  ·unfold Qd
   split
   ·exact hc.2
   ·exact v.grp
  ·simp only
   rw [AeJ (fun y _ => (Kr k g y).1),(Kr k g _).2.1,q1]
   rfl
  ·rw [(Kr k g _).2.1,(Kr k g _).2.1,q2]
  ·rw [(Kr k g _).2.2,(Kr k g _).2.2,q3]
end Go.Dm

/- Plain theory, part 9: made hierarchies. -/
namespace Go.Dm
abbrev Tot {α : Type} (m : Option α) : Prop := Ok m (fun _ => True)
theorem Fa (t : Af) (id : Int) : Tot (Cw t id) := by
 by_cases h : WfT t
 ·exact Ok.of_eq (Qe h id) trivial
 ·exact Ok.of_eq (Aaf h id) trivial
theorem Aly (t : Af) (id : Int) : Tot (Ej t id) := by
 unfold Ej
 exact Ok.bind (Fa t id) fun _ _ => Ok.ret trivial
theorem Acb (t : Af) (id : Int) : (Gk t id).length ≤ t.nodes.length := by
 unfold Gk
 rw [List.length_map]
 exact List.length_filter_le _ _
theorem Abf (t : Af) (id : Int) : Ok (Hx t id) (fun l => l.length ≤ 64) := by
 by_cases h : WfT t
 ·refine Ok.of_eq (Tq h id) ?_
  have := Acb t id
  have := h.len2
  split
  ·omega
  ·simp
 ·unfold Hx
  refine Ok.step (AeV h id) ?_
  exact Ok.ret (by simp)
theorem AlV (t : Af) (id : Int) : (ancN t id).length ≤ t.nodes.length := by
 unfold ancN
 have := Rw t.nodes.reverse id
 simp at this
 split
 ·exact this
 ·simp
theorem AfT (t : Af) (id : Int) : Ok (Dt t id) (fun l => l.length ≤ 64) := by
 by_cases h : WfT t
 ·refine Ok.of_eq (Kn h id) ?_
  have := AlV t id
  have := h.len2
  omega
 ·unfold Dt
  refine Ok.step (AeV h id) ?_
  exact Ok.ret (by simp)
theorem Xg (h : Aa) (id : Int) : Tot (Fr h id) := by
 by_cases w : WfH h
 ·exact Ok.of_eq (Wh w id) trivial
 ·exact Ok.of_eq (Ama w id) trivial
theorem Vp (h : Aa) (id : Int) : Tot (Ia h id) := by
 by_cases w : WfH h
 ·exact Ok.of_eq (Rm w id) trivial
 ·exact Ok.of_eq (AkZ w id) trivial
theorem Xm {α β : Type} {body : Nat → α → Unit → (Unit → Option β) → Option β} {done : Unit → Option β} {xs : List α} (hb : ∀ k x n,Tot (n ()) → Tot (body k x () n)) (hd : Tot (done ())) : Tot (Bi body done xs 0 ()) :=
 Ok.range (fun _ _ => True) trivial (fun _ _ _ _ _ _ _ hn => hb _ _ _ (hn () trivial)) (fun _ _ => hd)
theorem Aix (t : Af) (id : Int) : Tot (Sv t id) := by
 unfold Sv
 refine Ok.bind (Fa _ _) fun _ _ => Ok.ite (fun _ => Ok.ret trivial) fun _ => ?_
 exact Ok.bind (Fa _ _) fun _ _ => Ok.ite (fun _ => Ok.ret trivial) fun _ => Ok.ret trivial
theorem AaB (t : Af) (id : Int) : Tot (Iz t id) := by
 unfold Iz
 have hJ : ∀ r y,Tot (Ii r y) := fun r y => by
  unfold Ii Kt
  exact Ok.ite (fun _ => Ok.ret trivial) fun _ => Ok.ret trivial
 refine Ok.bind (Fa _ _) fun _ _ => Ok.ite (fun _ => Ok.ret trivial) fun _ => Ok.ite (fun _ => ?_) fun _ => hJ _ _
 exact Ok.bind (Aix _ _) fun _ _ => hJ _ _
theorem Afi (h : Aa) : Ok (Mq h) (fun b => b = true → WfH h) := by
 unfold Mq
 by_cases w : WfH h
 ·have := w.tree.len2
  refine Ok.step (Jy w) (Ok.guard (by omega) ?_)
  refine Ok.mono (P := fun _ => True) ?_ fun _ _ _ => w
  refine Xm (fun k x n hn => ?_) (Ok.ret trivial)
  unfold Zb
  have hJ : ∀ b,Tot (Jq n b) := fun b => by
   unfold Jq
   exact Ok.ite (fun _ => Ok.ret trivial) fun _ => hn
  refine Ok.bind (AaB _ _) fun _ _ => Ok.ite (fun _ => hJ _) fun _ => Ok.ite (fun _ => Ok.ite (fun _ => ?_) fun _ => hJ _) fun _ => hJ _
  exact Ok.bind (Vp _ _) fun _ _ => hJ _
 ·exact Ok.step (Acx w) (Ok.ret fun e => by simp at e)
theorem Tu (t : Af) (id : Int) : Tot (Jg t id) := by
 unfold Jg
 refine Ok.bind (AfT _ _) fun l hl => Ok.guard (by omega) ?_
 refine Xm (fun k x n hn => ?_) (Ok.ret trivial)
 unfold Wz
 exact Ok.bind (Fa _ _) fun _ _ => Ok.ite (fun _ => Ok.ret trivial) fun _ => hn
theorem Yn (t : Af) (id : Int) (b : Bool) : Tot (Lc t id b) := by
 unfold Lc
 refine Ok.ite (fun _ => Ok.ret trivial) fun _ => ?_
 refine Ok.bind (Abf _ _) fun l hl => Ok.guard (by omega) ?_
 refine Xm (fun k x n hn => ?_) (Ok.ret trivial)
 unfold Aad
 exact Ok.bind (Fa _ _) fun _ _ => Ok.ite (fun _ => Ok.ret trivial) fun _ => hn
theorem AjM {t : Af} (w : WfT t) : ∀ (n : Nat) (id : Int),id.toNat < n → Tot (Ic n t id) := by
 intro n
 induction n with
 | zero => intro id h; omega
 | succ n ih =>
  intro id hlt
  unfold Ic Pr
  refine Ok.step (Qe w id) ?_
  cases hg : Hr t id with
  | none => exact Ok.ret trivial
  | some x =>
   obtain ⟨hx,hxi⟩ := Ur hg
   simp only [Option.elim_some,Bool.not_true,Bool.false_eq_true,if_false]
   refine Ok.ite (fun _ => Ok.ret trivial) fun _ => ?_
   refine Ok.step (Qe w x.parent) ?_
   cases hp : Hr t x.parent with
   | none => exact Yn t id false
   | some p =>
    obtain ⟨hpm,hpi⟩ := Ur hp
    simp only [Option.elim_some,if_true]
    refine Ok.ite (fun _ => Yn _ _ _) fun _ => ?_
    refine Ok.bind (ih p.id ?_) fun _ _ => Yn _ _ _
    have g1 := w.p.ge1 p hpm
    rcases w.p.par x hx with ⟨_,r⟩ | ⟨a,b,_⟩
    ·have := r.parent; omega
    ·omega
theorem Si (t : Af) (id : Int) : Tot (Ke t id) := by
 by_cases w : WfT t
 ·by_cases hid : id.toNat < Fy
  ·exact AjM w Fy id hid
  ·unfold Ke
   rw [Ov] at *
   unfold Ic Pr
   refine Ok.step (Qe w id) ?_
   cases hg : Hr t id with
   | none => exact Ok.ret trivial
   | some x =>
    obtain ⟨hx,hxi⟩ := Ur hg
    have := w.next x hx
    have := w.nextLe
    omega
 ·unfold Ke
  rw [Ov]
  unfold Ic Pr
  exact Ok.step (Aaf w id) (Ok.ret trivial)
theorem Qq (h : Aa) : Ok (Fq h) (fun b => b = true → WfH h) := by
 unfold Fq
 refine Ok.bind (Afi h) fun b hb => ?_
 refine Ok.ite (fun _ => Ok.ret fun e => by simp at e) fun c => ?_
 have w : WfH h := hb (by simpa using c)
 have := w.len
 have := w.tree.len2
 refine Ok.mono (P := fun _ => True) ?_ fun _ _ _ => w
 refine Ok.guard (by omega) (Xm (fun k x n hn => ?_) ?_)
 ·unfold Aao
  refine Ok.bind (Xg _ _) fun _ _ => Ok.bind (Tu _ _) fun _ _ => Ok.bind (Tu _ _) fun _ _ => ?_
  exact Ok.ite (fun _ => Ok.ret trivial) fun _ => hn
 ·unfold Aai
  refine Ok.guard (by omega) (Xm (fun k x n hn => ?_) (Ok.ret trivial))
  have h18 : ∀ b,Tot (Hq n b) := fun b => by
   unfold Hq
   exact Ok.ite (fun _ => Ok.ret trivial) fun _ => hn
  have h17 : ∀ r b,Tot (Jp h x n r b) := fun r b => by
   unfold Jp
   refine Ok.ite (fun _ => Ok.ret trivial) fun _ => Ok.ite (fun _ => Ok.ite (fun _ => Ok.ite (fun _ => h18 _) fun _ => ?_) fun _ => ?_) fun _ => h18 _
   ·exact Ok.bind (Si _ _) fun _ _ => h18 _
   ·exact Ok.bind (Si _ _) fun _ _ => h18 _
  unfold Aan
  refine Ok.bind (Fa _ _) fun _ _ => Ok.bind (Si _ _) fun _ _ => ?_
  refine Ok.ite (fun _ => Ok.ite (fun _ => h17 _ _) fun _ => ?_) fun _ => h17 _ _
  exact Ok.bind (Vp _ _) fun _ _ => h17 _ _
theorem AjU (h : Aa) (id a d : Int) : Tot (Rq h id a d) := by
 unfold Rq
 refine Ok.bind (Afi h) fun b hb => ?_
 have hf : Tot (Ht h id a d true) := Ok.ret trivial
 refine Ok.ite (fun _ => hf) fun c => ?_
 have w : WfH h := hb (by simpa using c)
 have := w.len
 have := w.tree.len2
 have hJ4 : ∀ r b,Tot (Ji h a d r b) := fun r b => by
  unfold Ji
  refine Ok.ite (fun _ => Ok.ret trivial) fun _ => ?_
  refine Ok.step (Ju h (by omega) (by omega)) ?_
  exact Ok.step (Wt h.tree _ (by omega)) (Ok.ret trivial)
 have hJ : ∀ b,Tot (Ht h id a d b) := fun b => by
  unfold Ht
  refine Ok.ite (fun _ => Ok.ret trivial) fun _ => ?_
  refine Ok.bind (Fa _ _) fun r _ => Ok.ite (fun _ => Ok.ret trivial) fun _ => ?_
  refine Ok.bind (AaB _ _) fun _ _ => Ok.ite (fun _ => Ok.ret trivial) fun _ => ?_
  refine Ok.bind (Abf _ _) fun l hl => Ok.guard (by omega) (Xm (fun k x n hn => ?_) ?_)
  ·unfold Yb
   exact Ok.bind (Fa _ _) fun _ _ => Ok.ite (fun _ => Ok.ret trivial) fun _ => hn
  ·unfold Uf
   refine Ok.ite (fun _ => Ok.ite (fun _ => ?_) fun _ => hJ4 _ _) fun _ => hJ4 _ _
   exact Ok.bind (Vp _ _) fun _ _ => hJ4 _ _
 unfold Zk
 refine Ok.step rfl (Ok.ite (fun _ => hf) fun _ => Ok.step rfl (Ok.ite (fun _ => hf) fun _ => hJ _))
theorem Akd (h : Aa) (id a d : Int) : Ok (Mu h id a d) (fun r => r.2 = 0 → WfH r.1) := by
 unfold Mu
 have bad : ∀ (x : Aa) (n : Int),n ≠ 0 → Ok (some (x,n)) (fun r : Aa × Int => r.2 = 0 → WfH r.1) := fun x n hn => Ok.ret fun e => absurd e hn
 refine Ok.bind (Qq h) fun _ _ => Ok.ite (fun _ => bad _ _ (by decide)) fun _ => ?_
 refine Ok.bind (AjU _ _ _ _) fun r _ => Ok.ite (fun c => bad _ _ (by simpa using c)) fun _ => ?_
 refine Ok.bind (Qq r.1) fun b hb => Ok.ite (fun _ => bad _ _ (by decide)) fun c => ?_
 exact Ok.ret fun _ => hb (by simpa using c)
theorem Aiq (h : Aa) (id : Int) : Ok (Lo h id) (fun r => r.2 = 0 → WfH r.1) := by
 unfold Lo
 have bad : ∀ (x : Aa) (n : Int),n ≠ 0 → Ok (some (x,n)) (fun r : Aa × Int => r.2 = 0 → WfH r.1) := fun x n hn => Ok.ret fun e => absurd e hn
 refine Ok.bind (Qq h) fun b hb => Ok.ite (fun _ => bad _ _ (by decide)) fun c => ?_
 have w : WfH h := hb (by simpa using c)
 have := w.len
 have := w.tree.len2
 have hJ : ∀ r b,Ok (Hg h id r b) (fun r => r.2 = 0 → WfH r.1) := fun r b => by
  unfold Hg
  refine Ok.ite (fun _ => bad _ _ (by decide)) fun _ => Ok.ite (fun _ => bad _ _ (by decide)) fun _ => ?_
  refine Ok.step (Ju h (by omega) (by omega)) (Ok.step (Wt h.tree _ (by omega)) ?_)
  refine Ok.bind (Vp _ _) fun _ _ => ?_
  unfold Ni
  refine Ok.ite (fun _ => bad _ _ (by decide)) fun _ => ?_
  refine Ok.bind (Qq _) fun b hb => Ok.ite (fun _ => bad _ _ (by decide)) fun c => ?_
  exact Ok.ret fun _ => hb (by simpa using c)
 refine Ok.bind (Fa _ _) fun _ _ => Ok.ite (fun _ => bad _ _ (by decide)) fun _ => Ok.ite (fun _ => bad _ _ (by decide)) fun _ => ?_
 refine Ok.bind (Fa _ _) fun _ _ => Ok.bind (Si _ _) fun _ _ => Ok.ite (fun _ => hJ _ _) fun _ => Ok.ite (fun _ => hJ _ _) fun _ => hJ _ _
theorem Adh (h : Aa) (g : Int) : Tot (Lb h g) := by
 unfold Lb
 refine Ok.bind (Qq h) fun b hb => Ok.ite (fun _ => Ok.ret trivial) fun c => ?_
 refine Ok.bind (Fa _ _) fun _ _ => Ok.ite (fun _ => Ok.ret trivial) fun _ => ?_
 refine Ok.bind (Si _ _) fun _ _ => Ok.ite (fun _ => Ok.ret trivial) fun _ => Ok.ite (fun _ => Ok.ret trivial) fun _ => Ok.ret trivial
theorem AeI (h : Aa) (k g : Int) : Ok (Gf h k g) (fun r => r.2 = 0 → WfH r.1) := by
 unfold Gf
 have bad : ∀ (x : Aa) (n : Int),n ≠ 0 → Ok (some (x,n)) (fun r : Aa × Int => r.2 = 0 → WfH r.1) := fun x n hn => Ok.ret fun e => absurd e hn
 refine Ok.bind (Qq h) fun b hb => Ok.ite (fun _ => bad _ _ (by decide)) fun c => ?_
 have w : WfH h := hb (by simpa using c)
 have hJ : ∀ r b,Ok (Gi h k g r b) (fun r => r.2 = 0 → WfH r.1) := fun r b => by
  unfold Gi
  refine Ok.ite (fun _ => bad _ _ (by decide)) fun _ => ?_
  refine Ok.bind (Adh _ _) fun _ _ => Ok.ite (fun c => bad _ _ (by simpa using c)) fun _ => ?_
  refine Ok.bind (Tu _ _) fun _ _ => Ok.bind (Tu _ _) fun _ _ => Ok.ite (fun _ => bad _ _ (by decide)) fun _ => ?_
  exact Ok.step (Xs w k g) (Ok.ret fun e => AcQ w rfl e)
 refine Ok.bind (Xg _ _) fun _ _ => Ok.ite (fun _ => hJ _ _) fun _ => Ok.bind (Aly _ _) fun _ _ => hJ _ _
theorem step_ok {d : Aq} (hd : Bp d) {h : Aa} (w : WfH h) : Ok (Rd d h) (fun r => WfH r.1 ∧ Bp r.2) := by
 have l1 := w.len
 have l2 := w.tree.len2
 unfold Rd
 refine Ok.bind (AeM hd h.tree (by omega)) fun r1 h1 => Ok.bind (Kp h1 5 (by omega)) fun r2 h2 => ?_
 have hJ1 : ∀ y : Aq × Aa,Bp y.1 → WfH y.2 → Ok (Gu y) (fun r => WfH r.1 ∧ Bp r.2) := fun y a b => Ok.ret ⟨b,a⟩
 have hJ : ∀ b,Ok (Ks h r1 r2 b) (fun r => WfH r.1 ∧ Bp r.2) := fun b => by
  unfold Ks
  refine Ok.ite (fun _ => ?_) fun _ => Ok.ite (fun _ => ?_) fun _ => Ok.ite (fun _ => ?_) fun _ => hJ1 _ h2.1 w
  ·refine Ok.bind (Vd h2.1) fun r3 h3 => Ok.bind (Akd _ _ _ _) fun r4 h4 => Ok.ite (fun c => ?_) fun _ => hJ1 _ h3.1 w
   exact Ok.ret ⟨h4 (by simpa using c),h3.1⟩
  ·refine Ok.bind (Aiq _ _) fun r4 h4 => Ok.ite (fun c => ?_) fun _ => hJ1 _ h2.1 w
   exact Ok.ret ⟨h4 (by simpa using c),h2.1⟩
  ·refine Ok.step (Qe w.tree _) (Ok.ite (fun c => ?_) fun _ => hJ1 _ h2.1 w)
   cases hg : Hr h.tree r1.1 with
   | none => rw [hg] at c; simp at c
   | some x =>
    obtain ⟨hx,hxi⟩ := Ur hg
    simp only [Option.elim_some]
    refine Ok.bind (Dg h2.1 3 (by omega) (by omega)) fun r3 h3 => ?_
    refine Ok.step (Wt _ _ (by omega)) (hJ1 _ h3.1 ?_)
    have v := w.tree.p.val x hx
    have wt := setT_wf w.tree (x := { id := x.id,parent := x.parent,name := x.name,control := x.control,kind := x.kind,owner := r3.1 }) hx rfl rfl rfl ⟨v.kind,v.c1,v.c2,h3.2.1,by simp only; omega⟩ (fun e => by
     rcases w.tree.p.par x hx with ⟨_,r⟩ | ⟨a,b,_⟩
     ·exact r.kind
     ·omega)
    refine ⟨wt,w.len,w.n1,w.n2,w.sorted,w.lt,fun y hy => ?_⟩
    have u := w.val y hy
    refine ⟨u.pos,?_,u.u1,u.u2,u.ldr⟩
    obtain ⟨z,hz,hzi⟩ := hasN_iff.mp u.grp
    refine hasN_iff.mpr ⟨Th _ z,List.mem_map.mpr ⟨z,hz,rfl⟩,?_⟩
    unfold Th
    split
    ·rename_i q
     have q : z.id = x.id := by simpa using q
     simp only
     omega
    ·exact hzi
 exact Ok.ite (fun _ => hJ _) fun _ => hJ _
theorem Alv {d : Aq} (hd : Bp d) (n m : Int) (n0 : 0 ≤ n) (n1 : n ≤ 100) (m0 : 0 ≤ m) (m1 : m ≤ 100) : Ok (Kh d n m) (fun r => WfH r.1 ∧ Bp r.2) := by
 unfold Kh
 refine Ok.step (a := { tree := newT,tasks := [],next := 1 }) rfl ?_
 refine Ok.bind (Tree_ok hd n n0 (by omega)) fun r1 ⟨w1,h1⟩ => ?_
 rw [Bz (by omega) (by omega)]
 refine Ok.bind (Dg h1 (n + 3) (by omega) (by omega)) fun r2 ⟨h2,a1,a2⟩ => ?_
 refine Ok.while (fun s => Bp s.1 ∧ WfH s.2.1 ∧ s.2.2 ≤ 2000) (fun s => s.2.2.toNat) ⟨h2,?_,by simp only; omega⟩ (by rw [Ov]; simp only; omega) ?_
 ·exact ⟨w1,by simp,by simp,by simp,by simp,by simp,by simp⟩
 rintro ⟨d,h,c⟩ k ⟨b1,b2,b3⟩ hk
 simp only at b1 b2 b3 hk
 unfold Ro
 simp only
 refine Ok.ite (fun c1 => ?_) fun _ => ?_
 ·have hc := of_decide_eq_true c1
  refine Ok.bind (step_ok b1 b2) fun r3 h3 => ?_
  rw [Bz (by omega) (by omega)]
  exact hk _ ⟨h3.2,h3.1,by simp only; omega⟩ (by simp only; omega)
 rw [Bz (by omega) (by omega)]
 refine Ok.bind (Dg b1 (m + 1) (by omega) (by omega)) fun r3 ⟨h3,a3,a4⟩ => ?_
 clear hk
 refine Ok.while (fun s => Bp s.1 ∧ WfH s.2.1 ∧ s.2.2 ≤ 2000) (fun s => s.2.2.toNat) ⟨h3,b2,by simp only; omega⟩ (by rw [Ov]; simp only; omega) ?_
 clear b1 b2 b3
 rintro ⟨d,h,c⟩ k ⟨b1,b2,b3⟩ hk
 simp only at b1 b2 b3 hk
 unfold Qy
 simp only
 refine Ok.ite (fun c1 => ?_) fun _ => Ok.ret ⟨b2,b1⟩
 have hc := of_decide_eq_true c1
 have l1 := b2.len
 have l2 := b2.tree.len2
 have hw : w64 (c - 1) = c - 1 := Bz (by omega) (by omega)
 have hJ13 : ∀ y : Aq × Aa,Bp y.1 → WfH y.2 → Ok (Dq (d,h,c) k y) (fun r => WfH r.1 ∧ Bp r.2) := fun y y1 y2 => by
  unfold Dq
  simp only
  rw [hw]
  exact hk _ ⟨y1,y2,by simp only; omega⟩ (by simp only; omega)
 have hJ16 : ∀ y : Aq × Aa,Bp y.1 → WfH y.2 → Ok (Es (d,h,c) k y) (fun r => WfH r.1 ∧ Bp r.2) := fun y y1 y2 => by
  unfold Es
  refine Ok.bind (Aaa y1 8 (by omega)) fun r4 h4 => Ok.ite (fun _ => ?_) fun _ => hJ13 _ h4 y2
  have := y2.len
  refine Ok.bind (AgN h4 _ (by omega)) fun r5 h5 => Ok.step (Amo y2 _) (Ok.ite (fun c => ?_) fun _ => hJ13 _ h5 y2)
  exact hJ13 _ h5 (exitK_wf y2 rfl (by simpa using c))
 have hJ15 : ∀ y : Aq × Aa,Bp y.1 → WfH y.2 → Ok (Et (d,h,c) k y) (fun r => WfH r.1 ∧ Bp r.2) := fun y y1 y2 => by
  unfold Et
  refine Ok.bind (Aaa y1 4 (by omega)) fun r4 h4 => Ok.ite (fun _ => ?_) fun _ => hJ16 _ h4 y2
  have := y2.len
  have := y2.tree.len2
  refine Ok.bind (AgN h4 _ (by omega)) fun r5 h5 => Ok.bind (AeM h5 _ (by omega)) fun r6 h6 => Ok.bind (AeI _ _ _) fun r7 h7 => Ok.ite (fun c => ?_) fun _ => hJ16 _ h6 y2
  exact hJ16 _ h6 (h7 (by simpa using c))
 have hJ14 : ∀ (r : Int × Aq) (y : Aa),Bp r.2 → WfH y → Ok (Gc (d,h,c) k r y) (fun r => WfH r.1 ∧ Bp r.2) := fun r y y1 y2 => by
  unfold Gc
  refine Ok.bind (Aaa y1 3 (by omega)) fun r4 h4 => Ok.ite (fun _ => ?_) fun _ => hJ15 _ h4 y2
  have := y2.len
  refine Ok.bind (AgN h4 _ (by omega)) fun r5 h5 => Ok.step (Alw y2 _) (Ok.ite (fun c => ?_) fun _ => hJ15 _ h5 y2)
  exact hJ15 _ h5 (cloneK_wf y2 rfl (by simpa using c))
 refine Ok.bind (AeM b1 _ (by omega)) fun r4 h4 => Ok.bind (Adh _ _) fun _ _ => Ok.ite (fun _ => hJ13 _ h4 b2) fun _ => ?_
 refine Ok.bind (Dg h4 3 (by omega) (by omega)) fun r5 h5 => Ok.step (Ali b2 _ _) (Ok.ite (fun c => ?_) fun _ => hJ14 _ _ h5.1 b2)
 exact hJ14 _ _ h5.1 (spawnK_wf b2 rfl (by simpa using c))
end Go.Dm

/- Plain theory, part 10: the program's own Check of trees. -/
namespace Go.Dm
theorem AhL (bs : ByteArray) (i : Nat) (r : List UInt8) : ByteArray.toList.loop bs i r = r.reverse ++ bs.data.toList.drop i := by
 by_cases h : i < bs.size
 ·rw [ByteArray.toList.loop,if_pos h,AhL bs (i + 1)]
  have hd : bs.data.toList.drop i = bs.get! i :: bs.data.toList.drop (i + 1) := by
   rw [List.drop_eq_getElem_cons (show i < bs.data.toList.length from h)]
   congr 1
   have : bs.get! i = bs.data[i]! := rfl
   rw [this,getElem!_pos bs.data i h]
   simp
  rw [hd]
  simp
 ·rw [ByteArray.toList.loop,if_neg h,List.drop_of_length_le (by simpa using h)]
  simp
termination_by bs.size - i
theorem Amn (bs : ByteArray) : bs.toList = bs.data.toList := by
 unfold ByteArray.toList
 rw [AhL]
 simp
theorem beqS_eq {a b : ByteArray} (h : Cz a b = true) : a = b := by
 simp only [Cz,beq_iff_eq,Amn] at h
 exact ByteArray.ext (Array.toList_inj.mp h)
theorem Alz {c : Int} (h0 : 0 ≤ c) (h : c ≤ 31) : Az .i64 c 31 = 0 := by
 have : ∀ n : Fin 32,Az .i64 ((n.val : Nat) : Int) 31 = 0 := by decide
 have := this ⟨c.toNat,by omega⟩
 simpa [Int.toNat_of_nonneg h0] using this
theorem Alg {c : Int} (h : 31 < c) (hc : c < 9223372036854775808) : Az .i64 c 31 ≠ 0 := by
 obtain ⟨n,rfl⟩ : ∃ n : Nat,c = (n : Int) := ⟨c.toNat,by omega⟩
 intro e
 unfold Az at e
 have hb : IntKind.i64.bits = 64 := rfl
 rw [hb] at e
 generalize hx : (BitVec.ofInt 64 (n : Int) &&& ~~~(BitVec.ofInt 64 31)) = x at e
 have hn : ∀ i,5 ≤ i → n.testBit i = false := by
  intro i hi
  by_cases h63 : i < 63
  ·have h0 : x.toNat < 2 ^ 64 := x.isLt
   have hle : x.toNat ≤ n := by
    rw [← hx,BitVec.toNat_and]
    refine Nat.le_trans Nat.and_le_left ?_
    rw [BitVec.ofInt_natCast,BitVec.toNat_ofNat]
    exact Nat.mod_le _ _
   have hw : IntKind.i64.wrap ((x.toNat : Nat) : Int) = ((x.toNat : Nat) : Int) := AcY (by omega) (by omega)
   rw [hw] at e
   have hx0 : x = 0#64 := by
    apply BitVec.eq_of_toNat_eq
    simp
    omega
   have : x.getLsbD i = false := by rw [hx0]; simp
   rw [← hx,BitVec.getLsbD_and,BitVec.getLsbD_not] at this
   have h31 : (BitVec.ofInt 64 31).getLsbD i = false := by
    have : (BitVec.ofInt 64 31) = BitVec.ofNat 64 31 := rfl
    rw [this,BitVec.getLsbD_ofNat]
    have : Nat.testBit 31 i = false := Nat.testBit_lt_two_pow (Nat.lt_of_lt_of_le (by decide : 31 < 2 ^ 5) (Nat.pow_le_pow_right (by decide) hi))
    simp [this]
   rw [h31] at this
   have e2 : (BitVec.ofInt 64 (n : Int)).getLsbD i = n.testBit i := by
    rw [BitVec.ofInt_natCast,BitVec.getLsbD_ofNat]
    simp
    omega
   rw [e2] at this
   have h64 : i < 64 := by omega
   simpa [h64] using this
  ·exact Nat.testBit_lt_two_pow (Nat.lt_of_lt_of_le (show n < 2 ^ 63 by omega) (Nat.pow_le_pow_right (by decide) (by omega)))
 have : n < 2 ^ 5 := Nat.lt_pow_two_of_testBit n hn
 omega
theorem Afo (s : ByteArray) (h : s.size ≤ 9223372036854775807) : Vf s = some (Dy s) := by
 apply Ok.eq
 unfold Vf
 refine Ok.guard (by rw [Sp]; exact h) ?_
 refine Ok.range (fun pre _ => pre.all Ri = true) rfl ?_ ?_
 ·intro pre x post _ n e hI hn
  unfold Acn Abo
  refine Ok.step rfl ?_
  refine Ok.ite (fun c => ?_) fun c => ?_
  ·refine Ok.ret ?_
   have : (Jh s).all Ri = false := by
    rw [e,List.all_append,List.all_cons]
    have : Ri x = false := by simpa only [Ri,Bool.not_eq_true'] using c
    simp [this]
   simp [Dy,this]
  ·refine hn () ?_
   have : Ri x = true := by simpa only [Ri,Bool.not_eq_false'] using c
   rw [List.all_append,hI]
   simp [this]
 ·intro _ hI
  unfold Acv Rg
  refine Ok.ite (fun c => ?_) fun c => ?_
  ·have hs : 0 < s.size := by
    rcases Nat.eq_zero_or_pos s.size with h0 | h0
    ·exfalso
     have : s = ByteArray.empty := by
      apply ByteArray.ext
      apply Array.ext
      ·exact h0
      ·intro i h1 h2
       simp at h2
     rw [this] at c
     simp [Agd] at c
    ·exact h0
   refine Ok.ite (fun c2 => ?_) fun c2 => ?_
   ·have := of_decide_eq_true c2
    refine Ok.guard hs (Ok.ret ?_)
    have h32 : s.size ≤ 32 := by omega
    simp [Dy,hs,h32,hI]
   ·have := of_decide_eq_false c2
    refine Ok.ret ?_
    have h32 : ¬ s.size ≤ 32 := by omega
    simp [Dy,h32]
  ·refine Ok.ret ?_
   have : s.size = 0 := by
    rw [beqS_eq (a := s) (b := ByteArray.empty) (by simpa using c)]
    rfl
   simp [Dy,this]
end Go.Dm

/- Plain theory, part 11: the program's Check of trees is the document's. -/
namespace Go.Dm
def AcR (x : Ah) : Prop := x.name.size ≤ 9223372036854775807 ∧ x.control < 9223372036854775808
theorem Alb {pre : List Ah} {y x : Ah} (hl : pre.length ≤ 1000000) (hx : AcR x) :
  AaD (pre ++ [y]) x = some (decide (y.id < x.id) && Dy x.name && (x.kind == 0 || x.kind == 1) && (pre ++ [y]).any (fun k => k.id == x.parent) && (pre ++ [y]).all (fun k => !(k.parent == x.parent && Cz k.name x.name))) := by
 apply Ok.eq
 unfold AaD
 have hw : w64 (((pre ++ [y]).length : Int) - 1) = (pre.length : Int) := by
  rw [Bz (by simp) (by simp; omega)]
  simp
 have ey : (pre ++ [y]).getD (Int.toNat (pre.length : Int)) default = y := by
  rw [show Int.toNat (pre.length : Int) = pre.length by omega]
  exact Aca (post := [])
 rw [hw,ey]
 refine Ok.guard (by simp; omega) ?_
 refine Ok.ite (fun c => ?_) fun c => ?_
 ·have := of_decide_eq_true c
  have : ¬ y.id < x.id := by omega
  refine Ok.ret ?_
  simp [this]
 have hlt : y.id < x.id := by
  have := of_decide_eq_false c
  omega
 refine Ok.step (Afo _ hx.1) ?_
 refine Ok.ite (fun c => ?_) fun c => ?_
 ·refine Ok.ret ?_
  have : Dy x.name = false := by simpa using c
  simp [this]
 have hv : Dy x.name = true := by simpa using c
 have hloop : (x.kind == 0 || x.kind == 1) = true → Ok (Ky (pre ++ [y]) x false) (· = (decide (y.id < x.id) && Dy x.name && (x.kind == 0 || x.kind == 1) && (pre ++ [y]).any (fun k => k.id == x.parent) && (pre ++ [y]).all (fun k => !(k.parent == x.parent && Cz k.name x.name)))) := by
  intro hk
  rw [hk,hv]
  simp only [hlt,decide_true,Bool.and_self,Bool.true_and]
  have hlp : (pre ++ [y]).length ≤ 9223372036854775807 := by simp; omega
  generalize pre ++ [y] = P at *
  unfold Ky
  refine Ok.guard hlp ?_
  refine Ok.range (fun pre s => s = pre.any (fun k => k.id == x.parent) ∧ pre.all (fun k => !(k.parent == x.parent && Cz k.name x.name)) = true) ⟨rfl,rfl⟩ ?_ ?_
  ·intro q z post s n e hI hn
   unfold Adu
   refine Ok.ite (fun c => ?_) fun c => ?_
   ·refine Ok.ret ?_
    have : P.all (fun k => !(k.parent == x.parent && Cz k.name x.name)) = false := by
     rw [e,List.all_append,List.all_cons,c]
     simp
    rw [this,Bool.and_false]
   ·refine hn _ ⟨?_,?_⟩
    ·rw [List.any_append,← hI.1]
     simp
    ·rw [List.all_append,hI.2,List.all_cons,c]
     rfl
  ·intro s hI
   refine Ok.ret ?_
   rw [hI.2,Bool.and_true]
   exact hI.1
 have hbad : (x.kind == 0 || x.kind == 1) = false → Ok (Ky (pre ++ [y]) x true) (· = (decide (y.id < x.id) && Dy x.name && (x.kind == 0 || x.kind == 1) && (pre ++ [y]).any (fun k => k.id == x.parent) && (pre ++ [y]).all (fun k => !(k.parent == x.parent && Cz k.name x.name)))) := by
  intro hk
  refine Ok.ret ?_
  rw [hk]
  simp
 refine Ok.ite (fun c => ?_) fun c => ?_
 ·have h0 : ¬ x.kind = 0 := by simpa using c
  by_cases h1 : x.kind = 1
  ·have : (x.kind != 1) = false := by simp [h1]
   rw [this]
   exact hloop (by simp [h1])
  ·have : (x.kind != 1) = true := by simpa using h1
   rw [this]
   exact hbad (by simp [h0,h1])
 ·exact hloop (by
   have : x.kind = 0 := by simpa using c
   simp [this])
theorem nodes_pre {L pre post : List Ah} {x : Ah} (h : WfP L) (e : L = pre ++ x :: post) (hp : pre ≠ []) : WfP pre ∧ Tr x ∧ NodeS pre x := by
 induction h generalizing post with
 | root z v r =>
  exfalso
  have : (pre ++ x :: post).length = 1 := by rw [← e]; rfl
  simp at this
  have := List.length_pos_iff.mpr hp
  omega
 | snoc L z w v s ih =>
  rcases Px post with rfl | ⟨p',u,rfl⟩
  ·have := List.append_inj' (s₁ := L) (t₁ := [z]) (s₂ := pre) (t₂ := [x]) (by simpa using e) rfl
   obtain ⟨rfl,e2⟩ := this
   obtain rfl : z = x := by simpa using e2
   exact ⟨w,v,s⟩
  ·have e2 : L ++ [z] = (pre ++ x :: p') ++ [u] := by simpa using e
   have := List.append_inj' e2 rfl
   exact ih this.1
theorem up_pre {L pre post : List Ah} (h : WfP L) (e : L = pre ++ post) (hp : WfP pre) {x : Ah} (hx : x ∈ pre) : upR L.reverse x.id = upR pre.reverse x.id := by
 rw [e,List.reverse_append]
 refine AaW fun y hy => ?_
 have hs := h.sorted
 rw [e,List.pairwise_append] at hs
 have := hs.2.2 x hx y (by simpa using hy)
 omega
theorem Afc (t : Af) (hm : ∀ x ∈ t.nodes,AcR x) : Ok (Kx t) (fun b => b = true ↔ WfT t) := by
 have bad : ¬ WfT t → Ok (some false) (fun b => b = true ↔ WfT t) := fun hn => Ok.ret ⟨fun e => by simp at e,fun w => absurd w hn⟩
 unfold Kx
 refine Ok.ite (fun c => ?_) fun c => ?_
 ·have := of_decide_eq_true c
  exact bad fun w => by have := w.len1; omega
 have l1 := of_decide_eq_false c
 refine Ok.ite (fun c => ?_) fun c => ?_
 ·have := of_decide_eq_true c
  exact bad fun w => by have := w.len2; omega
 have l2 := of_decide_eq_false c
 refine Ok.guard (by omega) ?_
 unfold Add
 refine Ok.step rfl ?_
 unfold Qo
 have hroot0 : WfT t → ((((t.nodes.getD 0 default).id == 1 && (t.nodes.getD 0 default).parent == 0) && Cz (t.nodes.getD 0 default).name ByteArray.empty) && (t.nodes.getD 0 default).kind == 0) = true := by
  intro w
  obtain ⟨x,r,e,hr⟩ := w.root
  rw [e]
  simp [hr.id,hr.parent,hr.name,hr.kind]
 refine Ok.ite (fun c => ?_) fun c => ?_
 ·exact bad fun w => by rw [hroot0 w] at c; simp at c
 have hR : AcT (t.nodes.getD 0 default) := by
  simp only [Bool.not_eq_false',Bool.and_eq_true,beq_iff_eq] at c
  exact ⟨c.1.1.1,c.1.1.2,c.1.2,c.2⟩
 refine Ok.guard (by omega) ?_
 refine Ok.range (fun pre s => (pre = [] ∧ ∀ i,s.get i = 0) ∨ (WfP pre ∧ (∀ y ∈ pre,s.get y.id = ((upR pre.reverse y.id).length : Int) - 1 ∧ (upR pre.reverse y.id).length ≤ 9) ∧ ∀ i,(∀ y ∈ pre,y.id ≠ i) → s.get i = 0)) (.inl ⟨rfl,fun i => rfl⟩) ?_ ?_
 ·intro pre x post s n he hI hn
  have hxm : x ∈ t.nodes := by rw [he]; simp
  have hJ : ∀ b,(b = true → ¬ WfT t) → (b = false → Tr x ∧ (pre ≠ [] → NodeS pre x)) → (Tr x → pre = [] → AcT x) → Ok (Gx pre.length x s n b) (fun b => b = true ↔ WfT t) := by
   intro b hbt hbf hroot
   unfold Gx
   refine Ok.ite (fun c => bad (hbt c)) fun c => ?_
   obtain ⟨hv,hs⟩ := hbf c
   unfold Up
   rcases hI with ⟨rfl,hz⟩ | ⟨hw,hd,hz⟩
   ·simp only [List.length_nil,Int.ofNat_eq_natCast,Int.cast_ofNat_Int,gt_iff_lt,Int.lt_irrefl,decide_false,Bool.false_eq_true,if_false]
    rw [hz]
    simp only [Int.reduceLT,decide_false,Bool.false_eq_true,if_false]
    have hr := hroot hv rfl
    refine hn _ (.inr ⟨.root x hv hr,?_,fun i _ => hz i⟩)
    intro y hy
    obtain rfl : y = x := by simpa using hy
    rw [hz]
    simp [upR,hr.parent]
   ·have hne : pre ≠ [] := by
     intro e
     have := hw.pos
     simp [e] at this
    have hs := hs hne
    have hpos := hw.pos
    have hgt : decide (((pre.length : Nat) : Int) > 0) = true := by simp; omega
    rw [hgt]
    simp only [if_true]
    obtain ⟨p,hp,hpp⟩ := hs.parent
    have hdp := hd p hp
    rw [hpp] at hdp
    have hup : upR (pre ++ [x]).reverse x.id = x.id :: upR pre.reverse x.parent := by
     rw [List.reverse_append,List.reverse_cons,List.reverse_nil,List.nil_append,List.singleton_append,upR,if_pos (by simp)]
    have hgx : (s.set x.id (w64 (s.get x.parent + 1))).get x.id = ((upR pre.reverse x.parent).length : Int) := by
     rw [Adx,if_pos rfl,hdp.1,Bz (by omega) (by omega)]
     omega
    have hwx : WfP (pre ++ [x]) := .snoc pre x hw hv hs
    refine Ok.ite (fun c => ?_) fun c => ?_
    ·refine bad fun w => ?_
     have := of_decide_eq_true c
     rw [hgx] at this
     have hdx := w.depth x hxm
     unfold upT at hdx
     rw [up_pre w.p (show t.nodes = (pre ++ [x]) ++ post by rw [he]; simp) hwx (by simp),hup] at hdx
     simp at hdx
     omega
    ·have hle := of_decide_eq_false c
     rw [hgx] at hle
     refine hn _ (.inr ⟨hwx,?_,?_⟩)
     ·intro y hy
      rcases List.mem_append.mp hy with hy | hy
      ·have hlt := hs.lt y hy
       rw [Adx,if_neg (by omega),Acc (by omega)]
       exact hd y hy
      ·obtain rfl : y = x := by simpa using hy
       rw [hgx,hup]
       simp
       omega
     ·intro i hi
      have := hi x (by simp)
      rw [Adx,if_neg (by omega)]
      exact hz i fun y hy => hi y (by simp [hy])
  have hroot : Tr x → pre = [] → AcT x := by
   intro _ e
   subst e
   rw [he] at hR
   exact hR
  unfold AbN
  have hbad : ∀ P : Prop,(WfT t → P) → ¬ P → Ok (Gx pre.length x s n true) (fun b => b = true ↔ WfT t) := fun P h1 h2 => hJ true (fun _ w => h2 (h1 w)) (by simp) hroot
  refine Ok.ite (fun c => ?_) fun c => ?_
  ·have := of_decide_eq_true c
   exact hbad (0 ≤ x.control) (fun w => (w.p.val x hxm).c1) (by omega)
  have c1 := of_decide_eq_false c
  refine Ok.ite (fun c => ?_) fun c => ?_
  ·refine hbad (x.control ≤ 31) (fun w => (w.p.val x hxm).c2) fun h => ?_
   rw [Alz (by omega) h] at c
   simp at c
  have c2 : x.control ≤ 31 := by
   by_cases h : x.control ≤ 31
   ·exact h
   ·have := Alg (c := x.control) (by omega) (hm x hxm).2
    have c' : Az .i64 x.control 31 = 0 := by simpa using c
    exact absurd c' this
  refine Ok.ite (fun c => ?_) fun c => ?_
  ·have := of_decide_eq_true c
   exact hbad (0 ≤ x.owner) (fun w => (w.p.val x hxm).o1) (by omega)
  have o1 := of_decide_eq_false c
  refine Ok.ite (fun c => ?_) fun c => ?_
  ·have := of_decide_eq_true c
   exact hbad (x.owner ≤ 1048576) (fun w => (w.p.val x hxm).o2) (by omega)
  have o2 := of_decide_eq_false c
  refine Ok.ite (fun c => ?_) fun c => ?_
  ·have hk := of_decide_eq_true c
   have hle : pre.length ≤ t.nodes.length := by rw [he]; simp
   refine Ok.guard (by omega) ?_
   have ht : t.nodes.take pre.length = pre := by rw [he]; simp
   rw [ht]
   rcases Px pre with rfl | ⟨pr,y,rfl⟩
   ·simp at hk
   have hw : WfP (pr ++ [y]) := by
    rcases hI with ⟨e,_⟩ | ⟨h,_⟩
    ·simp at e
    ·exact h
   refine Ok.step (Alb (by simp at hle; omega) (hm x hxm)) ?_
   refine hJ _ ?_ ?_ hroot
   ·intro hb w
    obtain ⟨_,v,s⟩ := nodes_pre w.p he (by simp)
    have a1 := s.lt y (by simp)
    have a2 := s.valid
    have a3 : (x.kind == 0 || x.kind == 1) = true := by
     rcases v.kind with h | h <;> simp [h]
    have a4 : (pr ++ [y]).any (fun k => k.id == x.parent) = true := by
     obtain ⟨p,hp,hpp⟩ := s.parent
     exact List.any_eq_true.mpr ⟨p,hp,by simp [hpp]⟩
    have a5 : (pr ++ [y]).all (fun k => !(k.parent == x.parent && Cz k.name x.name)) = true := by
     rw [List.all_eq_true]
     intro k hk
     by_cases q : k.parent = x.parent
     ·simp [s.fresh k hk q]
     ·simp [q]
    simp only [a1,a2,a3,a4,a5,decide_true] at hb
    simp at hb
   ·intro hb
    simp only [Bool.not_eq_false',Bool.and_eq_true,decide_eq_true_eq,List.any_eq_true,List.all_eq_true,beq_iff_eq,Bool.or_eq_true] at hb
    obtain ⟨⟨⟨⟨a1,a2⟩,a3⟩,a4⟩,a5⟩ := hb
    refine ⟨⟨a3,by omega,c2,by omega,by omega⟩,fun _ => ⟨?_,a2,a4,?_⟩⟩
    ·intro z hz
     have hs := hw.sorted
     rw [List.pairwise_append] at hs
     rcases List.mem_append.mp hz with hz | hz
     ·have := hs.2.2 z hz y (by simp)
      omega
     ·obtain rfl : z = y := by simpa using hz
      exact a1
    ·intro z hz hp
     have := a5 z hz
     simpa [hp] using this
  ·have hk := of_decide_eq_false c
   have e : pre = [] := List.length_eq_zero_iff.mp (by omega)
   refine hJ false (by simp) (fun _ => ⟨?_,fun h => absurd e h⟩) hroot
   subst e
   rw [he] at hR
   exact ⟨.inl hR.kind,by omega,c2,by omega,by omega⟩
 ·intro s hI
  unfold Acd Sn
  have hw : w64 ((t.nodes.length : Int) - 1) = ((t.nodes.length - 1 : Nat) : Int) := by
   rw [Bz (by omega) (by omega)]
   omega
  rw [hw]
  refine Ok.guard (by omega) ?_
  have : Int.toNat ((t.nodes.length - 1 : Nat) : Int) = t.nodes.length - 1 := by omega
  rw [this]
  rcases hI with ⟨e,_⟩ | ⟨hp,hd,_⟩
  ·rw [e] at l1; simp at l1
  refine Ok.ite (fun c => ?_) fun c => ?_
  ·have hc := of_decide_eq_true c
   refine Ok.ret ⟨fun e => ?_,fun w => ?_⟩
   ·exact ⟨by omega,by omega,hp.split,fun x hx => (hd x hx).2,hc,by simpa using e⟩
   ·simpa using w.nextLe
  ·have := of_decide_eq_false c
   exact bad fun w => by have := w.last; omega
theorem WfP.names {L : List Ah} (h : WfP L) : ∀ x ∈ L,AcR x := by
 intro x hx
 have v := h.val x hx
 refine ⟨?_,by have := v.c2; omega⟩
 rcases h.par x hx with ⟨_,r⟩ | ⟨_,_,_,hv⟩
 ·rw [beqS_eq r.name]
  decide
 ·simp only [Dy,Bool.and_eq_true,decide_eq_true_eq] at hv
  omega
theorem Yr {t : Af} (w : WfT t) : Kx t = some true := by
 obtain ⟨b,hb,e⟩ := Afc t w.p.names
 rw [hb,e.mpr w]
end Go.Dm

/- Plain theory, part 12: subtrees. -/
namespace Go.Dm
theorem Aar {α : Type} {p : α → Bool} {xs : List α} {body : Nat → α → Unit → (Unit → Option Int) → Option Int} {done : Unit → Option Int}
  (hb : ∀ k x n,body k x () n = if p x then some ((k : Nat) : Int) else n ()) (hd : done () = some (-1)) : Bi body done xs 0 () = some ((xs.findIdx? p).elim (-1) (fun i => (i : Int))) := by
 have key : ∀ (ys : List α) (k : Nat),Bi body done ys k () = some ((ys.findIdx? p).elim (-1) (fun i => ((i + k : Nat) : Int))) := by
  intro ys
  induction ys with
  | nil => intro k; simp [Bi,hd]
  | cons x r ih =>
   intro k
   rw [Bi,hb,List.findIdx?_cons]
   cases hp : p x
   ·simp only [Bool.false_eq_true,if_false]
    rw [ih (k + 1)]
    cases r.findIdx? p with
    | none => rfl
    | some i =>
     simp only [Option.map_some,Option.elim_some]
     congr 2
     omega
   ·simp
 have := key xs 0
 simpa using this
theorem Mw {α : Type} (p : α → Bool) (xs : List α) (d : α) :
  (∃ i,i < xs.length ∧ xs.findIdx? p = some i ∧ xs.find? p = some (xs.getD i d)) ∨ (xs.findIdx? p = none ∧ xs.find? p = none) := by
 induction xs with
 | nil => exact .inr ⟨rfl,rfl⟩
 | cons x r ih =>
  rw [List.findIdx?_cons,List.find?_cons]
  cases hp : p x
  ·rcases ih with ⟨i,h1,h2,h3⟩ | ⟨h1,h2⟩
   ·refine .inl ⟨i + 1,by simp; omega,?_,?_⟩
    ·simp [h2]
    ·simpa using h3
   ·refine .inr ⟨?_,?_⟩
    ·simp [h1]
    ·simpa using h2
  ·exact .inl ⟨0,by simp,by simp,by simp⟩
theorem Abq (h : Aa) (id : Int) (hl : h.tasks.length ≤ 1000000) : Vn h id = some ((h.tasks.findIdx? (fun x => x.id == id)).elim (-1) (fun i => (i : Int))) := by
 unfold Vn Gb
 rw [if_pos (by omega),Aar (p := fun x : An => x.id == id) (fun k x n => rfl) rfl]
 rfl
theorem Afz (h : Aa) (id : Int) (hl : h.tasks.length ≤ 1000000) : Pq h id = some ((Bm h.tasks id).elim (zK,false) (fun x => (x,true))) := by
 unfold Pq Bm
 rw [Abq h id hl,Option.bind_some]
 rcases Mw (fun x : An => x.id == id) h.tasks default with ⟨i,h1,h2,h3⟩ | ⟨h1,h2⟩
 ·rw [h2,h3,Option.elim_some,Option.elim_some,if_neg (by simp),if_pos (by omega),show Int.toNat (i : Int) = i by omega]
 ·rw [h1,h2]
  rfl
theorem Ud (t : Af) (id : Int) (hl : t.nodes.length ≤ 1000000) : En t id = some ((t.nodes.findIdx? (fun x => x.id == id)).elim (-1) (fun i => (i : Int))) := by
 unfold En Fn
 rw [if_pos (by omega),Aar (p := fun x : Ah => x.id == id) (fun k x n => rfl) rfl]
 rfl
theorem Aei (t : Af) (id : Int) (hl : t.nodes.length ≤ 1000000) : Er t id = some ((Hr t id).elim (zN,false) (fun x => (x,true))) := by
 unfold Er Hr
 rw [Ud t id hl,Option.bind_some]
 rcases Mw (fun x : Ah => x.id == id) t.nodes default with ⟨i,h1,h2,h3⟩ | ⟨h1,h2⟩
 ·rw [h2,h3,Option.elim_some,Option.elim_some,if_neg (by simp),if_pos (by omega),show Int.toNat (i : Int) = i by omega]
 ·rw [h1,h2]
  rfl
theorem Me (t : Af) (id : Int) (hl : t.nodes.length ≤ 1000000) : Ok (En t id) (fun i => decide (i < 0) = !Bd t id ∧ decide (i ≥ 0) = Bd t id) := by
 refine Ok.of_eq (Ud t id hl) ?_
 unfold Bd Hr
 rcases Mw (fun x : Ah => x.id == id) t.nodes default with ⟨i,h1,h2,h3⟩ | ⟨h1,h2⟩
 ·rw [h2,h3]
  have : ¬ (i : Int) < 0 := by omega
  simp [this]
 ·rw [h1,h2]
  simp
theorem AfM (t : Af) (id : Int) (hl : t.nodes.length ≤ 1000000) : Ph t id = some (Gk t id) := by
 unfold Ph
 rw [if_pos (by omega)]
 refine (Kc (p := fun x : Ah => x.parent == id) (f := fun x : Ah => x.id) (r := some) ?_ (fun _ => rfl) (by simp; omega)).trans (by simp [Gk])
 intro k x s n hs
 unfold Vy Ml
 rw [if_pos hs]
theorem WfT.id_pos {t : Af} (w : WfT t) {x : Ah} (h : x ∈ t.nodes) : 1 ≤ x.id := w.p.ge1 x h
theorem WfT.par_lt {t : Af} (w : WfT t) {x : Ah} (h : x ∈ t.nodes) : x.parent < x.id := by
 rcases w.p.par x h with ⟨h1,r⟩ | ⟨_,h2,_⟩
 ·rw [r.parent]; omega
 ·exact h2
theorem AgZ {t : Af} {x k : Int} (h : k ∈ upT t x) : ∃ n ∈ t.nodes,n.id = x := by
 by_cases e : ∃ n ∈ t.nodes,n.id = x
 ·exact e
 ·have : upT t x = [] := AeB fun n hn hx => e ⟨n,by simpa using hn,hx⟩
  rw [this] at h
  simp at h
theorem WfT.induct {t : Af} (w : WfT t) {P : Ah → Prop} (step : ∀ x ∈ t.nodes,(∀ y ∈ t.nodes,y.id = x.parent → P y) → P x) : ∀ x ∈ t.nodes,P x := by
 have key : ∀ (n : Nat),∀ x ∈ t.nodes,x.id.toNat < n → P x := by
  intro n
  induction n with
  | zero => intro x _ h; omega
  | succ n ih =>
   intro x hx h
   refine step x hx fun y hy e => ih y hy ?_
   have := w.par_lt hx
   have := w.id_pos hx
   omega
 intro x hx
 exact key _ x hx (Nat.lt_succ_self _)
theorem up_le {t : Af} (w : WfT t) : ∀ x ∈ t.nodes,∀ k ∈ upT t x.id,k ≤ x.id := by
 refine w.induct fun x hx ih k hk => ?_
 rw [w.up hx] at hk
 rcases List.mem_cons.mp hk with rfl | hk
 ·exact Int.le_refl _
 ·obtain ⟨y,hy,e⟩ := AgZ hk
  rw [← e] at hk
  have := ih y hy e k hk
  have := w.par_lt hx
  omega
theorem up_trans {t : Af} (w : WfT t) {k y : Int} (h2 : k ∈ upT t y) : ∀ x ∈ t.nodes,y ∈ upT t x.id → k ∈ upT t x.id := by
 refine w.induct fun x hx ih h1 => ?_
 have e := w.up hx
 rw [e] at h1
 rcases List.mem_cons.mp h1 with rfl | h1
 ·exact h2
 ·rw [e]
  obtain ⟨z,hz,ez⟩ := AgZ h1
  rw [← ez] at h1
  have := ih z hz ez h1
  rw [ez] at this
  exact List.mem_cons_of_mem _ this
theorem kids_iff {t : Af} {y c : Int} : c ∈ Gk t y ↔ ∃ x ∈ t.nodes,x.parent = y ∧ x.id = c := by
 unfold Gk
 constructor
 ·intro h
  obtain ⟨x,hx,e⟩ := List.mem_map.mp h
  obtain ⟨h1,h2⟩ := List.mem_filter.mp hx
  exact ⟨x,h1,by simpa using h2,e⟩
 ·rintro ⟨x,h1,h2,h3⟩
  exact List.mem_map.mpr ⟨x,List.mem_filter.mpr ⟨h1,by simp [h2]⟩,h3⟩
end Go.Dm

/- Plain theory, part 13: the program's Check of hierarchies; counts; moves. -/
namespace Go.Dm
theorem Akb (h : Aa) (x : An) (l1 : h.tasks.length ≤ 1000000) (l2 : h.tree.nodes.length ≤ 1000000) :
  Ok (Wl h x) (fun b => b = true ↔ (0 ≤ x.user ∧ x.user ≤ 1048576 ∧ Bd h.tree x.group = true ∧ ∃ p,Bm h.tasks x.process = some p ∧ p.process = x.process ∧ p.user = x.user)) := by
 unfold Wl Ie
 refine Ok.step (Afz h x.process l1) ?_
 have no : ∀ {P : Prop},¬ P → Ok (some false) (fun b => b = true ↔ P) := fun hn => Ok.ret ⟨fun e => by simp at e,fun w => absurd w hn⟩
 refine Ok.ite (fun c => ?_) fun c => ?_
 rotate_left
 ·have := of_decide_eq_false c
  exact no fun w => by omega
 have u1 := of_decide_eq_true c
 refine Ok.ite (fun c => ?_) fun c => ?_
 rotate_left
 ·have := of_decide_eq_false c
  exact no fun w => by omega
 have u2 := of_decide_eq_true c
 cases hk : Bm h.tasks x.process with
 | none =>
  exact no fun w => by
   obtain ⟨_,_,_,p,hp,_⟩ := w
   simp at hp
 | some p =>
  obtain ⟨hp1,hp2⟩ := Ox hk
  simp only [Option.elim_some,if_true]
  refine Ok.ite (fun c => ?_) fun c => ?_
  rotate_left
  ·exact no fun w => by
    obtain ⟨_,_,_,q,hq,hq2,_⟩ := w
    obtain rfl : p = q := by simpa using hq
    have : ¬ p.process = p.id := by simpa using c
    omega
  have c1 : p.process = p.id := by simpa using c
  refine Ok.ite (fun c => ?_) fun c => ?_
  rotate_left
  ·exact no fun w => by
    obtain ⟨_,_,_,q,hq,_,hq3⟩ := w
    obtain rfl : p = q := by simpa using hq
    have : ¬ p.user = x.user := by simpa using c
    omega
  have c2 : p.user = x.user := by simpa using c
  refine Ok.bind (Me h.tree x.group l2) fun i hi => Ok.ret ?_
  rw [hi.2]
  constructor
  ·intro hh
   exact ⟨u1,u2,hh,p,rfl,by omega,c2⟩
  ·intro w
   exact w.2.2.1
theorem AcL (h : Aa) (hm : ∀ x ∈ h.tree.nodes,AcR x) : Ok (Lp h) (fun b => b = true ↔ WfH h) := by
 have bad : ¬ WfH h → Ok (some false) (fun b => b = true ↔ WfH h) := fun hn => Ok.ret ⟨fun e => by simp at e,fun w => absurd w hn⟩
 unfold Lp
 refine Ok.ite (fun c => ?_) fun c => ?_
 ·have := of_decide_eq_true c
  exact bad fun w => by have := w.len; omega
 have l1 := of_decide_eq_false c
 refine Ok.ite (fun c => ?_) fun c => ?_
 ·have := of_decide_eq_true c
  exact bad fun w => by have := w.n2; omega
 have n2 := of_decide_eq_false c
 refine Ok.bind (Afc h.tree hm) fun b hb => ?_
 unfold Nm
 refine Ok.ite (fun c => ?_) fun c => ?_
 ·refine bad fun w => ?_
  have := hb.mpr w.tree
  rw [this] at c
  simp at c
 have wt : WfT h.tree := hb.mp (by simpa using c)
 have l2 := wt.len2
 refine Ok.guard (by omega) ?_
 refine Ok.range (fun pre s => 0 ≤ s ∧ (∀ y ∈ pre,y.id ≤ s) ∧ (s = 0 ∨ ∃ y ∈ pre,y.id = s) ∧ pre.Pairwise (fun a b => a.id < b.id) ∧ ∀ x ∈ pre,TaskV h x) (by simp) ?_ ?_
 ·rintro pre x post s n he ⟨i0,i1,i2,i3,i4⟩ hn
  have hx : x ∈ h.tasks := by rw [he]; simp
  unfold Zx Rn
  refine Ok.ite (fun c => ?_) fun c => ?_
  ·have hle := of_decide_eq_true c
   refine bad fun w => ?_
   rcases i2 with rfl | ⟨y,hy,e⟩
   ·have := (w.val x hx).pos
    omega
   ·have hs := w.sorted
    rw [he,List.pairwise_append] at hs
    have := hs.2.2 y hy x (by simp)
    omega
  have hgt := of_decide_eq_false c
  refine Ok.bind (Akb h x (by omega) (by omega)) fun b hb => ?_
  refine Ok.ite (fun c => ?_) fun c => ?_
  ·refine bad fun w => ?_
   have v := w.val x hx
   have := hb.mpr ⟨v.u1,v.u2,v.grp,v.ldr⟩
   rw [this] at c
   simp at c
  ·obtain ⟨a1,a2,a3,a4⟩ := hb.mp (by simpa using c)
   refine hn _ ⟨by omega,?_,.inr ⟨x,by simp,rfl⟩,?_,?_⟩
   ·intro y hy
    rcases List.mem_append.mp hy with hy | hy
    ·have := i1 y hy
     omega
    ·obtain rfl : y = x := by simpa using hy
     exact Int.le_refl _
   ·rw [List.pairwise_append]
    refine ⟨i3,by simp,fun a ha b hb => ?_⟩
    obtain rfl : b = x := by simpa using hb
    have := i1 a ha
    omega
   ·intro y hy
    rcases List.mem_append.mp hy with hy | hy
    ·exact i4 y hy
    ·obtain rfl : y = x := by simpa using hy
     exact ⟨by omega,a3,a1,a2,a4⟩
 ·rintro s ⟨i0,i1,i2,i3,i4⟩
  refine Ok.ret ⟨fun e => ?_,fun w => ?_⟩
  ·have hlt : s < h.next := by
    have := of_decide_eq_true e
    omega
   exact ⟨wt,by omega,by omega,by omega,i3,fun x hx => by have := i1 x hx; omega,i4⟩
  ·rcases i2 with rfl | ⟨y,hy,e⟩
   ·have := w.n1
    simp; omega
   ·have := w.lt y hy
    simp; omega
theorem Aeb {h : Aa} (w : WfH h) : Lp h = some true := by
 obtain ⟨b,hb,e⟩ := AcL h w.tree.p.names
 rw [hb,e.mpr w]
theorem Aml (l : List Int) (x : Int) (hl : l.length ≤ 1000000) : Ki l x = some (l.contains x) := by
 unfold Ki Sa
 rw [if_pos (by omega),Aar (p := fun y : Int => x == y) (fun k y n => rfl) rfl,Option.bind_some]
 rcases Mw (fun y : Int => x == y) l 0 with ⟨i,h1,h2,h3⟩ | ⟨h1,h2⟩
 ·rw [h2]
  have hm := List.mem_of_find?_eq_some h3
  have he := List.find?_some h3
  have : l.contains x = true := by
   rw [List.contains_iff_mem]
   have : x = l.getD i 0 := by simpa using he
   rw [this]
   exact hm
  rw [this]
  simp
 ·rw [h1]
  have : l.contains x = false := by
   rw [List.find?_eq_none] at h2
   cases hc : l.contains x
   ·rfl
   ·rw [List.contains_iff_mem] at hc
    have := h2 x hc
    simp at this
  rw [this]
  simp
theorem Nv (h : Aa) (h1 : h.tree.nodes.length ≤ 1000000) (h2 : h.tasks.length ≤ 1000000) : Ll h = some h := by
 unfold Ll Ed Jz
 rw [if_pos (by omega),if_pos (by omega)]
 rfl
end Go.Dm

/- Plain theory, part 14: the document's subtrees and counts; ancestors. -/
namespace Go.Dm
end Go.Dm

/- Plain theory, part 15: counts. -/
namespace Go.Dm
theorem Gv {t : Af} (w : WfT t) (id : Int) : Dv t id = some (upT t id) := by
 apply Ok.eq
 have l2 := w.len2
 unfold Dv
 refine Ok.guard (by omega) ?_
 refine Ok.range (fun pre s => s.1 ++ upT t s.2 = upT t id ∧ s.1.length = pre.length) ⟨by simp,rfl⟩ ?_ ?_
 ·rintro pre x post ⟨o,c⟩ n he ⟨i1,i2⟩ hn
  simp only at i1 i2
  unfold Us Ld
  refine Ok.step (Aei t c (by omega)) ?_
  cases hg : Hr t c with
  | none =>
   refine Ok.ret ?_
   have : upT t c = [] := AeB fun y hy e => by
    unfold Hr at hg
    rw [List.find?_eq_none] at hg
    have := hg y (by simpa using hy)
    simp [e] at this
   rw [this] at i1
   simpa using i1
  | some y =>
   obtain ⟨hy,hyc⟩ := Ur hg
   have hp : pre.length < t.nodes.length := by rw [he]; simp
   simp only [Option.elim_some,Bool.not_true,Bool.false_eq_true,if_false]
   refine Ok.guard (by omega) (hn _ ⟨?_,by simp [i2]⟩)
   simp only
   rw [← i1,← hyc,w.up hy]
   simp
 ·rintro ⟨o,c⟩ ⟨i1,i2⟩
  simp only at i1 i2
  refine Ok.ret ?_
  have hlen := Rw t.nodes.reverse id
  rw [List.length_reverse] at hlen
  change (upT t id).length ≤ t.nodes.length at hlen
  rw [← i1] at hlen
  have : (upT t c).length = 0 := by
   rw [List.length_append] at hlen
   omega
  have : upT t c = [] := List.length_eq_zero_iff.mp this
  rw [this] at i1
  simpa using i1
end Go.Dm

/- Plain theory, part 16: made counts. -/
namespace Go.Dm
end Go.Dm

/- Plain theory, part 17: room and refusals. -/
namespace Go.Dm
end Go.Dm

/- Plain theory, part 18: sums of counts. -/
namespace Go.Dm
theorem has_of {t : Af} {x : Ah} (hx : x ∈ t.nodes) : Bd t x.id = true := hasN_iff.mpr ⟨x,hx,rfl⟩
end Go.Dm

/- Plain theory, part 19: charges, limits; the document's functions on counts. -/
namespace Go.Dm
theorem Ajt {t : Af} (w : WfT t) (g : Int) : (upT t g).length ≤ 64 := by
 have := Rw t.nodes.reverse g
 have := w.len2
 rw [List.length_reverse] at *
 unfold upT
 omega
end Go.Dm

/- Plain theory, part 20: the library's sort leaves an ascending list as it is. -/
namespace Go.Dm
theorem Ajz (a b : Int) : Dc a b = some (decide (a < b)) := by
 unfold Dc Sh Na
 simp
theorem asc_at {L : List Int} (h : L.Pairwise (· < ·)) {i j : Nat} (hij : i < j) (hj : j < L.length) : L.getD i 0 < L.getD j 0 := by
 rw [Qp hj,Qp (by omega)]
 exact List.pairwise_iff_getElem.mp h i j (by omega) hj hij
theorem AjP {L : List Int} (h : L.Pairwise (· < ·)) {i j : Nat} (hij : i < j) (hj : j < L.length) : decide (L.getD j 0 < L.getD i 0) = false := by
 have := asc_at h hij hj
 rw [decide_eq_false_iff_not]
 omega
theorem Akw {L : List Int} (h : L.Pairwise (· < ·)) (hl : L.length ≤ 1000000) : Eg L 0 (L.length : Int) = some L := by
 apply Ok.eq
 unfold Eg
 have e1 : w64 (0 + 1) = 1 := Bz (by omega) (by omega)
 rw [e1]
 refine Ok.guard (by omega) ?_
 refine Ok.for (fun _ s => s = L) rfl ?_ ?_
 ·intro j s n hj hs hn
  subst hs
  unfold Hw
  refine Ok.while (fun q => q = (s,1 + (j : Int))) (fun _ => 0) rfl (by rw [Ov]; omega) ?_
  intro q nn hq _
  subst hq
  unfold Hu Dp
  simp only
  have hw : w64 (1 + (j : Int) - 1) = (j : Int) := by
   rw [Bz (by omega) (by omega)]
   omega
  have ej : Int.toNat (j : Int) = j := by omega
  have ej1 : Int.toNat (1 + (j : Int)) = j + 1 := by omega
  rw [hw,ej,ej1,Ajz,AjP h (show j < j + 1 by omega) (by omega)]
  refine Ok.ite (fun _ => ?_) fun _ => hn _ rfl
  refine Ok.guard (by omega) (Ok.guard (by omega) (Ok.guard (by omega) (Ok.guard (by omega) ?_)))
  exact Ok.step rfl (hn _ rfl)
 ·intro s hs
  subst hs
  exact Ok.ret rfl
theorem Aeu {L : List Int} (h : L.Pairwise (· < ·)) {a b : Nat} (hab : a < b) (hb : b < L.length) (c : Int) : Dz L (a : Int) (b : Int) c = some ((a : Int),(b : Int),c) := by
 unfold Dz
 have ea : Int.toNat (a : Int) = a := by omega
 have eb : Int.toNat (b : Int) = b := by omega
 rw [if_pos (by omega),if_pos (by omega),ea,eb,Ajz,AjP h hab hb]
 rfl
theorem AeK {L : List Int} (h : L.Pairwise (· < ·)) {a b c : Nat} (hab : a < b) (hbc : b < c) (hc : c < L.length) (k : Int) : Fg L (a : Int) (b : Int) (c : Int) k = some ((b : Int),k) := by
 unfold Fg
 rw [Aeu h hab (by omega),Option.bind_some,Aeu h hbc hc,Option.bind_some,Aeu h hab (by omega)]
 rfl
theorem AbZ {L : List Int} (h : L.Pairwise (· < ·)) {a : Nat} (h0 : 0 < a) (ha : a + 1 < L.length) (hl : L.length ≤ 1000000) (k : Int) : Cj L (a : Int) k = some ((a : Int),k) := by
 unfold Cj
 have e1 : w64 ((a : Int) - 1) = ((a - 1 : Nat) : Int) := by
  rw [Bz (by omega) (by omega)]
  omega
 have e2 : w64 ((a : Int) + 1) = ((a + 1 : Nat) : Int) := by
  rw [Bz (by omega) (by omega)]
  omega
 rw [e1,e2,AeK h (by omega) (by omega) ha]
 rfl
theorem pivot_asc {L : List Int} (h : L.Pairwise (· < ·)) (h12 : 12 < L.length) (hl : L.length ≤ 1000000) : Ok (Ex L 0 (L.length : Int)) (fun r => r.2 = 1) := by
 unfold Ex
 have e0 : w64 ((L.length : Int) - 0) = (L.length : Int) := by
  rw [Bz (by omega) (by omega)]
  omega
 rw [e0]
 have eq : w64 (Int.tdiv (L.length : Int) 4) = ((L.length / 4 : Nat) : Int) := by
  rw [Int.tdiv_eq_ediv_of_nonneg (by omega),Bz (by omega) (by omega)]
  omega
 rw [eq]
 have hq : 3 ≤ L.length / 4 := by omega
 have hq2 : 4 * (L.length / 4) ≤ L.length := by omega
 generalize L.length / 4 = q at *
 have m1 : w64 (0 + w64 ((q : Int) * 1)) = (q : Int) := by
  rw [Bz (n := (q : Int) * 1) (by omega) (by omega),Bz (by omega) (by omega)]
  omega
 have m2 : w64 (0 + w64 ((q : Int) * 2)) = ((2 * q : Nat) : Int) := by
  rw [Bz (n := (q : Int) * 2) (by omega) (by omega),Bz (by omega) (by omega)]
  omega
 have m3 : w64 (0 + w64 ((q : Int) * 3)) = ((3 * q : Nat) : Int) := by
  rw [Bz (n := (q : Int) * 3) (by omega) (by omega),Bz (by omega) (by omega)]
  omega
 rw [m1,m2,m3]
 unfold Eh Ee
 refine Ok.ite (fun _ => ?_) fun c => ?_
 ·refine Ok.ite (fun c => ?_) fun _ => ?_
  ·have := of_decide_eq_true c
   refine Ok.step (AbZ h (by omega) (by omega) hl 0) ?_
   refine Ok.step (AbZ h (by omega) (by omega) hl 0) ?_
   refine Ok.step (AbZ h (by omega) (by omega) hl 0) ?_
   exact Ok.step (AeK h (by omega) (by omega) (by omega) 0) (Ok.ret rfl)
  ·exact Ok.step (AeK h (by omega) (by omega) (by omega) 0) (Ok.ret rfl)
 ·have := of_decide_eq_false c
  omega
theorem Amb {L : List Int} (h : L.Pairwise (· < ·)) (h1 : 1 ≤ L.length) (hl : L.length ≤ 1000000) : Db L 0 (L.length : Int) = some (true,L) := by
 apply Ok.eq
 unfold Db
 have e1 : w64 (0 + 1) = 1 := Bz (by omega) (by omega)
 rw [e1]
 refine Ok.for (fun j s => j = 0 ∧ s = (L,1)) ⟨rfl,rfl⟩ ?_ ?_
 ·rintro j s n hj ⟨rfl,rfl⟩ hn
  unfold Fu
  simp only
  refine Ok.while (fun q => ∃ i : Nat,q = ((i + 1 : Nat) : Int) ∧ i + 1 ≤ L.length) (fun q => L.length - q.toNat) ⟨0,rfl,h1⟩ (by rw [Ov]; omega) ?_
  rintro q nn ⟨i,rfl,hi⟩ hnn
  unfold Fo Cn
  simp only
  have hw : w64 (((i + 1 : Nat) : Int) - 1) = (i : Int) := by
   rw [Bz (by omega) (by omega)]
   omega
  have ei : Int.toNat (i : Int) = i := by omega
  have ei1 : Int.toNat ((i + 1 : Nat) : Int) = i + 1 := by omega
  refine Ok.ite (fun c => ?_) fun c => ?_
  ·have c := of_decide_eq_true c
   rw [hw,ei,ei1,Ajz,AjP h (show i < i + 1 by omega) (by omega)]
   refine Ok.guard (by omega) (Ok.guard (by omega) (Ok.guard (by omega) (Ok.guard (by omega) ?_)))
   refine Ok.step rfl (hnn _ ⟨i + 1,?_,by omega⟩ ?_)
   ·rw [Bz (by omega) (by omega)]
    omega
   ·rw [Bz (by omega) (by omega)]
    omega
  ·have c := of_decide_eq_false c
   have : ((i + 1 : Nat) : Int) = (L.length : Int) := by omega
   simp only [Bool.false_eq_true,if_false]
   rw [if_pos (by rw [this]; simp)]
   exact Ok.ret rfl
 ·rintro s ⟨h0,_⟩
  simp at h0
theorem AlB : (List.range 1001).all (fun n => (Rv (IntKind.u64.wrap (n : Int))).any (fun k => n == 0 || decide (1 ≤ k))) = true := by decide +kernel
theorem len_bits {n : Nat} (h0 : 0 < n) (hn : n ≤ 1000) : Ok (Rv (IntKind.u64.wrap (n : Int))) (fun k => 1 ≤ k) := by
 have := List.all_eq_true.mp AlB n (by rw [List.mem_range]; omega)
 cases hb : Rv (IntKind.u64.wrap (n : Int)) with
 | none => rw [hb] at this; simp at this
 | some k =>
  rw [hb] at this
  simp at this
  exact ⟨k,rfl,by omega⟩
theorem Als {n : Nat} (hn : n ≤ 1000) : Ok (Rv (IntKind.u64.wrap (n : Int))) (fun _ => True) := by
 have := List.all_eq_true.mp AlB n (by rw [List.mem_range]; omega)
 cases hb : Rv (IntKind.u64.wrap (n : Int)) with
 | none => rw [hb] at this; simp at this
 | some k => exact ⟨k,rfl,trivial⟩
theorem AmY (p0 : List Int) (p1 p2 p3 : Int) : Mp p0 p1 p2 p3 = Fx (Cv 1099511627775) p0 p1 p2 p3 := by
 show Cv (1099511627775 + 1) p0 p1 p2 p3 = _
 rw [Cv]
theorem AlL {L : List Int} (h : L.Pairwise (· < ·)) (hl : L.length ≤ 1000) : Lu L = some L := by
 apply Ok.eq
 unfold Lu
 refine Ok.bind (P := fun k => 12 < L.length → 1 ≤ k) ?_ fun k hk => ?_
 ·by_cases h0 : 0 < L.length
  ·exact (len_bits h0 hl).mono fun _ h _ => h
  ·exact (Als hl).mono fun _ _ h => by omega
 refine Ok.step (a := L) ?_ (Ok.guard rfl (Ok.ret rfl))
 apply Ok.eq
 rw [AmY]
 unfold Fx
 refine Ok.while (fun q => q = (L,0,(L.length : Int),k,true,true)) (fun _ => 0) rfl (by rw [Ov]; omega) ?_
 rintro q n rfl _
 unfold Le
 simp only
 have e0 : w64 ((L.length : Int) - 0) = (L.length : Int) := by
  rw [Bz (by omega) (by omega)]
  omega
 rw [e0]
 refine Ok.ite (fun _ => ?_) fun c => ?_
 ·exact Ok.step (Akw h (by omega)) (Ok.guard rfl (Ok.ret rfl))
 ·have c := of_decide_eq_false c
  have := hk (by omega)
  refine Ok.ite (fun c => ?_) fun _ => ?_
  ·exfalso
   have : k = 0 := by simpa using c
   omega
  simp only [Bool.not_true,Bool.false_eq_true,if_false]
  unfold Fp
  simp only
  refine Ok.bind (pivot_asc h (by omega) (by omega)) fun r hr => ?_
  rw [hr]
  refine Ok.ite (fun c => by simp at c) fun _ => ?_
  unfold Ft
  simp only
  refine Ok.ite (fun _ => ?_) fun c => by simp at c
  exact Ok.step (Amb h (by omega) (by omega)) (Ok.guard rfl (Ok.ret rfl))
theorem Ahz {L : List Int} (h : L.Pairwise (· < ·)) (hl : L.length ≤ 1000000) : Ir L = some (L.length,L) := by
 apply Ok.eq
 unfold Ir
 refine Ok.ite (fun _ => Ok.ret rfl) fun c => ?_
 refine Ok.guard (by omega) ?_
 refine Ok.for (fun _ _ => True) trivial ?_ fun _ _ => Ok.ret rfl
 intro j _ n hj _ hn
 unfold Sd
 have hw : w64 (1 + (j : Int) - 1) = (j : Int) := by
  rw [Bz (by omega) (by omega)]
  omega
 have ej : Int.toNat (j : Int) = j := by omega
 have ej1 : Int.toNat (1 + (j : Int)) = j + 1 := by omega
 rw [hw,ej,ej1]
 have := asc_at h (show j < j + 1 by omega) (by omega)
 refine Ok.guard (by omega) (Ok.guard (by omega) (Ok.guard (by omega) (Ok.guard (by omega) ?_)))
 refine Ok.ite (fun c => ?_) fun _ => hn () trivial
 have : L.getD (j + 1) 0 = L.getD j 0 := by simpa using c
 omega
theorem ids_asc {L : List An} (h : L.Pairwise (fun a b => a.id < b.id)) (p : An → Bool) : ((L.filter p).map (·.id)).Pairwise (· < ·) := by
 rw [List.pairwise_map]
 exact h.filter p
def Dx (h : Aa) (p : Int) : List Int := (h.tasks.filter (fun x => x.process == p)).map (·.id)
theorem Ut {h : Aa} (hs : h.tasks.Pairwise (fun a b => a.id < b.id)) (hl : h.tasks.length ≤ 1000) (g : Int) : Ms h g = some (Hk h g) := by
 unfold Ms Ga
 rw [if_pos (by omega)]
 have ha := ids_asc hs (fun x => x.group == g)
 have hlen : ((h.tasks.filter (fun x => x.group == g)).map (·.id)).length ≤ 1000 := by
  rw [List.length_map]
  have := List.length_filter_le (fun x : An => x.group == g) h.tasks
  omega
 rw [Kc (p := fun x : An => x.group == g) (f := fun x : An => x.id) (r := Fk) (fun k x s n hs => by
  unfold Hs Dr Yx AbH
  simp only [Option.bind_some]
  rw [if_pos hs]) (fun _ => rfl) (by simp; omega)]
 rw [List.nil_append]
 unfold Fk
 rw [AlL ha hlen,Option.bind_some,if_pos rfl,Ahz ha (by omega),Option.bind_some,if_pos rfl,if_pos (Nat.le_refl _),List.take_length]
 rfl
theorem Ajs {h : Aa} (hs : h.tasks.Pairwise (fun a b => a.id < b.id)) (hl : h.tasks.length ≤ 1000) (g : Int) : Uk h g = some (Dx h g) := by
 unfold Uk Fh
 rw [if_pos (by omega)]
 have ha := ids_asc hs (fun x => x.process == g)
 have hlen : ((h.tasks.filter (fun x => x.process == g)).map (·.id)).length ≤ 1000 := by
  rw [List.length_map]
  have := List.length_filter_le (fun x : An => x.process == g) h.tasks
  omega
 rw [Kc (p := fun x : An => x.process == g) (f := fun x : An => x.id) (r := Ew) (fun k x s n hs => by
  unfold Hb Di Vu AbH
  simp only [Option.bind_some]
  rw [if_pos hs]) (fun _ => rfl) (by simp; omega)]
 rw [List.nil_append]
 unfold Ew
 rw [AlL ha hlen,Option.bind_some,if_pos rfl,Ahz ha (by omega),Option.bind_some,if_pos rfl,if_pos (Nat.le_refl _),List.take_length]
 rfl
end Go.Dm

/- Plain theory, part 21: what changes leave as it is; sizes of made hierarchies. -/
namespace Go.Dm
def Jk (h : Aa) (x : Ah) : Aa := { tree := setT h.tree x,tasks := h.tasks,next := h.next }
theorem ok_at {α : Type} {m : Option α} {Q : α → Prop} (h : Ok m Q) {a : α} (e : m = some a) : Q a := by
 obtain ⟨b,hb,hq⟩ := h
 rw [hb] at e
 obtain rfl := Option.some.inj e
 exact hq
end Go.Dm

/- Plain theory, part 22: the program's changes of hierarchies are the document's. -/
namespace Go.Dm
theorem Alm {α : Type} {L : List α} {a n : Nat} {x : α} (h : a + n ≤ L.length) : (Tm L a n x).length = L.length := by
 simp only [Tm,List.length_append,List.length_take,List.length_replicate,List.length_drop]
 omega
theorem AmG {α : Type} {L : List α} {a n : Nat} {x : α} (h : a ≤ L.length) : (Tm L a n x).take a = L.take a := by
 unfold Tm
 rw [List.take_append_of_le_length (by rw [List.length_take]; omega),List.take_take,Nat.min_self]
theorem AlA {α : Type} {L M : List α} {a n : Nat} (h : a + n ≤ L.length) (hm : n ≤ M.length) : (Ry L a n M).length = L.length := by
 simp only [Ry,List.length_append,List.length_take,List.length_drop]
 omega
theorem AkN {h : Aa} (l1 : h.tasks.length ≤ 1000000) (l2 : h.tree.nodes.length ≤ 1000000) (n1 : 1 ≤ h.next) (x : An) : Aez h x = some (addK h x) := by
 apply Ok.eq
 unfold Aez addK
 refine Ok.ite (fun c => ?_) fun c => ?_
 ·rw [if_pos]
  ·exact Ok.ret rfl
  ·simp only [Bool.or_eq_true,decide_eq_true_eq] at c ⊢
   omega
 ·simp only [Bool.or_eq_false_iff,decide_eq_false_iff_not] at c
  rw [if_neg (by simp only [Bool.or_eq_true,decide_eq_true_eq]; omega)]
  refine Ok.step (Nv h l2 l1) ?_
  unfold AbU
  simp only
  rw [Bz (by omega) (by omega)]
  refine Ok.ite (fun c => Ok.guard (by omega) (Ok.ret ?_)) fun c => Ok.guard (by omega) (Ok.ret ?_)
  ·rw [if_pos c]
  ·rw [if_neg (by rw [c]; simp)]
theorem Spawn_member_t {h : Aa} (w : WfH h) (g u : Int) : AfE h g u = some (AdN h g u) := by
 have l1 := w.len
 have l2 := w.tree.len2
 apply Ok.eq
 unfold AfE AdN
 refine Ok.step (Aeb w) ?_
 simp only [Bool.not_true,Bool.false_eq_true,if_false]
 unfold Vs
 by_cases h1 : u < 0
 ·simp only [h1,decide_true,Bool.true_or,if_true]
  exact Ok.ret rfl
 by_cases h2 : u > 1048576
 ·have h2' : 1048576 < u := h2
  simp only [h1,h2,h2',decide_true,decide_false,Bool.or_true,if_true,Bool.false_eq_true,if_false]
  exact Ok.ret rfl
 have h2' : ¬ 1048576 < u := h2
 simp only [h1,h2,h2',decide_false,Bool.or_false,Bool.false_eq_true,if_false]
 refine Ok.bind (Me h.tree g (by omega)) fun i hi => ?_
 rw [hi.1]
 cases Bd h.tree g with
 | false => exact Ok.ret rfl
 | true =>
  simp only [Bool.not_true,Bool.false_eq_true,if_false]
  exact Ok.step (AkN (by omega) (by omega) w.n1 _) (Ok.ret rfl)
theorem AjV (L : List Ah) (i : Nat) (hi : i < L.length) (hl : L.length ≤ 1000000) :
  Ok (Li L (i : Int) ((i + 1 : Nat) : Int)) (fun r => r.2.length = L.length ∧ r.1 ≤ L.length ∧ r.2.take r.1 = L.take i ++ L.drop (i + 1)) := by
 unfold Li
 have ei : Int.toNat (i : Int) = i := by omega
 have ei1 : Int.toNat ((i + 1 : Nat) : Int) = i + 1 := by omega
 rw [ei,ei1]
 simp only [Vj,Nat.zero_add]
 have hd : ((L.drop (i + 1)).take (L.length - (i + 1))) = L.drop (i + 1) := by
  rw [List.take_of_length_le (by rw [List.length_drop]; omega)]
 rw [hd]
 have ho : (Ry L i (L.length - (i + 1)) (L.drop (i + 1))).length = L.length := AlA (by omega) (by rw [List.length_drop]; omega)
 refine Ok.guard (by omega) ?_
 refine Ok.ite (fun c => ?_) fun _ => ?_
 ·have : ((i : Nat) : Int) = ((i + 1 : Nat) : Int) := by simpa using c
  omega
 refine Ok.guard (by omega) (Ok.guard (by omega) (Ok.guard (by omega) (Ok.guard (by rw [ho]; omega) (Ok.guard (by rw [ho]; omega) (Ok.ret ⟨?_,?_,?_⟩)))))
 ·simp only
  rw [Alm (by rw [ho]; omega),ho]
 ·simp only
  omega
 ·simp only
  rw [AmG (by rw [ho]; omega)]
  unfold Ry
  rw [← List.append_assoc,List.take_append_of_le_length (by
   simp only [List.length_append,List.length_take,List.length_drop]
   omega),List.take_of_length_le (by
   simp only [List.length_append,List.length_take,List.length_drop]
   omega),hd]
theorem Ald {L : List Ah} (hs : L.Pairwise (fun a b => a.id < b.id)) {i : Nat} (hi : i < L.length) {k : Int} (e : L[i].id = k) : L.take i ++ L.drop (i + 1) = L.filter (fun x => x.id != k) := by
 have h1 : L = L.take i ++ L[i] :: L.drop (i + 1) := by
  rw [List.getElem_cons_drop,List.take_append_drop]
 have h2 := hs
 rw [h1,List.pairwise_append,List.pairwise_cons] at h2
 obtain ⟨_,⟨ha,_⟩,hb⟩ := h2
 conv => rhs; rw [h1]
 rw [List.filter_append,List.filter_cons,if_neg (by simp [e])]
 congr 1
 ·symm
  rw [List.filter_eq_self]
  intro x hx
  have := hb x hx L[i] (List.mem_cons_self ..)
  simp
  omega
 ·symm
  rw [List.filter_eq_self]
  intro x hx
  have := ha x hx
  simp
  omega
theorem AkD {t : Af} (w : WfT t) (id : Int) : Wo t id = some (Ot t id) := by
 have l2 := w.len2
 apply Ok.eq
 unfold Wo Ot Bd Hr
 refine Ok.step (Ud t id (by omega)) ?_
 refine Ok.step (Yr w) ?_
 simp only [Bool.not_true,Bool.false_eq_true,if_false]
 rcases Mw (fun x : Ah => x.id == id) t.nodes default with ⟨i,h1,h2,h3⟩ | ⟨h1,h2⟩
 ·rw [h2,h3,Option.elim_some]
  have hid : t.nodes[i].id = id := by
   have := List.find?_some h3
   rw [Qp h1] at this
   simpa using this
  refine Ok.ite (fun c => by have := of_decide_eq_true c; omega) fun _ => ?_
  simp only [Option.isSome_some,Bool.not_true,Bool.false_eq_true,if_false]
  refine Ok.ite (fun c => ?_) fun c => ?_
  ·rw [if_pos c]
   exact Ok.ret rfl
  rw [if_neg (by rw [c]; simp)]
  refine Ok.step (AfM t id (by omega)) ?_
  refine Ok.ite (fun c => ?_) fun c => ?_
  ·have c := of_decide_eq_true c
   rw [if_pos (by simp; omega)]
   exact Ok.ret rfl
  have c := of_decide_eq_false c
  rw [if_neg (by rw [decide_eq_true_eq]; omega)]
  refine Ok.step (a := t) (by unfold Pz Ed; rw [if_pos (by omega)]; rfl) ?_
  have e1 : w64 ((i : Int) + 1) = ((i + 1 : Nat) : Int) := by
   rw [Bz (by omega) (by omega)]
   omega
  rw [e1]
  refine Ok.bind (AjV t.nodes i h1 (by omega)) fun r ⟨r1,r2,r3⟩ => ?_
  refine Ok.guard r1.symm (Ok.guard (by omega) (Ok.ret ?_))
  rw [r3,Ald w.sorted h1 hid]
 ·rw [h1,h2]
  exact Ok.ret rfl
def Sz (h : Aa) (g : Int) : Aa × Int :=
 if (Ot h.tree g).2 != 0 then (zH,(Ot h.tree g).2) else if decide (0 < (Hk h g).length) then (zH,6)
 else ({ tree := (Ot h.tree g).1,tasks := h.tasks,next := h.next },0)
theorem Aif {h : Aa} (w : WfH h) (g : Int) : Se h g = some (Sz h g) := by
 have l1 := w.len
 have l2 := w.tree.len2
 apply Ok.eq
 unfold Se Sz
 refine Ok.step (Aeb w) ?_
 simp only [Bool.not_true,Bool.false_eq_true,if_false]
 refine Ok.step (AkD w.tree g) ?_
 refine Ok.ite (fun c => ?_) fun c => ?_
 ·rw [if_pos c]
  exact Ok.ret rfl
 rw [if_neg (by rw [c]; simp)]
 refine Ok.step (Ut w.sorted (by omega) g) ?_
 refine Ok.ite (fun c => ?_) fun c => ?_
 ·have c := of_decide_eq_true c
  rw [if_pos (by simp; omega)]
  exact Ok.ret rfl
 have c := of_decide_eq_false c
 rw [if_neg (by rw [decide_eq_true_eq]; omega)]
 exact Ok.step (Nv h (by omega) (by omega)) (Ok.ret rfl)
theorem AkV {h : Aa} (w : WfH h) (g : Int) : Wm h g = some (Sz h g) := by
 have l1 := w.len
 have l2 := w.tree.len2
 apply Ok.eq
 unfold Wm Sz
 refine Ok.step (Jy w) ?_
 simp only [Bool.not_true,Bool.false_eq_true,if_false]
 refine Ok.step (AeY w.tree g) ?_
 refine Ok.ite (fun c => ?_) fun c => ?_
 ·rw [if_pos c]
  exact Ok.ret rfl
 rw [if_neg (by rw [c]; simp)]
 refine Ok.step (Rm w g) ?_
 refine Ok.ite (fun c => ?_) fun c => ?_
 ·have c := of_decide_eq_true c
  rw [if_pos (by simp; omega)]
  exact Ok.ret rfl
 have c := of_decide_eq_false c
 rw [if_neg (by rw [decide_eq_true_eq]; omega)]
 exact Ok.step (Ju h (by omega) (by omega)) (Ok.ret rfl)
theorem Amw {h : Aa} (w : WfH h) {g : Int} {r : Aa × Int} (e : Sz h g = r) (hr : r.2 = 0) : WfH r.1 := by
 unfold Sz at e
 split at e
 ·rename_i c
  subst e
  simp only at hr
  simp [hr] at c
 ·rename_i c0
  split at e
  ·subst e; simp at hr
  ·rename_i c
   have c0 : (Ot h.tree g).2 = 0 := by simpa using c0
   have wt := Ajj w.tree rfl c0
   subst e
   refine ⟨wt,w.len,w.n1,w.n2,w.sorted,w.lt,fun y hy => ?_⟩
   have u := w.val y hy
   refine ⟨u.pos,?_,u.u1,u.u2,u.ldr⟩
   obtain ⟨z,hz,hzi⟩ := hasN_iff.mp u.grp
   have hne : y.group ≠ g := fun e => by
    have : y.id ∈ Hk h g := List.mem_map.mpr ⟨y,List.mem_filter.mpr ⟨hy,by simpa using e⟩,rfl⟩
    have := List.length_pos_of_mem this
    rw [decide_eq_true_eq] at c
    omega
   refine hasN_iff.mpr ⟨z,?_,hzi⟩
   unfold Ot at c0 ⊢
   split at c0
   ·simp at c0
   ·split at c0
    ·simp at c0
    ·split at c0
     ·simp at c0
     ·rename_i q1 q2 q3
      rw [if_neg q1,if_neg q2,if_neg q3]
      simp only [List.mem_filter]
      refine ⟨hz,?_⟩
      simp
      omega
theorem AlZ (c : An) : AiF c c = true := by simp [AiF]
theorem Amk (c : Ah) : Aig c c = true := by simp [Aig,Agd]
theorem AjW (t : Af) (hl : t.nodes.length ≤ 1000000) : AaI t t = some true := by
 apply Ok.eq
 unfold AaI
 refine Ok.ite (fun c => by simp at c) fun _ => ?_
 refine Ok.guard (by omega) ?_
 refine Ok.range (fun _ _ => True) trivial ?_ fun _ _ => Ok.ret rfl
 intro pre x post _ n he _ hn
 have hp : pre.length < t.nodes.length := by rw [he]; simp
 have hx : t.nodes.getD pre.length default = x := by rw [he]; exact Aca
 unfold Adv
 refine Ok.guard hp ?_
 rw [hx,Amk]
 exact hn () trivial
theorem AjL (h : Aa) (hl : h.tree.nodes.length ≤ 1000000) (h2 : h.tasks.length ≤ 1000000) : Aaw h h = some true := by
 apply Ok.eq
 unfold Aaw
 refine Ok.step (AjW h.tree hl) ?_
 unfold Tc
 refine Ok.ite (fun c => by simp at c) fun _ => ?_
 refine Ok.ite (fun c => by simp at c) fun _ => ?_
 refine Ok.ite (fun c => by simp at c) fun _ => ?_
 refine Ok.guard (by omega) ?_
 refine Ok.range (fun _ _ => True) trivial ?_ fun _ _ => Ok.ret rfl
 intro pre x post _ n he _ hn
 have hp : pre.length < h.tasks.length := by rw [he]; simp
 have hx : h.tasks.getD pre.length default = x := by rw [he]; exact Aca
 unfold AdB
 refine Ok.guard hp ?_
 rw [hx,AlZ]
 exact hn () trivial
end Go.Dm

/- Plain theory, part 23: spoiled hierarchies; hierarchies that are refused. -/
namespace Go.Dm
theorem AjG {α : Type} {l : List α} {i : Nat} {a x : α} (h : x ∈ l.set i a) : x = a ∨ x ∈ l := by
 rcases List.mem_or_eq_of_mem_set h with h | h
 ·exact .inr h
 ·exact .inl h
theorem Word_ok {d : Aq} (h : Bp d) : Ok (Qs d) (fun r => Bp r.2 ∧ r.1.size ≤ 1000) := by
 unfold Qs
 refine Ok.bind (Dg h 12 (by omega) (by omega)) fun r ⟨h1,h2,h3⟩ => ?_
 generalize hL : [(bs [97]),(bs [98]),(bs [99]),(bs [119,101,98]),(bs [100,98,45,49]),(bs [88,95,57]),ByteArray.empty,(bs [45,97]),(bs [97,47,98]),(bs [195,169]),(bs [97,97,97,97,97,97,97,97,97,97,97,97,97,97,97,97,97,97,97,97,97,97,97,97,97,97,97,97,97,97,97,97]),(bs [97,97,97,97,97,97,97,97,97,97,97,97,97,97,97,97,97,97,97,97,97,97,97,97,97,97,97,97,97,97,97,97,97])] = L
 have hl : L.length = 12 := by rw [← hL]; rfl
 have hs : ∀ s ∈ L,s.size ≤ 1000 := by
  have : L.all (fun s => decide (s.size ≤ 1000)) = true := by rw [← hL]; decide +kernel
  intro s hs
  have := List.all_eq_true.mp this s hs
  simpa using this
 refine Ok.guard (by omega) (Ok.guard (by omega) (Ok.ret ⟨h1,?_⟩))
 exact hs _ (AcC (by omega))
theorem AjA {d : Aq} (h : Bp d) : Ok (Ku d) (fun r => Bp r.2) := by
 unfold Ku
 refine Ok.bind (Dg h 8 (by omega) (by omega)) fun r ⟨h1,h2,h3⟩ => ?_
 refine Ok.guard (by simp only [List.length_cons,List.length_nil]; omega) (Ok.guard (by simp only [List.length_cons,List.length_nil]; omega) (Ok.ret h1))
structure Wd (h : Aa) : Prop where
 nodes : h.tree.nodes.length ≤ 1000
 tasks : h.tasks.length ≤ 1000
 m : ∀ x ∈ h.tree.nodes,AcR x
theorem WfH.raw {h : Aa} (w : WfH h) : Wd h := ⟨by have := w.tree.len2; omega,by have := w.len; omega,w.tree.p.names⟩
theorem Ain {d : Aq} (hd : Bp d) {h : Aa} (w : WfH h) : Ok (Hv d h) (fun r => Wd r.1 ∧ Bp r.2) := by
 have l1 := w.len
 have l2 := w.tree.len2
 have l3 := w.tree.len1
 have hm := w.tree.p.names
 unfold Hv
 refine Ok.step (Ju h (by omega) (by omega)) ?_
 refine Ok.bind (Dg hd _ (by omega) (by omega)) fun a ⟨ha1,ha2,ha3⟩ => Ok.guard ⟨ha2,ha3⟩ ?_
 have hi : a.1.toNat < h.tree.nodes.length := by omega
 refine Ok.bind (Kp ha1 12 (by omega)) fun b ⟨hb1,_⟩ => ?_
 have hJ : ∀ (e : Aq) (n1 n2 : Int) (L : List Ah),Bp e → L.length ≤ 65 → (∀ x ∈ L,AcR x) → Ok (Bo h (e,n1,n2,L)) (fun r => Wd r.1 ∧ Bp r.2) := by
  intro e n1 n2 L he hL hLm
  have hJ2 : ∀ (f : Aq) (K : List An),Bp f → K.length ≤ 128 → Ok (Ce (e,n1,n2,L) (f,K)) (fun r => Wd r.1 ∧ Bp r.2) := by
   intro f K hf hK
   unfold Ce
   exact Ok.ret ⟨⟨by simp only; omega,by simp only; omega,hLm⟩,hf⟩
  unfold Bo
  simp only
  refine Ok.ite (fun c => ?_) fun _ => hJ2 _ _ he l1
  have c := of_decide_eq_true c
  refine Ok.bind (Dg he _ (by omega) (by omega)) fun u ⟨hu1,hu2,hu3⟩ => Ok.guard ⟨hu2,hu3⟩ ?_
  have hj : u.1.toNat < h.tasks.length := by omega
  refine Ok.bind (Kp hu1 8 (by omega)) fun v ⟨hv1,_⟩ => ?_
  refine Ok.ite (fun _ => ?_) fun _ => ?_
  ·exact Ok.bind (Kp hv1 9 (by omega)) fun z ⟨hz,_⟩ => Ok.guard hj (hJ2 _ _ hz (by rw [List.length_set]; exact l1))
  refine Ok.ite (fun _ => ?_) fun _ => ?_
  ·exact Ok.bind (Kp hv1 9 (by omega)) fun z ⟨hz,_⟩ => Ok.guard hj (hJ2 _ _ hz (by rw [List.length_set]; exact l1))
  refine Ok.ite (fun _ => ?_) fun _ => ?_
  ·exact Ok.bind (Kp hv1 9 (by omega)) fun z ⟨hz,_⟩ => Ok.guard hj (hJ2 _ _ hz (by rw [List.length_set]; exact l1))
  refine Ok.ite (fun _ => ?_) fun _ => ?_
  ·exact Ok.bind (AjA hv1) fun z hz => Ok.guard hj (hJ2 _ _ hz (by rw [List.length_set]; exact l1))
  ·exact hJ2 _ _ hv1 l1
 have hset : ∀ (y : Ah),AcR y → (h.tree.nodes.set a.1.toNat y).length ≤ 65 ∧ ∀ x ∈ h.tree.nodes.set a.1.toNat y,AcR x := by
  intro y hy
  refine ⟨by rw [List.length_set]; omega,fun x hx => ?_⟩
  rcases AjG hx with rfl | hx
  ·exact hy
  ·exact hm x hx
 have hx := hm _ (AcC (d := default) hi)
 refine Ok.ite (fun _ => ?_) fun _ => ?_
 ·refine Ok.bind (Kp hb1 9 (by omega)) fun z ⟨hz,_⟩ => Ok.guard hi ?_
  have q := hset { id := z.1,parent := (h.tree.nodes.getD a.1.toNat default).parent,name := (h.tree.nodes.getD a.1.toNat default).name,control := (h.tree.nodes.getD a.1.toNat default).control,kind := (h.tree.nodes.getD a.1.toNat default).kind,owner := (h.tree.nodes.getD a.1.toNat default).owner } hx
  exact hJ _ _ _ _ hz q.1 q.2
 refine Ok.ite (fun _ => ?_) fun _ => ?_
 ·refine Ok.bind (Kp hb1 9 (by omega)) fun z ⟨hz,_⟩ => Ok.guard hi ?_
  have q := hset { id := (h.tree.nodes.getD a.1.toNat default).id,parent := z.1,name := (h.tree.nodes.getD a.1.toNat default).name,control := (h.tree.nodes.getD a.1.toNat default).control,kind := (h.tree.nodes.getD a.1.toNat default).kind,owner := (h.tree.nodes.getD a.1.toNat default).owner } hx
  exact hJ _ _ _ _ hz q.1 q.2
 refine Ok.ite (fun _ => ?_) fun _ => ?_
 ·refine Ok.bind (Word_ok hb1) fun z ⟨hz,hs⟩ => Ok.guard hi ?_
  have q := hset { id := (h.tree.nodes.getD a.1.toNat default).id,parent := (h.tree.nodes.getD a.1.toNat default).parent,name := z.1,control := (h.tree.nodes.getD a.1.toNat default).control,kind := (h.tree.nodes.getD a.1.toNat default).kind,owner := (h.tree.nodes.getD a.1.toNat default).owner } ⟨by simp only; omega,hx.2⟩
  exact hJ _ _ _ _ hz q.1 q.2
 refine Ok.ite (fun _ => ?_) fun _ => ?_
 ·refine Ok.bind (Vd hb1) fun z ⟨hz,_,hs⟩ => Ok.guard hi ?_
  have q := hset { id := (h.tree.nodes.getD a.1.toNat default).id,parent := (h.tree.nodes.getD a.1.toNat default).parent,name := (h.tree.nodes.getD a.1.toNat default).name,control := z.1,kind := (h.tree.nodes.getD a.1.toNat default).kind,owner := (h.tree.nodes.getD a.1.toNat default).owner } ⟨hx.1,by simp only; omega⟩
  exact hJ _ _ _ _ hz q.1 q.2
 refine Ok.ite (fun _ => ?_) fun _ => ?_
 ·refine Ok.bind (Kp hb1 4 (by omega)) fun z ⟨hz,_⟩ => Ok.guard hi ?_
  have q := hset { id := (h.tree.nodes.getD a.1.toNat default).id,parent := (h.tree.nodes.getD a.1.toNat default).parent,name := (h.tree.nodes.getD a.1.toNat default).name,control := (h.tree.nodes.getD a.1.toNat default).control,kind := w64 (z.1 - 1),owner := (h.tree.nodes.getD a.1.toNat default).owner } hx
  exact hJ _ _ _ _ hz q.1 q.2
 refine Ok.ite (fun _ => ?_) fun _ => ?_
 ·refine Ok.bind (AjA hb1) fun z hz => Ok.guard hi ?_
  have q := hset { id := (h.tree.nodes.getD a.1.toNat default).id,parent := (h.tree.nodes.getD a.1.toNat default).parent,name := (h.tree.nodes.getD a.1.toNat default).name,control := (h.tree.nodes.getD a.1.toNat default).control,kind := (h.tree.nodes.getD a.1.toNat default).kind,owner := z.1 } hx
  exact hJ _ _ _ _ hz q.1 q.2
 refine Ok.ite (fun _ => ?_) fun _ => ?_
 ·exact Ok.bind (Kp hb1 9 (by omega)) fun z ⟨hz,_⟩ => hJ _ _ _ _ hz (by omega) hm
 refine Ok.ite (fun _ => ?_) fun _ => ?_
 ·exact Ok.bind (Kp hb1 9 (by omega)) fun z ⟨hz,_⟩ => hJ _ _ _ _ hz (by omega) hm
 refine Ok.ite (fun _ => ?_) fun _ => ?_
 ·refine Ok.guard hi (Ok.guard (by omega) (hJ _ _ _ _ hb1 (by simp; omega) fun x hx' => ?_))
  rcases List.mem_append.mp hx' with h1 | h1
  ·exact hm x h1
  ·obtain rfl : x = _ := by simpa only [List.mem_singleton] using h1
   exact hx
 ·exact hJ _ _ _ _ hb1 (by omega) hm
def Nz (h : Aa) : Prop := h.tree.nodes.length ≤ 1000000 ∧ h.tasks.length ≤ 1000000
theorem Cb : Nz zH := ⟨by simp [zH,zT],by simp [zH]⟩
theorem WfH.small {h : Aa} (w : WfH h) : Nz h := ⟨by have := w.tree.len2; omega,by have := w.len; omega⟩
theorem AkO {h : Aa} (s : Nz h) (g : Int) : Nz (Sz h g).1 := by
 unfold Sz
 split
 ·exact Cb
 ·split
  ·exact Cb
  ·refine ⟨?_,s.2⟩
   have := s.1
   unfold Ot
   split
   ·simp [zT]
   ·split
    ·simp [zT]
    ·split
     ·simp [zT]
     ·have := List.length_filter_le (fun x : Ah => x.id != g) h.tree.nodes
      simp only
      omega
end Go.Dm
