/- Texts of the proof of FreezeExact: the data machine, the models of the Go functions, their contracts. -/
import Derived.Test.YtkkeddafdmjhlaaGreatFreezeExactA1
import Derived.KernelRfl
set_option linter.unusedVariables false
set_option linter.unusedSimpArgs false
/- Models of Go types and functions, printed by a program. -/
namespace Go.Dm
set_option linter.unusedVariables false
structure Ao where
 id : Int
 parent : Int
 name : ByteArray
 control : Int
 kind : Int
 owner : Int
 deriving Inhabited
def Ar (x : Ao) : List PV := [vi x.id,vi x.parent,vs x.name,vi x.control,vi x.kind,vi x.owner]
abbrev Bm : Ao := default
abbrev Ba (L : List Ao) : PV := Mp 6 Ar (default : Ao) L
abbrev Ak (L : List Ao) : Body := rowOf 6 Ar (default : Ao) L
abbrev Xu (L : List Ao) : Nat → List PV := elems Ar (default : Ao) L
structure Ag where
 nodes : List Ao
 next : Int
 deriving Inhabited
def As (x : Ag) : List PV := [Mp 6 Ar (default : Ao) x.nodes,vi x.next]
structure Aw where
 id : Int
 process : Int
 group : Int
 user : Int
 deriving Inhabited
def Az (x : Aw) : List PV := [vi x.id,vi x.process,vi x.group,vi x.user]
abbrev Bu : Aw := default
abbrev Be (L : List Aw) : PV := Mp 4 Az (default : Aw) L
abbrev At (L : List Aw) : Body := rowOf 4 Az (default : Aw) L
abbrev Ack (L : List Aw) : Nat → List PV := elems Az (default : Aw) L
structure Aa where
 tree : Ag
 tasks : List Aw
 next : Int
 deriving Inhabited
def Ab (x : Aa) : List PV := [Mp 6 Ar (default : Ao) x.tree.nodes,vi x.tree.next,Mp 4 Az (default : Aw) x.tasks,vi x.next]
structure Aq where
 l : List Int
 atF : Int
 deriving Inhabited
def An (x : Aq) : List PV := [Mp 1 Bi 0 x.l,vi x.atF]
def Zn (p0 : List Int) : Option Bool := (some (decide (((p0.length : Nat) : Int) ≤ 600)))
def AaJ : Option Ag := (some ({ nodes := [({ id := 1,parent := 0,name := ByteArray.empty,control := 0,kind := 0,owner := 0 } : Ao)],next := 2 } : Ag))
def AfJ : Option Aa := (Option.bind AaJ fun r1 => (some ({ tree := r1,tasks := [],next := 1 } : Aa)))
def AaE (p0 : ByteArray) (k1 : Int) (s1 : Unit) (n1 : Unit → Option Bool) : Option Bool := (if 0 ≤ k1 ∧ k1 < ((p0.size : Nat) : Int) then (if (!((((((decide ((((Br p0 (Int.toNat k1)) : Nat) : Int) ≥ 97)) && (decide ((((Br p0 (Int.toNat k1)) : Nat) : Int) ≤ 122))) || ((decide ((((Br p0 (Int.toNat k1)) : Nat) : Int) ≥ 65)) && (decide ((((Br p0 (Int.toNat k1)) : Nat) : Int) ≤ 90)))) || ((decide ((((Br p0 (Int.toNat k1)) : Nat) : Int) ≥ 48)) && (decide ((((Br p0 (Int.toNat k1)) : Nat) : Int) ≤ 57)))) || ((((Br p0 (Int.toNat k1)) : Nat) : Int) == 95)) || ((((Br p0 (Int.toNat k1)) : Nat) : Int) == 45))) then (some false) else (n1 ())) else none)
def Ady (s1 : Unit) : Option Bool := (some true)
def Oi (p0 : ByteArray) (y1 : Bool) : Option Bool := (if y1 then (some false) else (if ((p0.size : Nat) : Int) ≤ 9223372036854775807 then (forO (AaE p0) Ady (Int.toNat (((p0.size : Nat) : Int) - 0)) 0 ()) else none))
def Se (p0 : ByteArray) : Option Bool := (if (((p0.size : Nat) : Int) == 0) then ((Oi p0) true) else (if (decide (((p0.size : Nat) : Int) > 32)) then ((Oi p0) true) else (if 0 < p0.size then ((Oi p0) ((((Br p0 0) : Nat) : Int) == 45)) else none)))
def Ql (n1 : Bool → Option Bool) (y5 : Bool) (y6 : Bool) : Option Bool := (if y6 then (some false) else (n1 y5))
def Qk (p0 : Ag) (p1 : Int) (k1 : Int) (n1 : Bool → Option Bool) (y5 : Bool) : Option Bool := (if 0 ≤ k1 ∧ k1 < ((p0.nodes.length : Nat) : Int) then (if ((p0.nodes.getD (Int.toNat k1) (default : Ao)).parent == (p0.nodes.getD (Int.toNat p1) (default : Ao)).parent) then (if 0 ≤ k1 ∧ k1 < ((p0.nodes.length : Nat) : Int) then ((Ql n1 y5) (Ea (p0.nodes.getD (Int.toNat k1) (default : Ao)).name (p0.nodes.getD (Int.toNat p1) (default : Ao)).name)) else none) else ((Ql n1 y5) false)) else none)
def AbL (p0 : Ag) (p1 : Int) (k1 : Int) (s1 : Bool) (n1 : Bool → Option Bool) : Option Bool := (if s1 then ((Qk p0 p1 k1 n1) true) else (if 0 ≤ k1 ∧ k1 < ((p0.nodes.length : Nat) : Int) then ((Qk p0 p1 k1 n1) ((p0.nodes.getD (Int.toNat k1) (default : Ao)).id == (p0.nodes.getD (Int.toNat p1) (default : Ao)).parent)) else none))
def Afk (s1 : Bool) : Option Bool := (some s1)
def Ti (p0 : Ag) (p1 : Int) (y1 : Bool) : Option Bool := (if y1 then (some false) else (if p1 ≤ 9223372036854775807 then (forO (AbL p0 p1) Afk (Int.toNat (p1 - 0)) 0 false) else none))
def Xs (p0 : Ag) (p1 : Int) : Option Bool := (if 0 ≤ p1 ∧ p1 < ((p0.nodes.length : Nat) : Int) then (if (((((((p0.nodes.getD (Int.toNat p1) (default : Ao)).kind != 0) && ((p0.nodes.getD (Int.toNat p1) (default : Ao)).kind != 1)) || (decide ((p0.nodes.getD (Int.toNat p1) (default : Ao)).control < 0))) || (decide ((p0.nodes.getD (Int.toNat p1) (default : Ao)).control > 31))) || (decide ((p0.nodes.getD (Int.toNat p1) (default : Ao)).owner < 0))) || (decide ((p0.nodes.getD (Int.toNat p1) (default : Ao)).owner > 1048576))) then (some false) else (if (p1 == 0) then (some (((((p0.nodes.getD (Int.toNat p1) (default : Ao)).id == 1) && ((p0.nodes.getD (Int.toNat p1) (default : Ao)).parent == 0)) && (Ea (p0.nodes.getD (Int.toNat p1) (default : Ao)).name ByteArray.empty)) && ((p0.nodes.getD (Int.toNat p1) (default : Ao)).kind == 0))) else (if 0 ≤ (w64 (p1 - 1)) ∧ (w64 (p1 - 1)) < ((p0.nodes.length : Nat) : Int) then (if (decide ((p0.nodes.getD (Int.toNat p1) (default : Ao)).id ≤ (p0.nodes.getD (Int.toNat (w64 (p1 - 1))) (default : Ao)).id)) then ((Ti p0 p1) true) else (Option.bind (Se (p0.nodes.getD (Int.toNat p1) (default : Ao)).name) fun r17 => ((Ti p0 p1) (!r17)))) else none))) else none)
def Uk (s1 : (List Int) × Int × Int) (n1 : ((List Int) × Int × Int) → Option (List Int)) (y2 : (List Int) × Int) : Option (List Int) := (n1 (y2.1,y2.2,(w64 (s1.2.2 - 1))))
def Aen (p0 : Ag) (s1 : (List Int) × Int × Int) (n1 : ((List Int) × Int × Int) → Option (List Int)) : Option (List Int) := (if (decide (s1.2.2 ≥ 0)) then (if 0 ≤ s1.2.2 ∧ s1.2.2 < ((p0.nodes.length : Nat) : Int) then (if ((p0.nodes.getD (Int.toNat s1.2.2) (default : Ao)).id == s1.2.1) then (if s1.1.length + 1 ≤ 1073741824 then (if 0 ≤ s1.2.2 ∧ s1.2.2 < ((p0.nodes.length : Nat) : Int) then ((Uk s1 n1) ((s1.1 ++ [s1.2.1]),(p0.nodes.getD (Int.toNat s1.2.2) (default : Ao)).parent)) else none) else none) else ((Uk s1 n1) (s1.1,s1.2.1))) else none) else (some s1.1))
def Aaa (p0 : Ag) (p1 : Int) : Option (List Int) := (whileO (Aen p0) Ej ([],p1,(w64 (((p0.nodes.length : Nat) : Int) - 1))))
def Aah (p0 : Ag) (k1 : Nat) (x1 : Ao) (s1 : Unit) (n1 : Unit → Option Bool) : Option Bool := (Option.bind (Xs p0 ((k1 : Nat) : Int)) fun r33 => (if (!r33) then (some false) else (n1 ())))
def Aag (p0 : Ag) (k4 : Nat) (x4 : Ao) (s4 : Unit) (n4 : Unit → Option Bool) : Option Bool := (Option.bind (Aaa p0 x4.id) fun r50 => (if (decide (((r50.length : Nat) : Int) > 9)) then (some false) else (n4 ())))
def Ri (y7 : Bool) : Option Bool := (some y7)
def AaN (p0 : Ag) (s4 : Unit) : Option Bool := (if 0 ≤ (w64 (((p0.nodes.length : Nat) : Int) - 1)) ∧ (w64 (((p0.nodes.length : Nat) : Int) - 1)) < ((p0.nodes.length : Nat) : Int) then (if (decide (p0.next > (p0.nodes.getD (Int.toNat (w64 (((p0.nodes.length : Nat) : Int) - 1))) (default : Ao)).id)) then (Ri (decide (p0.next ≤ 2147483648))) else (Ri false)) else none)
def AaL (p0 : Ag) (s1 : Unit) : Option Bool := (if p0.nodes.length ≤ 9223372036854775807 then Bl (Aag p0) (AaN p0) p0.nodes 0 () else none)
def Ki (p0 : Ag) : Option Bool := (if ((decide (((p0.nodes.length : Nat) : Int) < 1)) || (decide (((p0.nodes.length : Nat) : Int) > 64))) then (some false) else (if p0.nodes.length ≤ 9223372036854775807 then Bl (Aah p0) (AaL p0) p0.nodes 0 () else none))
def Adl (p1 : Int) (k1 : Nat) (x1 : Aw) (s1 : Unit) (n1 : Unit → Option (Aw × Bool)) : Option (Aw × Bool) := (if (x1.id == p1) then (some (x1,(x1.process == p1))) else (n1 ()))
def Adj (s1 : Unit) : Option (Aw × Bool) := (some (({ id := 0,process := 0,group := 0,user := 0 } : Aw),false))
def Tl (p0 : List Aw) (p1 : Int) : Option (Aw × Bool) := (if p0.length ≤ 9223372036854775807 then Bl (Adl p1) Adj p0 0 () else none)
def Aft (p1 : Int) (k1 : Nat) (x1 : Ao) (s1 : Unit) (n1 : Unit → Option (Ao × Bool)) : Option (Ao × Bool) := (if (x1.id == p1) then (some (x1,true)) else (n1 ()))
def Afs (s1 : Unit) : Option (Ao × Bool) := (some (({ id := 0,parent := 0,name := ByteArray.empty,control := 0,kind := 0,owner := 0 } : Ao),false))
def Dp (p0 : Ag) (p1 : Int) : Option (Ao × Bool) := (Option.bind (Ki p0) fun r1 => (if (!r1) then (some (({ id := 0,parent := 0,name := ByteArray.empty,control := 0,kind := 0,owner := 0 } : Ao),false)) else (if p0.nodes.length ≤ 9223372036854775807 then Bl (Aft p1) Afs p0.nodes 0 () else none)))
def Gd (p0 : Ag) (p1 : Int) : Option Bool := (Option.bind (Dp p0 p1) fun r1 => (some r1.2))
def Ci (n1 : Unit → Option Bool) (y4 : Bool) : Option Bool := (if y4 then (some false) else (n1 ()))
def Vt (p0 : Aa) (k1 : Nat) (x1 : Aw) (s1 : Unit) (n1 : Unit → Option Bool) : Option Bool := (Option.bind (Tl p0.tasks x1.process) fun r46 => (if (decide (x1.id < 1)) then ((Ci n1) true) else (if (decide (((k1 : Nat) : Int) > 0)) then (if 0 ≤ (w64 (((k1 : Nat) : Int) - 1)) ∧ (w64 (((k1 : Nat) : Int) - 1)) < ((p0.tasks.length : Nat) : Int) then (if (decide ((p0.tasks.getD (Int.toNat (w64 (((k1 : Nat) : Int) - 1))) (default : Aw)).id ≥ x1.id)) then ((Ci n1) true) else (Option.bind (Gd p0.tree x1.group) fun r51 => (if (!r51) then ((Ci n1) true) else (if (decide (x1.user < 0)) then ((Ci n1) true) else (if (decide (x1.user > 1048576)) then ((Ci n1) true) else (if (!r46.2) then ((Ci n1) true) else ((Ci n1) (r46.1.user != x1.user)))))))) else none) else (Option.bind (Gd p0.tree x1.group) fun r56 => (if (!r56) then ((Ci n1) true) else (if (decide (x1.user < 0)) then ((Ci n1) true) else (if (decide (x1.user > 1048576)) then ((Ci n1) true) else (if (!r46.2) then ((Ci n1) true) else ((Ci n1) (r46.1.user != x1.user))))))))))
def AaK (s1 : Unit) : Option Bool := (some true)
def Jb (p0 : Aa) (y1 : Bool) : Option Bool := (if y1 then (some false) else (if p0.tasks.length ≤ 9223372036854775807 then Bl (Vt p0) AaK p0.tasks 0 () else none))
def Gc (p0 : Aa) : Option Bool := (Option.bind (Ki p0.tree) fun r1 => (if (!r1) then ((Jb p0) true) else (if (decide (((p0.tasks.length : Nat) : Int) > 128)) then ((Jb p0) true) else (if (decide (p0.next < 1)) then ((Jb p0) true) else (if (decide (p0.next > 2147483648)) then ((Jb p0) true) else (if (decide (((p0.tasks.length : Nat) : Int) > 0)) then (if 0 ≤ (w64 (((p0.tasks.length : Nat) : Int) - 1)) ∧ (w64 (((p0.tasks.length : Nat) : Int) - 1)) < ((p0.tasks.length : Nat) : Int) then ((Jb p0) (decide (p0.next ≤ (p0.tasks.getD (Int.toNat (w64 (((p0.tasks.length : Nat) : Int) - 1))) (default : Aw)).id))) else none) else ((Jb p0) false)))))))
def Te (p0 : Ag) (p1 : Int) : Option Int := (Option.bind (Dp p0 p1) fun r1 => (if ((!r1.2) || (p1 == 1)) then (some 0) else (Option.bind (Dp p0 r1.1.parent) fun r4 => (if (r1.1.kind == 1) then (some (Ek .i64 r4.1.control 6)) else (some r4.1.control)))))
def Me (y2 : Int) : Option Int := (some y2)
def Jy (r1 : Ao × Bool) (y1 : Int) : Option Int := (if (r1.1.kind == 1) then (Me (Ek .i64 y1 6)) else (Me y1))
def Lv (p0 : Ag) (p1 : Int) : Option Int := (Option.bind (Dp p0 p1) fun r1 => (if (!r1.2) then (some 0) else (if (p1 != 1) then (Option.bind (Te p0 p1) fun r4 => ((Jy r1) r4)) else ((Jy r1) 31))))
def Rm (n1 : (List Int) → Option (List Int)) (y3 : List Int) : Option (List Int) := (n1 y3)
def Aan (p1 : Int) (k1 : Nat) (x1 : Aw) (s1 : List Int) (n1 : (List Int) → Option (List Int)) : Option (List Int) := (if (x1.group == p1) then (if s1.length + 1 ≤ 1073741824 then ((Rm n1) (s1 ++ [x1.id])) else none) else ((Rm n1) s1))
def AdR (s1 : List Int) : Option (List Int) := (some s1)
def Iw (p0 : Aa) (p1 : Int) : Option (List Int) := (Option.bind (Gc p0) fun r1 => (if (!r1) then (some []) else (if p0.tasks.length ≤ 9223372036854775807 then Bl (Aan p1) AdR p0.tasks 0 [] else none)))
def Kq (n1 : Unit → Option Bool) (y3 : Bool) : Option Bool := (if y3 then (some false) else (n1 ()))
def AaH (p0 : Aa) (k1 : Nat) (x1 : Ao) (s1 : Unit) (n1 : Unit → Option Bool) : Option Bool := (Option.bind (Lv p0.tree x1.id) fun r20 => (if ((Ek .i64 x1.control r20) != 0) then ((Kq n1) true) else (if (x1.id != 1) then (if ((kand .i64 x1.control 6) != 0) then (Option.bind (Iw p0 x1.id) fun r24 => ((Kq n1) (decide (((r24.length : Nat) : Int) > 0)))) else ((Kq n1) false)) else ((Kq n1) false))))
def Aeg (s1 : Unit) : Option Bool := (some true)
def Sr (p0 : Aa) : Option Bool := (Option.bind (Gc p0) fun r1 => (if (!r1) then (some false) else (if p0.tree.nodes.length ≤ 9223372036854775807 then Bl (AaH p0) Aeg p0.tree.nodes 0 () else none)))
def Afw (p1 : Int) (k1 : Nat) (x1 : Aw) (s1 : Unit) (n1 : Unit → Option (Aw × Bool)) : Option (Aw × Bool) := (if (x1.id == p1) then (some (x1,true)) else (n1 ()))
def Afq (s1 : Unit) : Option (Aw × Bool) := (some (({ id := 0,process := 0,group := 0,user := 0 } : Aw),false))
def Hm (p0 : Aa) (p1 : Int) : Option (Aw × Bool) := (Option.bind (Gc p0) fun r1 => (if (!r1) then (some (({ id := 0,process := 0,group := 0,user := 0 } : Aw),false)) else (if p0.tasks.length ≤ 9223372036854775807 then Bl (Afw p1) Afq p0.tasks 0 () else none)))
def Fo (p0 : Ag) (p1 : Int) : Option (List Int) := (Option.bind (Gd p0 p1) fun r1 => (if (!r1) then (some []) else (Option.bind (Aaa p0 p1) fun r3 => (some r3))))
def Yq (p0 : Ag) (k1 : Nat) (x1 : Int) (s1 : Unit) (n1 : Unit → Option (Int × Bool)) : Option (Int × Bool) := (Option.bind (Dp p0 x1) fun r17 => (if (r17.1.kind != 1) then (some (x1,true)) else (n1 ())))
def Adk (s1 : Unit) : Option (Int × Bool) := (some (0,false))
def Ls (p0 : Ag) (p1 : Int) : Option (Int × Bool) := (Option.bind (Fo p0 p1) fun r1 => (if r1.length ≤ 9223372036854775807 then Bl (Yq p0) Adk r1 0 () else none))
def Nk (n1 : (List Int) → Option (List Int)) (y3 : List Int) : Option (List Int) := (n1 y3)
def Va (p1 : Int) (k1 : Nat) (x1 : Ao) (s1 : List Int) (n1 : (List Int) → Option (List Int)) : Option (List Int) := (if (x1.parent == p1) then (if s1.length + 1 ≤ 1073741824 then ((Nk n1) (s1 ++ [x1.id])) else none) else ((Nk n1) s1))
def Abo (s1 : List Int) : Option (List Int) := (some s1)
def Hy (p0 : Ag) (p1 : Int) : Option (List Int) := (Option.bind (Gd p0 p1) fun r1 => (if (!r1) then (some []) else (if p0.nodes.length ≤ 9223372036854775807 then Bl (Va p1) Abo p0.nodes 0 [] else none)))
def Abz (p0 : Ag) (k1 : Nat) (x1 : Int) (s1 : Unit) (n1 : Unit → Option Int) : Option Int := (Option.bind (Dp p0 x1) fun r21 => (if (r21.1.kind == 1) then (some 1) else (n1 ())))
def AfB (s1 : Unit) : Option Int := (some 0)
def Nm (p0 : Ag) (p1 : Int) (y1 : Bool) : Option Int := (if y1 then (some 3) else (Option.bind (Hy p0 p1) fun r9 => (if r9.length ≤ 9223372036854775807 then Bl (Abz p0) AfB r9 0 () else none)))
def Sj (rec : Ag → Int → Option Int) (p0 : Ag) (p1 : Int) : Option Int := (Option.bind (Dp p0 p1) fun r1 => (if (!r1.2) then (some 0) else (if (r1.1.kind == 1) then (some 2) else (Option.bind (Dp p0 r1.1.parent) fun r4 => (if r4.2 then (if (r4.1.kind == 1) then ((Nm p0 p1) true) else (Option.bind (rec p0 r4.1.id) fun r7 => ((Nm p0 p1) (r7 == 3)))) else ((Nm p0 p1) false))))))
def Ll : Nat → Ag → Int → Option Int
 | 0,_,_ => none
 | n + 1,p0,p1 => Sj (Ll n) p0 p1
def Na (p0 : Ag) (p1 : Int) : Option Int := Ll Ej p0 p1
def Abv (p0 : Aa) (k1 : Nat) (x1 : Aw) (s1 : Unit) (n1 : Unit → Option Bool) : Option Bool := (Option.bind (Hm p0 x1.process) fun r100 => (Option.bind (Ls p0.tree x1.group) fun r101 => (Option.bind (Ls p0.tree r100.1.group) fun r102 => (if (r101.1 != r102.1) then (some false) else (n1 ())))))
def Kr (n4 : Unit → Option Bool) (y18 : Bool) : Option Bool := (if y18 then (some false) else (n4 ()))
def Mf (p0 : Aa) (x4 : Ao) (n4 : Unit → Option Bool) (r133 : Ao × Bool) (y17 : Bool) : Option Bool := (if y17 then (some false) else (if (x4.kind == 1) then (if (r133.1.id != 1) then (if ((kand .i64 r133.1.control 6) != 0) then ((Kr n4) true) else (Option.bind (Na p0.tree r133.1.id) fun r142 => ((Kr n4) (r142 == 3)))) else (Option.bind (Na p0.tree r133.1.id) fun r143 => ((Kr n4) (r143 == 3)))) else ((Kr n4) false)))
def AbI (p0 : Aa) (k4 : Nat) (x4 : Ao) (s4 : Unit) (n4 : Unit → Option Bool) : Option Bool := (Option.bind (Dp p0.tree x4.parent) fun r133 => (Option.bind (Na p0.tree x4.id) fun r134 => (if (r134 == 3) then (if (x4.control != 0) then ((Mf p0 x4 n4 r133) true) else (Option.bind (Iw p0 x4.id) fun r137 => ((Mf p0 x4 n4 r133) (decide (((r137.length : Nat) : Int) > 0))))) else ((Mf p0 x4 n4 r133) false))))
def AfG (s4 : Unit) : Option Bool := (some true)
def AbK (p0 : Aa) (s1 : Unit) : Option Bool := (if p0.tree.nodes.length ≤ 9223372036854775807 then Bl (AbI p0) AfG p0.tree.nodes 0 () else none)
def Lr (p0 : Aa) : Option Bool := (Option.bind (Sr p0) fun r1 => (if (!r1) then (some false) else (if p0.tasks.length ≤ 9223372036854775807 then Bl (Abv p0) (AbK p0) p0.tasks 0 () else none)))
def Vf (p0 : Ag) (p1 : Int) : Option Int := (Option.bind (Fo p0 p1) fun r1 => (some (w64 (((r1.length : Nat) : Int) - 1))))
def Pa (p0 : Ag) : Option Ag := (if p0.nodes.length ≤ 1073741824 then (some p0) else none)
def AcJ (p1 : Int) (p2 : ByteArray) (k1 : Nat) (x1 : Ao) (s1 : Unit) (n1 : Unit → Option (Ag × Int × Int)) : Option (Ag × Int × Int) := (if ((x1.parent == p1) && (Ea x1.name p2)) then (some (({ nodes := [],next := 0 } : Ag),0,5)) else (n1 ()))
def Ph (p0 : Ag) (p1 : Int) (p2 : ByteArray) (y6 : Bool) : Option (Ag × Int × Int) := (if y6 then (some (({ nodes := [],next := 0 } : Ag),0,7)) else (Option.bind (Pa p0) fun r36 => (if r36.nodes.length + 1 ≤ 1073741824 then (some (({ nodes := (r36.nodes ++ [({ id := p0.next,parent := p1,name := p2,control := 0,kind := 0,owner := 0 } : Ao)]),next := (w64 (r36.next + 1)) } : Ag),p0.next,0)) else none)))
def AcH (p0 : Ag) (p1 : Int) (p2 : ByteArray) (s1 : Unit) : Option (Ag × Int × Int) := (Option.bind (Vf p0 p1) fun r32 => (if (decide (r32 ≥ 8)) then ((Ph p0 p1 p2) true) else (if (decide (((p0.nodes.length : Nat) : Int) ≥ 64)) then ((Ph p0 p1 p2) true) else ((Ph p0 p1 p2) (decide (p0.next > 2147483647))))))
def Vi (p0 : Ag) (p1 : Int) (p2 : ByteArray) (y1 : Bool) : Option (Ag × Int × Int) := (if y1 then (some (({ nodes := [],next := 0 } : Ag),0,1)) else (Option.bind (Gd p0 p1) fun r5 => (if (!r5) then (some (({ nodes := [],next := 0 } : Ag),0,4)) else (if p0.nodes.length ≤ 9223372036854775807 then Bl (AcJ p1 p2) (AcH p0 p1 p2) p0.nodes 0 () else none))))
def AaP (p0 : Ag) (p1 : Int) (p2 : ByteArray) : Option (Ag × Int × Int) := (Option.bind (Ki p0) fun r1 => (if (!r1) then ((Vi p0 p1 p2) true) else (Option.bind (Se p2) fun r3 => ((Vi p0 p1 p2) (!r3)))))
def Oy (p0 : Aa) : Option Aa := (Option.bind (Pa p0.tree) fun r1 => (if p0.tasks.length ≤ 1073741824 then (some ({ tree := r1,tasks := p0.tasks,next := p0.next } : Aa)) else none))
def Ur (r3 : Aa) (y1 : Aw) : Option (Aa × Int × Int) := (if r3.tasks.length + 1 ≤ 1073741824 then (some (({ tree := r3.tree,tasks := (r3.tasks ++ [y1]),next := (w64 (r3.next + 1)) } : Aa),y1.id,0)) else none)
def Wr (p0 : Aa) (p1 : Aw) : Option (Aa × Int × Int) := (if ((decide (((p0.tasks.length : Nat) : Int) ≥ 128)) || (decide (p0.next > 2147483647))) then (some (({ tree := ({ nodes := [],next := 0 } : Ag),tasks := [],next := 0 } : Aa),0,7)) else (Option.bind (Oy p0) fun r3 => (if (p1.process == 0) then ((Ur r3) ({ id := p0.next,process := p0.next,group := p1.group,user := p1.user } : Aw)) else ((Ur r3) ({ id := p0.next,process := p1.process,group := p1.group,user := p1.user } : Aw)))))
def Nx (p0 : Aa) (p1 : Int) (p2 : Int) (y1 : Bool) : Option (Aa × Int × Int) := (if y1 then (some (({ tree := ({ nodes := [],next := 0 } : Ag),tasks := [],next := 0 } : Aa),0,1)) else (Option.bind (Gd p0.tree p1) fun r5 => (if (!r5) then (some (({ tree := ({ nodes := [],next := 0 } : Ag),tasks := [],next := 0 } : Aa),0,4)) else (Option.bind (Wr p0 ({ id := 0,process := 0,group := p1,user := p2 } : Aw)) fun r7 => (some (r7.1,r7.2.1,r7.2.2))))))
def Up (p0 : Aa) (p1 : Int) (p2 : Int) : Option (Aa × Int × Int) := (Option.bind (Gc p0) fun r1 => (if (!r1) then ((Nx p0 p1 p2) true) else (if (decide (p2 < 0)) then ((Nx p0 p1 p2) true) else ((Nx p0 p1 p2) (decide (p2 > 1048576))))))
def Abi (p0 : Ao) : Option Bool := (some ((((p0.id == 1) && (p0.parent == 0)) && (Ea p0.name ByteArray.empty)) && (p0.kind == 0)))
def Zp (p0 : Int) : Option Bool := (some ((((((decide (p0 ≥ 97)) && (decide (p0 ≤ 122))) || ((decide (p0 ≥ 65)) && (decide (p0 ≤ 90)))) || ((decide (p0 ≥ 48)) && (decide (p0 ≤ 57)))) || (p0 == 95)) || (p0 == 45)))
def AaF (k1 : Nat) (x1 : Int) (s1 : Unit) (n1 : Unit → Option Bool) : Option Bool := (Option.bind (Zp x1) fun r16 => (if (!r16) then (some false) else (n1 ())))
def Ox (y3 : Bool) : Option Bool := (some y3)
def Aau (p0 : ByteArray) (s1 : Unit) : Option Bool := (if (!(Ea p0 ByteArray.empty)) then (if (decide (((p0.size : Nat) : Int) ≤ 32)) then (if 0 < p0.size then (Ox ((((Br p0 0) : Nat) : Int) != 45)) else none) else (Ox false)) else (Ox false))
def Uw (p0 : ByteArray) : Option Bool := (if (Iy p0).length ≤ 9223372036854775807 then Bl AaF (Aau p0) (Iy p0) 0 () else none)
def AbH (p1 : Ao) (k1 : Nat) (x1 : Ao) (s1 : Bool) (n1 : Bool → Option Bool) : Option Bool := (if ((x1.parent == p1.parent) && (Ea x1.name p1.name)) then (some false) else (n1 (s1 || (x1.id == p1.parent))))
def Afy (s1 : Bool) : Option Bool := (some s1)
def Kg (p0 : List Ao) (p1 : Ao) (y1 : Bool) : Option Bool := (if y1 then (some false) else (if p0.length ≤ 9223372036854775807 then Bl (AbH p1) Afy p0 0 false else none))
def Xv (p0 : List Ao) (p1 : Ao) : Option Bool := (if 0 ≤ (w64 (((p0.length : Nat) : Int) - 1)) ∧ (w64 (((p0.length : Nat) : Int) - 1)) < ((p0.length : Nat) : Int) then (if (decide (p1.id ≤ (p0.getD (Int.toNat (w64 (((p0.length : Nat) : Int) - 1))) (default : Ao)).id)) then ((Kg p0 p1) true) else (Option.bind (Uw p1.name) fun r3 => (if (!r3) then ((Kg p0 p1) true) else (if (p1.kind != 0) then ((Kg p0 p1) (p1.kind != 1)) else ((Kg p0 p1) false))))) else none)
def Rl (x1 : Ao) (n1 : (IMap Int) → Option Bool) (y9 : IMap Int) : Option Bool := (if (decide ((y9.get x1.id) > 8)) then (some false) else (n1 y9))
def Gx (k1 : Nat) (x1 : Ao) (s1 : IMap Int) (n1 : (IMap Int) → Option Bool) (y8 : Bool) : Option Bool := (if y8 then (some false) else (if (decide (((k1 : Nat) : Int) > 0)) then ((Rl x1 n1) (s1.set x1.id (w64 ((s1.get x1.parent) + 1)))) else ((Rl x1 n1) s1)))
def Aay (p0 : Ag) (k1 : Nat) (x1 : Ao) (s1 : IMap Int) (n1 : (IMap Int) → Option Bool) : Option Bool := (if (decide (x1.control < 0)) then ((Gx k1 x1 s1 n1) true) else (if ((Ek .i64 x1.control 31) != 0) then ((Gx k1 x1 s1 n1) true) else (if (decide (x1.owner < 0)) then ((Gx k1 x1 s1 n1) true) else (if (decide (x1.owner > 1048576)) then ((Gx k1 x1 s1 n1) true) else (if (decide (((k1 : Nat) : Int) > 0)) then (if ((k1 : Nat) : Int) ≤ ((p0.nodes.length : Nat) : Int) then (Option.bind (Xv (p0.nodes.take k1) x1) fun r43 => ((Gx k1 x1 s1 n1) (!r43))) else none) else ((Gx k1 x1 s1 n1) false))))))
def Px (y10 : Bool) : Option Bool := (some y10)
def Aar (p0 : Ag) (s1 : IMap Int) : Option Bool := (if 0 ≤ (w64 (((p0.nodes.length : Nat) : Int) - 1)) ∧ (w64 (((p0.nodes.length : Nat) : Int) - 1)) < ((p0.nodes.length : Nat) : Int) then (if (decide (p0.next > (p0.nodes.getD (Int.toNat (w64 (((p0.nodes.length : Nat) : Int) - 1))) (default : Ao)).id)) then (Px (decide (p0.next ≤ 2147483648))) else (Px false)) else none)
def On (p0 : Ag) (y1 : Bool) : Option Bool := (if y1 then (some false) else (if p0.nodes.length ≤ 9223372036854775807 then Bl (Aay p0) (Aar p0) p0.nodes 0 (IMap.empty 0) else none))
def Ni (p0 : Ag) : Option Bool := (if (decide (((p0.nodes.length : Nat) : Int) < 1)) then ((On p0) true) else (if (decide (((p0.nodes.length : Nat) : Int) > 64)) then ((On p0) true) else (if 0 < p0.nodes.length then (Option.bind (Abi (p0.nodes.getD 0 (default : Ao))) fun r4 => ((On p0) (!r4))) else none)))
def AdU (p0 : Aw) (p1 : Int) : Option Bool := (some (p0.id == p1))
def Lq (p1c0 : Int) (k1 : Nat) (x1 : Aw) (s1 : Unit) (n1 : Unit → Option Int) : Option Int := (Option.bind (AdU x1 p1c0) fun r10 => (if r10 then (some ((k1 : Nat) : Int)) else (n1 ())))
def Lo (s1 : Unit) : Option Int := (some (-1))
def Gg (p0 : List Aw) (p1c0 : Int) : Option Int := (if p0.length ≤ 9223372036854775807 then Bl (Lq p1c0) Lo p0 0 () else none)
def Acj (p0 : Aa) (p1 : Int) : Option Int := (Option.bind (Gg p0.tasks p1) fun r1 => (some r1))
def Rj (p0 : Aa) (p1 : Int) : Option (Aw × Bool) := (Option.bind (Acj p0 p1) fun r1 => (if (decide (r1 < 0)) then (some (({ id := 0,process := 0,group := 0,user := 0 } : Aw),false)) else (if 0 ≤ r1 ∧ r1 < ((p0.tasks.length : Nat) : Int) then (some ((p0.tasks.getD (Int.toNat r1) (default : Aw)),true)) else none)))
def AbP (p0 : Ao) (p1 : Int) : Option Bool := (some (p0.id == p1))
def Kv (p1c0 : Int) (k1 : Nat) (x1 : Ao) (s1 : Unit) (n1 : Unit → Option Int) : Option Int := (Option.bind (AbP x1 p1c0) fun r10 => (if r10 then (some ((k1 : Nat) : Int)) else (n1 ())))
def Ku (s1 : Unit) : Option Int := (some (-1))
def Fq (p0 : List Ao) (p1c0 : Int) : Option Int := (if p0.length ≤ 9223372036854775807 then Bl (Kv p1c0) Ku p0 0 () else none)
def Pb (p0 : Ag) (p1 : Int) : Option Int := (Option.bind (Fq p0.nodes p1) fun r1 => (some r1))
def Hw (y1 : Bool) : Option Bool := (some y1)
def Tp (p0 : Aa) (p1 : Aw) : Option Bool := (Option.bind (Rj p0 p1.process) fun r1 => (if (decide (p1.user ≥ 0)) then (if (decide (p1.user ≤ 1048576)) then (if r1.2 then (if (r1.1.process == r1.1.id) then (if (r1.1.user == p1.user) then (Option.bind (Pb p0.tree p1.group) fun r7 => (Hw (decide (r7 ≥ 0)))) else (Hw false)) else (Hw false)) else (Hw false)) else (Hw false)) else (Hw false)))
def Nr (x1 : Aw) (n1 : Int → Option Bool) (y4 : Bool) : Option Bool := (if y4 then (some false) else (n1 x1.id))
def Wq (p0 : Aa) (k1 : Nat) (x1 : Aw) (s1 : Int) (n1 : Int → Option Bool) : Option Bool := (if (decide (x1.id ≤ s1)) then ((Nr x1 n1) true) else (Option.bind (Tp p0 x1) fun r17 => ((Nr x1 n1) (!r17))))
def AbU (p0 : Aa) (s1 : Int) : Option Bool := (some (decide (p0.next > s1)))
def Ly (p0 : Aa) (y1 : Bool) : Option Bool := (if y1 then (some false) else (if p0.tasks.length ≤ 9223372036854775807 then Bl (Wq p0) (AbU p0) p0.tasks 0 0 else none))
def Iu (p0 : Aa) : Option Bool := (if (decide (((p0.tasks.length : Nat) : Int) > 128)) then ((Ly p0) true) else (if (decide (p0.next > 2147483648)) then ((Ly p0) true) else (Option.bind (Ni p0.tree) fun r3 => ((Ly p0) (!r3)))))
def Le (n1 : (List Int) → Option (List Int)) (y3 : List Int) : Option (List Int) := (n1 y3)
def Sz (p1 : Int) (k1 : Nat) (x1 : Ao) (s1 : List Int) (n1 : (List Int) → Option (List Int)) : Option (List Int) := (if (x1.parent == p1) then (if s1.length + 1 ≤ 1073741824 then ((Le n1) (s1 ++ [x1.id])) else none) else ((Le n1) s1))
def Zf (s1 : List Int) : Option (List Int) := (some s1)
def Nf (p0 : Ag) (p1 : Int) : Option (List Int) := (if p0.nodes.length ≤ 9223372036854775807 then Bl (Sz p1) Zf p0.nodes 0 [] else none)
def Uf (p0 : Ag) (s1 : (List Int) × (List Int)) (n1 : ((List Int) × (List Int)) → Option (List Int)) : Option (List Int) := (if ((decide (((s1.2.length : Nat) : Int) > 0)) && (decide (((s1.1.length : Nat) : Int) < ((p0.nodes.length : Nat) : Int)))) then (if 0 < s1.2.length then (if s1.1.length + 1 ≤ 1073741824 then (if 0 < s1.2.length then (Option.bind (Nf p0 (s1.2.getD 0 0)) fun r17 => (if 1 ≤ s1.2.length then (if r17.length + (Fz s1.2.length 1) ≤ 1073741824 then (n1 ((s1.1 ++ [(s1.2.getD 0 0)]),(r17 ++ (s1.2.drop 1)))) else none) else none)) else none) else none) else none) else (some s1.1))
def Nz (p0 : Ag) (p1 : Int) : Option (List Int) := (Option.bind (Pb p0 p1) fun r1 => (if (decide (r1 < 0)) then (some []) else (whileO (Uf p0) Ej ([],[p1]))))
def Yb (p1 : Int) (k1 : Nat) (x1 : Int) (s1 : Unit) (n1 : Unit → Option Int) : Option Int := (if (p1 == x1) then (some ((k1 : Nat) : Int)) else (n1 ()))
def Xw (s1 : Unit) : Option Int := (some (-1))
def Mi (p0 : List Int) (p1 : Int) : Option Int := (if p0.length ≤ 9223372036854775807 then Bl (Yb p1) Xw p0 0 () else none)
def Ec (p0 : List Int) (p1 : Int) : Option Bool := (Option.bind (Mi p0 p1) fun r1 => (some (decide (r1 ≥ 0))))
def Tn (p0 : Ag) (p1 : Int) : Option (Ao × Bool) := (Option.bind (Pb p0 p1) fun r1 => (if (decide (r1 < 0)) then (some (({ id := 0,parent := 0,name := ByteArray.empty,control := 0,kind := 0,owner := 0 } : Ao),false)) else (if 0 ≤ r1 ∧ r1 < ((p0.nodes.length : Nat) : Int) then (some ((p0.nodes.getD (Int.toNat r1) (default : Ao)),true)) else none)))
def Kj (y1 : List Int) : Option (List Int) := (some y1)
def Rd (p0 : Ag) (k1 : Nat) (x1 : Ao) (s1 : (List Int) × Int) (n1 : ((List Int) × Int) → Option (List Int)) : Option (List Int) := (Option.bind (Tn p0 s1.2) fun r9 => (if (!r9.2) then (Kj s1.1) else (if s1.1.length + 1 ≤ 1073741824 then (n1 ((s1.1 ++ [s1.2]),r9.1.parent)) else none)))
def Ya (s1 : (List Int) × Int) : Option (List Int) := (Kj s1.1)
def Ma (p0 : Ag) (p1 : Int) : Option (List Int) := (if p0.nodes.length ≤ 9223372036854775807 then Bl (Rd p0) Ya p0.nodes 0 ([],p1) else none)
def AdE (p0 : List Int) : Option Aq := (some ({ l := p0,atF := 0 } : Aq))
def Mk (p0 : Aq) (y1 : Int) : Option (Int × Aq) := (some (y1,({ l := p0.l,atF := (w64 (p0.atF + 1)) } : Aq)))
def Bq (p0 : Aq) (p1 : Int) : Option (Int × Aq) := (if ((decide (p0.atF ≥ ((p0.l.length : Nat) : Int))) || (decide (p1 < 1))) then (some (0,p0)) else (if 0 ≤ (w64 ((w64 (p0.atF + 1)) - 1)) ∧ (w64 ((w64 (p0.atF + 1)) - 1)) < ((p0.l.length : Nat) : Int) then (if (p1 : Int) ≠ 0 then (if (decide ((Int.tmod (p0.l.getD (Int.toNat (w64 ((w64 (p0.atF + 1)) - 1))) 0) p1) < 0)) then ((Mk p0) (w64 ((Int.tmod (p0.l.getD (Int.toNat (w64 ((w64 (p0.atF + 1)) - 1))) 0) p1) + p1))) else ((Mk p0) (Int.tmod (p0.l.getD (Int.toNat (w64 ((w64 (p0.atF + 1)) - 1))) 0) p1))) else none) else none))
def Nt (p0 : Aq) : Option (ByteArray × Aq) := (Option.bind (Bq p0 6) fun r3 => (if 0 ≤ r3.1 ∧ r3.1 < (([(bs [97]),(bs [98]),(bs [99]),(bs [119,101,98]),(bs [100,98,45,49]),(bs [88,95,57])].length : Nat) : Int) then (if (Int.toNat r3.1) < [(bs [97]),(bs [98]),(bs [99]),(bs [119,101,98]),(bs [100,98,45,49]),(bs [88,95,57])].length then (some (([(bs [97]),(bs [98]),(bs [99]),(bs [119,101,98]),(bs [100,98,45,49]),(bs [88,95,57])].getD (Int.toNat r3.1) ByteArray.empty),r3.2)) else none) else none))
def Dk (p0 : Aq) (p1 : Int) : Option (Bool × Aq) := (Option.bind (Bq p0 p1) fun r1 => (some ((r1.1 == (w64 (p1 - 1))),r1.2)))
def Pw (n1 : (List Ao) → Option (Ag × Int)) (y3 : List Ao) : Option (Ag × Int) := (n1 y3)
def Ub (p1 : Int) (k1 : Nat) (x1 : Ao) (s1 : List Ao) (n1 : (List Ao) → Option (Ag × Int)) : Option (Ag × Int) := (if (x1.id != p1) then (if s1.length + 1 ≤ 1073741824 then ((Pw n1) (s1 ++ [x1])) else none) else ((Pw n1) s1))
def Tx (p0 : Ag) (s1 : List Ao) : Option (Ag × Int) := (some (({ nodes := s1,next := p0.next } : Ag),0))
def Tj (p0 : Ag) (p1 : Int) : Option (Ag × Int) := (Option.bind (Ki p0) fun r1 => (if (!r1) then (some (({ nodes := [],next := 0 } : Ag),1)) else (Option.bind (Gd p0 p1) fun r3 => (if (!r3) then (some (({ nodes := [],next := 0 } : Ag),4)) else (if (p1 == 1) then (some (({ nodes := [],next := 0 } : Ag),9)) else (Option.bind (Hy p0 p1) fun r6 => (if (decide (((r6.length : Nat) : Int) > 0)) then (some (({ nodes := [],next := 0 } : Ag),6)) else (if p0.nodes.length ≤ 9223372036854775807 then Bl (Ub p1) (Tx p0) p0.nodes 0 [] else none))))))))
def Ib (s1 : Aq × Ag × Int) (n1 : (Aq × Ag × Int) → Option (Ag × Aq)) (y3 : Aq × Ag) : Option (Ag × Aq) := (n1 (y3.1,y3.2,(w64 (s1.2.2 - 1))))
def Jv (s1 : Aq × Ag × Int) (n1 : (Aq × Ag × Int) → Option (Ag × Aq)) (r21 : ByteArray × Aq) (y4 : Ag) : Option (Ag × Aq) := (Option.bind (Dk r21.2 6) fun r24 => (if r24.1 then (Option.bind (Bq r24.2 ((y4.nodes.length : Nat) : Int)) fun r26 => (if 0 ≤ r26.1 ∧ r26.1 < ((y4.nodes.length : Nat) : Int) then (Option.bind (Tj y4 (y4.nodes.getD (Int.toNat r26.1) (default : Ao)).id) fun r28 => (if (r28.2 == 0) then ((Ib s1 n1) (r26.2,r28.1)) else ((Ib s1 n1) (r26.2,y4)))) else none)) else ((Ib s1 n1) (r24.2,y4))))
def Ug (s1 : Aq × Ag × Int) (n1 : (Aq × Ag × Int) → Option (Ag × Aq)) : Option (Ag × Aq) := (if (decide (s1.2.2 > 0)) then (Option.bind (Bq s1.1 ((s1.2.1.nodes.length : Nat) : Int)) fun r19 => (if 0 ≤ r19.1 ∧ r19.1 < ((s1.2.1.nodes.length : Nat) : Int) then (Option.bind (Nt r19.2) fun r21 => (Option.bind (AaP s1.2.1 (s1.2.1.nodes.getD (Int.toNat r19.1) (default : Ao)).id r21.1) fun r22 => (if (r22.2.2 == 0) then ((Jv s1 n1 r21) r22.1) else ((Jv s1 n1 r21) s1.2.1)))) else none)) else (some (s1.2.1,s1.1)))
def Od (p0 : Aq) (p1 : Int) : Option (Ag × Aq) := (Option.bind AaJ fun r1 => (Option.bind (Bq p0 (w64 (p1 + 1))) fun r2 => (whileO Ug Ej (r2.2,r1,r2.1))))
def Jf (p1 : Ag) (r1 : Bool × Aq) (y1 : Bool) : Option (Int × Aq) := (if y1 then (Option.bind (Bq r1.2 9) fun r4 => (some ((w64 (r4.1 - 1)),r4.2))) else (Option.bind (Bq r1.2 ((p1.nodes.length : Nat) : Int)) fun r5 => (if 0 ≤ r5.1 ∧ r5.1 < ((p1.nodes.length : Nat) : Int) then (some ((p1.nodes.getD (Int.toNat r5.1) (default : Ao)).id,r5.2)) else none)))
def Fs (p0 : Aq) (p1 : Ag) : Option (Int × Aq) := (Option.bind (Dk p0 15) fun r1 => (if r1.1 then ((Jf p1 r1) true) else ((Jf p1 r1) (((p1.nodes.length : Nat) : Int) == 0))))
def Ik (p0 : Aq) : Option (Int × Aq) := (Option.bind (Bq p0 9) fun r3 => (if 0 ≤ r3.1 ∧ r3.1 < (([1,9,31,2,25,4,0,32,(-1)].length : Nat) : Int) then (if (Int.toNat r3.1) < [1,9,31,2,25,4,0,32,(-1)].length then (some (([1,9,31,2,25,4,0,32,(-1)].getD (Int.toNat r3.1) 0),r3.2)) else none) else none))
def AaC (p0 : Int) : Option Bool := (some ((decide (p0 ≥ 0)) && (decide (p0 ≤ 31))))
def Ux (s1 : (List Ao) × Int) (n1 : ((List Ao) × Int) → Option Ag) (y2 : List Ao) : Option Ag := (n1 (y2,(w64 (s1.2 + 1))))
def AcL (p1 : Ao) (r1 : Ag) (s1 : (List Ao) × Int) (n1 : ((List Ao) × Int) → Option Ag) : Option Ag := (if (decide (s1.2 < ((s1.1.length : Nat) : Int))) then (if 0 ≤ s1.2 ∧ s1.2 < ((s1.1.length : Nat) : Int) then (if (Int.toNat s1.2) < s1.1.length then (if ((s1.1.getD (Int.toNat s1.2) (default : Ao)).id == p1.id) then (if 0 ≤ s1.2 ∧ s1.2 < ((s1.1.length : Nat) : Int) then (if (Int.toNat s1.2) < s1.1.length then ((Ux s1 n1) (s1.1.set (Int.toNat s1.2) p1)) else none) else none) else ((Ux s1 n1) s1.1)) else none) else none) else (some ({ nodes := s1.1,next := r1.next } : Ag)))
def Ud (p0 : Ag) (p1 : Ao) : Option Ag := (Option.bind (Pa p0) fun r1 => (whileO (AcL p1 r1) Ej (r1.nodes,0)))
def Aak (p0 : Aa) (p3 : Int) (k1 : Nat) (x1 : Int) (s1 : Unit) (n1 : Unit → Option (Aa × Int)) : Option (Aa × Int) := (Option.bind (Dp p0.tree x1) fun r36 => (if ((kand .i64 r36.1.control p3) != 0) then (some (({ tree := ({ nodes := [],next := 0 } : Ag),tasks := [],next := 0 } : Aa),9)) else (n1 ())))
def Mb (p0 : Aa) (p2 : Int) (p3 : Int) (r8 : Ao × Bool) (y4 : Bool) : Option (Aa × Int) := (if y4 then (some (({ tree := ({ nodes := [],next := 0 } : Ag),tasks := [],next := 0 } : Aa),6)) else (Option.bind (Oy p0) fun r42 => (Option.bind (Ud p0.tree ({ id := r8.1.id,parent := r8.1.parent,name := r8.1.name,control := (kor .i64 (Ek .i64 r8.1.control p3) p2),kind := r8.1.kind,owner := r8.1.owner } : Ao)) fun r43 => (some (({ tree := r43,tasks := r42.tasks,next := r42.next } : Aa),0)))))
def Aaw (p0 : Aa) (p1 : Int) (p2 : Int) (p3 : Int) (r8 : Ao × Bool) (s1 : Unit) : Option (Aa × Int) := (if ((Ek .i64 (kand .i64 (kor .i64 (Ek .i64 r8.1.control p3) p2) 6) r8.1.control) != 0) then (if (p1 != 1) then (Option.bind (Iw p0 p1) fun r40 => ((Mb p0 p2 p3 r8) (decide (((r40.length : Nat) : Int) > 0)))) else ((Mb p0 p2 p3 r8) false)) else ((Mb p0 p2 p3 r8) false))
def Ja (p0 : Aa) (p1 : Int) (p2 : Int) (p3 : Int) (y1 : Bool) : Option (Aa × Int) := (if y1 then (some (({ tree := ({ nodes := [],next := 0 } : Ag),tasks := [],next := 0 } : Aa),1)) else (Option.bind (Dp p0.tree p1) fun r8 => (if (!r8.2) then (some (({ tree := ({ nodes := [],next := 0 } : Ag),tasks := [],next := 0 } : Aa),4)) else (Option.bind (Lv p0.tree p1) fun r10 => (if ((Ek .i64 p2 r10) != 0) then (some (({ tree := ({ nodes := [],next := 0 } : Ag),tasks := [],next := 0 } : Aa),9)) else (Option.bind (Hy p0.tree p1) fun r12 => (if r12.length ≤ 9223372036854775807 then Bl (Aak p0 p3) (Aaw p0 p1 p2 p3 r8) r12 0 () else none)))))))
def Vg (p0 : Aa) (p1 : Int) (p2 : Int) (p3 : Int) : Option (Aa × Int) := (Option.bind (Sr p0) fun r1 => (if (!r1) then ((Ja p0 p1 p2 p3) true) else (Option.bind (AaC p2) fun r3 => (if (!r3) then ((Ja p0 p1 p2 p3) true) else (Option.bind (AaC p3) fun r5 => (if (!r5) then ((Ja p0 p1 p2 p3) true) else ((Ja p0 p1 p2 p3) ((kand .i64 p2 p3) != 0))))))))
def Tr (p0 : Aa) (p1 : Int) (p2 : Int) (p3 : Int) : Option (Aa × Int) := (Option.bind (Lr p0) fun r1 => (if (!r1) then (some (({ tree := ({ nodes := [],next := 0 } : Ag),tasks := [],next := 0 } : Aa),1)) else (Option.bind (Vg p0 p1 p2 p3) fun r3 => (if (r3.2 != 0) then (some (({ tree := ({ nodes := [],next := 0 } : Ag),tasks := [],next := 0 } : Aa),r3.2)) else (Option.bind (Lr r3.1) fun r5 => (if (!r5) then (some (({ tree := ({ nodes := [],next := 0 } : Ag),tasks := [],next := 0 } : Aa),10)) else (some (r3.1,0))))))))
def Oh (r13 : Aa) (r14 : Ag) (y2 : Bool) : Option (Aa × Int) := (if y2 then (some (({ tree := ({ nodes := [],next := 0 } : Ag),tasks := [],next := 0 } : Aa),6)) else (some (({ tree := r14,tasks := r13.tasks,next := r13.next } : Aa),0)))
def Jz (p0 : Aa) (p1 : Int) (r3 : Ao × Bool) (y1 : Bool) : Option (Aa × Int) := (if y1 then (some (({ tree := ({ nodes := [],next := 0 } : Ag),tasks := [],next := 0 } : Aa),10)) else (if ((kand .i64 r3.1.control 6) != 0) then (some (({ tree := ({ nodes := [],next := 0 } : Ag),tasks := [],next := 0 } : Aa),9)) else (Option.bind (Oy p0) fun r13 => (Option.bind (Ud p0.tree ({ id := r3.1.id,parent := r3.1.parent,name := r3.1.name,control := r3.1.control,kind := 1,owner := r3.1.owner } : Ao)) fun r14 => (Option.bind (Iw p0 p1) fun r15 => (if (decide (((r15.length : Nat) : Int) > 0)) then ((Oh r13 r14) true) else (Option.bind (Lr ({ tree := r14,tasks := r13.tasks,next := r13.next } : Aa)) fun r17 => ((Oh r13 r14) (!r17)))))))))
def Rp (p0 : Aa) (p1 : Int) : Option (Aa × Int) := (Option.bind (Lr p0) fun r1 => (if (!r1) then (some (({ tree := ({ nodes := [],next := 0 } : Ag),tasks := [],next := 0 } : Aa),1)) else (Option.bind (Dp p0.tree p1) fun r3 => (if (!r3.2) then (some (({ tree := ({ nodes := [],next := 0 } : Ag),tasks := [],next := 0 } : Aa),4)) else (if ((p1 == 1) || (r3.1.kind == 1)) then (some (({ tree := ({ nodes := [],next := 0 } : Ag),tasks := [],next := 0 } : Aa),9)) else (Option.bind (Dp p0.tree r3.1.parent) fun r7 => (Option.bind (Na p0.tree r7.1.id) fun r8 => (if (r8 == 3) then ((Jz p0 p1 r3) true) else (if (r7.1.id != 1) then ((Jz p0 p1 r3) ((kand .i64 r7.1.control 6) != 0)) else ((Jz p0 p1 r3) false))))))))))
def Gw (y1 : Aq × Aa) : Option (Aa × Aq) := (some (y1.2,y1.1))
def Jt (p1 : Aa) (r1 : Int × Aq) (r2 : Int × Aq) (y2 : Bool) : Option (Aa × Aq) := (if y2 then (Option.bind (Ik r2.2) fun r5 => (Option.bind (Tr p1 r1.1 r5.1 0) fun r6 => (if (r6.2 == 0) then (some (r6.1,r5.2)) else (Gw (r5.2,p1))))) else (if (r2.1 == 2) then (Option.bind (Rp p1 r1.1) fun r9 => (if (r9.2 == 0) then (some (r9.1,r2.2)) else (Gw (r2.2,p1)))) else (if (r2.1 == 3) then (Option.bind (Dp p1.tree r1.1) fun r12 => (if (r12.2 && (r1.1 != 1)) then (Option.bind (Bq r2.2 3) fun r15 => (Option.bind (Ud p1.tree ({ id := r12.1.id,parent := r12.1.parent,name := r12.1.name,control := r12.1.control,kind := r12.1.kind,owner := r15.1 } : Ao)) fun r16 => (Gw (r15.2,({ tree := r16,tasks := p1.tasks,next := p1.next } : Aa))))) else (Gw (r2.2,p1)))) else (Gw (r2.2,p1)))))
def Nu (p0 : Aq) (p1 : Aa) : Option (Aa × Aq) := (Option.bind (Fs p0 p1.tree) fun r1 => (Option.bind (Bq r1.2 5) fun r2 => (if (r2.1 == 0) then ((Jt p1 r1 r2) (r2.1 == 0)) else ((Jt p1 r1 r2) (r2.1 == 1)))))
def Qh (p0 : Aa) (p1 : Int) : Option Int := (Option.bind (Lr p0) fun r1 => (if (!r1) then (some 1) else (Option.bind (Dp p0.tree p1) fun r3 => (if (!r3.2) then (some 4) else (Option.bind (Na p0.tree p1) fun r5 => (if (r5 == 3) then (some 10) else (if ((p1 != 1) && ((kand .i64 r3.1.control 6) != 0)) then (some 6) else (some 0))))))))
def Jx (p1 : Aa) (r1 : Bool × Aq) (y1 : Bool) : Option (Int × Aq) := (if y1 then (Option.bind (Bq r1.2 9) fun r4 => (some ((w64 (r4.1 - 1)),r4.2))) else (Option.bind (Bq r1.2 ((p1.tasks.length : Nat) : Int)) fun r5 => (if 0 ≤ r5.1 ∧ r5.1 < ((p1.tasks.length : Nat) : Int) then (some ((p1.tasks.getD (Int.toNat r5.1) (default : Aw)).id,r5.2)) else none)))
def Js (p0 : Aq) (p1 : Aa) : Option (Int × Aq) := (Option.bind (Dk p0 15) fun r1 => (if r1.1 then ((Jx p1 r1) true) else ((Jx p1 r1) (((p1.tasks.length : Nat) : Int) == 0))))
def Vq (p0 : Aa) (p1 : Int) : Option (Aa × Int × Int) := (Option.bind (Gc p0) fun r1 => (if (!r1) then (some (({ tree := ({ nodes := [],next := 0 } : Ag),tasks := [],next := 0 } : Aa),0,1)) else (Option.bind (Hm p0 p1) fun r3 => (if (!r3.2) then (some (({ tree := ({ nodes := [],next := 0 } : Ag),tasks := [],next := 0 } : Aa),0,4)) else (Option.bind (Wr p0 r3.1) fun r5 => (some (r5.1,r5.2.1,r5.2.2)))))))
def Rw (s1 : (List Aw) × Int) (n1 : ((List Aw) × Int) → Option (Aa × Int)) (y3 : List Aw) : Option (Aa × Int) := (n1 (y3,(w64 (s1.2 + 1))))
def Rx (p1 : Int) (p2 : Int) (r7 : Aa) (s1 : (List Aw) × Int) (n1 : ((List Aw) × Int) → Option (Aa × Int)) : Option (Aa × Int) := (if (decide (s1.2 < ((s1.1.length : Nat) : Int))) then (if 0 ≤ s1.2 ∧ s1.2 < ((s1.1.length : Nat) : Int) then (if (Int.toNat s1.2) < s1.1.length then (if ((s1.1.getD (Int.toNat s1.2) (default : Aw)).id == p1) then (if 0 ≤ s1.2 ∧ s1.2 < ((s1.1.length : Nat) : Int) then (if (Int.toNat s1.2) < s1.1.length then ((Rw s1 n1) (s1.1.set (Int.toNat s1.2) ({ id := (s1.1.getD (Int.toNat s1.2) (default : Aw)).id,process := (s1.1.getD (Int.toNat s1.2) (default : Aw)).process,group := p2,user := (s1.1.getD (Int.toNat s1.2) (default : Aw)).user } : Aw))) else none) else none) else ((Rw s1 n1) s1.1)) else none) else none) else (some (({ tree := r7.tree,tasks := s1.1,next := r7.next } : Aa),0)))
def Rt (p0 : Aa) (p1 : Int) (p2 : Int) (y1 : Bool) : Option (Aa × Int) := (if y1 then (some (({ tree := ({ nodes := [],next := 0 } : Ag),tasks := [],next := 0 } : Aa),4)) else (Option.bind (Oy p0) fun r7 => (whileO (Rx p1 p2 r7) Ej (r7.tasks,0))))
def Vb (p0 : Aa) (p1 : Int) (p2 : Int) : Option (Aa × Int) := (Option.bind (Gc p0) fun r1 => (if (!r1) then (some (({ tree := ({ nodes := [],next := 0 } : Ag),tasks := [],next := 0 } : Aa),1)) else (Option.bind (Hm p0 p1) fun r3 => (if (!r3.2) then ((Rt p0 p1 p2) true) else (Option.bind (Gd p0.tree p2) fun r5 => ((Rt p0 p1 p2) (!r5)))))))
def Hn (p0 : Aa) (p1 : Int) (p2 : Int) (r3 : Aw × Bool) (y1 : Bool) : Option (Aa × Int) := (if y1 then (some (({ tree := ({ nodes := [],next := 0 } : Ag),tasks := [],next := 0 } : Aa),4)) else (Option.bind (Qh p0 p2) fun r7 => (if (r7 != 0) then (some (({ tree := ({ nodes := [],next := 0 } : Ag),tasks := [],next := 0 } : Aa),r7)) else (Option.bind (Ls p0.tree p2) fun r9 => (Option.bind (Ls p0.tree r3.1.group) fun r10 => (if (r9.1 != r10.1) then (some (({ tree := ({ nodes := [],next := 0 } : Ag),tasks := [],next := 0 } : Aa),9)) else (Option.bind (Vb p0 p1 p2) fun r12 => (some (r12.1,r12.2)))))))))
def Lf (p0 : Aa) (p1 : Int) (p2 : Int) : Option (Aa × Int) := (Option.bind (Lr p0) fun r1 => (if (!r1) then (some (({ tree := ({ nodes := [],next := 0 } : Ag),tasks := [],next := 0 } : Aa),1)) else (Option.bind (Hm p0 p1) fun r3 => (if (!r3.2) then ((Hn p0 p1 p2 r3) true) else (Option.bind (Gd p0.tree p2) fun r5 => ((Hn p0 p1 p2 r3) (!r5)))))))
def Tf (n1 : (List Aw) → Option (Aa × Int)) (y3 : List Aw) : Option (Aa × Int) := (n1 y3)
def Xi (p1 : Int) (k1 : Nat) (x1 : Aw) (s1 : List Aw) (n1 : (List Aw) → Option (Aa × Int)) : Option (Aa × Int) := (if ((x1.id != p1) && (x1.process != p1)) then (if s1.length + 1 ≤ 1073741824 then ((Tf n1) (s1 ++ [x1])) else none) else ((Tf n1) s1))
def Xe (p0 : Aa) (r5 : Ag) (s1 : List Aw) : Option (Aa × Int) := (some (({ tree := r5,tasks := s1,next := p0.next } : Aa),0))
def Xx (p0 : Aa) (p1 : Int) : Option (Aa × Int) := (Option.bind (Gc p0) fun r1 => (if (!r1) then (some (({ tree := ({ nodes := [],next := 0 } : Ag),tasks := [],next := 0 } : Aa),1)) else (Option.bind (Hm p0 p1) fun r3 => (if (!r3.2) then (some (({ tree := ({ nodes := [],next := 0 } : Ag),tasks := [],next := 0 } : Aa),4)) else (Option.bind (Pa p0.tree) fun r5 => (if p0.tasks.length ≤ 9223372036854775807 then Bl (Xi p1) (Xe p0 r5) p0.tasks 0 [] else none))))))
def Dr (s3 : Aq × Aa × Int) (n3 : (Aq × Aa × Int) → Option (Aa × Aq)) (y13 : Aq × Aa) : Option (Aa × Aq) := (n3 (y13.1,y13.2,(w64 (s3.2.2 - 1))))
def Ez (s3 : Aq × Aa × Int) (n3 : (Aq × Aa × Int) → Option (Aa × Aq)) (y16 : Aq × Aa) : Option (Aa × Aq) := (Option.bind (Dk y16.1 8) fun r100 => (if r100.1 then (Option.bind (Js r100.2 y16.2) fun r102 => (Option.bind (Xx y16.2 r102.1) fun r103 => (if (r103.2 == 0) then ((Dr s3 n3) (r102.2,r103.1)) else ((Dr s3 n3) (r102.2,y16.2))))) else ((Dr s3 n3) (r100.2,y16.2))))
def Fa (s3 : Aq × Aa × Int) (n3 : (Aq × Aa × Int) → Option (Aa × Aq)) (y15 : Aq × Aa) : Option (Aa × Aq) := (Option.bind (Dk y15.1 4) fun r94 => (if r94.1 then (Option.bind (Js r94.2 y15.2) fun r96 => (Option.bind (Fs r96.2 y15.2.tree) fun r97 => (Option.bind (Lf y15.2 r96.1 r97.1) fun r98 => (if (r98.2 == 0) then ((Ez s3 n3) (r97.2,r98.1)) else ((Ez s3 n3) (r97.2,y15.2)))))) else ((Ez s3 n3) (r94.2,y15.2))))
def Gk (s3 : Aq × Aa × Int) (n3 : (Aq × Aa × Int) → Option (Aa × Aq)) (r86 : Int × Aq) (y14 : Aa) : Option (Aa × Aq) := (Option.bind (Dk r86.2 3) fun r89 => (if r89.1 then (Option.bind (Js r89.2 y14) fun r91 => (Option.bind (Vq y14 r91.1) fun r92 => (if (r92.2.2 == 0) then ((Fa s3 n3) (r91.2,r92.1)) else ((Fa s3 n3) (r91.2,y14))))) else ((Fa s3 n3) (r89.2,y14))))
def Ob (s3 : Aq × Aa × Int) (n3 : (Aq × Aa × Int) → Option (Aa × Aq)) : Option (Aa × Aq) := (if (decide (s3.2.2 > 0)) then (Option.bind (Fs s3.1 s3.2.1.tree) fun r83 => (Option.bind (Qh s3.2.1 r83.1) fun r84 => (if (r84 != 0) then ((Dr s3 n3) (r83.2,s3.2.1)) else (Option.bind (Bq r83.2 3) fun r86 => (Option.bind (Up s3.2.1 r83.1 r86.1) fun r87 => (if (r87.2.2 == 0) then ((Gk s3 n3 r86) r87.1) else ((Gk s3 n3 r86) s3.2.1))))))) else (some (s3.2.1,s3.1)))
def Ow (p2 : Int) (s1 : Aq × Aa × Int) (n1 : (Aq × Aa × Int) → Option (Aa × Aq)) : Option (Aa × Aq) := (if (decide (s1.2.2 > 0)) then (Option.bind (Nu s1.1 s1.2.1) fun r57 => (n1 (r57.2,r57.1,(w64 (s1.2.2 - 1))))) else (Option.bind (Bq s1.1 (w64 (p2 + 1))) fun r58 => (whileO Ob Ej (r58.2,s1.2.1,r58.1))))
def Hp (p0 : Aq) (p1 : Int) (p2 : Int) : Option (Aa × Aq) := (Option.bind AfJ fun r1 => (Option.bind (Od p0 p1) fun r2 => (Option.bind (Bq r2.2 (w64 (p1 + 3))) fun r3 => (whileO (Ow p2) Ej (r3.2,({ tree := r2.1,tasks := r1.tasks,next := r1.next } : Aa),r3.1)))))
def Agc (p1 : Int) (k1 : Nat) (x1 : Int) (s1 : Unit) (n1 : Unit → Option Bool) : Option Bool := (if (x1 == p1) then (some true) else (n1 ()))
def Ags (s1 : Unit) : Option Bool := (some false)
def Po (p0 : List Int) (p1 : Int) : Option Bool := (if p0.length ≤ 9223372036854775807 then Bl (Agc p1) Ags p0 0 () else none)
def Uz (y3 : Int × Int) : Option Int := (if 0 ≤ (IntKind.u8.wrap y3.1) ∧ (IntKind.u8.wrap y3.1) < (((bs [0,1,2,2,3,3,3,3,4,4,4,4,4,4,4,4,5,5,5,5,5,5,5,5,5,5,5,5,5,5,5,5,6,6,6,6,6,6,6,6,6,6,6,6,6,6,6,6,6,6,6,6,6,6,6,6,6,6,6,6,6,6,6,6,7,7,7,7,7,7,7,7,7,7,7,7,7,7,7,7,7,7,7,7,7,7,7,7,7,7,7,7,7,7,7,7,7,7,7,7,7,7,7,7,7,7,7,7,7,7,7,7,7,7,7,7,7,7,7,7,7,7,7,7,7,7,7,7,8,8,8,8,8,8,8,8,8,8,8,8,8,8,8,8,8,8,8,8,8,8,8,8,8,8,8,8,8,8,8,8,8,8,8,8,8,8,8,8,8,8,8,8,8,8,8,8,8,8,8,8,8,8,8,8,8,8,8,8,8,8,8,8,8,8,8,8,8,8,8,8,8,8,8,8,8,8,8,8,8,8,8,8,8,8,8,8,8,8,8,8,8,8,8,8,8,8,8,8,8,8,8,8,8,8,8,8,8,8,8,8,8,8,8,8,8,8,8,8,8,8,8,8,8,8,8,8]).size : Nat) : Int) then (some (w64 (y3.2 + (w64 (((Br (bs [0,1,2,2,3,3,3,3,4,4,4,4,4,4,4,4,5,5,5,5,5,5,5,5,5,5,5,5,5,5,5,5,6,6,6,6,6,6,6,6,6,6,6,6,6,6,6,6,6,6,6,6,6,6,6,6,6,6,6,6,6,6,6,6,7,7,7,7,7,7,7,7,7,7,7,7,7,7,7,7,7,7,7,7,7,7,7,7,7,7,7,7,7,7,7,7,7,7,7,7,7,7,7,7,7,7,7,7,7,7,7,7,7,7,7,7,7,7,7,7,7,7,7,7,7,7,7,7,8,8,8,8,8,8,8,8,8,8,8,8,8,8,8,8,8,8,8,8,8,8,8,8,8,8,8,8,8,8,8,8,8,8,8,8,8,8,8,8,8,8,8,8,8,8,8,8,8,8,8,8,8,8,8,8,8,8,8,8,8,8,8,8,8,8,8,8,8,8,8,8,8,8,8,8,8,8,8,8,8,8,8,8,8,8,8,8,8,8,8,8,8,8,8,8,8,8,8,8,8,8,8,8,8,8,8,8,8,8,8,8,8,8,8,8,8,8,8,8,8,8,8,8,8,8,8,8]) (Int.toNat (IntKind.u8.wrap y3.1))) : Nat) : Int))))) else none)
def Us (y2 : Int × Int) : Option Int := (if (decide (y2.1 ≥ 256)) then (Uz ((kshr .u64 y2.1 8),(w64 (y2.2 + 8)))) else (Uz (y2.1,y2.2)))
def Vm (y1 : Int × Int) : Option Int := (if (decide (y1.1 ≥ 65536)) then (Us ((kshr .u64 y1.1 16),(w64 (y1.2 + 16)))) else (Us (y1.1,y1.2)))
def AcE (p0 : Int) : Option Int := (if (decide (p0 ≥ 4294967296)) then (Vm ((kshr .u64 p0 32),32)) else (Vm (p0,0)))
def Uh (p0 : Int) : Option Int := (Option.bind (AcE p0) fun r1 => (some r1))
def Pv (p0 : Int) : Option Bool := (some (p0 != p0))
def Lw (y1 : Bool) : Option Bool := (some y1)
def Cw (p0 : Int) (p1 : Int) : Option Bool := (Option.bind (Pv p0) fun r1 => (if r1 then (Option.bind (Pv p1) fun r3 => (if (!r3) then (Lw true) else (Lw (decide (p0 < p1))))) else (Lw (decide (p0 < p1)))))
def Dq (n1 : (List Int) → Option (List Int)) (s4 : (List Int) × Int) (n4 : ((List Int) × Int) → Option (List Int)) (y6 : Bool) : Option (List Int) := (if y6 then (if 0 ≤ (w64 (s4.2 - 1)) ∧ (w64 (s4.2 - 1)) < ((s4.1.length : Nat) : Int) then (if (Int.toNat (w64 (s4.2 - 1))) < s4.1.length then (if 0 ≤ s4.2 ∧ s4.2 < ((s4.1.length : Nat) : Int) then (if (Int.toNat s4.2) < s4.1.length then (if 0 ≤ s4.2 ∧ s4.2 < ((s4.1.length : Nat) : Int) then (if (Int.toNat s4.2) < s4.1.length then (if 0 ≤ (w64 (s4.2 - 1)) ∧ (w64 (s4.2 - 1)) < ((s4.1.length : Nat) : Int) then (if (Int.toNat (w64 (s4.2 - 1))) < s4.1.length then (n4 (((s4.1.set (Int.toNat s4.2) (s4.1.getD (Int.toNat (w64 (s4.2 - 1))) 0)).set (Int.toNat (w64 (s4.2 - 1))) (s4.1.getD (Int.toNat s4.2) 0)),(w64 (s4.2 - 1)))) else none) else none) else none) else none) else none) else none) else none) else none) else (n1 s4.1))
def Hs (p1 : Int) (n1 : (List Int) → Option (List Int)) (s4 : (List Int) × Int) (n4 : ((List Int) × Int) → Option (List Int)) : Option (List Int) := (if (decide (s4.2 > p1)) then (if 0 ≤ s4.2 ∧ s4.2 < ((s4.1.length : Nat) : Int) then (if (Int.toNat s4.2) < s4.1.length then (if 0 ≤ (w64 (s4.2 - 1)) ∧ (w64 (s4.2 - 1)) < ((s4.1.length : Nat) : Int) then (if (Int.toNat (w64 (s4.2 - 1))) < s4.1.length then (Option.bind (Cw (s4.1.getD (Int.toNat s4.2) 0) (s4.1.getD (Int.toNat (w64 (s4.2 - 1))) 0)) fun r96 => ((Dq n1 s4 n4) r96)) else none) else none) else none) else none) else ((Dq n1 s4 n4) false))
def Hr (p1 : Int) (k1 : Int) (s1 : List Int) (n1 : (List Int) → Option (List Int)) : Option (List Int) := (whileO (Hs p1 n1) Ej (s1,k1))
def Lp (s1 : List Int) : Option (List Int) := (some s1)
def Eh (p0 : List Int) (p1 : Int) (p2 : Int) : Option (List Int) := (if -9223372036854775808 ≤ (w64 (p1 + 1)) ∧ p2 ≤ 9223372036854775807 then (forO (Hr p1) Lp (Int.toNat (p2 - (w64 (p1 + 1)))) (w64 (p1 + 1)) p0) else none)
def Dt (p3 : Int) (s1 : (List Int) × Int) (n1 : ((List Int) × Int) → Option (List Int)) (y4 : Int) : Option (List Int) := (if 0 ≤ (w64 (p3 + s1.2)) ∧ (w64 (p3 + s1.2)) < ((s1.1.length : Nat) : Int) then (if (Int.toNat (w64 (p3 + s1.2))) < s1.1.length then (if 0 ≤ (w64 (p3 + y4)) ∧ (w64 (p3 + y4)) < ((s1.1.length : Nat) : Int) then (if (Int.toNat (w64 (p3 + y4))) < s1.1.length then (Option.bind (Cw (s1.1.getD (Int.toNat (w64 (p3 + s1.2))) 0) (s1.1.getD (Int.toNat (w64 (p3 + y4))) 0)) fun r35 => (if (!r35) then (some s1.1) else (if 0 ≤ (w64 (p3 + y4)) ∧ (w64 (p3 + y4)) < ((s1.1.length : Nat) : Int) then (if (Int.toNat (w64 (p3 + y4))) < s1.1.length then (if 0 ≤ (w64 (p3 + s1.2)) ∧ (w64 (p3 + s1.2)) < ((s1.1.length : Nat) : Int) then (if (Int.toNat (w64 (p3 + s1.2))) < s1.1.length then (if 0 ≤ (w64 (p3 + s1.2)) ∧ (w64 (p3 + s1.2)) < ((s1.1.length : Nat) : Int) then (if (Int.toNat (w64 (p3 + s1.2))) < s1.1.length then (if 0 ≤ (w64 (p3 + y4)) ∧ (w64 (p3 + y4)) < ((s1.1.length : Nat) : Int) then (if (Int.toNat (w64 (p3 + y4))) < s1.1.length then (n1 (((s1.1.set (Int.toNat (w64 (p3 + s1.2))) (s1.1.getD (Int.toNat (w64 (p3 + y4))) 0)).set (Int.toNat (w64 (p3 + y4))) (s1.1.getD (Int.toNat (w64 (p3 + s1.2))) 0)),y4)) else none) else none) else none) else none) else none) else none) else none) else none))) else none) else none) else none) else none)
def Fh (p3 : Int) (s1 : (List Int) × Int) (n1 : ((List Int) × Int) → Option (List Int)) (y3 : Bool) : Option (List Int) := (if y3 then ((Dt p3 s1 n1) (w64 ((w64 ((w64 (2 * s1.2)) + 1)) + 1))) else ((Dt p3 s1 n1) (w64 ((w64 (2 * s1.2)) + 1))))
def Jq (p2 : Int) (p3 : Int) (s1 : (List Int) × Int) (n1 : ((List Int) × Int) → Option (List Int)) : Option (List Int) := (if (decide ((w64 ((w64 (2 * s1.2)) + 1)) ≥ p2)) then (some s1.1) else (if (decide ((w64 ((w64 ((w64 (2 * s1.2)) + 1)) + 1)) < p2)) then (if 0 ≤ (w64 (p3 + (w64 ((w64 (2 * s1.2)) + 1)))) ∧ (w64 (p3 + (w64 ((w64 (2 * s1.2)) + 1)))) < ((s1.1.length : Nat) : Int) then (if (Int.toNat (w64 (p3 + (w64 ((w64 (2 * s1.2)) + 1))))) < s1.1.length then (if 0 ≤ (w64 ((w64 (p3 + (w64 ((w64 (2 * s1.2)) + 1)))) + 1)) ∧ (w64 ((w64 (p3 + (w64 ((w64 (2 * s1.2)) + 1)))) + 1)) < ((s1.1.length : Nat) : Int) then (if (Int.toNat (w64 ((w64 (p3 + (w64 ((w64 (2 * s1.2)) + 1)))) + 1))) < s1.1.length then (Option.bind (Cw (s1.1.getD (Int.toNat (w64 (p3 + (w64 ((w64 (2 * s1.2)) + 1))))) 0) (s1.1.getD (Int.toNat (w64 ((w64 (p3 + (w64 ((w64 (2 * s1.2)) + 1)))) + 1))) 0)) fun r29 => ((Fh p3 s1 n1) r29)) else none) else none) else none) else none) else ((Fh p3 s1 n1) false)))
def Em (p0 : List Int) (p1 : Int) (p2 : Int) (p3 : Int) : Option (List Int) := (whileO (Jq p2 p3) Ej (p0,p1))
def Ka (p1 : Int) (s3 : (List Int) × Int) (n3 : ((List Int) × Int) → Option (List Int)) : Option (List Int) := (if (decide (s3.2 ≥ 0)) then (if 0 ≤ (w64 (p1 + s3.2)) ∧ (w64 (p1 + s3.2)) < ((s3.1.length : Nat) : Int) then (if (Int.toNat (w64 (p1 + s3.2))) < s3.1.length then (if 0 ≤ p1 ∧ p1 < ((s3.1.length : Nat) : Int) then (if (Int.toNat p1) < s3.1.length then (if 0 ≤ p1 ∧ p1 < ((s3.1.length : Nat) : Int) then (if (Int.toNat p1) < s3.1.length then (if 0 ≤ (w64 (p1 + s3.2)) ∧ (w64 (p1 + s3.2)) < ((s3.1.length : Nat) : Int) then (if (Int.toNat (w64 (p1 + s3.2))) < s3.1.length then (Option.bind (Em ((s3.1.set (Int.toNat p1) (s3.1.getD (Int.toNat (w64 (p1 + s3.2))) 0)).set (Int.toNat (w64 (p1 + s3.2))) (s3.1.getD (Int.toNat p1) 0)) 0 s3.2 p1) fun r49 => (if ((s3.1.set (Int.toNat p1) (s3.1.getD (Int.toNat (w64 (p1 + s3.2))) 0)).set (Int.toNat (w64 (p1 + s3.2))) (s3.1.getD (Int.toNat p1) 0)).length = r49.length then (n3 (r49,(w64 (s3.2 - 1)))) else none)) else none) else none) else none) else none) else none) else none) else none) else none) else (some s3.1))
def Ju (p1 : Int) (p2 : Int) (s1 : (List Int) × Int) (n1 : ((List Int) × Int) → Option (List Int)) : Option (List Int) := (if (decide (s1.2 ≥ 0)) then (Option.bind (Em s1.1 s1.2 (w64 (p2 - p1)) p1) fun r27 => (if s1.1.length = r27.length then (n1 (r27,(w64 (s1.2 - 1)))) else none)) else (whileO (Ka p1) Ej (s1.1,(w64 ((w64 (p2 - p1)) - 1)))))
def Ge (p0 : List Int) (p1 : Int) (p2 : Int) : Option (List Int) := (whileO (Ju p1 p2) Ej (p0,(w64 (Int.tdiv (w64 ((w64 (p2 - p1)) - 1)) 2))))
def Dz (p0 : List Int) (p1 : Int) (p2 : Int) (p3 : Int) : Option (Int × Int × Int) := (if 0 ≤ p2 ∧ p2 < ((p0.length : Nat) : Int) then (if 0 ≤ p1 ∧ p1 < ((p0.length : Nat) : Int) then (Option.bind (Cw (p0.getD (Int.toNat p2) 0) (p0.getD (Int.toNat p1) 0)) fun r3 => (if r3 then (some (p2,p1,(w64 (p3 + 1)))) else (some (p1,p2,p3)))) else none) else none)
def Fp (p0 : List Int) (p1 : Int) (p2 : Int) (p3 : Int) (p4 : Int) : Option (Int × Int) := (Option.bind (Dz p0 p1 p2 p4) fun r1 => (Option.bind (Dz p0 r1.2.1 p3 r1.2.2) fun r2 => (Option.bind (Dz p0 r1.1 r2.1 r2.2.2) fun r3 => (some (r3.2.1,r3.2.2)))))
def Ck (p0 : List Int) (p1 : Int) (p2 : Int) : Option (Int × Int) := (Option.bind (Fp p0 (w64 (p1 - 1)) p1 (w64 (p1 + 1)) p2) fun r1 => (some (r1.1,r1.2)))
def Dd (y1 : Int × Int) : Option (Int × Int) := (if (y1.1 == 0) then (some (y1.2,1)) else (if (y1.1 == 12) then (some (y1.2,2)) else (some (y1.2,0))))
def Dc (p0 : List Int) (y2 : Int × Int × Int × Int) : Option (Int × Int) := (Option.bind (Fp p0 y2.2.1 y2.2.2.1 y2.2.2.2 y2.1) fun r6 => (Dd (r6.2,r6.1)))
def Fc (p0 : List Int) (p1 : Int) (p2 : Int) : Option (Int × Int) := (if (decide ((w64 (p2 - p1)) ≥ 8)) then (if (decide ((w64 (p2 - p1)) ≥ 50)) then (Option.bind (Ck p0 (w64 (p1 + (w64 ((w64 (Int.tdiv (w64 (p2 - p1)) 4)) * 1)))) 0) fun r3 => (Option.bind (Ck p0 (w64 (p1 + (w64 ((w64 (Int.tdiv (w64 (p2 - p1)) 4)) * 2)))) r3.2) fun r4 => (Option.bind (Ck p0 (w64 (p1 + (w64 ((w64 (Int.tdiv (w64 (p2 - p1)) 4)) * 3)))) r4.2) fun r5 => ((Dc p0) (r5.2,r3.1,r4.1,r5.1))))) else ((Dc p0) (0,(w64 (p1 + (w64 ((w64 (Int.tdiv (w64 (p2 - p1)) 4)) * 1)))),(w64 (p1 + (w64 ((w64 (Int.tdiv (w64 (p2 - p1)) 4)) * 2)))),(w64 (p1 + (w64 ((w64 (Int.tdiv (w64 (p2 - p1)) 4)) * 3))))))) else (Dd (0,(w64 (p1 + (w64 ((w64 (Int.tdiv (w64 (p2 - p1)) 4)) * 2)))))))
def Ie (s1 : (List Int) × Int × Int) (n1 : ((List Int) × Int × Int) → Option (List Int)) : Option (List Int) := (if (decide (s1.2.1 < s1.2.2)) then (if 0 ≤ s1.2.2 ∧ s1.2.2 < ((s1.1.length : Nat) : Int) then (if (Int.toNat s1.2.2) < s1.1.length then (if 0 ≤ s1.2.1 ∧ s1.2.1 < ((s1.1.length : Nat) : Int) then (if (Int.toNat s1.2.1) < s1.1.length then (if 0 ≤ s1.2.1 ∧ s1.2.1 < ((s1.1.length : Nat) : Int) then (if (Int.toNat s1.2.1) < s1.1.length then (if 0 ≤ s1.2.2 ∧ s1.2.2 < ((s1.1.length : Nat) : Int) then (if (Int.toNat s1.2.2) < s1.1.length then (n1 (((s1.1.set (Int.toNat s1.2.1) (s1.1.getD (Int.toNat s1.2.2) 0)).set (Int.toNat s1.2.2) (s1.1.getD (Int.toNat s1.2.1) 0)),(w64 (s1.2.1 + 1)),(w64 (s1.2.2 - 1)))) else none) else none) else none) else none) else none) else none) else none) else none) else (some s1.1))
def Ew (p0 : List Int) (p1 : Int) (p2 : Int) : Option (List Int) := (whileO Ie Ej (p0,p1,(w64 (p2 - 1))))
def Bx (n1 : ((List Int) × Int) → Option (Bool × (List Int))) (y11 : (List Int) × Int) : Option (Bool × (List Int)) := (n1 (y11.1,y11.2))
def Fv (n1 : ((List Int) × Int) → Option (Bool × (List Int))) (s12 : Int) (k16 : Int) (s16 : List Int) (n16 : (List Int) → Option (Bool × (List Int))) : Option (Bool × (List Int)) := (if 0 ≤ k16 ∧ k16 < ((s16.length : Nat) : Int) then (if (Int.toNat k16) < s16.length then (if 0 ≤ (w64 (k16 - 1)) ∧ (w64 (k16 - 1)) < ((s16.length : Nat) : Int) then (if (Int.toNat (w64 (k16 - 1))) < s16.length then (Option.bind (Cw (s16.getD (Int.toNat k16) 0) (s16.getD (Int.toNat (w64 (k16 - 1))) 0)) fun r570 => (if (!r570) then ((Bx n1) (s16,s12)) else (if 0 ≤ (w64 (k16 - 1)) ∧ (w64 (k16 - 1)) < ((s16.length : Nat) : Int) then (if (Int.toNat (w64 (k16 - 1))) < s16.length then (if 0 ≤ k16 ∧ k16 < ((s16.length : Nat) : Int) then (if (Int.toNat k16) < s16.length then (if 0 ≤ k16 ∧ k16 < ((s16.length : Nat) : Int) then (if (Int.toNat k16) < s16.length then (if 0 ≤ (w64 (k16 - 1)) ∧ (w64 (k16 - 1)) < ((s16.length : Nat) : Int) then (if (Int.toNat (w64 (k16 - 1))) < s16.length then (n16 ((s16.set (Int.toNat k16) (s16.getD (Int.toNat (w64 (k16 - 1))) 0)).set (Int.toNat (w64 (k16 - 1))) (s16.getD (Int.toNat k16) 0))) else none) else none) else none) else none) else none) else none) else none) else none))) else none) else none) else none) else none)
def Im (n1 : ((List Int) × Int) → Option (Bool × (List Int))) (s12 : Int) (s16 : List Int) : Option (Bool × (List Int)) := ((Bx n1) (s16,s12))
def Bt (p2 : Int) (n1 : ((List Int) × Int) → Option (Bool × (List Int))) (s12 : Int) (y15 : List Int) : Option (Bool × (List Int)) := (if (decide ((w64 (p2 - s12)) ≥ 2)) then (if -9223372036854775808 ≤ (w64 (s12 + 1)) ∧ p2 ≤ 9223372036854775807 then (forO (Fv n1 s12) (Im n1 s12) (Int.toNat (p2 - (w64 (s12 + 1)))) (w64 (s12 + 1)) y15) else none) else ((Bx n1) (y15,s12)))
def Fu (p2 : Int) (n1 : ((List Int) × Int) → Option (Bool × (List Int))) (s12 : Int) (s15 : (List Int) × Int) (n15 : ((List Int) × Int) → Option (Bool × (List Int))) : Option (Bool × (List Int)) := (if (decide (s15.2 ≥ 1)) then (if 0 ≤ s15.2 ∧ s15.2 < ((s15.1.length : Nat) : Int) then (if (Int.toNat s15.2) < s15.1.length then (if 0 ≤ (w64 (s15.2 - 1)) ∧ (w64 (s15.2 - 1)) < ((s15.1.length : Nat) : Int) then (if (Int.toNat (w64 (s15.2 - 1))) < s15.1.length then (Option.bind (Cw (s15.1.getD (Int.toNat s15.2) 0) (s15.1.getD (Int.toNat (w64 (s15.2 - 1))) 0)) fun r524 => (if (!r524) then ((Bt p2 n1 s12) s15.1) else (if 0 ≤ (w64 (s15.2 - 1)) ∧ (w64 (s15.2 - 1)) < ((s15.1.length : Nat) : Int) then (if (Int.toNat (w64 (s15.2 - 1))) < s15.1.length then (if 0 ≤ s15.2 ∧ s15.2 < ((s15.1.length : Nat) : Int) then (if (Int.toNat s15.2) < s15.1.length then (if 0 ≤ s15.2 ∧ s15.2 < ((s15.1.length : Nat) : Int) then (if (Int.toNat s15.2) < s15.1.length then (if 0 ≤ (w64 (s15.2 - 1)) ∧ (w64 (s15.2 - 1)) < ((s15.1.length : Nat) : Int) then (if (Int.toNat (w64 (s15.2 - 1))) < s15.1.length then (n15 (((s15.1.set (Int.toNat s15.2) (s15.1.getD (Int.toNat (w64 (s15.2 - 1))) 0)).set (Int.toNat (w64 (s15.2 - 1))) (s15.1.getD (Int.toNat s15.2) 0)),(w64 (s15.2 - 1)))) else none) else none) else none) else none) else none) else none) else none) else none))) else none) else none) else none) else none) else ((Bt p2 n1 s12) s15.1))
def Bz (p1 : Int) (p2 : Int) (s1 : (List Int) × Int) (n1 : ((List Int) × Int) → Option (Bool × (List Int))) (s12 : Int) (n12 : Int → Option (Bool × (List Int))) (y14 : Bool) : Option (Bool × (List Int)) := (if y14 then (n12 (w64 (s12 + 1))) else (if (s12 == p2) then (some (true,s1.1)) else (if (decide ((w64 (p2 - p1)) < 50)) then (some (false,s1.1)) else (if 0 ≤ (w64 (s12 - 1)) ∧ (w64 (s12 - 1)) < ((s1.1.length : Nat) : Int) then (if (Int.toNat (w64 (s12 - 1))) < s1.1.length then (if 0 ≤ s12 ∧ s12 < ((s1.1.length : Nat) : Int) then (if (Int.toNat s12) < s1.1.length then (if 0 ≤ s12 ∧ s12 < ((s1.1.length : Nat) : Int) then (if (Int.toNat s12) < s1.1.length then (if 0 ≤ (w64 (s12 - 1)) ∧ (w64 (s12 - 1)) < ((s1.1.length : Nat) : Int) then (if (Int.toNat (w64 (s12 - 1))) < s1.1.length then (if (decide ((w64 (s12 - p1)) ≥ 2)) then (whileO (Fu p2 n1 s12) Ej (((s1.1.set (Int.toNat s12) (s1.1.getD (Int.toNat (w64 (s12 - 1))) 0)).set (Int.toNat (w64 (s12 - 1))) (s1.1.getD (Int.toNat s12) 0)),(w64 (s12 - 1)))) else ((Bt p2 n1 s12) ((s1.1.set (Int.toNat s12) (s1.1.getD (Int.toNat (w64 (s12 - 1))) 0)).set (Int.toNat (w64 (s12 - 1))) (s1.1.getD (Int.toNat s12) 0)))) else none) else none) else none) else none) else none) else none) else none) else none))))
def Ft (p1 : Int) (p2 : Int) (s1 : (List Int) × Int) (n1 : ((List Int) × Int) → Option (Bool × (List Int))) (s12 : Int) (n12 : Int → Option (Bool × (List Int))) : Option (Bool × (List Int)) := (if (decide (s12 < p2)) then (if 0 ≤ s12 ∧ s12 < ((s1.1.length : Nat) : Int) then (if (Int.toNat s12) < s1.1.length then (if 0 ≤ (w64 (s12 - 1)) ∧ (w64 (s12 - 1)) < ((s1.1.length : Nat) : Int) then (if (Int.toNat (w64 (s12 - 1))) < s1.1.length then (Option.bind (Cw (s1.1.getD (Int.toNat s12) 0) (s1.1.getD (Int.toNat (w64 (s12 - 1))) 0)) fun r491 => ((Bz p1 p2 s1 n1 s12 n12) (!r491))) else none) else none) else none) else none) else ((Bz p1 p2 s1 n1 s12 n12) false))
def Gb (p1 : Int) (p2 : Int) (k1 : Int) (s1 : (List Int) × Int) (n1 : ((List Int) × Int) → Option (Bool × (List Int))) : Option (Bool × (List Int)) := (whileO (Ft p1 p2 s1 n1) Ej s1.2)
def Ix (s1 : (List Int) × Int) : Option (Bool × (List Int)) := (some (false,s1.1))
def Cz (p0 : List Int) (p1 : Int) (p2 : Int) : Option (Bool × (List Int)) := (forO (Gb p1 p2) Ix (Int.toNat (5 - 0)) 0 (p0,(w64 (p1 + 1))))
def Dg (s1 : (List Int) × Int × Int) (n1 : ((List Int) × Int × Int) → Option (Int × (List Int))) (s5 : Int) (s7 : Int) (n7 : Int → Option (Int × (List Int))) (y12 : Bool) : Option (Int × (List Int)) := (if y12 then (n7 (w64 (s7 - 1))) else (if (decide (s5 > s7)) then (some (s5,s1.1)) else (if 0 ≤ s7 ∧ s7 < ((s1.1.length : Nat) : Int) then (if (Int.toNat s7) < s1.1.length then (if 0 ≤ s5 ∧ s5 < ((s1.1.length : Nat) : Int) then (if (Int.toNat s5) < s1.1.length then (if 0 ≤ s5 ∧ s5 < ((s1.1.length : Nat) : Int) then (if (Int.toNat s5) < s1.1.length then (if 0 ≤ s7 ∧ s7 < ((s1.1.length : Nat) : Int) then (if (Int.toNat s7) < s1.1.length then (n1 (((s1.1.set (Int.toNat s5) (s1.1.getD (Int.toNat s7) 0)).set (Int.toNat s7) (s1.1.getD (Int.toNat s5) 0)),(w64 (s7 - 1)),(w64 (s5 + 1)))) else none) else none) else none) else none) else none) else none) else none) else none)))
def Ff (p1 : Int) (s1 : (List Int) × Int × Int) (n1 : ((List Int) × Int × Int) → Option (Int × (List Int))) (s5 : Int) (s7 : Int) (n7 : Int → Option (Int × (List Int))) : Option (Int × (List Int)) := (if (decide (s5 ≤ s7)) then (if 0 ≤ p1 ∧ p1 < ((s1.1.length : Nat) : Int) then (if (Int.toNat p1) < s1.1.length then (if 0 ≤ s7 ∧ s7 < ((s1.1.length : Nat) : Int) then (if (Int.toNat s7) < s1.1.length then (Option.bind (Cw (s1.1.getD (Int.toNat p1) 0) (s1.1.getD (Int.toNat s7) 0)) fun r178 => ((Dg s1 n1 s5 s7 n7) r178)) else none) else none) else none) else none) else ((Dg s1 n1 s5 s7 n7) false))
def Dh (p1 : Int) (s1 : (List Int) × Int × Int) (n1 : ((List Int) × Int × Int) → Option (Int × (List Int))) (s5 : Int) (n5 : Int → Option (Int × (List Int))) (y10 : Bool) : Option (Int × (List Int)) := (if y10 then (n5 (w64 (s5 + 1))) else (whileO (Ff p1 s1 n1 s5) Ej s1.2.1))
def Hj (p1 : Int) (s1 : (List Int) × Int × Int) (n1 : ((List Int) × Int × Int) → Option (Int × (List Int))) (s5 : Int) (n5 : Int → Option (Int × (List Int))) : Option (Int × (List Int)) := (if (decide (s5 ≤ s1.2.1)) then (if 0 ≤ p1 ∧ p1 < ((s1.1.length : Nat) : Int) then (if (Int.toNat p1) < s1.1.length then (if 0 ≤ s5 ∧ s5 < ((s1.1.length : Nat) : Int) then (if (Int.toNat s5) < s1.1.length then (Option.bind (Cw (s1.1.getD (Int.toNat p1) 0) (s1.1.getD (Int.toNat s5) 0)) fun r155 => ((Dh p1 s1 n1 s5 n5) (!r155))) else none) else none) else none) else none) else ((Dh p1 s1 n1 s5 n5) false))
def Hi (p1 : Int) (s1 : (List Int) × Int × Int) (n1 : ((List Int) × Int × Int) → Option (Int × (List Int))) : Option (Int × (List Int)) := (whileO (Hj p1 s1 n1) Ej s1.2.2)
def Eb (p0 : List Int) (p1 : Int) (p2 : Int) (p3 : Int) : Option (Int × (List Int)) := (if 0 ≤ p3 ∧ p3 < ((p0.length : Nat) : Int) then (if (Int.toNat p3) < p0.length then (if 0 ≤ p1 ∧ p1 < ((p0.length : Nat) : Int) then (if (Int.toNat p1) < p0.length then (if 0 ≤ p1 ∧ p1 < ((p0.length : Nat) : Int) then (if (Int.toNat p1) < p0.length then (if 0 ≤ p3 ∧ p3 < ((p0.length : Nat) : Int) then (if (Int.toNat p3) < p0.length then (whileO (Hi p1) Ej (((p0.set (Int.toNat p1) (p0.getD (Int.toNat p3) 0)).set (Int.toNat p3) (p0.getD (Int.toNat p1) 0)),(w64 (p2 - 1)),(w64 (p1 + 1)))) else none) else none) else none) else none) else none) else none) else none) else none)
def Er (p1 : Int) (s25 : (List Int) × Int × Int) (n25 : ((List Int) × Int × Int) → Option (Int × Bool × (List Int))) (s29 : Int) (s31 : Int) (n31 : Int → Option (Int × Bool × (List Int))) (y54 : Bool) : Option (Int × Bool × (List Int)) := (if y54 then (n31 (w64 (s31 - 1))) else (if (decide (s29 > s31)) then (if 0 ≤ p1 ∧ p1 < ((s25.1.length : Nat) : Int) then (if (Int.toNat p1) < s25.1.length then (if 0 ≤ s31 ∧ s31 < ((s25.1.length : Nat) : Int) then (if (Int.toNat s31) < s25.1.length then (if 0 ≤ s31 ∧ s31 < ((s25.1.length : Nat) : Int) then (if (Int.toNat s31) < s25.1.length then (if 0 ≤ p1 ∧ p1 < ((s25.1.length : Nat) : Int) then (if (Int.toNat p1) < s25.1.length then (some (s31,false,((s25.1.set (Int.toNat s31) (s25.1.getD (Int.toNat p1) 0)).set (Int.toNat p1) (s25.1.getD (Int.toNat s31) 0)))) else none) else none) else none) else none) else none) else none) else none) else none) else (if 0 ≤ s31 ∧ s31 < ((s25.1.length : Nat) : Int) then (if (Int.toNat s31) < s25.1.length then (if 0 ≤ s29 ∧ s29 < ((s25.1.length : Nat) : Int) then (if (Int.toNat s29) < s25.1.length then (if 0 ≤ s29 ∧ s29 < ((s25.1.length : Nat) : Int) then (if (Int.toNat s29) < s25.1.length then (if 0 ≤ s31 ∧ s31 < ((s25.1.length : Nat) : Int) then (if (Int.toNat s31) < s25.1.length then (n25 (((s25.1.set (Int.toNat s29) (s25.1.getD (Int.toNat s31) 0)).set (Int.toNat s31) (s25.1.getD (Int.toNat s29) 0)),(w64 (s29 + 1)),(w64 (s31 - 1)))) else none) else none) else none) else none) else none) else none) else none) else none)))
def Gr (p1 : Int) (s25 : (List Int) × Int × Int) (n25 : ((List Int) × Int × Int) → Option (Int × Bool × (List Int))) (s29 : Int) (s31 : Int) (n31 : Int → Option (Int × Bool × (List Int))) : Option (Int × Bool × (List Int)) := (if (decide (s29 ≤ s31)) then (if 0 ≤ s31 ∧ s31 < ((s25.1.length : Nat) : Int) then (if (Int.toNat s31) < s25.1.length then (if 0 ≤ p1 ∧ p1 < ((s25.1.length : Nat) : Int) then (if (Int.toNat p1) < s25.1.length then (Option.bind (Cw (s25.1.getD (Int.toNat s31) 0) (s25.1.getD (Int.toNat p1) 0)) fun r1118 => ((Er p1 s25 n25 s29 s31 n31) (!r1118))) else none) else none) else none) else none) else ((Er p1 s25 n25 s29 s31 n31) false))
def Ex (p1 : Int) (s25 : (List Int) × Int × Int) (n25 : ((List Int) × Int × Int) → Option (Int × Bool × (List Int))) (s29 : Int) (n29 : Int → Option (Int × Bool × (List Int))) (y52 : Bool) : Option (Int × Bool × (List Int)) := (if y52 then (n29 (w64 (s29 + 1))) else (whileO (Gr p1 s25 n25 s29) Ej s25.2.2))
def It (p1 : Int) (s25 : (List Int) × Int × Int) (n25 : ((List Int) × Int × Int) → Option (Int × Bool × (List Int))) (s29 : Int) (n29 : Int → Option (Int × Bool × (List Int))) : Option (Int × Bool × (List Int)) := (if (decide (s29 ≤ s25.2.2)) then (if 0 ≤ s29 ∧ s29 < ((s25.1.length : Nat) : Int) then (if (Int.toNat s29) < s25.1.length then (if 0 ≤ p1 ∧ p1 < ((s25.1.length : Nat) : Int) then (if (Int.toNat p1) < s25.1.length then (Option.bind (Cw (s25.1.getD (Int.toNat s29) 0) (s25.1.getD (Int.toNat p1) 0)) fun r1087 => ((Ex p1 s25 n25 s29 n29) r1087)) else none) else none) else none) else none) else ((Ex p1 s25 n25 s29 n29) false))
def Gp (p1 : Int) (s25 : (List Int) × Int × Int) (n25 : ((List Int) × Int × Int) → Option (Int × Bool × (List Int))) : Option (Int × Bool × (List Int)) := (whileO (It p1 s25 n25) Ej s25.2.1)
def Ev (p0 : List Int) (p1 : Int) (p3 : Int) (s1 : Int) (s17 : Int) (n17 : Int → Option (Int × Bool × (List Int))) (y42 : Bool) : Option (Int × Bool × (List Int)) := (if y42 then (n17 (w64 (s17 - 1))) else (if (decide (s1 > s17)) then (if 0 ≤ p1 ∧ p1 < ((((p0.set (Int.toNat p1) (p0.getD (Int.toNat p3) 0)).set (Int.toNat p3) (p0.getD (Int.toNat p1) 0)).length : Nat) : Int) then (if (Int.toNat p1) < ((p0.set (Int.toNat p1) (p0.getD (Int.toNat p3) 0)).set (Int.toNat p3) (p0.getD (Int.toNat p1) 0)).length then (if 0 ≤ s17 ∧ s17 < ((((p0.set (Int.toNat p1) (p0.getD (Int.toNat p3) 0)).set (Int.toNat p3) (p0.getD (Int.toNat p1) 0)).length : Nat) : Int) then (if (Int.toNat s17) < ((p0.set (Int.toNat p1) (p0.getD (Int.toNat p3) 0)).set (Int.toNat p3) (p0.getD (Int.toNat p1) 0)).length then (if 0 ≤ s17 ∧ s17 < ((((p0.set (Int.toNat p1) (p0.getD (Int.toNat p3) 0)).set (Int.toNat p3) (p0.getD (Int.toNat p1) 0)).length : Nat) : Int) then (if (Int.toNat s17) < ((p0.set (Int.toNat p1) (p0.getD (Int.toNat p3) 0)).set (Int.toNat p3) (p0.getD (Int.toNat p1) 0)).length then (if 0 ≤ p1 ∧ p1 < ((((p0.set (Int.toNat p1) (p0.getD (Int.toNat p3) 0)).set (Int.toNat p3) (p0.getD (Int.toNat p1) 0)).length : Nat) : Int) then (if (Int.toNat p1) < ((p0.set (Int.toNat p1) (p0.getD (Int.toNat p3) 0)).set (Int.toNat p3) (p0.getD (Int.toNat p1) 0)).length then (some (s17,true,((((p0.set (Int.toNat p1) (p0.getD (Int.toNat p3) 0)).set (Int.toNat p3) (p0.getD (Int.toNat p1) 0)).set (Int.toNat s17) (((p0.set (Int.toNat p1) (p0.getD (Int.toNat p3) 0)).set (Int.toNat p3) (p0.getD (Int.toNat p1) 0)).getD (Int.toNat p1) 0)).set (Int.toNat p1) (((p0.set (Int.toNat p1) (p0.getD (Int.toNat p3) 0)).set (Int.toNat p3) (p0.getD (Int.toNat p1) 0)).getD (Int.toNat s17) 0)))) else none) else none) else none) else none) else none) else none) else none) else none) else (if 0 ≤ s17 ∧ s17 < ((((p0.set (Int.toNat p1) (p0.getD (Int.toNat p3) 0)).set (Int.toNat p3) (p0.getD (Int.toNat p1) 0)).length : Nat) : Int) then (if (Int.toNat s17) < ((p0.set (Int.toNat p1) (p0.getD (Int.toNat p3) 0)).set (Int.toNat p3) (p0.getD (Int.toNat p1) 0)).length then (if 0 ≤ s1 ∧ s1 < ((((p0.set (Int.toNat p1) (p0.getD (Int.toNat p3) 0)).set (Int.toNat p3) (p0.getD (Int.toNat p1) 0)).length : Nat) : Int) then (if (Int.toNat s1) < ((p0.set (Int.toNat p1) (p0.getD (Int.toNat p3) 0)).set (Int.toNat p3) (p0.getD (Int.toNat p1) 0)).length then (if 0 ≤ s1 ∧ s1 < ((((p0.set (Int.toNat p1) (p0.getD (Int.toNat p3) 0)).set (Int.toNat p3) (p0.getD (Int.toNat p1) 0)).length : Nat) : Int) then (if (Int.toNat s1) < ((p0.set (Int.toNat p1) (p0.getD (Int.toNat p3) 0)).set (Int.toNat p3) (p0.getD (Int.toNat p1) 0)).length then (if 0 ≤ s17 ∧ s17 < ((((p0.set (Int.toNat p1) (p0.getD (Int.toNat p3) 0)).set (Int.toNat p3) (p0.getD (Int.toNat p1) 0)).length : Nat) : Int) then (if (Int.toNat s17) < ((p0.set (Int.toNat p1) (p0.getD (Int.toNat p3) 0)).set (Int.toNat p3) (p0.getD (Int.toNat p1) 0)).length then (whileO (Gp p1) Ej (((((p0.set (Int.toNat p1) (p0.getD (Int.toNat p3) 0)).set (Int.toNat p3) (p0.getD (Int.toNat p1) 0)).set (Int.toNat s1) (((p0.set (Int.toNat p1) (p0.getD (Int.toNat p3) 0)).set (Int.toNat p3) (p0.getD (Int.toNat p1) 0)).getD (Int.toNat s17) 0)).set (Int.toNat s17) (((p0.set (Int.toNat p1) (p0.getD (Int.toNat p3) 0)).set (Int.toNat p3) (p0.getD (Int.toNat p1) 0)).getD (Int.toNat s1) 0)),(w64 (s1 + 1)),(w64 (s17 - 1)))) else none) else none) else none) else none) else none) else none) else none) else none)))
def Gq (p0 : List Int) (p1 : Int) (p3 : Int) (s1 : Int) (s17 : Int) (n17 : Int → Option (Int × Bool × (List Int))) : Option (Int × Bool × (List Int)) := (if (decide (s1 ≤ s17)) then (if 0 ≤ s17 ∧ s17 < ((((p0.set (Int.toNat p1) (p0.getD (Int.toNat p3) 0)).set (Int.toNat p3) (p0.getD (Int.toNat p1) 0)).length : Nat) : Int) then (if (Int.toNat s17) < ((p0.set (Int.toNat p1) (p0.getD (Int.toNat p3) 0)).set (Int.toNat p3) (p0.getD (Int.toNat p1) 0)).length then (if 0 ≤ p1 ∧ p1 < ((((p0.set (Int.toNat p1) (p0.getD (Int.toNat p3) 0)).set (Int.toNat p3) (p0.getD (Int.toNat p1) 0)).length : Nat) : Int) then (if (Int.toNat p1) < ((p0.set (Int.toNat p1) (p0.getD (Int.toNat p3) 0)).set (Int.toNat p3) (p0.getD (Int.toNat p1) 0)).length then (Option.bind (Cw (((p0.set (Int.toNat p1) (p0.getD (Int.toNat p3) 0)).set (Int.toNat p3) (p0.getD (Int.toNat p1) 0)).getD (Int.toNat s17) 0) (((p0.set (Int.toNat p1) (p0.getD (Int.toNat p3) 0)).set (Int.toNat p3) (p0.getD (Int.toNat p1) 0)).getD (Int.toNat p1) 0)) fun r874 => ((Ev p0 p1 p3 s1 s17 n17) (!r874))) else none) else none) else none) else none) else ((Ev p0 p1 p3 s1 s17 n17) false))
def Eu (p0 : List Int) (p1 : Int) (p2 : Int) (p3 : Int) (s1 : Int) (n1 : Int → Option (Int × Bool × (List Int))) (y28 : Bool) : Option (Int × Bool × (List Int)) := (if y28 then (n1 (w64 (s1 + 1))) else (whileO (Gq p0 p1 p3 s1) Ej (w64 (p2 - 1))))
def Jj (p0 : List Int) (p1 : Int) (p2 : Int) (p3 : Int) (s1 : Int) (n1 : Int → Option (Int × Bool × (List Int))) : Option (Int × Bool × (List Int)) := (if (decide (s1 ≤ (w64 (p2 - 1)))) then (if 0 ≤ s1 ∧ s1 < ((((p0.set (Int.toNat p1) (p0.getD (Int.toNat p3) 0)).set (Int.toNat p3) (p0.getD (Int.toNat p1) 0)).length : Nat) : Int) then (if (Int.toNat s1) < ((p0.set (Int.toNat p1) (p0.getD (Int.toNat p3) 0)).set (Int.toNat p3) (p0.getD (Int.toNat p1) 0)).length then (if 0 ≤ p1 ∧ p1 < ((((p0.set (Int.toNat p1) (p0.getD (Int.toNat p3) 0)).set (Int.toNat p3) (p0.getD (Int.toNat p1) 0)).length : Nat) : Int) then (if (Int.toNat p1) < ((p0.set (Int.toNat p1) (p0.getD (Int.toNat p3) 0)).set (Int.toNat p3) (p0.getD (Int.toNat p1) 0)).length then (Option.bind (Cw (((p0.set (Int.toNat p1) (p0.getD (Int.toNat p3) 0)).set (Int.toNat p3) (p0.getD (Int.toNat p1) 0)).getD (Int.toNat s1) 0) (((p0.set (Int.toNat p1) (p0.getD (Int.toNat p3) 0)).set (Int.toNat p3) (p0.getD (Int.toNat p1) 0)).getD (Int.toNat p1) 0)) fun r587 => ((Eu p0 p1 p2 p3 s1 n1) r587)) else none) else none) else none) else none) else ((Eu p0 p1 p2 p3 s1 n1) false))
def Fx (p0 : List Int) (p1 : Int) (p2 : Int) (p3 : Int) : Option (Int × Bool × (List Int)) := (if 0 ≤ p3 ∧ p3 < ((p0.length : Nat) : Int) then (if (Int.toNat p3) < p0.length then (if 0 ≤ p1 ∧ p1 < ((p0.length : Nat) : Int) then (if (Int.toNat p1) < p0.length then (if 0 ≤ p1 ∧ p1 < ((p0.length : Nat) : Int) then (if (Int.toNat p1) < p0.length then (if 0 ≤ p3 ∧ p3 < ((p0.length : Nat) : Int) then (if (Int.toNat p3) < p0.length then (whileO (Jj p0 p1 p2 p3) Ej (w64 (p1 + 1))) else none) else none) else none) else none) else none) else none) else none) else none)
def Gt (p0 : Int) : Option Int := (Option.bind (Uh (IntKind.u64.wrap p0)) fun r1 => (if (0 : Int) ≤ r1 then (some (kshl .u64 1 r1)) else none))
def Lj (p0 : Int) : Option (Int × Int) := (some ((kxor .u64 (kxor .u64 (kxor .u64 p0 (kshl .u64 p0 13)) (kshr .u64 (kxor .u64 p0 (kshl .u64 p0 13)) 7)) (kshl .u64 (kxor .u64 (kxor .u64 p0 (kshl .u64 p0 13)) (kshr .u64 (kxor .u64 p0 (kshl .u64 p0 13)) 7)) 17)),(kxor .u64 (kxor .u64 (kxor .u64 p0 (kshl .u64 p0 13)) (kshr .u64 (kxor .u64 p0 (kshl .u64 p0 13)) 7)) (kshl .u64 (kxor .u64 (kxor .u64 p0 (kshl .u64 p0 13)) (kshr .u64 (kxor .u64 p0 (kshl .u64 p0 13)) 7)) 17))))
def Ct (p1 : Int) (s1 : (List Int) × Int × Int) (n1 : ((List Int) × Int × Int) → Option (List Int)) (r15 : Int × Int) (y2 : Int) : Option (List Int) := (if 0 ≤ (w64 (p1 + y2)) ∧ (w64 (p1 + y2)) < ((s1.1.length : Nat) : Int) then (if (Int.toNat (w64 (p1 + y2))) < s1.1.length then (if 0 ≤ s1.2.2 ∧ s1.2.2 < ((s1.1.length : Nat) : Int) then (if (Int.toNat s1.2.2) < s1.1.length then (if 0 ≤ s1.2.2 ∧ s1.2.2 < ((s1.1.length : Nat) : Int) then (if (Int.toNat s1.2.2) < s1.1.length then (if 0 ≤ (w64 (p1 + y2)) ∧ (w64 (p1 + y2)) < ((s1.1.length : Nat) : Int) then (if (Int.toNat (w64 (p1 + y2))) < s1.1.length then (n1 (((s1.1.set (Int.toNat s1.2.2) (s1.1.getD (Int.toNat (w64 (p1 + y2))) 0)).set (Int.toNat (w64 (p1 + y2))) (s1.1.getD (Int.toNat s1.2.2) 0)),r15.2,(w64 (s1.2.2 + 1)))) else none) else none) else none) else none) else none) else none) else none) else none)
def Hu (p1 : Int) (p2 : Int) (r2 : Int) (s1 : (List Int) × Int × Int) (n1 : ((List Int) × Int × Int) → Option (List Int)) : Option (List Int) := (if (decide (s1.2.2 ≤ (w64 ((w64 (p1 + (w64 ((w64 (Int.tdiv (w64 (p2 - p1)) 4)) * 2)))) + 1)))) then (Option.bind (Lj s1.2.1) fun r15 => (if (decide ((w64 (kand .u64 r15.1 (IntKind.u64.wrap (r2 - 1)))) ≥ (w64 (p2 - p1)))) then ((Ct p1 s1 n1 r15) (w64 ((w64 (kand .u64 r15.1 (IntKind.u64.wrap (r2 - 1)))) - (w64 (p2 - p1))))) else ((Ct p1 s1 n1 r15) (w64 (kand .u64 r15.1 (IntKind.u64.wrap (r2 - 1))))))) else (some s1.1))
def Eg (p0 : List Int) (p1 : Int) (p2 : Int) : Option (List Int) := (if (decide ((w64 (p2 - p1)) ≥ 8)) then (Option.bind (Gt (w64 (p2 - p1))) fun r2 => (whileO (Hu p1 p2 r2) Ej (p0,(IntKind.u64.wrap (w64 (p2 - p1))),(w64 ((w64 (p1 + (w64 ((w64 (Int.tdiv (w64 (p2 - p1)) 4)) * 2)))) - 1))))) else (some p0))
def Dv (rec : (List Int) → Int → Int → Int → Option (List Int)) (s1 : (List Int) × Int × Int × Int × Bool × Bool) (n1 : ((List Int) × Int × Int × Int × Bool × Bool) → Option (List Int)) (y8 : (List Int) × Int) (y9 : (List Int) × Int × Int) (y10 : List Int) (y11 : Bool) : Option (List Int) := (if y11 then (Option.bind (Eb y10 s1.2.1 s1.2.2.1 y9.2.1) fun r92 => (if y10.length = r92.2.length then (n1 (r92.2,r92.1,s1.2.2.1,y8.2,s1.2.2.2.2.1,s1.2.2.2.2.2)) else none)) else (Option.bind (Fx y10 s1.2.1 s1.2.2.1 y9.2.1) fun r94 => (if y10.length = r94.2.2.length then (if (decide ((w64 (r94.1 - s1.2.1)) < (w64 (s1.2.2.1 - r94.1)))) then (Option.bind (rec r94.2.2 s1.2.1 r94.1 y8.2) fun r97 => (if r94.2.2.length = r97.length then (n1 (r97,(w64 (r94.1 + 1)),s1.2.2.1,y8.2,(decide ((w64 (r94.1 - s1.2.1)) ≥ (w64 (Int.tdiv (w64 (s1.2.2.1 - s1.2.1)) 8)))),r94.2.1)) else none)) else (Option.bind (rec r94.2.2 (w64 (r94.1 + 1)) s1.2.2.1 y8.2) fun r99 => (if r94.2.2.length = r99.length then (n1 (r99,s1.2.1,r94.1,y8.2,(decide ((w64 (s1.2.2.1 - r94.1)) ≥ (w64 (Int.tdiv (w64 (s1.2.2.1 - s1.2.1)) 8)))),r94.2.1)) else none))) else none)))
def Du (rec : (List Int) → Int → Int → Int → Option (List Int)) (s1 : (List Int) × Int × Int × Int × Bool × Bool) (n1 : ((List Int) × Int × Int × Int × Bool × Bool) → Option (List Int)) (y8 : (List Int) × Int) (y9 : (List Int) × Int × Int) (y10 : List Int) : Option (List Int) := (if (decide (s1.2.1 > 0)) then (if 0 ≤ (w64 (s1.2.1 - 1)) ∧ (w64 (s1.2.1 - 1)) < ((y10.length : Nat) : Int) then (if (Int.toNat (w64 (s1.2.1 - 1))) < y10.length then (if 0 ≤ y9.2.1 ∧ y9.2.1 < ((y10.length : Nat) : Int) then (if (Int.toNat y9.2.1) < y10.length then (Option.bind (Cw (y10.getD (Int.toNat (w64 (s1.2.1 - 1))) 0) (y10.getD (Int.toNat y9.2.1) 0)) fun r90 => ((Dv rec s1 n1 y8 y9 y10) (!r90))) else none) else none) else none) else none) else ((Dv rec s1 n1 y8 y9 y10) false))
def Ed (rec : (List Int) → Int → Int → Int → Option (List Int)) (s1 : (List Int) × Int × Int × Int × Bool × Bool) (n1 : ((List Int) × Int × Int × Int × Bool × Bool) → Option (List Int)) (y8 : (List Int) × Int) (y9 : (List Int) × Int × Int) : Option (List Int) := (if ((s1.2.2.2.2.1 && s1.2.2.2.2.2) && (y9.2.2 == 1)) then (Option.bind (Cz y9.1 s1.2.1 s1.2.2.1) fun r82 => (if y9.1.length = r82.2.length then (if r82.1 then (some r82.2) else ((Du rec s1 n1 y8 y9) r82.2)) else none)) else ((Du rec s1 n1 y8 y9) y9.1))
def Ee (rec : (List Int) → Int → Int → Int → Option (List Int)) (s1 : (List Int) × Int × Int × Int × Bool × Bool) (n1 : ((List Int) × Int × Int × Int × Bool × Bool) → Option (List Int)) (y8 : (List Int) × Int) : Option (List Int) := (Option.bind (Fc y8.1 s1.2.1 s1.2.2.1) fun r75 => (if (r75.2 == 2) then (Option.bind (Ew y8.1 s1.2.1 s1.2.2.1) fun r77 => (if y8.1.length = r77.length then ((Ed rec s1 n1 y8) (r77,(w64 ((w64 (s1.2.2.1 - 1)) - (w64 (r75.1 - s1.2.1)))),1)) else none)) else ((Ed rec s1 n1 y8) (y8.1,r75.1,r75.2))))
def Ks (rec : (List Int) → Int → Int → Int → Option (List Int)) (s1 : (List Int) × Int × Int × Int × Bool × Bool) (n1 : ((List Int) × Int × Int × Int × Bool × Bool) → Option (List Int)) : Option (List Int) := (if (decide ((w64 (s1.2.2.1 - s1.2.1)) ≤ 12)) then (Option.bind (Eh s1.1 s1.2.1 s1.2.2.1) fun r67 => (if s1.1.length = r67.length then (some r67) else none)) else (if (s1.2.2.2.1 == 0) then (Option.bind (Ge s1.1 s1.2.1 s1.2.2.1) fun r70 => (if s1.1.length = r70.length then (some r70) else none)) else (if (!s1.2.2.2.2.1) then (Option.bind (Eg s1.1 s1.2.1 s1.2.2.1) fun r73 => (if s1.1.length = r73.length then ((Ee rec s1 n1) (r73,(w64 (s1.2.2.2.1 - 1)))) else none)) else ((Ee rec s1 n1) (s1.1,s1.2.2.2.1)))))
def Hz (rec : (List Int) → Int → Int → Int → Option (List Int)) (p0 : List Int) (p1 : Int) (p2 : Int) (p3 : Int) : Option (List Int) := (whileO (Ks rec) Ej (p0,p1,p2,p3,true,true))
def Cc : Nat → (List Int) → Int → Int → Int → Option (List Int)
 | 0,_,_,_,_ => none
 | n + 1,p0,p1,p2,p3 => Hz (Cc n) p0 p1 p2 p3
def Lm (p0 : List Int) (p1 : Int) (p2 : Int) (p3 : Int) : Option (List Int) := Cc Ej p0 p1 p2 p3
def Jd (p0 : List Int) : Option (List Int) := (Option.bind (Uh (IntKind.u64.wrap ((p0.length : Nat) : Int))) fun r1 => (Option.bind (Lm p0 0 ((p0.length : Nat) : Int) r1) fun r2 => (if p0.length = r2.length then (some r2) else none)))
def Lk (n4 : ((List Int) × Int) → Option (Nat × (List Int))) (y9 : (List Int) × Int) : Option (Nat × (List Int)) := (n4 (y9.1,y9.2))
def Pq (p0 : List Int) (k1 : Int) (k4 : Int) (s4 : (List Int) × Int) (n4 : ((List Int) × Int) → Option (Nat × (List Int))) : Option (Nat × (List Int)) := (if 0 ≤ k4 ∧ k4 < (((Fz p0.length (Int.toNat k1)) : Nat) : Int) then (if (Vd (Int.toNat k1) (Int.toNat k4)) < s4.1.length then (if 0 ≤ (w64 (k4 - 1)) ∧ (w64 (k4 - 1)) < (((Fz p0.length (Int.toNat k1)) : Nat) : Int) then (if (Vd (Int.toNat k1) (Int.toNat (w64 (k4 - 1)))) < s4.1.length then (if ((s4.1.getD (Vd (Int.toNat k1) (Int.toNat k4)) 0) != (s4.1.getD (Vd (Int.toNat k1) (Int.toNat (w64 (k4 - 1)))) 0)) then (if 0 ≤ k4 ∧ k4 < (((Fz p0.length (Int.toNat k1)) : Nat) : Int) then (if (Vd (Int.toNat k1) (Int.toNat k4)) < s4.1.length then (if 0 ≤ s4.2 ∧ s4.2 < ((s4.1.length : Nat) : Int) then (if (Int.toNat s4.2) < s4.1.length then ((Lk n4) ((s4.1.set (Int.toNat s4.2) (s4.1.getD (Vd (Int.toNat k1) (Int.toNat k4)) 0)),(w64 (s4.2 + 1)))) else none) else none) else none) else none) else ((Lk n4) (s4.1,s4.2))) else none) else none) else none) else none)
def Pf (s4 : (List Int) × Int) : Option (Nat × (List Int)) := (if 0 ≤ s4.2 ∧ s4.2 ≤ ((s4.1.length : Nat) : Int) then (if (Int.toNat s4.2) + (Fz s4.1.length (Int.toNat s4.2)) ≤ s4.1.length then (if 0 ≤ s4.2 ∧ s4.2 ≤ (((Kt s4.1 (Int.toNat s4.2) (Fz s4.1.length (Int.toNat s4.2)) 0).length : Nat) : Int) then (some ((Int.toNat s4.2),(Kt s4.1 (Int.toNat s4.2) (Fz s4.1.length (Int.toNat s4.2)) 0))) else none) else none) else none)
def Pj (p0 : List Int) (k1 : Int) (s1 : Unit) (n1 : Unit → Option (Nat × (List Int))) : Option (Nat × (List Int)) := (if 0 ≤ k1 ∧ k1 < ((p0.length : Nat) : Int) then (if (Int.toNat k1) < p0.length then (if 0 ≤ (w64 (k1 - 1)) ∧ (w64 (k1 - 1)) < ((p0.length : Nat) : Int) then (if (Int.toNat (w64 (k1 - 1))) < p0.length then (if ((p0.getD (Int.toNat k1) 0) == (p0.getD (Int.toNat (w64 (k1 - 1))) 0)) then (if 0 ≤ k1 ∧ k1 ≤ ((p0.length : Nat) : Int) then (if (((Fz p0.length (Int.toNat k1)) : Nat) : Int) ≤ 9223372036854775807 then (forO (Pq p0 k1) Pf (Int.toNat ((((Fz p0.length (Int.toNat k1)) : Nat) : Int) - 1)) 1 (p0,k1)) else none) else none) else (n1 ())) else none) else none) else none) else none)
def Uo (p0 : List Int) (s1 : Unit) : Option (Nat × (List Int)) := (some (p0.length,p0))
def Il (p0 : List Int) : Option (Nat × (List Int)) := (if (decide (((p0.length : Nat) : Int) < 2)) then (some (p0.length,p0)) else (if p0.length ≤ 9223372036854775807 then (forO (Pj p0) (Uo p0) (Int.toNat (((p0.length : Nat) : Int) - 1)) 1 ()) else none))
end Go.Dm

/- Models of Go types and functions, printed by a program. -/
namespace Go.Dm
set_option linter.unusedVariables false
structure AjP where
 group : Int
 min : Int
 low : Int
 deriving Inhabited
structure Charge where
 group : Int
 own : Int
 deriving Inhabited
structure Counter where
 charges : List Charge
 deriving Inhabited
def Lt (p0 : Aq) (p1 : List Int) : Option (Int × Aq) := (Option.bind (Bq p0 ((p1.length : Nat) : Int)) fun r1 => (if 0 ≤ r1.1 ∧ r1.1 < ((p1.length : Nat) : Int) then (some ((p1.getD (Int.toNat r1.1) 0),r1.2)) else none))
end Go.Dm

/- Models of Go types and functions, printed by a program. -/
namespace Go.Dm
set_option linter.unusedVariables false
end Go.Dm

/- Models of Go types and functions, printed by a program. -/
namespace Go.Dm
set_option linter.unusedVariables false
structure Ae where
 group : Int
 want : Bool
 frozen : Bool
 changes : Int
 deriving Inhabited
def Bd (x : Ae) : List PV := [vi x.group,vb x.want,vb x.frozen,vi x.changes]
abbrev Bc : Ae := default
abbrev En (L : List Ae) : PV := Mp 4 Bd (default : Ae) L
abbrev Af (L : List Ae) : Body := rowOf 4 Bd (default : Ae) L
abbrev Hq (L : List Ae) : Nat → List PV := elems Bd (default : Ae) L
def Zz (x y : Ae) : Bool := ((x.group == y.group) && ((x.want == y.want) && ((x.frozen == y.frozen) && ((x.changes == y.changes) && true))))
structure Ac where
 frosts : List Ae
 stopped : List Int
 deriving Inhabited
def Al (x : Ac) : List PV := [Mp 4 Bd (default : Ae) x.frosts,Mp 1 Bi 0 x.stopped]
structure freezer where
 h : Aa
 f : Ac
 deriving Inhabited
def AcS : Option Aa := (some ({ tree := ({ nodes := [({ id := 1,parent := 0,name := ByteArray.empty,control := 0,kind := 0,owner := 0 } : Ao),({ id := 2,parent := 1,name := (bs [97]),control := 0,kind := 0,owner := 0 } : Ao),({ id := 3,parent := 2,name := (bs [98]),control := 0,kind := 0,owner := 0 } : Ao)],next := 4 } : Ag),tasks := [({ id := 1,process := 1,group := 3,user := 0 } : Aw)],next := 2 } : Aa))
def AaR (k1 : Nat) (x1 : Ao) (s1 : List Ae) (n1 : (List Ae) → Option Ac) : Option Ac := (if s1.length + 1 ≤ 1073741824 then (n1 (s1 ++ [({ group := x1.id,want := false,frozen := false,changes := 0 } : Ae)])) else none)
def Aao (s1 : List Ae) : Option Ac := (some ({ frosts := s1,stopped := [] } : Ac))
def Ln (p0 : Aa) : Option Ac := (Option.bind (Iu p0) fun r1 => (if (!r1) then (some ({ frosts := [],stopped := [] } : Ac)) else (if p0.tree.nodes.length ≤ 9223372036854775807 then Bl AaR Aao p0.tree.nodes 0 [] else none)))
def Adz (p1 : Int) (k1 : Nat) (x1 : Ae) (s1 : Unit) (n1 : Unit → Option Ae) : Option Ae := (if (x1.group == p1) then (some x1) else (n1 ()))
def Aeu (p1 : Int) (s1 : Unit) : Option Ae := (some ({ group := p1,want := false,frozen := false,changes := 0 } : Ae))
def Hd (p0 : Ac) (p1 : Int) : Option Ae := (if p0.frosts.length ≤ 9223372036854775807 then Bl (Adz p1) (Aeu p1) p0.frosts 0 () else none)
def Wl (p1 : Ac) (k1 : Nat) (x1 : Int) (s1 : Unit) (n1 : Unit → Option Bool) : Option Bool := (Option.bind (Hd p1 x1) fun r13 => (if r13.want then (some true) else (n1 ())))
def Ach (s1 : Unit) : Option Bool := (some false)
def Kn (p0 : Ag) (p1 : Ac) (p2 : Int) : Option Bool := (Option.bind (Ma p0 p2) fun r1 => (if r1.length ≤ 9223372036854775807 then Bl (Wl p1) Ach r1 0 () else none))
def Qz (y1 : Bool) : Option Bool := (some y1)
def Hx (p0 : Aa) (p1 : Ac) (p2 : Int) : Option Bool := (Option.bind (Rj p0 p2) fun r1 => (if r1.2 then (Option.bind (Kn p0.tree p1 r1.1.group) fun r3 => (Qz r3)) else (Qz false)))
def Ig (p0 : Ac) (p1 : Int) : Option Bool := (Option.bind (Ec p0.stopped p1) fun r1 => (some r1))
def Qd (n1 : Unit → Option Bool) (y3 : Bool) : Option Bool := (if y3 then (some false) else (n1 ()))
def Yw (p1 : Ac) (r3 : List Int) (k1 : Nat) (x1 : Aw) (s1 : Unit) (n1 : Unit → Option Bool) : Option Bool := (Option.bind (Ec r3 x1.group) fun r17 => (if r17 then (Option.bind (Ig p1 x1.id) fun r19 => ((Qd n1) (!r19))) else ((Qd n1) false)))
def Adc (s1 : Unit) : Option Bool := (some true)
def No (p0 : Aa) (p1 : Ac) (p2 : Int) : Option Bool := (Option.bind (Kn p0.tree p1 p2) fun r1 => (if (!r1) then (some false) else (Option.bind (Nz p0.tree p2) fun r3 => (if p0.tasks.length ≤ 9223372036854775807 then Bl (Yw p1 r3) Adc p0.tasks 0 () else none))))
def Kw (n1 : Unit → Option Bool) (y10 : Bool) : Option Bool := (if y10 then (some false) else (n1 ()))
def Wc (p0 : Aa) (k1 : Nat) (x1 : Ae) (s1 : Unit) (n1 : Unit → Option Bool) : Option Bool := (if k1 < p0.tree.nodes.length then (if (x1.group != (p0.tree.nodes.getD k1 (default : Ao)).id) then ((Kw n1) true) else (if (decide (x1.changes < 0)) then ((Kw n1) true) else ((Kw n1) (decide (x1.changes > 1099511627776))))) else none)
def Jc (n10 : Unit → Option Bool) (y13 : Bool) : Option Bool := (if y13 then (some false) else (n10 ()))
def Vn (p0 : Aa) (p1 : Ac) (k10 : Nat) (x10 : Int) (s10 : Unit) (n10 : Unit → Option Bool) : Option Bool := (if (decide (((k10 : Nat) : Int) > 0)) then (if 0 ≤ (w64 (((k10 : Nat) : Int) - 1)) ∧ (w64 (((k10 : Nat) : Int) - 1)) < ((p1.stopped.length : Nat) : Int) then (if (decide (x10 ≤ (p1.stopped.getD (Int.toNat (w64 (((k10 : Nat) : Int) - 1))) 0))) then ((Jc n10) true) else (Option.bind (Hx p0 p1 x10) fun r145 => ((Jc n10) (!r145)))) else none) else (Option.bind (Hx p0 p1 x10) fun r146 => ((Jc n10) (!r146))))
def Vr (p0 : Aa) (p1 : Ac) (k13 : Nat) (x13 : Ae) (s13 : Unit) (n13 : Unit → Option Bool) : Option Bool := (Option.bind (No p0 p1 x13.group) fun r157 => (if (x13.frozen != r157) then (some false) else (n13 ())))
def Abr (s13 : Unit) : Option Bool := (some true)
def Vv (p0 : Aa) (p1 : Ac) (s10 : Unit) : Option Bool := (if p1.frosts.length ≤ 9223372036854775807 then Bl (Vr p0 p1) Abr p1.frosts 0 () else none)
def Wx (p0 : Aa) (p1 : Ac) (s1 : Unit) : Option Bool := (if p1.stopped.length ≤ 9223372036854775807 then Bl (Vn p0 p1) (Vv p0 p1) p1.stopped 0 () else none)
def Oe (p0 : Aa) (p1 : Ac) (y1 : Bool) : Option Bool := (if y1 then (some false) else (if p1.frosts.length ≤ 9223372036854775807 then Bl (Wc p0) (Wx p0 p1) p1.frosts 0 () else none))
def Hv (p0 : Aa) (p1 : Ac) : Option Bool := (Option.bind (Iu p0) fun r1 => (if (!r1) then ((Oe p0 p1) true) else ((Oe p0 p1) (((p1.frosts.length : Nat) : Int) != ((p0.tree.nodes.length : Nat) : Int)))))
def AaO (p0 : Ae) (p1 : Int) : Option Bool := (some (p0.group == p1))
def Kb (p1c0 : Int) (k1 : Nat) (x1 : Ae) (s1 : Unit) (n1 : Unit → Option Int) : Option Int := (Option.bind (AaO x1 p1c0) fun r10 => (if r10 then (some ((k1 : Nat) : Int)) else (n1 ())))
def Kc (s1 : Unit) : Option Int := (some (-1))
def Fb (p0 : List Ae) (p1c0 : Int) : Option Int := (if p0.length ≤ 9223372036854775807 then Bl (Kb p1c0) Kc p0 0 () else none)
def Gu (p0 : List Ae) : Option (List Ae) := (if 0 + p0.length ≤ 1073741824 then (some p0) else none)
def Og (p0 : List Ae) : Option (List Ae) := (some [])
def Ha (p0 : List Int) : Option (List Int) := (if 0 + p0.length ≤ 1073741824 then (some p0) else none)
def Qm (p0 : List Int) : Option (List Int) := (some [])
def Qg (p0 : Aa) (p1 : Ac) : Option freezer := (Option.bind (Gu p1.frosts) fun r1 => (Option.bind (Ha p1.stopped) fun r2 => (some ({ h := p0,f := ({ frosts := r1,stopped := r2 } : Ac) } : freezer))))
def Gl (p0 : Int) (p1 : freezer) : Option Bool := (Option.bind (Hx p1.h p1.f p0) fun r1 => (some (!r1)))
def Es (p0 : List Int) (p1c0 : freezer) (k1 : Nat) (x1 : Int) (s1 : Unit) (n1 : Unit → Option Int) : Option Int := (Option.bind (Gl x1 ({ h := p1c0.h,f := ({ frosts := p1c0.f.frosts,stopped := p0 } : Ac) } : freezer)) fun r12 => (if r12 then (some ((k1 : Nat) : Int)) else (n1 ())))
def Hk (s1 : Unit) : Option Int := (some (-1))
def De (p0 : List Int) (p1c0 : freezer) : Option Int := (if p0.length ≤ 9223372036854775807 then Bl (Es p0 p1c0) Hk p0 0 () else none)
def Cf (s1 : (List Int) × Int × Int) (n1 : ((List Int) × Int × Int) → Option (Nat × (List Int) × freezer)) (y2 : (List Int) × Int) : Option (Nat × (List Int) × freezer) := (n1 (y2.1,y2.2,(w64 (s1.2.2 + 1))))
def Cu (p1c0 : freezer) (s1 : (List Int) × Int × Int) (n1 : ((List Int) × Int × Int) → Option (Nat × (List Int) × freezer)) : Option (Nat × (List Int) × freezer) := (if (decide (s1.2.2 < ((s1.1.length : Nat) : Int))) then (if 0 ≤ s1.2.2 ∧ s1.2.2 < ((s1.1.length : Nat) : Int) then (if (Int.toNat s1.2.2) < s1.1.length then (Option.bind (Gl (s1.1.getD (Int.toNat s1.2.2) 0) ({ h := p1c0.h,f := ({ frosts := p1c0.f.frosts,stopped := s1.1 } : Ac) } : freezer)) fun r16 => (if (!r16) then (if 0 ≤ s1.2.1 ∧ s1.2.1 < ((s1.1.length : Nat) : Int) then (if (Int.toNat s1.2.1) < s1.1.length then ((Cf s1 n1) ((s1.1.set (Int.toNat s1.2.1) (s1.1.getD (Int.toNat s1.2.2) 0)),(w64 (s1.2.1 + 1)))) else none) else none) else ((Cf s1 n1) (s1.1,s1.2.1)))) else none) else none) else (if 0 ≤ s1.2.1 ∧ s1.2.1 ≤ ((s1.1.length : Nat) : Int) then (if (Int.toNat s1.2.1) + (Fz s1.1.length (Int.toNat s1.2.1)) ≤ s1.1.length then (if 0 ≤ s1.2.1 ∧ s1.2.1 ≤ (((Kt s1.1 (Int.toNat s1.2.1) (Fz s1.1.length (Int.toNat s1.2.1)) 0).length : Nat) : Int) then (some ((Int.toNat s1.2.1),(Kt s1.1 (Int.toNat s1.2.1) (Fz s1.1.length (Int.toNat s1.2.1)) 0),({ h := p1c0.h,f := ({ frosts := p1c0.f.frosts,stopped := (Kt s1.1 (Int.toNat s1.2.1) (Fz s1.1.length (Int.toNat s1.2.1)) 0) } : Ac) } : freezer))) else none) else none) else none))
def Ch (p0 : List Int) (p1c0 : freezer) : Option (Nat × (List Int) × freezer) := (Option.bind (De p0 ({ h := p1c0.h,f := ({ frosts := p1c0.f.frosts,stopped := p0 } : Ac) } : freezer)) fun r1 => (if (r1 == (-1)) then (some (p0.length,p0,({ h := p1c0.h,f := ({ frosts := p1c0.f.frosts,stopped := p0 } : Ac) } : freezer))) else (whileO (Cu p1c0) Ej (p0,r1,(w64 (r1 + 1))))))
def Hf (p0 : freezer) : Option (freezer × Nat) := (Option.bind (Ch p0.f.stopped p0) fun r1 => (if p0.f.stopped.length = r1.2.1.length then (if p0.f.frosts.length = r1.2.2.f.frosts.length then (if r1.1 ≤ r1.2.1.length then (some (({ h := r1.2.2.h,f := ({ frosts := r1.2.2.f.frosts,stopped := r1.2.1 } : Ac) } : freezer),r1.1)) else none) else none) else none))
def Hg (n1 : (List Ae) → Option (Ac × freezer)) (y3 : List Ae) : Option (Ac × freezer) := (n1 y3)
def Mq (p0 : freezer) (k1 : Int) (s1 : List Ae) (n1 : (List Ae) → Option (Ac × freezer)) : Option (Ac × freezer) := (if 0 ≤ k1 ∧ k1 < ((s1.length : Nat) : Int) then (if (Int.toNat k1) < s1.length then (Option.bind (No p0.h ({ frosts := s1,stopped := p0.f.stopped } : Ac) (s1.getD (Int.toNat k1) (default : Ae)).group) fun r22 => (if (Int.toNat k1) < s1.length then (if (r22 != (s1.getD (Int.toNat k1) (default : Ae)).frozen) then (if (Int.toNat k1) < s1.length then (if (Int.toNat k1) < s1.length then (if (Int.toNat k1) < s1.length then ((Hg n1) ((s1.set (Int.toNat k1) ({ group := (s1.getD (Int.toNat k1) (default : Ae)).group,want := (s1.getD (Int.toNat k1) (default : Ae)).want,frozen := r22,changes := (s1.getD (Int.toNat k1) (default : Ae)).changes } : Ae)).set (Int.toNat k1) ({ group := ((s1.set (Int.toNat k1) ({ group := (s1.getD (Int.toNat k1) (default : Ae)).group,want := (s1.getD (Int.toNat k1) (default : Ae)).want,frozen := r22,changes := (s1.getD (Int.toNat k1) (default : Ae)).changes } : Ae)).getD (Int.toNat k1) (default : Ae)).group,want := ((s1.set (Int.toNat k1) ({ group := (s1.getD (Int.toNat k1) (default : Ae)).group,want := (s1.getD (Int.toNat k1) (default : Ae)).want,frozen := r22,changes := (s1.getD (Int.toNat k1) (default : Ae)).changes } : Ae)).getD (Int.toNat k1) (default : Ae)).want,frozen := ((s1.set (Int.toNat k1) ({ group := (s1.getD (Int.toNat k1) (default : Ae)).group,want := (s1.getD (Int.toNat k1) (default : Ae)).want,frozen := r22,changes := (s1.getD (Int.toNat k1) (default : Ae)).changes } : Ae)).getD (Int.toNat k1) (default : Ae)).frozen,changes := (Pc (w64 ((s1.getD (Int.toNat k1) (default : Ae)).changes + 1)) 1099511627776) } : Ae))) else none) else none) else none) else ((Hg n1) s1)) else none)) else none) else none)
def Sv (p0 : freezer) (s1 : List Ae) : Option (Ac × freezer) := (some (({ frosts := s1,stopped := p0.f.stopped } : Ac),({ h := p0.h,f := ({ frosts := s1,stopped := p0.f.stopped } : Ac) } : freezer)))
def Di (p0 : freezer) : Option (Ac × freezer) := (if p0.f.frosts.length ≤ 9223372036854775807 then (forO (Mq p0) (Sv p0) (Int.toNat (((p0.f.frosts.length : Nat) : Int) - 0)) 0 p0.f.frosts) else none)
def Kh (p0 : Aa) (p1 : Ac) (p2 : Int) (p3 : Bool) : Option (Ac × Int) := (Option.bind (Hv p0 p1) fun r1 => (if (!r1) then (some (({ frosts := [],stopped := [] } : Ac),1)) else (Option.bind (Fb p1.frosts p2) fun r3 => (if (decide (r3 < 0)) then (some (({ frosts := [],stopped := [] } : Ac),4)) else (if (p2 == 1) then (some (({ frosts := [],stopped := [] } : Ac),9)) else (Option.bind (Qg p0 p1) fun r6 => (if 0 ≤ r3 ∧ r3 < ((r6.f.frosts.length : Nat) : Int) then (if (Int.toNat r3) < r6.f.frosts.length then (Option.bind (Hf ({ h := r6.h,f := ({ frosts := (r6.f.frosts.set (Int.toNat r3) ({ group := (r6.f.frosts.getD (Int.toNat r3) (default : Ae)).group,want := p3,frozen := (r6.f.frosts.getD (Int.toNat r3) (default : Ae)).frozen,changes := (r6.f.frosts.getD (Int.toNat r3) (default : Ae)).changes } : Ae)),stopped := r6.f.stopped } : Ac) } : freezer)) fun r9 => (if (r6.f.frosts.set (Int.toNat r3) ({ group := (r6.f.frosts.getD (Int.toNat r3) (default : Ae)).group,want := p3,frozen := (r6.f.frosts.getD (Int.toNat r3) (default : Ae)).frozen,changes := (r6.f.frosts.getD (Int.toNat r3) (default : Ae)).changes } : Ae)).length = r9.1.f.frosts.length then (if r6.f.stopped.length = r9.1.f.stopped.length then (if r9.2 ≤ r9.1.f.stopped.length then (Option.bind (Di ({ h := r9.1.h,f := ({ frosts := r9.1.f.frosts,stopped := (r9.1.f.stopped.take r9.2) } : Ac) } : freezer)) fun r13 => (if r9.1.f.frosts.length = r13.2.f.frosts.length then (if (r9.1.f.stopped.take r9.2).length = r13.2.f.stopped.length then (some (r13.2.f,0)) else none) else none)) else none) else none) else none)) else none) else none)))))))
def Pz (n1 : (List Int) → Option (Ac × Int)) (y5 : List Int) : Option (Ac × Int) := (n1 y5)
def Mu (x1 : Aw) (s1 : List Int) (n1 : (List Int) → Option (Ac × Int)) (y6 : Bool) : Option (Ac × Int) := (if y6 then (if s1.length + 1 ≤ 1073741824 then ((Pz n1) (s1 ++ [x1.id])) else none) else ((Pz n1) s1))
def Zb (p0 : Aa) (p1 : Ac) (p2 : List Int) (r3 : freezer) (k1 : Nat) (x1 : Aw) (s1 : List Int) (n1 : (List Int) → Option (Ac × Int)) : Option (Ac × Int) := (Option.bind (Kn p0.tree p1 x1.group) fun r33 => (if r33 then (Option.bind (Ec p2 x1.id) fun r35 => (if (!r35) then (Option.bind (Ig ({ frosts := r3.f.frosts,stopped := s1 } : Ac) x1.id) fun r37 => ((Mu x1 s1 n1) (!r37))) else ((Mu x1 s1 n1) false))) else ((Mu x1 s1 n1) false)))
def Yo (r3 : freezer) (s1 : List Int) : Option (Ac × Int) := (Option.bind (Jd s1) fun r40 => (if s1.length = r40.length then (Option.bind (Di ({ h := r3.h,f := ({ frosts := r3.f.frosts,stopped := r40 } : Ac) } : freezer)) fun r42 => (if r3.f.frosts.length = r42.2.f.frosts.length then (if r40.length = r42.2.f.stopped.length then (some (r42.2.f,0)) else none) else none)) else none))
def Io (p0 : Aa) (p1 : Ac) (p2 : List Int) : Option (Ac × Int) := (Option.bind (Hv p0 p1) fun r1 => (if (!r1) then (some (({ frosts := [],stopped := [] } : Ac),1)) else (Option.bind (Qg p0 p1) fun r3 => (if p0.tasks.length ≤ 9223372036854775807 then Bl (Zb p0 p1 p2 r3) (Yo r3) p0.tasks 0 r3.f.stopped else none))))
def AbF (p1 : List Ae) (k1 : Nat) (x1 : Ae) (s1 : Unit) (n1 : Unit → Option Bool) : Option Bool := (if k1 < p1.length then (if (!(Zz x1 (p1.getD k1 (default : Ae)))) then (some false) else (n1 ())) else none)
def Afo (s1 : Unit) : Option Bool := (some true)
def Yf (p0 : List Ae) (p1 : List Ae) : Option Bool := (if (((p0.length : Nat) : Int) != ((p1.length : Nat) : Int)) then (some false) else (if p0.length ≤ 9223372036854775807 then Bl (AbF p1) Afo p0 0 () else none))
def Wf (p1 : List Int) (k1 : Nat) (x1 : Int) (s1 : Unit) (n1 : Unit → Option Bool) : Option Bool := (if k1 < p1.length then (if (x1 != (p1.getD k1 0)) then (some false) else (n1 ())) else none)
def AbT (s1 : Unit) : Option Bool := (some true)
def Re (p0 : List Int) (p1 : List Int) : Option Bool := (if (((p0.length : Nat) : Int) != ((p1.length : Nat) : Int)) then (some false) else (if p0.length ≤ 9223372036854775807 then Bl (Wf p1) AbT p0 0 () else none))
def Nh (y1 : Bool) : Option Bool := (some y1)
def Ga (p0 : Ac) (p1 : Ac) : Option Bool := (Option.bind (Yf p0.frosts p1.frosts) fun r1 => (if r1 then (Option.bind (Re p0.stopped p1.stopped) fun r3 => (Nh r3)) else (Nh false)))
def Ep (y1 : Bool) : Option Bool := (some y1)
def Pm : Option Bool := (Option.bind AcS fun r1 => (Option.bind (Ln r1) fun r4 => (Option.bind (Kh r1 r4 2 true) fun r5 => (Option.bind (Io r1 r5.1 [1]) fun r8 => (Option.bind (Io r1 r8.1 []) fun r11 => (Option.bind (Ln ({ tree := r1.tree,tasks := [],next := r1.next } : Aa)) fun r12 => (Option.bind (Kh ({ tree := r1.tree,tasks := [],next := r1.next } : Aa) r12 3 true) fun r13 => (if (r5.2 == 0) then (Option.bind (Hd r5.1 2) fun r15 => (if (!r15.frozen) then (if (r8.2 == 0) then (Option.bind (Ga r5.1 r8.1) fun r18 => (if r18 then (if (r11.2 == 0) then (Option.bind (Hd r11.1 2) fun r21 => (if r21.frozen then (Option.bind (Hd r11.1 3) fun r23 => (if r23.frozen then (Option.bind (Hd r11.1 3) fun r25 => (if (r25.changes == 1) then (Option.bind (Hd r11.1 1) fun r27 => (if (!r27.frozen) then (Option.bind (Ig r11.1 1) fun r29 => (if r29 then (if (r13.2 == 0) then (Option.bind (Hd r13.1 3) fun r32 => (Ep r32.frozen)) else (Ep false)) else (Ep false))) else (Ep false))) else (Ep false))) else (Ep false))) else (Ep false))) else (Ep false)) else (Ep false))) else (Ep false)) else (Ep false))) else (Ep false)))))))))
def Lc (n1 : (Aq × (List Int)) → Option ((List Int) × Aq)) (y5 : Aq × (List Int)) : Option ((List Int) × Aq) := (n1 (y5.1,y5.2))
def Jg (x1 : Aw) (s1 : Aq × (List Int)) (n1 : (Aq × (List Int)) → Option ((List Int) × Aq)) (y6 : Aq × Bool) : Option ((List Int) × Aq) := (if y6.2 then (if s1.2.length + 1 ≤ 1073741824 then ((Lc n1) (y6.1,(s1.2 ++ [x1.id]))) else none) else ((Lc n1) (y6.1,s1.2)))
def Sy (p2 : Bool) (k1 : Nat) (x1 : Aw) (s1 : Aq × (List Int)) (n1 : (Aq × (List Int)) → Option ((List Int) × Aq)) : Option ((List Int) × Aq) := (if p2 then ((Jg x1 s1 n1) (s1.1,true)) else (Option.bind (Bq s1.1 4) fun r14 => ((Jg x1 s1 n1) (r14.2,(decide (r14.1 > 0))))))
def Ze (s1 : Aq × (List Int)) : Option ((List Int) × Aq) := (some (s1.2,s1.1))
def Kx (p0 : Aq) (p1 : Aa) (p2 : Bool) : Option ((List Int) × Aq) := (if p1.tasks.length ≤ 9223372036854775807 then Bl (Sy p2) Ze p1.tasks 0 (p0,[]) else none)
def Rb (y1 : Bool) : Option Bool := (some y1)
def Jh (p0 : Ag) (p1 : Ac) (p2 : Int) : Option Bool := (Option.bind (Ni p0) fun r1 => (if r1 then (Option.bind (Kn p0 p1 p2) fun r3 => (Rb r3)) else (Rb false)))
def Afx (p1 : Int) (k1 : Nat) (x1 : Ae) (s1 : Unit) (n1 : Unit → Option Ae) : Option Ae := (if (x1.group == p1) then (some x1) else (n1 ()))
def Afj (p1 : Int) (s1 : Unit) : Option Ae := (some ({ group := p1,want := false,frozen := false,changes := 0 } : Ae))
def Sb (p0 : Ac) (p1 : Int) : Option Ae := (if p0.frosts.length ≤ 9223372036854775807 then Bl (Afx p1) (Afj p1) p0.frosts 0 () else none)
def Ji (p0 : Ac) (p1 : Int) : Option Bool := (Option.bind (Po p0.stopped p1) fun r1 => (some r1))
def Wd (p1 : Ac) (k1 : Nat) (x1 : Int) (s1 : Unit) (n1 : Unit → Option Bool) : Option Bool := (Option.bind (Sb p1 x1) fun r13 => (if r13.want then (some true) else (n1 ())))
def Acl (s1 : Unit) : Option Bool := (some false)
def Fi (p0 : Ag) (p1 : Ac) (p2 : Int) : Option Bool := (Option.bind (Fo p0 p2) fun r1 => (if r1.length ≤ 9223372036854775807 then Bl (Wd p1) Acl r1 0 () else none))
def Rn (n1 : (List Int) → Option (List Int)) (y5 : List Int) : Option (List Int) := (n1 y5)
def Rg (x1 : Aw) (s1 : List Int) (n1 : (List Int) → Option (List Int)) (y6 : Bool) : Option (List Int) := (if y6 then (if s1.length + 1 ≤ 1073741824 then ((Rn n1) (s1 ++ [x1.id])) else none) else ((Rn n1) s1))
def AaQ (p0 : Aa) (p1 : Ac) (k1 : Nat) (x1 : Aw) (s1 : List Int) (n1 : (List Int) → Option (List Int)) : Option (List Int) := (Option.bind (Ji p1 x1.id) fun r19 => (if r19 then (Option.bind (Fi p0.tree p1 x1.group) fun r21 => ((Rg x1 s1 n1) r21)) else ((Rg x1 s1 n1) false)))
def Aam (s1 : List Int) : Option (List Int) := (some s1)
def Ir (p0 : Aa) (p1 : Ac) : Option (List Int) := (if p0.tasks.length ≤ 9223372036854775807 then Bl (AaQ p0 p1) Aam p0.tasks 0 [] else none)
def Ps (n1 : Unit → Option Bool) (y3 : Bool) : Option Bool := (if y3 then (some false) else (n1 ()))
def Yy (p0 : Aa) (p1 : Ac) (p2 : Int) (k1 : Nat) (x1 : Aw) (s1 : Unit) (n1 : Unit → Option Bool) : Option Bool := (Option.bind (Fo p0.tree x1.group) fun r20 => (Option.bind (Po r20 p2) fun r21 => (if r21 then (Option.bind (Ji p1 x1.id) fun r23 => ((Ps n1) (!r23))) else ((Ps n1) false))))
def AcZ (s1 : Unit) : Option Bool := (some true)
def Qf (p0 : Aa) (p1 : Ac) (p2 : Int) : Option Bool := (Option.bind (Fi p0.tree p1 p2) fun r1 => (if (!r1) then (some false) else (if p0.tasks.length ≤ 9223372036854775807 then Bl (Yy p0 p1 p2) AcZ p0.tasks 0 () else none)))
def Mw (s1 : List Ae) (n1 : (List Ae) → Option Ac) (y3 : Ae) : Option Ac := (if s1.length + 1 ≤ 1073741824 then (n1 (s1 ++ [y3])) else none)
def Yx (p0 : Aa) (p1 : Ac) (k1 : Nat) (x1 : Ae) (s1 : List Ae) (n1 : (List Ae) → Option Ac) : Option Ac := (Option.bind (Qf p0 p1 x1.group) fun r12 => (if (r12 != x1.frozen) then ((Mw s1 n1) ({ group := x1.group,want := x1.want,frozen := r12,changes := (Pc (w64 (x1.changes + 1)) 1099511627776) } : Ae)) else ((Mw s1 n1) x1)))
def Ado (p1 : Ac) (s1 : List Ae) : Option Ac := (some ({ frosts := s1,stopped := p1.stopped } : Ac))
def Hb (p0 : Aa) (p1 : Ac) : Option Ac := (if p1.stopped.length ≤ 1073741824 then (if p1.frosts.length ≤ 9223372036854775807 then Bl (Yx p0 p1) (Ado p1) p1.frosts 0 [] else none) else none)
def Oa (s1 : List Ae) (n1 : (List Ae) → Option (Ac × Int)) (y3 : Ae) : Option (Ac × Int) := (if s1.length + 1 ≤ 1073741824 then (n1 (s1 ++ [y3])) else none)
def We (p1 : Ac) (k1 : Nat) (x1 : Ao) (s1 : List Ae) (n1 : (List Ae) → Option (Ac × Int)) : Option (Ac × Int) := (Option.bind (Sb p1 x1.id) fun r20 => (if r20.want then ((Oa s1 n1) ({ group := r20.group,want := (r20.group != 1),frozen := r20.frozen,changes := (maxI 0 (Pc r20.changes 1099511627776)) } : Ae)) else ((Oa s1 n1) ({ group := r20.group,want := false,frozen := r20.frozen,changes := (maxI 0 (Pc r20.changes 1099511627776)) } : Ae))))
def Sh (p0 : Aa) (p1 : Ac) (s1 : List Ae) : Option (Ac × Int) := (Option.bind (Ir p0 ({ frosts := s1,stopped := p1.stopped } : Ac)) fun r24 => (Option.bind (Hb p0 ({ frosts := s1,stopped := r24 } : Ac)) fun r26 => (some (r26,0))))
def Ht (p0 : Aa) (p1 : Ac) : Option (Ac × Int) := (Option.bind (Gc p0) fun r1 => (if (!r1) then (some (({ frosts := [],stopped := [] } : Ac),1)) else (if p0.tree.nodes.length ≤ 9223372036854775807 then Bl (We p1) (Sh p0 p1) p0.tree.nodes 0 [] else none)))
def Oz (p0 : Aa) : Option Ac := (Option.bind (Ht p0 ({ frosts := [],stopped := [] } : Ac)) fun r1 => (some r1.1))
def Lx (n1 : Unit → Option Bool) (y10 : Bool) : Option Bool := (if y10 then (some false) else (n1 ()))
def Yp (p0 : Aa) (k1 : Nat) (x1 : Ae) (s1 : Unit) (n1 : Unit → Option Bool) : Option Bool := (if k1 < p0.tree.nodes.length then (if (x1.group != (p0.tree.nodes.getD k1 (default : Ao)).id) then ((Lx n1) true) else (if (decide (x1.changes < 0)) then ((Lx n1) true) else ((Lx n1) (decide (x1.changes > 1099511627776))))) else none)
def Ih (n10 : Unit → Option Bool) (y13 : Bool) : Option Bool := (if y13 then (some false) else (n10 ()))
def Wu (p0 : Aa) (p1 : Ac) (k10 : Nat) (x10 : Int) (s10 : Unit) (n10 : Unit → Option Bool) : Option Bool := (Option.bind (Hm p0 x10) fun r174 => (if (!r174.2) then ((Ih n10) true) else (if (decide (((k10 : Nat) : Int) > 0)) then (if 0 ≤ (w64 (((k10 : Nat) : Int) - 1)) ∧ (w64 (((k10 : Nat) : Int) - 1)) < ((p1.stopped.length : Nat) : Int) then (if (decide (x10 ≤ (p1.stopped.getD (Int.toNat (w64 (((k10 : Nat) : Int) - 1))) 0))) then ((Ih n10) true) else (Option.bind (Fi p0.tree p1 r174.1.group) fun r179 => ((Ih n10) (!r179)))) else none) else (Option.bind (Fi p0.tree p1 r174.1.group) fun r180 => ((Ih n10) (!r180))))))
def Wh (p0 : Aa) (p1 : Ac) (k13 : Nat) (x13 : Ae) (s13 : Unit) (n13 : Unit → Option Bool) : Option Bool := (Option.bind (Qf p0 p1 x13.group) fun r193 => (if (x13.frozen != r193) then (some false) else (n13 ())))
def Aci (s13 : Unit) : Option Bool := (some true)
def Ws (p0 : Aa) (p1 : Ac) (s10 : Unit) : Option Bool := (if p1.frosts.length ≤ 9223372036854775807 then Bl (Wh p0 p1) Aci p1.frosts 0 () else none)
def Ym (p0 : Aa) (p1 : Ac) (s1 : Unit) : Option Bool := (if p1.stopped.length ≤ 9223372036854775807 then Bl (Wu p0 p1) (Ws p0 p1) p1.stopped 0 () else none)
def Py (p0 : Aa) (p1 : Ac) (y1 : Bool) : Option Bool := (if y1 then (some false) else (if p1.frosts.length ≤ 9223372036854775807 then Bl (Yp p0) (Ym p0 p1) p1.frosts 0 () else none))
def Ip (p0 : Aa) (p1 : Ac) : Option Bool := (Option.bind (Gc p0) fun r1 => (if (!r1) then ((Py p0 p1) true) else ((Py p0 p1) (((p1.frosts.length : Nat) : Int) != ((p0.tree.nodes.length : Nat) : Int)))))
def Rk (n1 : (List Int) → Option (Ac × Int)) (y5 : List Int) : Option (Ac × Int) := (n1 y5)
def Ou (x1 : Aw) (s1 : List Int) (n1 : (List Int) → Option (Ac × Int)) (y6 : Bool) : Option (Ac × Int) := (if y6 then (if s1.length + 1 ≤ 1073741824 then ((Rk n1) (s1 ++ [x1.id])) else none) else ((Rk n1) s1))
def Aai (p0 : Aa) (p1 : Ac) (p2 : List Int) (k1 : Nat) (x1 : Aw) (s1 : List Int) (n1 : (List Int) → Option (Ac × Int)) : Option (Ac × Int) := (Option.bind (Ji p1 x1.id) fun r24 => (if r24 then ((Ou x1 s1 n1) true) else (Option.bind (Fi p0.tree p1 x1.group) fun r26 => (if r26 then (Option.bind (Po p2 x1.id) fun r28 => ((Ou x1 s1 n1) (!r28))) else ((Ou x1 s1 n1) false)))))
def Uq (p0 : Aa) (p1 : Ac) (s1 : List Int) : Option (Ac × Int) := (Option.bind (Hb p0 ({ frosts := p1.frosts,stopped := s1 } : Ac)) fun r32 => (some (r32,0)))
def Lh (p0 : Aa) (p1 : Ac) (p2 : List Int) : Option (Ac × Int) := (Option.bind (Ip p0 p1) fun r1 => (if (!r1) then (some (({ frosts := [],stopped := [] } : Ac),1)) else (if p0.tasks.length ≤ 9223372036854775807 then Bl (Aai p0 p1 p2) (Uq p0 p1) p0.tasks 0 [] else none)))
def Tk (s1 : (List Ae) × Int) (n1 : ((List Ae) × Int) → Option (Ac × Int)) (y2 : List Ae) : Option (Ac × Int) := (n1 (y2,(w64 (s1.2 + 1))))
def Xq (p0 : Aa) (p1 : Ac) (p2 : Int) (p3 : Bool) (s1 : (List Ae) × Int) (n1 : ((List Ae) × Int) → Option (Ac × Int)) : Option (Ac × Int) := (if (decide (s1.2 < ((s1.1.length : Nat) : Int))) then (if 0 ≤ s1.2 ∧ s1.2 < ((s1.1.length : Nat) : Int) then (if (Int.toNat s1.2) < s1.1.length then (if ((s1.1.getD (Int.toNat s1.2) (default : Ae)).group == p2) then (if 0 ≤ s1.2 ∧ s1.2 < ((s1.1.length : Nat) : Int) then (if (Int.toNat s1.2) < s1.1.length then ((Tk s1 n1) (s1.1.set (Int.toNat s1.2) ({ group := (s1.1.getD (Int.toNat s1.2) (default : Ae)).group,want := p3,frozen := (s1.1.getD (Int.toNat s1.2) (default : Ae)).frozen,changes := (s1.1.getD (Int.toNat s1.2) (default : Ae)).changes } : Ae))) else none) else none) else ((Tk s1 n1) s1.1)) else none) else none) else (Option.bind (Ir p0 ({ frosts := s1.1,stopped := p1.stopped } : Ac)) fun r24 => (Option.bind (Hb p0 ({ frosts := s1.1,stopped := r24 } : Ac)) fun r26 => (some (r26,0)))))
def Ng (p0 : Aa) (p1 : Ac) (p2 : Int) (p3 : Bool) : Option (Ac × Int) := (Option.bind (Ip p0 p1) fun r1 => (if (!r1) then (some (({ frosts := [],stopped := [] } : Ac),1)) else (Option.bind (Gd p0.tree p2) fun r3 => (if (!r3) then (some (({ frosts := [],stopped := [] } : Ac),4)) else (if (p2 == 1) then (some (({ frosts := [],stopped := [] } : Ac),9)) else (if p1.frosts.length ≤ 1073741824 then (whileO (Xq p0 p1 p2 p3) Ej (p1.frosts,0)) else none))))))
def Mx (s1 : List Ae) (n1 : (List Ae) → Option (Ac × Int)) (y3 : Ae) : Option (Ac × Int) := (if s1.length + 1 ≤ 1073741824 then (n1 (s1 ++ [y3])) else none)
def Uu (p1 : Ac) (k1 : Nat) (x1 : Ao) (s1 : List Ae) (n1 : (List Ae) → Option (Ac × Int)) : Option (Ac × Int) := (Option.bind (Hd p1 x1.id) fun r39 => (if r39.want then ((Mx s1 n1) ({ group := r39.group,want := (x1.id != 1),frozen := r39.frozen,changes := (Pc (maxI r39.changes 0) 1099511627776) } : Ae)) else ((Mx s1 n1) ({ group := r39.group,want := false,frozen := r39.frozen,changes := (Pc (maxI r39.changes 0) 1099511627776) } : Ae))))
def Qx (p0 : Aa) (p1 : Ac) (s1 : List Ae) : Option (Ac × Int) := (Option.bind (Ha p1.stopped) fun r42 => (Option.bind (Jd r42) fun r43 => (if r42.length = r43.length then (Option.bind (Il r43) fun r45 => (if r43.length = r45.2.length then (if r45.1 ≤ r45.2.length then (Option.bind (Hf ({ h := p0,f := ({ frosts := s1,stopped := (r45.2.take r45.1) } : Ac) } : freezer)) fun r48 => (if s1.length = r48.1.f.frosts.length then (if (r45.2.take r45.1).length = r48.1.f.stopped.length then (if r48.2 ≤ r48.1.f.stopped.length then (Option.bind (Di ({ h := r48.1.h,f := ({ frosts := r48.1.f.frosts,stopped := (r48.1.f.stopped.take r48.2) } : Ac) } : freezer)) fun r52 => (if r48.1.f.frosts.length = r52.2.f.frosts.length then (if (r48.1.f.stopped.take r48.2).length = r52.2.f.stopped.length then (some (r52.2.f,0)) else none) else none)) else none) else none) else none)) else none) else none)) else none)))
def La (p0 : Aa) (p1 : Ac) : Option (Ac × Int) := (Option.bind (Iu p0) fun r1 => (if (!r1) then (some (({ frosts := [],stopped := [] } : Ac),1)) else (if p0.tree.nodes.length ≤ 9223372036854775807 then Bl (Uu p1) (Qx p0 p1) p0.tree.nodes 0 [] else none)))
end Go.Dm

/- Plain theory, part 1: models that return, loops. -/
namespace Go.Dm
def Ok {α : Type} (m : Option α) (Q : α → Prop) : Prop := ∃ a,m = some a ∧ Q a
section
variable {α β γ σ : Type} {Q : β → Prop}
theorem Ok.ret {b : β} (h : Q b) : Ok (some b) Q := ⟨b,rfl,h⟩
theorem Ok.bind {m : Option α} {f : α → Option β} {P : α → Prop} (h : Ok m P) (k : ∀ a,P a → Ok (f a) Q) : Ok (Option.bind m f) Q := by
 obtain ⟨a,rfl,ha⟩ := h
 exact k a ha
theorem Ok.step {m : Option α} {f : α → Option β} {a : α} (h : m = some a) (k : Ok (f a) Q) : Ok (Option.bind m f) Q := by
 subst h
 exact k
theorem Ok.eq {m : Option β} {b : β} (h : Ok m (· = b)) : m = some b := by
 obtain ⟨a,rfl,rfl⟩ := h
 rfl
theorem Ok.of_eq {m : Option β} {b : β} (h : m = some b) (hb : Q b) : Ok m Q := ⟨b,h,hb⟩
theorem Ok.mono {m : Option β} {P : β → Prop} (h : Ok m P) (k : ∀ b,P b → Q b) : Ok m Q := by
 obtain ⟨a,rfl,ha⟩ := h
 exact ⟨a,rfl,k a ha⟩
theorem Ok.guard {c : Prop} [Decidable c] {t : Option β} (hc : c) (h : Ok t Q) : Ok (if c then t else none) Q := by
 rw [if_pos hc]
 exact h
theorem Ok.ite {c : Bool} {t e : Option β} (ht : c = true → Ok t Q) (he : c = false → Ok e Q) : Ok (if c then t else e) Q := by
 cases c
 ·exact he rfl
 ·exact ht rfl
theorem Ok.range {body : Nat → α → σ → (σ → Option β) → Option β} {done : σ → Option β} {xs : List α} {s0 : σ} (I : List α → σ → Prop) (h0 : I [] s0)
  (step : ∀ pre x post s n,xs = pre ++ x :: post → I pre s → (∀ s',I (pre ++ [x]) s' → Ok (n s') Q) → Ok (body pre.length x s n) Q)
  (fin : ∀ s,I xs s → Ok (done s) Q) : Ok (Bl body done xs 0 s0) Q := by
 have key : ∀ (post pre : List α) (s : σ),xs = pre ++ post → I pre s → Ok (Bl body done post pre.length s) Q := by
  intro post
  induction post with
  | nil =>
   intro pre s he hi
   have : xs = pre := by simpa using he
   subst this
   exact fin s hi
  | cons x post ih =>
   intro pre s he hi
   refine step pre x post s _ he hi fun s' hi' => ?_
   have := ih (pre ++ [x]) s' (by simpa using he) hi'
   simpa using this
 exact key xs [] s0 rfl h0
theorem Ok.for {body : Int → σ → (σ → Option β) → Option β} {done : σ → Option β} {m : Nat} {a : Int} {s0 : σ} (I : Nat → σ → Prop) (h0 : I 0 s0)
  (step : ∀ (j : Nat) s n,j < m → I j s → (∀ s',I (j + 1) s' → Ok (n s') Q) → Ok (body (a + j) s n) Q)
  (fin : ∀ s,I m s → Ok (done s) Q) : Ok (forO body done m a s0) Q := by
 have key : ∀ (r j : Nat) (s : σ),j + r = m → I j s → Ok (forO body done r (a + j) s) Q := by
  intro r
  induction r with
  | zero =>
   intro j s he hi
   obtain rfl : j = m := by omega
   exact fin s hi
  | succ r ih =>
   intro j s he hi
   refine step j s _ (by omega) hi fun s' hi' => ?_
   have := ih (j + 1) s' (by omega) hi'
   have e : a + (j : Int) + 1 = a + ((j + 1 : Nat) : Int) := by omega
   rw [e]
   exact this
 have := key m 0 s0 (by omega) h0
 simpa using this
theorem Ok.while {body : σ → (σ → Option β) → Option β} {s0 : σ} (I : σ → Prop) (mu : σ → Nat) (h0 : I s0) (hf : mu s0 < Ej)
  (step : ∀ s n,I s → (∀ s',I s' → mu s' < mu s → Ok (n s') Q) → Ok (body s n) Q) : Ok (whileO body Ej s0) Q := by
 have key : ∀ (f : Nat) (s : σ),I s → mu s < f → Ok (whileO body f s) Q := by
  intro f
  induction f with
  | zero => intro s _ h; omega
  | succ f ih =>
   intro s hi hm
   exact step s _ hi fun s' hi' hm' => ih s' hi' (by omega)
 exact key Ej s0 h0 hf
end
theorem Df : Ej = 1099511627776 := rfl
theorem Ay {n : Int} (h1 : -9223372036854775808 ≤ n) (h2 : n ≤ 9223372036854775807) : w64 n = n := Abf h1 h2
theorem Gj {α : Type} {l : List α} {i : Nat} {d : α} (h : i < l.length) : l.getD i d = l[i] := by
 simp [List.getD_eq_getElem?_getD,h]
theorem Acy {α : Type} {l : List α} {i : Nat} {d : α} (h : i < l.length) : l.getD i d ∈ l := by
 rw [Gj h]
 exact List.getElem_mem h
theorem AcQ {α : Type} {pre post : List α} {x d : α} : (pre ++ x :: post).getD pre.length d = x := by
 simp [List.getD_eq_getElem?_getD]
theorem Tu {α : Type} {pre post : List α} {x y d : α} : (pre ++ [y] ++ x :: post).getD pre.length d = y := by
 simp [List.getD_eq_getElem?_getD]
theorem Is {α β : Type} {p : α → Bool} {f : α → β} {z : β} {xs : List α} {body : Nat → α → Unit → (Unit → Option β) → Option β} {done : Unit → Option β}
  (hb : ∀ k x n,body k x () n = if p x then some (f x) else n ()) (hd : done () = some z) : Bl body done xs 0 () = some ((xs.find? p).elim z f) := by
 have key : ∀ k,Bl body done xs k () = some ((xs.find? p).elim z f) := by
  induction xs with
  | nil => intro k; simp [Bl,hd]
  | cons x r ih =>
   intro k
   rw [Bl,hb,List.find?_cons]
   cases hp : p x
   ·simpa using ih (k + 1)
   ·simp
 exact key 0
theorem Hc {α β γ : Type} {p : α → Bool} {f : α → γ} {xs : List α} {s0 : List γ} {r : List γ → Option β} {body : Nat → α → List γ → (List γ → Option β) → Option β} {done : List γ → Option β}
  (hb : ∀ k x s n,s.length + 1 ≤ 1073741824 → body k x s n = if p x then n (s ++ [f x]) else n s) (hd : ∀ s,done s = r s) (hl : s0.length + xs.length ≤ 1073741824) : Bl body done xs 0 s0 = r (s0 ++ (xs.filter p).map f) := by
 have key : ∀ k s,s.length + xs.length ≤ 1073741824 → Bl body done xs k s = r (s ++ (xs.filter p).map f) := by
  clear hl
  induction xs with
  | nil => intro k s _; simp [Bl,hd]
  | cons x q ih =>
   intro k s hl
   simp only [List.length_cons] at hl
   rw [Bl,hb _ _ _ _ (by omega),List.filter_cons]
   cases hp : p x
   ·simpa using ih (k + 1) s (by omega)
   ·simp only [if_true]
    rw [ih (k + 1) (s ++ [f x]) (by simp; omega)]
    simp
 exact key 0 s0 hl
end Go.Dm

/- Plain theory, part 2: names, trees. -/
namespace Go.Dm
def Oq (c : Int) : Bool := (((((decide (c ≥ 97)) && (decide (c ≤ 122))) || ((decide (c ≥ 65)) && (decide (c ≤ 90)))) || ((decide (c ≥ 48)) && (decide (c ≤ 57)))) || (c == 95)) || (c == 45)
def Eo (s : ByteArray) : Bool := decide (0 < s.size) && decide (s.size ≤ 32) && (((Br s 0 : Nat) : Int) != 45) && (Iy s).all Oq
theorem AcX (s : ByteArray) : Se s = some (Eo s) := by
 apply Ok.eq
 unfold Se
 refine Ok.ite (fun h => ?_) fun h => ?_
 ·refine Ok.ret ?_
  have : s.size = 0 := by simpa using h
  simp [Eo,this]
 have h0 : 0 < s.size := by
  have : ¬ ((s.size : Nat) : Int) = 0 := by simpa using h
  omega
 refine Ok.ite (fun h => ?_) fun h => ?_
 ·refine Ok.ret ?_
  have : ¬ s.size ≤ 32 := by
   have := of_decide_eq_true h
   omega
  simp [Eo,this]
 have h32 : s.size ≤ 32 := by
  have := of_decide_eq_false h
  omega
 refine Ok.guard h0 ?_
 unfold Oi
 refine Ok.ite (fun h => ?_) fun h => ?_
 ·refine Ok.ret ?_
  simp only [Eo,bne,h]
  simp
 refine Ok.guard (by omega) ?_
 refine Ok.for (fun j _ => ((Iy s).take j).all Oq = true) (by simp) ?_ ?_
 ·intro j _ n hj hi hn
  have hj' : j < s.size := by omega
  unfold AaE
  refine Ok.guard (by omega) ?_
  have e : Int.toNat (0 + (j : Int)) = j := by omega
  rw [e]
  have hb : (Iy s)[j]? = some ((Br s j : Nat) : Int) := by simp [Iy,hj']
  refine Ok.ite (fun h => ?_) fun h => ?_
  ·refine Ok.ret ?_
   have hc : Oq ((Br s j : Nat) : Int) = false := by simpa only [Oq,Bool.not_eq_true'] using h
   have : (Iy s).all Oq = false := by
    rw [List.all_eq_false]
    exact ⟨_,List.mem_of_getElem? hb,by simp [hc]⟩
   simp [Eo,this]
  ·refine hn () ?_
   have hc : Oq ((Br s j : Nat) : Int) = true := by simpa only [Oq,Bool.not_eq_false'] using h
   rw [List.take_add_one,List.all_append,hi,hb]
   simp [hc]
 ·intro _ hi
  refine Ok.ret ?_
  have : (Iy s).length ≤ Int.toNat (((s.size : Nat) : Int) - 0) := by rw [Pu]; omega
  rw [List.take_of_length_le this] at hi
  simp only [Eo,bne,h,hi]
  simp [h0,h32]
theorem AhN (a : ByteArray) : Ea a a = true := by simp [Ea]
def upR : List Ao → Int → List Int
 | [],_ => []
 | x :: r,id => if x.id == id then id :: upR r x.parent else upR r id
def upT (t : Ag) (id : Int) : List Int := upR t.nodes.reverse id
theorem Pi (l : List Ao) (id : Int) : (upR l id).length ≤ l.length := by
 induction l generalizing id with
 | nil => simp [upR]
 | cons x r ih =>
  rw [upR]
  split
  ·have := ih x.parent
   simp; omega
  ·have := ih id
   simp; omega
theorem AfZ (t : Ag) (id : Int) (hl : t.nodes.length ≤ 1000000) : Aaa t id = some (upT t id) := by
 apply Ok.eq
 unfold Aaa
 rw [Ay (by omega) (by omega)]
 refine Ok.while (fun s => ∃ m : Nat,s.2.2 = (m : Int) - 1 ∧ m ≤ t.nodes.length ∧ s.1.length + m ≤ t.nodes.length ∧ s.1 ++ upR (t.nodes.take m).reverse s.2.1 = upT t id) (fun s => (s.2.2 + 1).toNat) ?_ ?_ ?_
 ·exact ⟨t.nodes.length,rfl,by omega,by simp,by simp [upT]⟩
 ·rw [Df]; simp only []; omega
 rintro ⟨o,i,c⟩ n ⟨m,hc,hm,hlen,he⟩ hn
 simp only at hc hlen he hn
 unfold Aen
 simp only
 refine Ok.ite (fun h => ?_) fun h => ?_
 ·have hpos := of_decide_eq_true h
  obtain ⟨q,rfl⟩ : ∃ q,m = q + 1 := ⟨m - 1,by omega⟩
  have hcq : c = (q : Int) := by omega
  subst hcq
  have hq : q < t.nodes.length := by omega
  refine Ok.guard (by omega) ?_
  have et : t.nodes.take (q + 1) = t.nodes.take q ++ [t.nodes.getD q default] := by
   rw [List.take_add_one,Gj hq]
   simp [hq]
  rw [et,List.reverse_append,List.reverse_cons,List.reverse_nil,List.nil_append,List.singleton_append,upR] at he
  have eq : Int.toNat (q : Int) = q := by omega
  rw [eq]
  have hw : w64 ((q : Int) - 1) = (q : Int) - 1 := Ay (by omega) (by omega)
  refine Ok.ite (fun h => ?_) fun h => ?_
  ·refine Ok.guard (by omega) ?_
   refine Ok.guard (by omega) ?_
   unfold Uk
   simp only
   rw [hw]
   rw [if_pos h] at he
   refine hn _ ⟨q,rfl,by omega,by simp; omega,?_⟩ (by simp only; omega)
   simpa using he
  ·unfold Uk
   simp only
   rw [hw]
   rw [if_neg (by rw [h]; simp)] at he
   exact hn _ ⟨q,rfl,by omega,by simp only; omega,he⟩ (by simp only; omega)
 ·have := of_decide_eq_false h
  have : m = 0 := by omega
  subst this
  refine Ok.ret ?_
  simpa [upR] using he
def Kz (pre : List Ao) (x : Ao) : Bool :=
 (x.kind == 0 || x.kind == 1) && decide (0 ≤ x.control) && decide (x.control ≤ 31) && decide (0 ≤ x.owner) && decide (x.owner ≤ 1048576) &&
 match pre.getLast? with
 | none => x.id == 1 && x.parent == 0 && Ea x.name ByteArray.empty && x.kind == 0
 | some y => decide (y.id < x.id) && Eo x.name && pre.any (fun k => k.id == x.parent) && pre.all (fun k => !(k.parent == x.parent && Ea k.name x.name))
theorem Aiv (t : Ag) (pre post : List Ao) (x : Ao) (he : t.nodes = pre ++ x :: post) (hl : t.nodes.length ≤ 1000000) : Xs t (pre.length : Int) = some (Kz pre x) := by
 have hlen : pre.length < t.nodes.length := by rw [he]; simp
 apply Ok.eq
 unfold Xs
 refine Ok.guard (by omega) ?_
 have ex : t.nodes.getD (Int.toNat (pre.length : Int)) default = x := by
  rw [he]
  have : Int.toNat (pre.length : Int) = pre.length := by omega
  rw [this]
  exact AcQ
 rw [ex]
 refine Ok.ite (fun h => ?_) fun h => ?_
 ·refine Ok.ret ?_
  simp only [Kz]
  simp only [Bool.or_eq_true,Bool.and_eq_true,bne_iff_ne,decide_eq_true_eq] at h
  rcases h with (((⟨h1,h2⟩ | h) | h) | h) | h
  ·simp [h1,h2]
  ·have : ¬ 0 ≤ x.control := by omega
   simp [this]
  ·have : ¬ x.control ≤ 31 := by omega
   simp [this]
  ·have : ¬ 0 ≤ x.owner := by omega
   simp [this]
  ·have : ¬ x.owner ≤ 1048576 := by omega
   simp [this]
 simp only [Bool.or_eq_false_iff,Bool.and_eq_false_imp,bne_iff_ne,decide_eq_false_iff_not,bne_eq_false_iff_eq] at h
 obtain ⟨⟨⟨⟨hk,h2⟩,h3⟩,h4⟩,h5⟩ := h
 have hk' : (x.kind == 0 || x.kind == 1) = true := by
  by_cases q : x.kind = 0
  ·simp [q]
  ·simp [hk q]
 have a2 : 0 ≤ x.control := by omega
 have a3 : x.control ≤ 31 := by omega
 have a4 : 0 ≤ x.owner := by omega
 have a5 : x.owner ≤ 1048576 := by omega
 refine Ok.ite (fun h => ?_) fun h => ?_
 ·refine Ok.ret ?_
  have : pre = [] := by
   have : pre.length = 0 := by
    have : (pre.length : Int) = 0 := by simpa using h
    omega
   exact List.length_eq_zero_iff.mp this
  subst this
  simp [Kz,hk',a2,a3,a4,a5]
 have hp : 0 < pre.length := by
  have : ¬ (pre.length : Int) = 0 := by simpa using h
  omega
 obtain ⟨pr,y,rfl⟩ : ∃ pr y,pre = pr ++ [y] := by
  have hne : pre ≠ [] := by intro e; simp [e] at hp
  exact ⟨pre.dropLast,pre.getLast hne,(List.dropLast_concat_getLast hne).symm⟩
 have hw : w64 (((pr ++ [y]).length : Int) - 1) = (pr.length : Int) := by
  rw [Ay (by simp) (by simp; simp at hlen; omega)]
  simp
 rw [hw]
 refine Ok.guard (by simp at hlen; omega) ?_
 have ey : t.nodes.getD (Int.toNat (pr.length : Int)) default = y := by
  rw [he]
  have : Int.toNat (pr.length : Int) = pr.length := by omega
  rw [this]
  exact Tu
 rw [ey]
 have eB : Kz (pr ++ [y]) x = (decide (y.id < x.id) && Eo x.name && (pr ++ [y]).any (fun k => k.id == x.parent) && (pr ++ [y]).all (fun k => !(k.parent == x.parent && Ea k.name x.name))) := by
  simp [Kz,hk',a2,a3,a4,a5]
 refine Ok.ite (fun h => ?_) fun h => ?_
 ·refine Ok.ret ?_
  have : ¬ y.id < x.id := by
   have := of_decide_eq_true h
   omega
  rw [eB]
  simp [this]
 have hy : y.id < x.id := by
  have := of_decide_eq_false h
  omega
 refine Ok.step (AcX _) ?_
 unfold Ti
 refine Ok.ite (fun h => ?_) fun h => ?_
 ·refine Ok.ret ?_
  have : Eo x.name = false := by simpa using h
  rw [eB]
  simp [this]
 have hv : Eo x.name = true := by simpa using h
 have hr : Kz (pr ++ [y]) x = ((pr ++ [y]).any (fun k => k.id == x.parent) && (pr ++ [y]).all (fun k => !(k.parent == x.parent && Ea k.name x.name))) := by
  rw [eB]
  simp [hy,hv]
 rw [hr]
 generalize pr ++ [y] = P at *
 refine Ok.guard (by omega) ?_
 refine Ok.for (fun j s => s = (P.take j).any (fun k => k.id == x.parent) ∧ (P.take j).all (fun k => !(k.parent == x.parent && Ea k.name x.name)) = true) (by simp) ?_ ?_
 ·intro j s n hj hI hn
  have hj' : j < P.length := by omega
  have ej : Int.toNat (0 + (j : Int)) = j := by omega
  have ez : t.nodes.getD j default = P[j] := by
   rw [he]
   simp [List.getD_eq_getElem?_getD,List.getElem?_append,hj']
  have tk : P.take (j + 1) = P.take j ++ [P[j]] := by
   rw [List.take_add_one]; simp [hj']
  have hbad : (P[j].parent == x.parent && Ea P[j].name x.name) = true → (P.any (fun k => k.id == x.parent) && P.all (fun k => !(k.parent == x.parent && Ea k.name x.name))) = false := by
   intro hb
   have : P.all (fun k => !(k.parent == x.parent && Ea k.name x.name)) = false := by
    rw [List.all_eq_false]
    exact ⟨P[j],List.getElem_mem hj',by rw [hb]; simp⟩
   rw [this,Bool.and_false]
  have hJ : ∀ b : Bool,b = (P.take (j + 1)).any (fun k => k.id == x.parent) → Ok (Qk t (P.length : Int) (0 + (j : Int)) n b) (· = (P.any (fun k => k.id == x.parent) && P.all (fun k => !(k.parent == x.parent && Ea k.name x.name)))) := by
   intro b hb
   unfold Qk
   refine Ok.guard (by omega) ?_
   rw [ej,ez,ex]
   have good : (P[j].parent == x.parent && Ea P[j].name x.name) = false → Ok (n b) (· = (P.any (fun k => k.id == x.parent) && P.all (fun k => !(k.parent == x.parent && Ea k.name x.name)))) := by
    intro hb'
    refine hn _ ⟨hb,?_⟩
    rw [tk,List.all_append,hI.2]
    simp only [List.all_cons,List.all_nil,hb']
    rfl
   refine Ok.ite (fun h => ?_) fun h => ?_
   ·refine Ok.guard (by omega) ?_
    unfold Ql
    refine Ok.ite (fun h' => ?_) fun h' => ?_
    ·exact Ok.ret (hbad (by rw [h,h']; rfl)).symm
    ·exact good (by rw [h,h']; rfl)
   ·unfold Ql
    exact good (by rw [h]; rfl)
  unfold AbL
  have ea : (P.take (j + 1)).any (fun k => k.id == x.parent) = (s || (P[j].id == x.parent)) := by
   rw [tk,List.any_append,← hI.1]; simp
  refine Ok.ite (fun h => ?_) fun h => ?_
  ·refine hJ _ ?_
   rw [ea,h]
   rfl
  ·refine Ok.guard (by omega) ?_
   rw [ej,ez,ex]
   refine hJ _ ?_
   rw [ea,h]
   rfl
 ·intro s hI
  refine Ok.ret ?_
  have : P.take (Int.toNat ((P.length : Int) - 0)) = P := List.take_of_length_le (by omega)
  rw [this] at hI
  rw [hI.2,Bool.and_true]
  exact hI.1
end Go.Dm

/- Plain theory, part 3: trees that Check accepts. -/
namespace Go.Dm
structure WfT (t : Ag) : Prop where
 len1 : 1 ≤ t.nodes.length
 len2 : t.nodes.length ≤ 64
 node : ∀ pre x post,t.nodes = pre ++ x :: post → Kz pre x = true
 depth : ∀ x ∈ t.nodes,(upT t x.id).length ≤ 9
 last : (t.nodes.getD (t.nodes.length - 1) default).id < t.next
 nextLe : t.next ≤ 2147483648
theorem Yr (t : Ag) : Ok (Ki t) (fun b => b = true ↔ WfT t) := by
 unfold Ki
 refine Ok.ite (fun h => ?_) fun h => ?_
 ·refine Ok.ret ?_
  simp only [Bool.or_eq_true,decide_eq_true_eq] at h
  refine ⟨fun e => by simp at e,fun w => ?_⟩
  have := w.len1
  have := w.len2
  omega
 simp only [Bool.or_eq_false_iff,decide_eq_false_iff_not] at h
 have l1 : 1 ≤ t.nodes.length := by omega
 have l2 : t.nodes.length ≤ 64 := by omega
 refine Ok.guard (by omega) ?_
 refine Ok.range (fun pre _ => ∀ q x p,pre = q ++ x :: p → Kz q x = true) (by intro q x p e; simp at e) ?_ ?_
 ·intro pre x post s n he hI hn
  unfold Aah
  refine Ok.step (Aiv t pre post x he (by omega)) ?_
  refine Ok.ite (fun h => ?_) fun h => ?_
  ·refine Ok.ret ⟨fun e => by simp at e,fun w => ?_⟩
   have := w.node pre x post he
   simp [this] at h
  ·refine hn () fun q y p e => ?_
   rcases List.eq_nil_or_concat p with rfl | ⟨p',z,rfl⟩
   ·have e2 : pre = q ∧ x = y := by
     have := List.append_inj' (s₁ := pre) (t₁ := [x]) (s₂ := q) (t₂ := [y]) (by simpa using e) rfl
     exact ⟨this.1,by simpa using this.2⟩
    rw [← e2.1,← e2.2]
    simpa using h
   ·have e2 : pre ++ [x] = (q ++ y :: p') ++ [z] := by simpa using e
    have := List.append_inj' e2 rfl
    exact hI q y p' this.1
 ·intro _ hI
  unfold AaL
  refine Ok.guard (by omega) ?_
  refine Ok.range (fun pre _ => ∀ x ∈ pre,(upT t x.id).length ≤ 9) (by simp) ?_ ?_
  ·intro pre x post s n he hJ hn
   unfold Aag
   refine Ok.step (AfZ t x.id (by omega)) ?_
   refine Ok.ite (fun h => ?_) fun h => ?_
   ·refine Ok.ret ⟨fun e => by simp at e,fun w => ?_⟩
    have := w.depth x (by rw [he]; simp)
    have := of_decide_eq_true h
    omega
   ·refine hn () fun y hy => ?_
    have hd := of_decide_eq_false h
    rcases List.mem_append.mp hy with hy | hy
    ·exact hJ y hy
    ·obtain rfl : y = x := by simpa using hy
     omega
  ·intro _ hJ
   unfold AaN Ri
   have hw : w64 ((t.nodes.length : Int) - 1) = ((t.nodes.length - 1 : Nat) : Int) := by
    rw [Ay (by omega) (by omega)]
    omega
   rw [hw]
   refine Ok.guard (by omega) ?_
   have : Int.toNat ((t.nodes.length - 1 : Nat) : Int) = t.nodes.length - 1 := by omega
   rw [this]
   refine Ok.ite (fun h => ?_) fun h => ?_
   ·refine Ok.ret ⟨fun e => ?_,fun w => ?_⟩
    ·exact ⟨l1,l2,hI,hJ,by simpa using h,by simpa using e⟩
    ·simpa using w.nextLe
   ·refine Ok.ret ⟨fun e => by simp at e,fun w => ?_⟩
    have := w.last
    have := of_decide_eq_false h
    omega
theorem Aaj {t : Ag} (h : WfT t) : Ki t = some true := by
 obtain ⟨b,hb,e⟩ := Yr t
 rw [hb,e.mpr h]
theorem Ajg {t : Ag} (h : ¬ WfT t) : Ki t = some false := by
 obtain ⟨b,hb,e⟩ := Yr t
 cases b
 ·exact hb
 ·exact absurd (e.mp rfl) h
def zN : Ao := { id := 0,parent := 0,name := ByteArray.empty,control := 0,kind := 0,owner := 0 }
def Ut (t : Ag) (id : Int) : Option Ao := t.nodes.find? (fun x => x.id == id)
def Gs (t : Ag) (id : Int) : Bool := (Ut t id).isSome
theorem Qj {t : Ag} (h : WfT t) (id : Int) : Dp t id = some ((Ut t id).elim (zN,false) (fun x => (x,true))) := by
 unfold Dp
 rw [Aaj h]
 have := h.len2
 simp only [Option.bind_some,Bool.not_true,Bool.false_eq_true,if_false]
 rw [if_pos (by omega)]
 exact Is (fun k x n => rfl) rfl
theorem AbD {t : Ag} (h : ¬ WfT t) (id : Int) : Dp t id = some (zN,false) := by
 unfold Dp
 rw [Ajg h]
 rfl
theorem Mz {t : Ag} (h : WfT t) (id : Int) : Gd t id = some (Gs t id) := by
 unfold Gd
 rw [Qj h,Option.bind_some]
 unfold Gs
 cases Ut t id <;> rfl
theorem Acs {t : Ag} (h : ¬ WfT t) (id : Int) : Gd t id = some false := by
 unfold Gd
 rw [AbD h]
 rfl
def ancN (t : Ag) (id : Int) : List Int := if Gs t id then upT t id else []
theorem Pp {t : Ag} (h : WfT t) (id : Int) : Fo t id = some (ancN t id) := by
 unfold Fo ancN
 rw [Mz h]
 have := h.len2
 cases Gs t id
 ·rfl
 ·simp [AfZ t id (by omega)]
def Kf (t : Ag) (id : Int) : List Int := (t.nodes.filter (fun x => x.parent == id)).map (·.id)
theorem Abj {t : Ag} (h : WfT t) (id : Int) : Hy t id = some (if Gs t id then Kf t id else []) := by
 unfold Hy
 rw [Mz h]
 have := h.len2
 cases Gs t id
 ·rfl
 ·simp only [Option.bind_some,Bool.not_true,Bool.false_eq_true,if_false,if_true]
  rw [if_pos (by omega)]
  refine (Hc (p := fun x : Ao => x.parent == id) (f := fun x : Ao => x.id) (r := some) ?_ (fun _ => rfl) (by simp; omega)).trans (by simp [Kf])
  intro k x s n hs
  unfold Va Nk
  rw [if_pos hs]
theorem AiR {t : Ag} (h : WfT t) (id : Int) : Vf t id = some (w64 (((ancN t id).length : Int) - 1)) := by
 unfold Vf
 rw [Pp h]
 rfl
theorem Ve (t : Ag) (h : t.nodes.length ≤ 1073741824) : Pa t = some t := by
 unfold Pa
 simp
 omega
end Go.Dm

/- Plain theory, part 4: the nodes of a tree, one behind the other. -/
namespace Go.Dm
theorem Ke {α : Type} (L : List α) : L = [] ∨ ∃ P x,L = P ++ [x] := by
 rcases List.eq_nil_or_concat L with h | ⟨P,x,h⟩
 ·exact .inl h
 ·exact .inr ⟨P,x,by simpa using h⟩
structure Sm (x : Ao) : Prop where
 kind : x.kind = 0 ∨ x.kind = 1
 c1 : 0 ≤ x.control
 c2 : x.control ≤ 31
 o1 : 0 ≤ x.owner
 o2 : x.owner ≤ 1048576
structure Abe (x : Ao) : Prop where
 id : x.id = 1
 parent : x.parent = 0
 name : Ea x.name ByteArray.empty = true
 kind : x.kind = 0
structure NodeS (pre : List Ao) (x : Ao) : Prop where
 lt : ∀ y ∈ pre,y.id < x.id
 valid : Eo x.name = true
 parent : ∃ y ∈ pre,y.id = x.parent
 fresh : ∀ y ∈ pre,y.parent = x.parent → Ea y.name x.name = false
inductive WfP : List Ao → Prop
 | root (x : Ao) : Sm x → Abe x → WfP [x]
 | snoc (L : List Ao) (x : Ao) : WfP L → Sm x → NodeS L x → WfP (L ++ [x])
theorem nodeV_of {pre : List Ao} {x : Ao} (h : Kz pre x = true) : Sm x := by
 simp only [Kz,Bool.and_eq_true,Bool.or_eq_true,beq_iff_eq,decide_eq_true_eq] at h
 exact ⟨h.1.1.1.1.1,h.1.1.1.1.2,h.1.1.1.2,h.1.1.2,h.1.2⟩
theorem WfP.pos {L : List Ao} (h : WfP L) : 0 < L.length := by
 cases h <;> simp
theorem wfP_of {L : List Ao} (hn : 1 ≤ L.length) (h : ∀ pre x post,L = pre ++ x :: post → Kz pre x = true) : WfP L := by
 have key : ∀ (n : Nat) (M : List Ao),M.length = n → 1 ≤ M.length → (∀ pre x post,M = pre ++ x :: post → Kz pre x = true) → WfP M ∧ ∀ y,M.getLast? = some y → ∀ z ∈ M,z.id ≤ y.id := by
  intro n
  induction n with
  | zero => intro M hM h1; omega
  | succ n ih =>
   intro M hM h1 hB
   rcases Ke M with rfl | ⟨P,x,rfl⟩
   ·simp at hM
   have hx : Kz P x = true := hB P x [] (by simp)
   have hv := nodeV_of hx
   rcases Ke P with rfl | ⟨P',y,rfl⟩
   ·simp only [Kz,List.getLast?_nil,Bool.and_eq_true,beq_iff_eq] at hx
    refine ⟨.root x hv ⟨hx.2.1.1.1,hx.2.1.1.2,hx.2.1.2,hx.2.2⟩,?_⟩
    intro y hy z hz
    simp at hy hz
    subst hy hz
    exact Int.le_refl _
   ·obtain ⟨w,hl⟩ := ih (P' ++ [y]) (by simp at hM ⊢; omega) (by simp) (fun pre u post e => hB pre u (post ++ [x]) (by rw [e]; simp))
    have hl := hl y (by simp)
    simp only [Kz,List.getLast?_append,List.getLast?_singleton,Option.some_or,Bool.and_eq_true,decide_eq_true_eq,List.any_eq_true,List.all_eq_true,beq_iff_eq] at hx
    obtain ⟨_,⟨⟨hlt,hval⟩,hpar⟩,hfr⟩ := hx
    have hs : NodeS (P' ++ [y]) x := by
     refine ⟨fun z hz => ?_,hval,hpar,fun z hz hp => ?_⟩
     ·have := hl z hz
      omega
     ·have := hfr z hz
      simpa [hp] using this
    refine ⟨.snoc _ x w hv hs,?_⟩
    intro u hu z hz
    have hu : u = x := by simpa [eq_comm] using hu
    subst hu
    rcases List.mem_append.mp hz with hz | hz
    ·have := hs.lt z hz
     omega
    ·simp at hz
     subst hz
     exact Int.le_refl _
 exact (key _ L rfl hn h).1
theorem Aic {x : Ao} (v : Sm x) (r : Abe x) : Kz [] x = true := by
 have := v.kind
 simp [Kz,v.c1,v.c2,v.o1,v.o2,r.id,r.parent,r.name,r.kind]
theorem Aif {L : List Ao} {x : Ao} (hL : 0 < L.length) (v : Sm x) (r : NodeS L x) : Kz L x = true := by
 rcases Ke L with rfl | ⟨P,y,rfl⟩
 ·simp at hL
 simp only [Kz,List.getLast?_append,List.getLast?_singleton,Option.some_or,Bool.and_eq_true,decide_eq_true_eq,List.any_eq_true,List.all_eq_true,beq_iff_eq,Bool.or_eq_true]
 refine ⟨⟨⟨⟨⟨v.kind,v.c1⟩,v.c2⟩,v.o1⟩,v.o2⟩,⟨⟨r.lt y (by simp),r.valid⟩,r.parent⟩,fun z hz => ?_⟩
 by_cases hp : z.parent = x.parent
 ·simp [r.fresh z hz hp]
 ·simp [hp]
theorem WfP.split {L : List Ao} (h : WfP L) : ∀ pre x post,L = pre ++ x :: post → Kz pre x = true := by
 induction h with
 | root x v r =>
  intro pre y post e
  have : pre = [] ∧ y = x := by
   cases pre with
   | nil => simp at e; exact ⟨rfl,e.1.symm⟩
   | cons a q => simp at e
  rw [this.1,this.2]
  exact Aic v r
 | snoc L x w v s ih =>
  intro pre y post e
  rcases Ke post with rfl | ⟨p',z,rfl⟩
  ·have := List.append_inj' (s₁ := L) (t₁ := [x]) (s₂ := pre) (t₂ := [y]) (by simpa using e) rfl
   have e2 : x = y := by simpa using this.2
   rw [← this.1,← e2]
   exact Aif w.pos v s
  ·have e2 : L ++ [x] = (pre ++ y :: p') ++ [z] := by simpa using e
   have := List.append_inj' e2 rfl
   exact ih pre y p' this.1
theorem WfP.sorted {L : List Ao} (h : WfP L) : L.Pairwise (fun a b => a.id < b.id) := by
 induction h with
 | root x v r => simp
 | snoc L x w v s ih =>
  rw [List.pairwise_append]
  exact ⟨ih,by simp,fun a ha b hb => by simp at hb; subst hb; exact s.lt a ha⟩
theorem WfP.val {L : List Ao} (h : WfP L) : ∀ x ∈ L,Sm x := by
 induction h with
 | root x v r => intro y hy; simp at hy; subst hy; exact v
 | snoc L x w v s ih =>
  intro y hy
  rcases List.mem_append.mp hy with hy | hy
  ·exact ih y hy
  ·simp at hy; subst hy; exact v
theorem WfP.first {L : List Ao} (h : WfP L) : ∃ x r,L = x :: r ∧ Abe x := by
 induction h with
 | root x v r => exact ⟨x,[],rfl,r⟩
 | snoc L x w v s ih =>
  obtain ⟨y,r,rfl,hr⟩ := ih
  exact ⟨y,r ++ [x],rfl,hr⟩
theorem WfP.ge1 {L : List Ao} (h : WfP L) : ∀ x ∈ L,1 ≤ x.id := by
 induction h with
 | root x v r => intro y hy; simp at hy; subst hy; rw [r.id]; omega
 | snoc L x w v s ih =>
  intro y hy
  rcases List.mem_append.mp hy with hy | hy
  ·exact ih y hy
  ·simp at hy; subst hy
   obtain ⟨z,hz,_⟩ := s.parent
   have := ih z hz
   have := s.lt z hz
   omega
theorem WfP.par {L : List Ao} (h : WfP L) : ∀ x ∈ L,(x.id = 1 ∧ Abe x) ∨ (1 ≤ x.parent ∧ x.parent < x.id ∧ (∃ y ∈ L,y.id = x.parent) ∧ Eo x.name = true) := by
 induction h with
 | root x v r => intro y hy; simp at hy; subst hy; exact .inl ⟨r.id,r⟩
 | snoc L x w v s ih =>
  intro y hy
  rcases List.mem_append.mp hy with hy | hy
  ·rcases ih y hy with h | ⟨h1,h2,⟨z,hz,he⟩,h3⟩
   ·exact .inl h
   ·exact .inr ⟨h1,h2,⟨z,by simp [hz],he⟩,h3⟩
  ·simp at hy; subst hy
   obtain ⟨z,hz,he⟩ := s.parent
   refine .inr ⟨?_,?_,⟨z,by simp [hz],he⟩,s.valid⟩
   ·have := w.ge1 z hz
    omega
   ·have := s.lt z hz
    omega
theorem AgP {L : List Ao} (h : L.Pairwise (fun a b => a.id < b.id)) {x y : Ao} (hx : x ∈ L) (hy : y ∈ L) (e : x.id = y.id) : x = y := by
 induction L with
 | nil => simp at hx
 | cons a r ih =>
  rw [List.pairwise_cons] at h
  rcases List.mem_cons.mp hx with ex | hx' <;> rcases List.mem_cons.mp hy with ey | hy'
  ·rw [ex,ey]
  ·have := h.1 y hy'; rw [ex] at e; omega
  ·have := h.1 x hx'; rw [ey] at e; omega
  ·exact ih h.2 hx' hy'
theorem Xr {t : Ag} {id : Int} {x : Ao} (h : Ut t id = some x) : x ∈ t.nodes ∧ x.id = id :=
 ⟨List.mem_of_find?_eq_some h,by have := List.find?_some h; simpa using this⟩
theorem hasN_iff {t : Ag} {id : Int} : Gs t id = true ↔ ∃ x ∈ t.nodes,x.id = id := by
 unfold Gs Ut
 rw [List.find?_isSome]
 simp
theorem Za {A B : List Ao} {id : Int} (h : ∀ x ∈ A,x.id ≠ id) : upR (A ++ B) id = upR B id := by
 induction A with
 | nil => rfl
 | cons a r ih =>
  rw [List.cons_append,upR,if_neg (by simpa using h a (by simp))]
  exact ih fun x hx => h x (by simp [hx])
theorem AfW {A : List Ao} {id : Int} (h : ∀ x ∈ A,x.id ≠ id) : upR A id = [] := by
 have := Za (B := []) h
 simpa [upR] using this
theorem WfP.up {L : List Ao} (h : WfP L) : ∀ x ∈ L,upR L.reverse x.id = x.id :: upR L.reverse x.parent := by
 induction h with
 | root x v r =>
  intro y hy
  simp at hy
  subst hy
  simp [upR,r.parent,r.id]
 | snoc L x w v s ih =>
  intro y hy
  rw [List.reverse_append,List.reverse_cons,List.reverse_nil,List.nil_append,List.singleton_append]
  rcases List.mem_append.mp hy with hy | hy
  ·have hlt := s.lt y hy
   have hp : y.parent < x.id := by
    rcases w.par y hy with ⟨h1,r⟩ | ⟨_,h2,_⟩
    ·rw [r.parent]; have := w.ge1 y hy; omega
    ·omega
   rw [upR,if_neg (by simp; omega),upR,if_neg (by simp; omega)]
   exact ih y hy
  ·simp at hy
   subst hy
   obtain ⟨z,hz,he⟩ := s.parent
   have := s.lt z hz
   rw [upR,if_pos (by simp),upR,if_neg (by simp; omega)]
theorem WfT.p {t : Ag} (h : WfT t) : WfP t.nodes := wfP_of h.len1 h.node
theorem WfT.sorted {t : Ag} (h : WfT t) : t.nodes.Pairwise (fun a b => a.id < b.id) := h.p.sorted
theorem WfT.up {t : Ag} (h : WfT t) {x : Ao} (hx : x ∈ t.nodes) : upT t x.id = x.id :: upT t x.parent := h.p.up x hx
theorem WfT.next {t : Ag} (h : WfT t) : ∀ x ∈ t.nodes,x.id < t.next := by
 have hl := h.last
 have h1 := h.len1
 have hs := h.sorted
 intro x hx
 obtain ⟨i,hi,rfl⟩ := List.getElem_of_mem hx
 rw [Gj (by omega)] at hl
 by_cases e : i = t.nodes.length - 1
 ·subst e; exact hl
 ·have := List.pairwise_iff_getElem.mp hs i (t.nodes.length - 1) hi (by omega) (by omega)
  omega
theorem WfT.root {t : Ag} (h : WfT t) : ∃ x r,t.nodes = x :: r ∧ Abe x := h.p.first
theorem WfT.mk' {t : Ag} (hp : WfP t.nodes) (h2 : t.nodes.length ≤ 64) (hd : ∀ x ∈ t.nodes,(upT t x.id).length ≤ 9) (hn : ∀ x ∈ t.nodes,x.id < t.next) (hl : t.next ≤ 2147483648) : WfT t := by
 refine ⟨hp.pos,h2,hp.split,hd,hn _ (Acy ?_),hl⟩
 have := hp.pos
 omega
end Go.Dm

/- Plain theory, part 5: dice; trees that grow and shrink. -/
namespace Go.Dm
structure Bv (d : Aq) : Prop where
 a0 : 0 ≤ d.atF
 a1 : d.atF ≤ (d.l.length : Int)
 l : d.l.length ≤ 600
theorem dice_roll {l : List Int} (h : l.length ≤ 600) : Bv { l := l,atF := 0 } := ⟨by simp,by simp,h⟩
theorem Aco {d : Aq} (h : Bv d) (n : Int) (hn : n ≤ 1000000) : Ok (Bq d n) (fun r => Bv r.2 ∧ 0 ≤ r.1 ∧ (r.1 < n ∨ (n < 1 ∧ r.1 = 0))) := by
 have h0 := h.a0
 have h1 := h.a1
 have hl := h.l
 unfold Bq
 refine Ok.ite (fun c => ?_) fun c => ?_
 ·simp only [Bool.or_eq_true,decide_eq_true_eq] at c
  refine Ok.ret ⟨h,by simp,?_⟩
  show (0 : Int) < n ∨ (n < 1 ∧ (0 : Int) = 0)
  omega
 simp only [Bool.or_eq_false_iff,decide_eq_false_iff_not] at c
 have e1 : w64 (d.atF + 1) = d.atF + 1 := Ay (by omega) (by omega)
 have e2 : w64 (d.atF + 1 - 1) = d.atF := by
  rw [Ay (by omega) (by omega)]
  omega
 have hd : Bv { l := d.l,atF := d.atF + 1 } := ⟨by simp only; omega,by simp only; omega,hl⟩
 rw [e1,e2]
 refine Ok.guard (by omega) ?_
 refine Ok.guard (by omega) ?_
 generalize d.l.getD d.atF.toNat 0 = x
 have b1 : Int.tmod x n < n := Int.tmod_lt_of_pos x (by omega)
 have b2 : -n < Int.tmod x n := by
  have := Int.tmod_lt_of_pos (-x) (show 0 < n by omega)
  rw [Int.neg_tmod] at this
  omega
 unfold Mk
 rw [e1]
 refine Ok.ite (fun c2 => ?_) fun c2 => ?_
 ·have := of_decide_eq_true c2
  rw [Ay (by omega) (by omega)]
  refine Ok.ret ⟨hd,?_,?_⟩ <;> simp only <;> omega
 ·have := of_decide_eq_false c2
  refine Ok.ret ⟨hd,?_,?_⟩ <;> simp only <;> omega
theorem Et {d : Aq} (h : Bv d) (n : Int) (h1 : 1 ≤ n) (hn : n ≤ 1000000) : Ok (Bq d n) (fun r => Bv r.2 ∧ 0 ≤ r.1 ∧ r.1 < n) :=
 (Aco h n hn).mono fun r ⟨a,b,c⟩ => ⟨a,b,by omega⟩
theorem Qi {d : Aq} (h : Bv d) (n : Int) (hn : n ≤ 1000000) : Ok (Dk d n) (fun r => Bv r.2) := by
 unfold Dk
 exact Ok.bind (Aco h n hn) fun r hr => Ok.ret hr.1
theorem AjI : ∀ s ∈ [(bs [97]),(bs [98]),(bs [99]),(bs [119,101,98]),(bs [100,98,45,49]),(bs [88,95,57])],Eo s = true := by
 intro s hs
 have : ([(bs [97]),(bs [98]),(bs [99]),(bs [119,101,98]),(bs [100,98,45,49]),(bs [88,95,57])].all Eo) = true := by kernel_rfl
 exact List.all_eq_true.mp this s hs
theorem Name_ok {d : Aq} (h : Bv d) : Ok (Nt d) (fun r => Bv r.2 ∧ Eo r.1 = true) := by
 unfold Nt
 refine Ok.bind (Et h 6 (by omega) (by omega)) fun r ⟨h1,h2,h3⟩ => ?_
 refine Ok.guard ⟨h2,h3⟩ ?_
 have hlt : r.1.toNat < [(bs [97]),(bs [98]),(bs [99]),(bs [119,101,98]),(bs [100,98,45,49]),(bs [88,95,57])].length := by simp only [List.length_cons,List.length_nil]; omega
 refine Ok.guard hlt (Ok.ret ⟨h1,AjI _ (Acy hlt)⟩)
theorem Wb {d : Aq} (h : Bv d) (t : Ag) (ht : t.nodes.length ≤ 1000000) : Ok (Fs d t) (fun r => Bv r.2) := by
 unfold Fs
 refine Ok.bind (Qi h 15 (by omega)) fun r hr => ?_
 have hJ : ∀ b : Bool,(b = false → 0 < t.nodes.length) → Ok (Jf t r b) (fun r => Bv r.2) := by
  intro b hb
  unfold Jf
  refine Ok.ite (fun _ => ?_) fun c => ?_
  ·exact Ok.bind (Aco hr 9 (by omega)) fun q hq => Ok.ret hq.1
  ·have := hb c
   refine Ok.bind (Et hr _ (by omega) (by omega)) fun q hq => ?_
   exact Ok.guard ⟨hq.2.1,hq.2.2⟩ (Ok.ret hq.1)
 refine Ok.ite (fun _ => ?_) fun _ => ?_
 ·exact hJ true (by simp)
 ·refine hJ _ fun hb => ?_
  have : ¬ ((t.nodes.length : Nat) : Int) = 0 := by simpa using hb
  omega
theorem Ahx {d : Aq} (h : Bv d) (t : Aa) (ht : t.tasks.length ≤ 1000000) : Ok (Js d t) (fun r => Bv r.2) := by
 unfold Js
 refine Ok.bind (Qi h 15 (by omega)) fun r hr => ?_
 have hJ : ∀ b : Bool,(b = false → 0 < t.tasks.length) → Ok (Jx t r b) (fun r => Bv r.2) := by
  intro b hb
  unfold Jx
  refine Ok.ite (fun _ => ?_) fun c => ?_
  ·exact Ok.bind (Aco hr 9 (by omega)) fun q hq => Ok.ret hq.1
  ·have := hb c
   refine Ok.bind (Et hr _ (by omega) (by omega)) fun q hq => ?_
   exact Ok.guard ⟨hq.2.1,hq.2.2⟩ (Ok.ret hq.1)
 refine Ok.ite (fun _ => ?_) fun _ => ?_
 ·exact hJ true (by simp)
 ·refine hJ _ fun hb => ?_
  have : ¬ ((t.tasks.length : Nat) : Int) = 0 := by simpa using hb
  omega
theorem Ahw {d : Aq} (h : Bv d) : Ok (Ik d) (fun r => Bv r.2 ∧ -1 ≤ r.1 ∧ r.1 ≤ 32) := by
 unfold Ik
 refine Ok.bind (Et h 9 (by omega) (by omega)) fun r ⟨h1,h2,h3⟩ => ?_
 refine Ok.guard ⟨h2,h3⟩ ?_
 have hlt : r.1.toNat < [(1 : Int),9,31,2,25,4,0,32,(-1)].length := by simp only [List.length_cons,List.length_nil]; omega
 refine Ok.guard hlt (Ok.ret ⟨h1,?_⟩)
 have hm := Acy (d := (0 : Int)) hlt
 have : ∀ x ∈ [(1 : Int),9,31,2,25,4,0,32,(-1)],-1 ≤ x ∧ x ≤ 32 := by decide
 exact this _ hm
def zT : Ag := { nodes := [],next := 0 }
def addT (t : Ag) (p : Int) (s : ByteArray) : Ag × Int × Int :=
 if !Eo s then (zT,0,1) else if !Gs t p then (zT,0,4) else if t.nodes.any (fun x => x.parent == p && Ea x.name s) then (zT,0,5)
 else if decide (9 ≤ (upT t p).length) || decide (64 ≤ t.nodes.length) || decide (2147483647 < t.next) then (zT,0,7)
 else ({ nodes := t.nodes ++ [{ id := t.next,parent := p,name := s,control := 0,kind := 0,owner := 0 }],next := t.next + 1 },t.next,0)
theorem Ake {t : Ag} (h : WfT t) (p : Int) (s : ByteArray) : AaP t p s = some (addT t p s) := by
 apply Ok.eq
 have h2 := h.len2
 have hnx := h.nextLe
 unfold AaP
 refine Ok.step (Aaj h) ?_
 simp only [Bool.not_true,Bool.false_eq_true,if_false]
 refine Ok.step (AcX s) ?_
 unfold Vi addT
 refine Ok.ite (fun c => ?_) fun c => ?_
 ·rw [if_pos c]; exact Ok.ret rfl
 rw [if_neg (c := (!Eo s) = true) (by rw [c]; simp)]
 refine Ok.step (Mz h p) ?_
 refine Ok.ite (fun c => ?_) fun c => ?_
 ·rw [if_pos c]; exact Ok.ret rfl
 rw [if_neg (c := (!Gs t p) = true) (by rw [c]; simp)]
 have hp : Gs t p = true := by simpa using c
 refine Ok.guard (by omega) ?_
 refine Ok.range (fun pre _ => pre.any (fun x => x.parent == p && Ea x.name s) = false) rfl ?_ ?_
 ·intro pre x post u n he hI hn
  unfold AcJ
  refine Ok.ite (fun c => ?_) fun c => ?_
  ·refine Ok.ret ?_
   rw [if_pos]
   ·rfl
   ·rw [he,List.any_append,List.any_cons,c]
    simp
  ·refine hn () ?_
   rw [List.any_append,hI,List.any_cons,c]
   rfl
 ·intro _ hI
  rw [if_neg (by rw [hI]; simp)]
  unfold AcH
  refine Ok.step (AiR h p) ?_
  have ea : ancN t p = upT t p := by simp [ancN,hp]
  have hb : (upT t p).length ≤ 64 := by
   have := Pi t.nodes.reverse p
   simp at this
   unfold upT
   omega
  rw [ea,Ay (by omega) (by omega)]
  have hJ1 : ∀ c,(c = true → (decide (9 ≤ (upT t p).length) || decide (64 ≤ t.nodes.length) || decide (2147483647 < t.next)) = true) → (c = false → (decide (9 ≤ (upT t p).length) || decide (64 ≤ t.nodes.length) || decide (2147483647 < t.next)) = false) →
    Ok (Ph t p s c) (· = if decide (9 ≤ (upT t p).length) || decide (64 ≤ t.nodes.length) || decide (2147483647 < t.next) then (zT,0,7)
 else ({ nodes := t.nodes ++ [{ id := t.next,parent := p,name := s,control := 0,kind := 0,owner := 0 }],next := t.next + 1 },t.next,0)) := by
   intro c ht hf
   unfold Ph
   refine Ok.ite (fun c => ?_) fun c => ?_
   ·rw [if_pos (ht c)]; exact Ok.ret rfl
   ·rw [if_neg (by rw [hf c]; simp)]
    refine Ok.step (Ve t (by omega)) ?_
    refine Ok.guard (by omega) ?_
    have hn0 : 0 < t.next := by
     obtain ⟨x,r,e,hr⟩ := h.root
     have := h.next x (by rw [e]; simp)
     rw [hr.id] at this
     omega
    rw [Ay (by omega) (by omega)]
    exact Ok.ret rfl
  refine Ok.ite (fun c => ?_) fun c => ?_
  ·have := of_decide_eq_true c
   refine hJ1 true (fun _ => ?_) (by simp)
   have : 9 ≤ (upT t p).length := by omega
   simp [this]
  ·have h9 := of_decide_eq_false c
   refine Ok.ite (fun c => ?_) fun c => ?_
   ·have := of_decide_eq_true c
    refine hJ1 true (fun _ => ?_) (by simp)
    have : 64 ≤ t.nodes.length := by omega
    simp [this]
   ·have h64 := of_decide_eq_false c
    have a : ¬ 9 ≤ (upT t p).length := by omega
    have b : ¬ 64 ≤ t.nodes.length := by omega
    refine hJ1 _ (fun c => ?_) fun c => ?_
    ·have := of_decide_eq_true c
     have : 2147483647 < t.next := by omega
     simp [this]
    ·have := of_decide_eq_false c
     have : ¬ 2147483647 < t.next := by omega
     simp [this,a,b]
theorem AdV {L : List Ao} {x : Ao} {id : Int} (h : x.id ≠ id) : upR (L ++ [x]).reverse id = upR L.reverse id := by
 rw [List.reverse_append]
 exact Za (A := [x].reverse) (by simpa using h)
theorem addT_wf {t : Ag} (h : WfT t) {p : Int} {s : ByteArray} {r : Ag × Int × Int} (e : addT t p s = r) (hr : r.2.2 = 0) : WfT r.1 := by
 have h2 := h.len2
 unfold addT at e
 split at e
 ·subst e; simp at hr
 split at e
 ·subst e; simp at hr
 split at e
 ·subst e; simp at hr
 split at e
 ·subst e; simp at hr
 rename_i hv hh ha hc
 subst e
 have hv' : Eo s = true := by simpa using hv
 have hh' : Gs t p = true := by simpa using hh
 obtain ⟨y,hy,hyp⟩ := hasN_iff.mp hh'
 simp only [Bool.or_eq_true,decide_eq_true_eq,not_or] at hc
 have ha' : ∀ x ∈ t.nodes,x.parent = p → Ea x.name s = false := by
  intro x hx hp
  cases hb : Ea x.name s
  ·rfl
  ·exact absurd (List.any_eq_true.mpr ⟨x,hx,by simp [hp,hb]⟩) ha
 have hnext := h.next
 refine WfT.mk' (.snoc _ _ h.p ⟨.inl rfl,by simp,by simp,by simp,by simp⟩ ⟨hnext,hv',⟨y,hy,hyp⟩,ha'⟩) (by simp; omega) ?_ ?_ (by simp only; omega)
 ·intro x hx
  rcases List.mem_append.mp hx with hx | hx
  ·have := h.depth x hx
   unfold upT at this ⊢
   simp only
   have hlt := hnext x hx
   rw [AdV (by simp only; omega)]
   exact this
  ·simp at hx
   subst hx
   unfold upT
   simp only [List.reverse_append,List.reverse_cons,List.reverse_nil,List.nil_append,List.singleton_append]
   rw [upR,if_pos (by simp)]
   have := hc.1.1
   unfold upT at this
   simp; omega
 ·intro x hx
  simp only
  rcases List.mem_append.mp hx with hx | hx
  ·have := hnext x hx
   omega
  ·simp at hx
   subst hx
   simp only
   omega
end Go.Dm

/- Plain theory, part 6: nodes that are removed or replaced; made trees. -/
namespace Go.Dm
def Afc (t : Ag) (id : Int) : Ag × Int :=
 if !Gs t id then (zT,4) else if id == 1 then (zT,9) else if decide (0 < (Kf t id).length) then (zT,6)
 else ({ nodes := t.nodes.filter (fun x => x.id != id),next := t.next },0)
theorem Aig {t : Ag} (h : WfT t) (id : Int) : Tj t id = some (Afc t id) := by
 apply Ok.eq
 have h2 := h.len2
 unfold Tj Afc
 refine Ok.step (Aaj h) ?_
 simp only [Bool.not_true,Bool.false_eq_true,if_false]
 refine Ok.step (Mz h id) ?_
 refine Ok.ite (fun c => ?_) fun c => ?_
 ·rw [if_pos c]; exact Ok.ret rfl
 rw [if_neg (c := (!Gs t id) = true) (by rw [c]; simp)]
 have hp : Gs t id = true := by simpa using c
 refine Ok.ite (fun c => ?_) fun c => ?_
 ·rw [if_pos c]; exact Ok.ret rfl
 rw [if_neg (c := (id == 1) = true) (by rw [c]; simp)]
 refine Ok.step (Abj h id) ?_
 rw [if_pos hp]
 refine Ok.ite (fun c => ?_) fun c => ?_
 ·have := of_decide_eq_true c
  have : 0 < (Kf t id).length := by omega
  rw [if_pos (c := decide (0 < (Kf t id).length) = true) (by simp [this])]; exact Ok.ret rfl
 have := of_decide_eq_false c
 have : ¬ 0 < (Kf t id).length := by omega
 rw [if_neg (c := decide (0 < (Kf t id).length) = true) (by simp [this])]
 refine Ok.guard (by omega) ?_
 have e := Hc (p := fun x : Ao => x.id != id) (f := fun x : Ao => x) (xs := t.nodes) (s0 := []) (r := Tx t) (body := Ub id) (done := Tx t) (fun k x s n hs => by
  unfold Ub Pw
  rw [if_pos hs]) (fun _ => rfl) (by simp; omega)
 rw [e]
 refine Ok.ret ?_
 simp
theorem Akd {A : List Ao} {id k : Int} (hk : k ≠ id) (h : ∀ x ∈ A,x.parent ≠ id) : upR (A.filter (fun x => x.id != id)) k = upR A k := by
 induction A generalizing k with
 | nil => rfl
 | cons a r ih =>
  have hr : ∀ x ∈ r,x.parent ≠ id := fun x hx => h x (by simp [hx])
  rw [List.filter_cons]
  by_cases e : a.id = id
  ·rw [if_neg (by simp [e]),ih hk hr,upR,if_neg (by simp; omega)]
  ·rw [if_pos (by simp [e]),upR,upR]
   by_cases q : a.id = k
   ·rw [if_pos (by simp [q]),if_pos (by simp [q]),ih (h a (by simp)) hr]
   ·rw [if_neg (by simp [q]),if_neg (by simp [q]),ih hk hr]
theorem WfP.remove {L : List Ao} (h : WfP L) {id : Int} (h1 : id ≠ 1) (hk : ∀ x ∈ L,x.parent ≠ id) : WfP (L.filter (fun x => x.id != id)) := by
 induction h with
 | root x v r =>
  have : (x.id != id) = true := by simp [r.id]; omega
  simp only [List.filter_cons,this,if_true,List.filter_nil]
  exact .root x v r
 | snoc L x w v s ih =>
  have hw := ih fun y hy => hk y (by simp [hy])
  rw [List.filter_append]
  by_cases e : x.id = id
  ·have : [x].filter (fun x => x.id != id) = [] := by simp [e]
   rw [this,List.append_nil]
   exact hw
  ·have : [x].filter (fun x => x.id != id) = [x] := by simp [e]
   rw [this]
   refine .snoc _ x hw v ⟨fun y hy => s.lt y (List.mem_filter.mp hy).1,s.valid,?_,fun y hy => s.fresh y (List.mem_filter.mp hy).1⟩
   obtain ⟨y,hy,hyp⟩ := s.parent
   refine ⟨y,List.mem_filter.mpr ⟨hy,?_⟩,hyp⟩
   have := hk x (by simp)
   simp only [bne_iff_ne]
   omega
theorem Akh {t : Ag} (h : WfT t) {id : Int} {r : Ag × Int} (e : Afc t id = r) (hr : r.2 = 0) : WfT r.1 := by
 have h2 := h.len2
 unfold Afc at e
 split at e
 ·subst e; simp at hr
 split at e
 ·subst e; simp at hr
 split at e
 ·subst e; simp at hr
 rename_i hh h1 hk
 subst e
 have h1' : id ≠ 1 := by simpa using h1
 have hk' : ∀ x ∈ t.nodes,x.parent ≠ id := by
  intro x hx hp
  have hk : ¬ 0 < (Kf t id).length := by simpa using hk
  have : x.id ∈ Kf t id := by
   unfold Kf
   exact List.mem_map.mpr ⟨x,List.mem_filter.mpr ⟨hx,by simp [hp]⟩,rfl⟩
  have := List.length_pos_of_mem this
  omega
 refine WfT.mk' (h.p.remove h1' hk') (Nat.le_trans (List.length_filter_le _ _) h2) ?_ (fun x hx => h.next x (List.mem_filter.mp hx).1) h.nextLe
 intro x hx
 have hx' := List.mem_filter.mp hx
 have := h.depth x hx'.1
 unfold upT at this ⊢
 simp only
 rw [← List.filter_reverse,Akd (by simpa using hx'.2) (fun y hy => hk' y (by simpa using hy))]
 exact this
def Yz (x y : Ao) : Ao := if y.id == x.id then x else y
def setT (t : Ag) (x : Ao) : Ag := { nodes := t.nodes.map (Yz x),next := t.next }
theorem AbJ (t : Ag) (x : Ao) (hl : t.nodes.length ≤ 1000000) : Ud t x = some (setT t x) := by
 apply Ok.eq
 unfold Ud
 refine Ok.step (Ve t (by omega)) ?_
 refine Ok.while (fun s => ∃ m : Nat,s.2 = (m : Int) ∧ m ≤ t.nodes.length ∧ s.1 = (t.nodes.take m).map (Yz x) ++ t.nodes.drop m) (fun s => (((t.nodes.length : Nat) : Int) - s.2).toNat) ?_ ?_ ?_
 ·exact ⟨0,rfl,by omega,by simp⟩
 ·rw [Df]; simp only; omega
 rintro ⟨L,c⟩ n ⟨m,hc,hm,he⟩ hn
 simp only at hc he hn
 subst hc
 have hlen : L.length = t.nodes.length := by
  rw [he]; simp; omega
 unfold AcL Ux
 simp only
 rw [hlen]
 refine Ok.ite (fun c => ?_) fun c => ?_
 ·have hlt := of_decide_eq_true c
  have hlt' : m < t.nodes.length := by omega
  have em : Int.toNat (m : Int) = m := by omega
  rw [em]
  refine Ok.guard (by omega) ?_
  refine Ok.guard hlt' ?_
  have hw : w64 ((m : Int) + 1) = ((m + 1 : Nat) : Int) := by
   rw [Ay (by omega) (by omega)]; omega
  have hd : t.nodes.drop m = t.nodes[m] :: t.nodes.drop (m + 1) := List.drop_eq_getElem_cons hlt'
  have hg : L.getD m default = t.nodes[m] := by
   rw [he,hd,List.getD_eq_getElem?_getD,List.getElem?_append_right (by simp; omega)]
   have : m - (List.map (Yz x) (List.take m t.nodes)).length = 0 := by simp; omega
   rw [this]
   rfl
  have ht : (t.nodes.take (m + 1)).map (Yz x) ++ t.nodes.drop (m + 1) = (t.nodes.take m).map (Yz x) ++ Yz x t.nodes[m] :: t.nodes.drop (m + 1) := by
   have : t.nodes.take (m + 1) = t.nodes.take m ++ [t.nodes[m]] := by
    rw [List.take_add_one]; simp [hlt']
   rw [this,List.map_append,List.append_assoc]
   rfl
  have hml : (List.map (Yz x) (List.take m t.nodes)).length = m := by
   rw [List.length_map,List.length_take]; omega
  rw [hg,hw]
  refine Ok.ite (fun c => ?_) fun c => ?_
  ·refine Ok.guard (by omega) ?_
   refine Ok.guard hlt' ?_
   refine hn _ ⟨m + 1,rfl,by omega,?_⟩ (by simp only; omega)
   simp only
   rw [ht,he,hd,List.set_append_right _ _ (by omega),hml,Nat.sub_self,List.set_cons_zero,Yz,if_pos c]
  ·refine hn _ ⟨m + 1,rfl,by omega,?_⟩ (by simp only; omega)
   simp only
   rw [ht,he,hd]
   simp [Yz,c]
 ·have := of_decide_eq_false c
  obtain rfl : m = t.nodes.length := by omega
  refine Ok.ret ?_
  simp [he,setT]
theorem upR_map {A : List Ao} {f : Ao → Ao} {k : Int} (h : ∀ y ∈ A,(f y).id = y.id ∧ (f y).parent = y.parent) : upR (A.map f) k = upR A k := by
 induction A generalizing k with
 | nil => rfl
 | cons a r ih =>
  have h1 := h a (by simp)
  rw [List.map_cons,upR,upR,h1.1,h1.2,ih fun y hy => h y (by simp [hy]),ih fun y hy => h y (by simp [hy])]
theorem WfP.map {L : List Ao} (h : WfP L) {f : Ao → Ao} (hf : ∀ y ∈ L,(f y).id = y.id ∧ (f y).parent = y.parent ∧ (f y).name = y.name ∧ Sm (f y) ∧ (y.id = 1 → (f y).kind = 0)) : WfP (L.map f) := by
 induction h with
 | root x v r =>
  obtain ⟨h1,h2,h3,h4,h5⟩ := hf x (by simp)
  exact .root _ h4 ⟨by rw [h1,r.id],by rw [h2,r.parent],by rw [h3,r.name],h5 r.id⟩
 | snoc L x w v s ih =>
  have hw := ih fun y hy => hf y (by simp [hy])
  obtain ⟨h1,h2,h3,h4,h5⟩ := hf x (by simp)
  have hL : ∀ y ∈ L,(f y).id = y.id ∧ (f y).parent = y.parent ∧ (f y).name = y.name := fun y hy => by
   obtain ⟨a,b,c,_⟩ := hf y (by simp [hy])
   exact ⟨a,b,c⟩
  rw [List.map_append,List.map_cons,List.map_nil]
  refine .snoc _ _ hw h4 ⟨?_,by rw [h3]; exact s.valid,?_,?_⟩
  ·intro y hy
   obtain ⟨z,hz,rfl⟩ := List.mem_map.mp hy
   rw [(hL z hz).1,h1]
   exact s.lt z hz
  ·obtain ⟨z,hz,hzp⟩ := s.parent
   exact ⟨f z,List.mem_map.mpr ⟨z,hz,rfl⟩,by rw [(hL z hz).1,h2,hzp]⟩
  ·intro y hy
   obtain ⟨z,hz,rfl⟩ := List.mem_map.mp hy
   rw [(hL z hz).2.1,(hL z hz).2.2,h2,h3]
   exact s.fresh z hz
theorem WfT.map {t : Ag} (h : WfT t) {f : Ao → Ao} (hf : ∀ y ∈ t.nodes,(f y).id = y.id ∧ (f y).parent = y.parent ∧ (f y).name = y.name ∧ Sm (f y) ∧ (y.id = 1 → (f y).kind = 0)) : WfT { nodes := t.nodes.map f,next := t.next } := by
 refine WfT.mk' (h.p.map hf) (by simp; exact h.len2) ?_ ?_ h.nextLe
 ·intro x hx
  obtain ⟨z,hz,rfl⟩ := List.mem_map.mp hx
  have := h.depth z hz
  unfold upT at this ⊢
  simp only
  rw [← List.map_reverse,upR_map (fun y hy => ⟨(hf y (by simpa using hy)).1,(hf y (by simpa using hy)).2.1⟩),(hf z hz).1]
  exact this
 ·intro x hx
  obtain ⟨z,hz,rfl⟩ := List.mem_map.mp hx
  simp only
  rw [(hf z hz).1]
  exact h.next z hz
theorem setT_wf {t : Ag} (h : WfT t) {x y : Ao} (hy : y ∈ t.nodes) (h1 : x.id = y.id) (h2 : x.parent = y.parent) (h3 : x.name = y.name) (h4 : Sm x) (h5 : y.id = 1 → x.kind = 0) : WfT (setT t x) := by
 refine h.map fun z hz => ?_
 unfold Yz
 by_cases e : z.id = x.id
 ·obtain rfl : z = y := AgP h.sorted hz hy (by omega)
  rw [if_pos (by simp [e])]
  exact ⟨h1,h2,h3,h4,h5⟩
 ·rw [if_neg (by simpa using e)]
  refine ⟨rfl,rfl,rfl,h.p.val z hz,fun q => ?_⟩
  rcases h.p.par z hz with ⟨_,r⟩ | ⟨a,b,_⟩
  ·exact r.kind
  ·omega
def newT : Ag := { nodes := [{ id := 1,parent := 0,name := ByteArray.empty,control := 0,kind := 0,owner := 0 }],next := 2 }
theorem Ajx : AaJ = some newT := rfl
theorem newT_wf : WfT newT := by
 refine WfT.mk' (.root _ ⟨.inl rfl,by simp,by simp,by simp,by simp⟩ ⟨rfl,rfl,AhN _,rfl⟩) (by simp [newT]) ?_ ?_ (by simp [newT])
 ·intro x hx
  have := Pi newT.nodes.reverse x.id
  simp [newT] at this
  simp [upT,newT]
  omega
 ·intro x hx
  simp [newT] at hx
  subst hx
  simp [newT]
theorem Tree_ok {d : Aq} (h : Bv d) (n : Int) (h0 : 0 ≤ n) (h1 : n ≤ 1000) : Ok (Od d n) (fun r => WfT r.1 ∧ Bv r.2) := by
 unfold Od
 refine Ok.step Ajx ?_
 rw [Ay (by omega) (by omega)]
 refine Ok.bind (Et h (n + 1) (by omega) (by omega)) fun r ⟨a1,a2,a3⟩ => ?_
 refine Ok.while (fun s => Bv s.1 ∧ WfT s.2.1 ∧ s.2.2 ≤ 2000) (fun s => s.2.2.toNat) ⟨a1,newT_wf,by simp only; omega⟩ (by rw [Df]; simp only; omega) ?_
 rintro ⟨d,t,c⟩ k ⟨b1,b2,b3⟩ hk
 simp only at b1 b2 b3 hk
 unfold Ug
 simp only
 refine Ok.ite (fun c1 => ?_) fun c1 => ?_
 ·have hc := of_decide_eq_true c1
  have l1 := b2.len1
  have l2 := b2.len2
  refine Ok.bind (Et b1 _ (by omega) (by omega)) fun r2 ⟨q1,q2,q3⟩ => ?_
  refine Ok.guard ⟨q2,q3⟩ ?_
  refine Ok.bind (Name_ok q1) fun r3 ⟨u1,u2⟩ => ?_
  refine Ok.step (Ake b2 _ _) ?_
  have hw : w64 (c - 1) = c - 1 := Ay (by omega) (by omega)
  have hJ3 : ∀ y : Aq × Ag,Bv y.1 → WfT y.2 → Ok (Ib (d,t,c) k y) (fun r => WfT r.1 ∧ Bv r.2) := by
   intro y hy1 hy2
   unfold Ib
   simp only
   rw [hw]
   exact hk _ ⟨hy1,hy2,by simp only; omega⟩ (by simp only; omega)
  have hJ4 : ∀ y : Ag,WfT y → Ok (Jv (d,t,c) k r3 y) (fun r => WfT r.1 ∧ Bv r.2) := by
   intro y hy
   unfold Jv
   refine Ok.bind (Qi u1 6 (by omega)) fun r4 hr4 => ?_
   refine Ok.ite (fun _ => ?_) fun _ => ?_
   ·have y1 := hy.len1
    have y2 := hy.len2
    refine Ok.bind (Et hr4 _ (by omega) (by omega)) fun r5 ⟨v1,v2,v3⟩ => ?_
    refine Ok.guard ⟨v2,v3⟩ ?_
    refine Ok.step (Aig hy _) ?_
    refine Ok.ite (fun c2 => ?_) fun _ => ?_
    ·exact hJ3 _ v1 (Akh hy rfl (by simpa using c2))
    ·exact hJ3 _ v1 hy
   ·exact hJ3 _ hr4 hy
  refine Ok.ite (fun c2 => ?_) fun _ => ?_
  ·exact hJ4 _ (addT_wf b2 rfl (by simpa using c2))
  ·exact hJ4 _ b2
 ·exact Ok.ret ⟨b2,b1⟩
end Go.Dm

/- Plain theory, part 7: hierarchies that Check accepts. -/
namespace Go.Dm
def zK : Aw := { id := 0,process := 0,group := 0,user := 0 }
def Fd (L : List Aw) (id : Int) : Option Aw := L.find? (fun x => x.id == id)
theorem AgV (L : List Aw) (p : Int) (hl : L.length ≤ 1000000) : Tl L p = some ((Fd L p).elim (zK,false) (fun x => (x,x.process == p))) := by
 unfold Tl
 rw [if_pos (by omega)]
 exact Is (fun k x n => rfl) rfl
structure TaskV (h : Aa) (x : Aw) : Prop where
 pos : 1 ≤ x.id
 grp : Gs h.tree x.group = true
 u1 : 0 ≤ x.user
 u2 : x.user ≤ 1048576
 ldr : ∃ p,Fd h.tasks x.process = some p ∧ p.process = x.process ∧ p.user = x.user
structure WfH (h : Aa) : Prop where
 tree : WfT h.tree
 len : h.tasks.length ≤ 128
 n1 : 1 ≤ h.next
 n2 : h.next ≤ 2147483648
 sorted : h.tasks.Pairwise (fun a b => a.id < b.id)
 lt : ∀ x ∈ h.tasks,x.id < h.next
 val : ∀ x ∈ h.tasks,TaskV h x
theorem Adi (h : Aa) : Ok (Gc h) (fun b => b = true ↔ WfH h) := by
 have bad : ¬ WfH h → Ok (some false) (fun b => b = true ↔ WfH h) := fun hn => Ok.ret ⟨fun e => by simp at e,fun w => absurd w hn⟩
 unfold Gc
 refine Ok.bind (Yr h.tree) fun b hb => ?_
 unfold Jb
 refine Ok.ite (fun c => ?_) fun c => ?_
 ·have : ¬ WfT h.tree := fun w => by have := hb.mpr w; simp [this] at c
  exact bad fun w => this w.tree
 have wt : WfT h.tree := hb.mp (by simpa using c)
 refine Ok.ite (fun c => ?_) fun c => ?_
 ·have := of_decide_eq_true c
  exact bad fun w => by have := w.len; omega
 have hl : h.tasks.length ≤ 128 := by
  have := of_decide_eq_false c
  omega
 refine Ok.ite (fun c => ?_) fun c => ?_
 ·have := of_decide_eq_true c
  exact bad fun w => by have := w.n1; omega
 have hn1 := of_decide_eq_false c
 refine Ok.ite (fun c => ?_) fun c => ?_
 ·have := of_decide_eq_true c
  exact bad fun w => by have := w.n2; omega
 have hn2 := of_decide_eq_false c
 have loop : (∀ x ∈ h.tasks.getLast?,x.id < h.next) → Ok (if h.tasks.length ≤ 9223372036854775807 then Bl (Vt h) AaK h.tasks 0 () else none) (fun b => b = true ↔ WfH h) := by
  intro hlast
  refine Ok.guard (by omega) ?_
  refine Ok.range (fun pre _ => pre.Pairwise (fun a b => a.id < b.id) ∧ ∀ x ∈ pre,TaskV h x) (by simp) ?_ ?_
  ·intro pre x post s n he hI hn
   have hx : x ∈ h.tasks := by rw [he]; simp
   unfold Vt
   refine Ok.step (AgV h.tasks x.process (by omega)) ?_
   have hJt : ¬ WfH h → Ok (Ci n true) (fun b => b = true ↔ WfH h) := bad
   refine Ok.ite (fun c => ?_) fun c => ?_
   ·have := of_decide_eq_true c
    exact hJt fun w => by have := (w.val x hx).pos; omega
   have hpos := of_decide_eq_false c
   have tail : (∀ y ∈ pre,y.id < x.id) → Ok (Option.bind (Gd h.tree x.group) fun r51 => (if (!r51) then ((Ci n) true) else (if (decide (x.user < 0)) then ((Ci n) true) else (if (decide (x.user > 1048576)) then ((Ci n) true) else (if (!((Fd h.tasks x.process).elim (zK,false) (fun y => (y,y.process == x.process))).2) then ((Ci n) true) else ((Ci n) (((Fd h.tasks x.process).elim (zK,false) (fun y => (y,y.process == x.process))).1.user != x.user))))))) (fun b => b = true ↔ WfH h) := by
    intro hlt
    refine Ok.step (Mz wt x.group) ?_
    refine Ok.ite (fun c => ?_) fun c => ?_
    ·exact hJt fun w => by have := (w.val x hx).grp; simp [this] at c
    have hg : Gs h.tree x.group = true := by simpa using c
    refine Ok.ite (fun c => ?_) fun c => ?_
    ·have := of_decide_eq_true c
     exact hJt fun w => by have := (w.val x hx).u1; omega
    have hu1 := of_decide_eq_false c
    refine Ok.ite (fun c => ?_) fun c => ?_
    ·have := of_decide_eq_true c
     exact hJt fun w => by have := (w.val x hx).u2; omega
    have hu2 := of_decide_eq_false c
    cases hk : Fd h.tasks x.process with
    | none =>
     simp only [Option.elim_none]
     exact hJt fun w => by
      obtain ⟨p,hp,_⟩ := (w.val x hx).ldr
      rw [hk] at hp
      simp at hp
    | some p =>
     simp only [Option.elim_some]
     refine Ok.ite (fun c => ?_) fun c => ?_
     ·exact hJt fun w => by
       obtain ⟨q,hq,hq2,_⟩ := (w.val x hx).ldr
       rw [hk] at hq
       obtain rfl : p = q := by simpa using hq
       simp [hq2] at c
     have hp2 : p.process = x.process := by simpa using c
     unfold Ci
     refine Ok.ite (fun c => ?_) fun c => ?_
     ·refine bad fun w => ?_
      obtain ⟨q,hq,_,hq3⟩ := (w.val x hx).ldr
      rw [hk] at hq
      obtain rfl : p = q := by simpa using hq
      simp [hq3] at c
     have hp3 : p.user = x.user := by simpa using c
     refine hn () ⟨?_,?_⟩
     ·rw [List.pairwise_append]
      exact ⟨hI.1,by simp,fun a ha b hb => by simp at hb; subst hb; exact hlt a ha⟩
     ·intro y hy
      rcases List.mem_append.mp hy with hy | hy
      ·exact hI.2 y hy
      ·obtain rfl : y = x := by simpa using hy
       exact ⟨by omega,hg,by omega,by omega,p,hk,hp2,hp3⟩
   refine Ok.ite (fun c => ?_) fun c => ?_
   ·have hk := of_decide_eq_true c
    rcases Ke pre with rfl | ⟨pr,y,rfl⟩
    ·simp at hk
    have hw : w64 (((pr ++ [y]).length : Int) - 1) = (pr.length : Int) := by
     have : (pr ++ [y]).length ≤ h.tasks.length := by rw [he]; simp
     rw [Ay (by omega) (by omega)]
     simp
    have hle : pr.length < h.tasks.length := by rw [he]; simp
    have ey : h.tasks.getD (Int.toNat (pr.length : Int)) default = y := by
     rw [he,show Int.toNat (pr.length : Int) = pr.length by omega]
     exact Tu
    rw [hw,ey]
    refine Ok.guard (by omega) ?_
    refine Ok.ite (fun c => ?_) fun c => ?_
    ·have := of_decide_eq_true c
     refine hJt fun w => ?_
     have hs := w.sorted
     rw [he,List.pairwise_append] at hs
     have := hs.2.2 y (by simp) x (by simp)
     omega
    ·have hyx := of_decide_eq_false c
     refine tail fun z hz => ?_
     rcases List.mem_append.mp hz with hz | hz
     ·have := hI.1
      rw [List.pairwise_append] at this
      have := this.2.2 z hz y (by simp)
      omega
     ·obtain rfl : z = y := by simpa using hz
      omega
   ·have hk := of_decide_eq_false c
    have : pre = [] := List.length_eq_zero_iff.mp (by omega)
    subst this
    exact tail (by simp)
  ·intro _ hI
   refine Ok.ret ⟨fun _ => ⟨wt,hl,by omega,by omega,hI.1,?_,hI.2⟩,fun _ => rfl⟩
   intro x hx
   rcases Ke h.tasks with e | ⟨P,y,e⟩
   ·rw [e] at hx; simp at hx
   ·have hy := hlast y (by rw [e]; simp)
    have hp := hI.1
    rw [e] at hp hx
    rw [List.pairwise_append] at hp
    rcases List.mem_append.mp hx with hx | hx
    ·have := hp.2.2 x hx y (by simp)
     omega
    ·obtain rfl : x = y := by simpa using hx
     exact hy
 refine Ok.ite (fun c => ?_) fun c => ?_
 ·have hpos := of_decide_eq_true c
  have hw : w64 ((h.tasks.length : Int) - 1) = ((h.tasks.length - 1 : Nat) : Int) := by
   rw [Ay (by omega) (by omega)]
   omega
  rw [hw]
  refine Ok.guard (by omega) ?_
  have : Int.toNat ((h.tasks.length - 1 : Nat) : Int) = h.tasks.length - 1 := by omega
  rw [this,Gj (by omega)]
  refine Ok.ite (fun c => ?_) fun c => ?_
  ·have := of_decide_eq_true c
   exact bad fun w => by have := w.lt _ (List.getElem_mem (show h.tasks.length - 1 < h.tasks.length by omega)); omega
  ·have := of_decide_eq_false c
   refine loop fun x hx => ?_
   rw [List.getLast?_eq_getElem?] at hx
   have e : h.tasks[h.tasks.length - 1]? = some h.tasks[h.tasks.length - 1] := List.getElem?_eq_getElem (by omega)
   rw [e] at hx
   obtain rfl : h.tasks[h.tasks.length - 1] = x := by simpa using hx
   omega
 ·have := of_decide_eq_false c
  have e : h.tasks = [] := List.length_eq_zero_iff.mp (by omega)
  exact loop (by rw [e]; simp)
theorem Iv {h : Aa} (w : WfH h) : Gc h = some true := by
 obtain ⟨b,hb,e⟩ := Adi h
 rw [hb,e.mpr w]
theorem Rr {h : Aa} (w : ¬ WfH h) : Gc h = some false := by
 obtain ⟨b,hb,e⟩ := Adi h
 cases b
 ·exact hb
 ·exact absurd (e.mp rfl) w
theorem To {h : Aa} (w : WfH h) (id : Int) : Hm h id = some ((Fd h.tasks id).elim (zK,false) (fun x => (x,true))) := by
 unfold Hm
 rw [Iv w]
 have := w.len
 simp only [Option.bind_some,Bool.not_true,Bool.false_eq_true,if_false]
 rw [if_pos (by omega)]
 exact Is (fun k x n => rfl) rfl
theorem AjG {h : Aa} (w : ¬ WfH h) (id : Int) : Hm h id = some (zK,false) := by
 unfold Hm
 rw [Rr w]
 rfl
def tasksK (h : Aa) (g : Int) : List Int := (h.tasks.filter (fun x => x.group == g)).map (·.id)
theorem AiM {h : Aa} (w : WfH h) (g : Int) : Iw h g = some (tasksK h g) := by
 unfold Iw
 rw [Iv w]
 have := w.len
 simp only [Option.bind_some,Bool.not_true,Bool.false_eq_true,if_false]
 rw [if_pos (by omega)]
 refine (Hc (p := fun x : Aw => x.group == g) (f := fun x : Aw => x.id) (r := some) ?_ (fun _ => rfl) (by simp; omega)).trans (by simp [tasksK])
 intro k x s n hs
 unfold Aan Rm
 rw [if_pos hs]
theorem Ajb {h : Aa} (w : ¬ WfH h) (g : Int) : Iw h g = some [] := by
 unfold Iw
 rw [Rr w]
 rfl
theorem AjE {L : List Aw} (h : L.Pairwise (fun a b => a.id < b.id)) {x y : Aw} (hx : x ∈ L) (hy : y ∈ L) (e : x.id = y.id) : x = y := by
 induction L with
 | nil => simp at hx
 | cons a r ih =>
  rw [List.pairwise_cons] at h
  rcases List.mem_cons.mp hx with ex | hx' <;> rcases List.mem_cons.mp hy with ey | hy'
  ·rw [ex,ey]
  ·have := h.1 y hy'; rw [ex] at e; omega
  ·have := h.1 x hx'; rw [ey] at e; omega
  ·exact ih h.2 hx' hy'
theorem Uj {L : List Aw} {id : Int} {x : Aw} (h : Fd L id = some x) : x ∈ L ∧ x.id = id :=
 ⟨List.mem_of_find?_eq_some h,by have := List.find?_some h; simpa using this⟩
theorem AeT {L : List Aw} (hs : L.Pairwise (fun a b => a.id < b.id)) {x : Aw} (h : x ∈ L) : Fd L x.id = some x := by
 unfold Fd
 cases hf : L.find? (fun y => y.id == x.id) with
 | none =>
  rw [List.find?_eq_none] at hf
  have := hf x h
  simp at this
 | some y =>
  have h1 := List.mem_of_find?_eq_some hf
  have h2 := List.find?_some hf
  rw [AjE hs h1 h (by simpa using h2)]
theorem getK_iff {L : List Aw} (hs : L.Pairwise (fun a b => a.id < b.id)) {id : Int} {x : Aw} : Fd L id = some x ↔ x ∈ L ∧ x.id = id :=
 ⟨Uj,fun ⟨h1,h2⟩ => by rw [← h2]; exact AeT hs h1⟩
end Go.Dm

/- Plain theory, part 8: tasks that come, go and move. -/
namespace Go.Dm
theorem AfR {α : Type} {M : List α} {m : Nat} {d : α} (h : m < M.length) : M.set m (M.getD m d) = M := by
 rw [Gj h]
 exact List.set_getElem_self h
theorem AhS {α R : Type} {f : α → α} {L : List α} {d : α} {body : List α × Int → (List α × Int → Option R) → Option R} {ret : List α → Option R} (hl : L.length ≤ 1000000)
  (hb : ∀ (M : List α) (m : Nat) n,M.length = L.length → m < L.length → body (M,(m : Int)) n = n (M.set m (f (M.getD m d)),((m + 1 : Nat) : Int)))
  (hr : ∀ (M : List α) n,M.length = L.length → body (M,(L.length : Int)) n = ret M) : whileO body Ej (L,0) = ret (L.map f) := by
 have key : ∀ (r m F : Nat),m + r = L.length → r < F → whileO body F ((L.take m).map f ++ L.drop m,(m : Int)) = ret (L.map f) := by
  intro r
  induction r with
  | zero =>
   intro m F hm hF
   obtain ⟨F,rfl⟩ : ∃ G,F = G + 1 := ⟨F - 1,by omega⟩
   obtain rfl : m = L.length := by omega
   rw [whileO,hr _ _ (by simp)]
   simp
  | succ r ih =>
   intro m F hm hF
   obtain ⟨F,rfl⟩ : ∃ G,F = G + 1 := ⟨F - 1,by omega⟩
   have hlt : m < L.length := by omega
   rw [whileO,hb _ _ _ (by simp; omega) hlt]
   have hd : L.drop m = L[m] :: L.drop (m + 1) := List.drop_eq_getElem_cons hlt
   have hml : (List.map f (List.take m L)).length = m := by
    rw [List.length_map,List.length_take]; omega
   have hg : ((L.take m).map f ++ L.drop m).getD m d = L[m] := by
    rw [hd,List.getD_eq_getElem?_getD,List.getElem?_append_right (by omega),hml,Nat.sub_self]
    rfl
   have ht : (L.take (m + 1)).map f ++ L.drop (m + 1) = (L.take m).map f ++ f L[m] :: L.drop (m + 1) := by
    have : L.take (m + 1) = L.take m ++ [L[m]] := by
     rw [List.take_add_one]; simp [hlt]
    rw [this,List.map_append,List.append_assoc]
    rfl
   rw [hg,hd,List.set_append_right _ _ (by omega),hml,Nat.sub_self,List.set_cons_zero,← ht]
   exact ih (m + 1) F (by omega) (by omega)
 have := key L.length 0 Ej (by omega) (by rw [Df]; omega)
 simpa using this
def zH : Aa := { tree := zT,tasks := [],next := 0 }
theorem Vl (h : Aa) (h1 : h.tree.nodes.length ≤ 1000000) (h2 : h.tasks.length ≤ 1000000) : Oy h = some h := by
 unfold Oy
 rw [Ve _ (by omega),Option.bind_some,if_pos (by omega)]
def addK (h : Aa) (x : Aw) : Aa × Int × Int :=
 if decide (128 ≤ h.tasks.length) || decide (2147483647 < h.next) then (zH,0,7)
 else ({ tree := h.tree,tasks := h.tasks ++ [{ id := h.next,process := if x.process == 0 then h.next else x.process,group := x.group,user := x.user }],next := h.next + 1 },h.next,0)
theorem Agq {h : Aa} (w : WfH h) (x : Aw) : Wr h x = some (addK h x) := by
 have hl := w.len
 have h2 := w.tree.len2
 have hn := w.n1
 have hm := w.n2
 apply Ok.eq
 unfold Wr addK
 refine Ok.ite (fun c => ?_) fun c => ?_
 ·simp only [Bool.or_eq_true,decide_eq_true_eq] at c
  rw [if_pos]
  ·exact Ok.ret rfl
  ·simp only [Bool.or_eq_true,decide_eq_true_eq]
   omega
 ·simp only [Bool.or_eq_false_iff,decide_eq_false_iff_not] at c
  rw [if_neg]
  ·refine Ok.step (Vl h (by omega) (by omega)) ?_
   unfold Ur
   rw [Ay (by omega) (by omega)]
   refine Ok.ite (fun c => ?_) fun c => ?_
   ·rw [if_pos (c := (x.process == 0) = true) c]
    exact Ok.guard (by omega) (Ok.ret rfl)
   ·rw [if_neg (c := (x.process == 0) = true) (by rw [c]; simp)]
    exact Ok.guard (by omega) (Ok.ret rfl)
  ·simp only [Bool.or_eq_true,decide_eq_true_eq]
   omega
theorem Aby {L M : List Aw} {p : Int} : Fd (L ++ M) p = (Fd L p).or (Fd M p) := by
 unfold Fd
 rw [List.find?_append]
theorem addK_wf {h : Aa} (w : WfH h) {x : Aw} (hg : Gs h.tree x.group = true) (u1 : 0 ≤ x.user) (u2 : x.user ≤ 1048576) (hp : x.process = 0 ∨ x ∈ h.tasks) {r : Aa × Int × Int} (e : addK h x = r) (hr : r.2.2 = 0) : WfH r.1 := by
 have hl := w.len
 have hn := w.n1
 have hm := w.n2
 unfold addK at e
 split at e
 ·subst e; simp at hr
 rename_i hc
 simp only [Bool.or_eq_true,decide_eq_true_eq,not_or] at hc
 subst e
 have hlt := w.lt
 refine ⟨w.tree,by simp; omega,by simp only; omega,by simp only; omega,?_,?_,?_⟩
 ·rw [List.pairwise_append]
  exact ⟨w.sorted,by simp,fun a ha b hb => by simp at hb; subst hb; exact hlt a ha⟩
 ·intro y hy
  simp only
  rcases List.mem_append.mp hy with hy | hy
  ·have := hlt y hy
   omega
  ·simp at hy; subst hy; simp only; omega
 ·intro y hy
  rcases List.mem_append.mp hy with hy | hy
  ·have v := w.val y hy
   obtain ⟨p,q1,q2,q3⟩ := v.ldr
   exact ⟨v.pos,v.grp,v.u1,v.u2,p,by simp only; rw [Aby,q1]; rfl,q2,q3⟩
  ·rw [List.mem_singleton] at hy
   subst hy
   refine ⟨by simp only; omega,hg,u1,u2,?_⟩
   simp only
   have hq : (x.process = 0 ∧ (if (x.process == 0) = true then h.next else x.process) = h.next) ∨ (x.process ≠ 0 ∧ (if (x.process == 0) = true then h.next else x.process) = x.process) := by
    by_cases h0 : x.process = 0
    ·exact .inl ⟨h0,by rw [if_pos (by simp [h0])]⟩
    ·exact .inr ⟨h0,by rw [if_neg (by simpa using h0)]⟩
   generalize (if (x.process == 0) = true then h.next else x.process) = q at hq
   rcases hq with ⟨h0,rfl⟩ | ⟨h0,rfl⟩
   ·refine ⟨{ id := h.next,process := h.next,group := x.group,user := x.user },?_,rfl,rfl⟩
    rw [Aby]
    have : Fd h.tasks h.next = none := by
     unfold Fd
     rw [List.find?_eq_none]
     intro z hz
     have := hlt z hz
     simp; omega
    rw [this]
    simp [Fd]
   ·have v := w.val x (by rcases hp with h | h; exact absurd h h0; exact h)
    obtain ⟨p,q1,q2,q3⟩ := v.ldr
    exact ⟨p,by rw [Aby,q1]; rfl,q2,q3⟩
def Agw (h : Aa) (g u : Int) : Aa × Int × Int :=
 if decide (u < 0) || decide (1048576 < u) then (zH,0,1) else if !Gs h.tree g then (zH,0,4) else addK h { id := 0,process := 0,group := g,user := u }
theorem Ajf {h : Aa} (w : WfH h) (g u : Int) : Up h g u = some (Agw h g u) := by
 apply Ok.eq
 unfold Up Agw
 refine Ok.step (Iv w) ?_
 simp only [Bool.not_true,Bool.false_eq_true,if_false]
 unfold Nx
 by_cases h1 : u < 0
 ·simp only [h1,decide_true,if_true,Bool.true_or]
  exact Ok.ret rfl
 by_cases h2 : u > 1048576
 ·have : 1048576 < u := by omega
  simp only [h2,decide_true,if_true,Bool.or_true,ite_self]
  exact Ok.ret rfl
 ·have h3 : ¬ 1048576 < u := by omega
  simp only [h1,h2,decide_false,Bool.or_self,Bool.false_eq_true,if_false]
  refine Ok.step (Mz w.tree g) ?_
  refine Ok.ite (fun c => ?_) fun c => ?_
  ·rw [if_pos c]; exact Ok.ret rfl
  ·rw [if_neg (c := (!Gs h.tree g) = true) (by rw [c]; simp)]
   refine Ok.step (Agq w _) (Ok.ret rfl)
theorem spawnK_wf {h : Aa} (w : WfH h) {g u : Int} {r : Aa × Int × Int} (e : Agw h g u = r) (hr : r.2.2 = 0) : WfH r.1 := by
 unfold Agw at e
 split at e
 ·subst e; simp at hr
 split at e
 ·subst e; simp at hr
 rename_i h1 h2
 simp only [Bool.or_eq_true,decide_eq_true_eq,not_or] at h1
 exact addK_wf w (by simpa using h2) (by simp only; omega) (by simp only; omega) (.inl rfl) e hr
def Age (h : Aa) (k : Int) : Aa × Int × Int := (Fd h.tasks k).elim (zH,0,4) (addK h)
theorem Aiu {h : Aa} (w : WfH h) (k : Int) : Vq h k = some (Age h k) := by
 apply Ok.eq
 unfold Vq Age
 refine Ok.step (Iv w) ?_
 simp only [Bool.not_true,Bool.false_eq_true,if_false]
 refine Ok.step (To w k) ?_
 cases Fd h.tasks k with
 | none => exact Ok.ret rfl
 | some x =>
  simp only [Option.elim_some,Bool.not_true,Bool.false_eq_true,if_false]
  exact Ok.step (Agq w _) (Ok.ret rfl)
theorem cloneK_wf {h : Aa} (w : WfH h) {k : Int} {r : Aa × Int × Int} (e : Age h k = r) (hr : r.2.2 = 0) : WfH r.1 := by
 unfold Age at e
 cases hk : Fd h.tasks k with
 | none => rw [hk] at e; subst e; simp at hr
 | some x =>
  rw [hk] at e
  obtain ⟨hx,_⟩ := Uj hk
  have v := w.val x hx
  exact addK_wf w v.grp v.u1 v.u2 (.inr hx) e hr
def exitK (h : Aa) (k : Int) : Aa × Int :=
 (Fd h.tasks k).elim (zH,4) fun _ => ({ tree := h.tree,tasks := h.tasks.filter (fun x => x.id != k && x.process != k),next := h.next },0)
theorem AjH {h : Aa} (w : WfH h) (k : Int) : Xx h k = some (exitK h k) := by
 have hl := w.len
 have h2 := w.tree.len2
 apply Ok.eq
 unfold Xx exitK
 refine Ok.step (Iv w) ?_
 simp only [Bool.not_true,Bool.false_eq_true,if_false]
 refine Ok.step (To w k) ?_
 cases Fd h.tasks k with
 | none => exact Ok.ret rfl
 | some x =>
  simp only [Option.elim_some,Bool.not_true,Bool.false_eq_true,if_false]
  refine Ok.step (Ve _ (by omega)) ?_
  refine Ok.guard (by omega) ?_
  have e := Hc (p := fun x : Aw => x.id != k && x.process != k) (f := fun x : Aw => x) (xs := h.tasks) (s0 := []) (r := Xe h h.tree) (body := Xi k) (done := Xe h h.tree) (fun k x s n hs => by
   unfold Xi Tf
   rw [if_pos hs]) (fun _ => rfl) (by simp; omega)
  rw [e]
  refine Ok.ret ?_
  simp
theorem exitK_wf {h : Aa} (w : WfH h) {k : Int} {r : Aa × Int} (e : exitK h k = r) (hr : r.2 = 0) : WfH r.1 := by
 unfold exitK at e
 cases hk : Fd h.tasks k with
 | none => rw [hk] at e; subst e; simp at hr
 | some x =>
  rw [hk] at e
  subst e
  have hs : (h.tasks.filter (fun x => x.id != k && x.process != k)).Pairwise (fun a b => a.id < b.id) := w.sorted.sublist List.filter_sublist
  refine ⟨w.tree,Nat.le_trans (List.length_filter_le _ _) w.len,w.n1,w.n2,hs,fun y hy => w.lt y (List.mem_filter.mp hy).1,fun y hy => ?_⟩
  obtain ⟨hy,hc⟩ := List.mem_filter.mp hy
  have v := w.val y hy
  obtain ⟨p,q1,q2,q3⟩ := v.ldr
  obtain ⟨m1,m2⟩ := Uj q1
  simp only [Bool.and_eq_true,bne_iff_ne] at hc
  refine ⟨v.pos,v.grp,v.u1,v.u2,p,?_,q2,q3⟩
  refine (getK_iff hs).mpr ⟨List.mem_filter.mpr ⟨m1,?_⟩,m2⟩
  simp only [Bool.and_eq_true,bne_iff_ne]
  omega
def putK (k g : Int) (y : Aw) : Aw := if y.id == k then { id := y.id,process := y.process,group := g,user := y.user } else y
def Agx (h : Aa) (k g : Int) : Aa × Int :=
 if (Fd h.tasks k).isSome && Gs h.tree g then ({ tree := h.tree,tasks := h.tasks.map (putK k g),next := h.next },0) else (zH,4)
theorem Aix {h : Aa} (w : WfH h) (k g : Int) : Vb h k g = some (Agx h k g) := by
 have hl := w.len
 have h2 := w.tree.len2
 apply Ok.eq
 unfold Vb Agx
 refine Ok.step (Iv w) ?_
 simp only [Bool.not_true,Bool.false_eq_true,if_false]
 refine Ok.step (To w k) ?_
 cases hk : Fd h.tasks k with
 | none => exact Ok.ret rfl
 | some x =>
  simp only [Option.elim_some,Bool.not_true,Bool.false_eq_true,if_false,Option.isSome_some,Bool.true_and]
  refine Ok.step (Mz w.tree g) ?_
  unfold Rt
  refine Ok.ite (fun c => ?_) fun c => ?_
  ·rw [if_neg (by simpa using c)]; exact Ok.ret rfl
  ·rw [if_pos (c := Gs h.tree g = true) (by simpa using c)]
   refine Ok.step (Vl h (by omega) (by omega)) ?_
   have e := AhS (f := putK k g) (L := h.tasks) (d := default) (body := Rx k g h) (ret := fun M => some (({ tree := h.tree,tasks := M,next := h.next } : Aa),0)) (by omega) (fun M m n hM hm => by
    unfold Rx Rw
    simp only
    have em : Int.toNat (m : Int) = m := by omega
    rw [em,if_pos (by simp; omega),if_pos (by omega),if_pos (by omega),Ay (by omega) (by omega)]
    have ew : (m : Int) + 1 = ((m + 1 : Nat) : Int) := by omega
    rw [ew]
    by_cases hc : (M.getD m default).id = k
    ·rw [if_pos (by rw [hc]; simp),if_pos (by omega),if_pos (by omega),putK,if_pos (by rw [hc]; simp)]
    ·have hc' : ((M.getD m default).id == k) = false := by simpa using hc
     rw [if_neg (by rw [hc']; simp),putK,if_neg (by rw [hc']; simp),AfR (by omega)]) (fun M n hM => by
    unfold Rx
    simp only
    rw [hM,if_neg (by simp)])
   rw [e]
   exact Ok.ret rfl
theorem Mt (k g : Int) (y : Aw) : (putK k g y).id = y.id ∧ (putK k g y).process = y.process ∧ (putK k g y).user = y.user := by
 unfold putK
 split <;> exact ⟨rfl,rfl,rfl⟩
theorem getK_map {L : List Aw} {f : Aw → Aw} (hf : ∀ y ∈ L,(f y).id = y.id) {p : Int} : Fd (L.map f) p = (Fd L p).map f := by
 induction L with
 | nil => rfl
 | cons a r ih =>
  unfold Fd at *
  rw [List.map_cons,List.find?_cons,List.find?_cons,hf a (by simp)]
  cases (a.id == p)
  ·exact ih fun y hy => hf y (by simp [hy])
  ·rfl
theorem placeK_wf {h : Aa} (w : WfH h) {k g : Int} {r : Aa × Int} (e : Agx h k g = r) (hr : r.2 = 0) : WfH r.1 := by
 unfold Agx at e
 split at e
 case isFalse => subst e; simp at hr
 rename_i hc
 subst e
 simp only [Bool.and_eq_true] at hc
 refine ⟨w.tree,by simp; exact w.len,w.n1,w.n2,?_,?_,?_⟩
 ·rw [List.pairwise_map]
  refine w.sorted.imp fun h => ?_
  rw [(Mt k g _).1,(Mt k g _).1]
  exact h
 ·intro y hy
  obtain ⟨z,hz,rfl⟩ := List.mem_map.mp hy
  rw [(Mt k g _).1]
  exact w.lt z hz
 ·intro y hy
  obtain ⟨z,hz,rfl⟩ := List.mem_map.mp hy
  have v := w.val z hz
  obtain ⟨p,q1,q2,q3⟩ := v.ldr
  refine ⟨by rw [(Mt k g _).1]; exact v.pos,?_,by rw [(Mt k g _).2.2]; exact v.u1,by rw [(Mt k g _).2.2]; exact v.u2,putK k g p,?_,?_,?_⟩
  ·unfold putK
   split
   ·exact hc.2
   ·exact v.grp
  ·simp only
   rw [getK_map (fun y _ => (Mt k g y).1),(Mt k g _).2.1,q1]
   rfl
  ·rw [(Mt k g _).2.1,(Mt k g _).2.1,q2]
  ·rw [(Mt k g _).2.2,(Mt k g _).2.2,q3]
end Go.Dm

/- Plain theory, part 9: made hierarchies. -/
namespace Go.Dm
abbrev Tot {α : Type} (m : Option α) : Prop := Ok m (fun _ => True)
theorem Fg (t : Ag) (id : Int) : Tot (Dp t id) := by
 by_cases h : WfT t
 ·exact Ok.of_eq (Qj h id) trivial
 ·exact Ok.of_eq (AbD h id) trivial
theorem Aji (t : Ag) (id : Int) : Tot (Gd t id) := by
 unfold Gd
 exact Ok.bind (Fg t id) fun _ _ => Ok.ret trivial
theorem AdM (t : Ag) (id : Int) : (Kf t id).length ≤ t.nodes.length := by
 unfold Kf
 rw [List.length_map]
 exact List.length_filter_le _ _
theorem Zd (t : Ag) (id : Int) : Ok (Hy t id) (fun l => l.length ≤ 64) := by
 by_cases h : WfT t
 ·refine Ok.of_eq (Abj h id) ?_
  have := AdM t id
  have := h.len2
  split
  ·omega
  ·simp
 ·unfold Hy
  refine Ok.step (Acs h id) ?_
  exact Ok.ret (by simp)
theorem Ajw (t : Ag) (id : Int) : (ancN t id).length ≤ t.nodes.length := by
 unfold ancN
 have := Pi t.nodes.reverse id
 simp at this
 split
 ·exact this
 ·simp
theorem Aef (t : Ag) (id : Int) : Ok (Fo t id) (fun l => l.length ≤ 64) := by
 by_cases h : WfT t
 ·refine Ok.of_eq (Pp h id) ?_
  have := Ajw t id
  have := h.len2
  omega
 ·unfold Fo
  refine Ok.step (Acs h id) ?_
  exact Ok.ret (by simp)
theorem Adf (h : Aa) (id : Int) : Tot (Hm h id) := by
 by_cases w : WfH h
 ·exact Ok.of_eq (To w id) trivial
 ·exact Ok.of_eq (AjG w id) trivial
theorem Si (h : Aa) (id : Int) : Tot (Iw h id) := by
 by_cases w : WfH h
 ·exact Ok.of_eq (AiM w id) trivial
 ·exact Ok.of_eq (Ajb w id) trivial
theorem Ul {α β : Type} {body : Nat → α → Unit → (Unit → Option β) → Option β} {done : Unit → Option β} {xs : List α} (hb : ∀ k x n,Tot (n ()) → Tot (body k x () n)) (hd : Tot (done ())) : Tot (Bl body done xs 0 ()) :=
 Ok.range (fun _ _ => True) trivial (fun _ _ _ _ _ _ _ hn => hb _ _ _ (hn () trivial)) (fun _ _ => hd)
theorem AgN (t : Ag) (id : Int) : Tot (Te t id) := by
 unfold Te
 refine Ok.bind (Fg _ _) fun _ _ => Ok.ite (fun _ => Ok.ret trivial) fun _ => ?_
 exact Ok.bind (Fg _ _) fun _ _ => Ok.ite (fun _ => Ok.ret trivial) fun _ => Ok.ret trivial
theorem Yh (t : Ag) (id : Int) : Tot (Lv t id) := by
 unfold Lv
 have hJ : ∀ r y,Tot (Jy r y) := fun r y => by
  unfold Jy Me
  exact Ok.ite (fun _ => Ok.ret trivial) fun _ => Ok.ret trivial
 refine Ok.bind (Fg _ _) fun _ _ => Ok.ite (fun _ => Ok.ret trivial) fun _ => Ok.ite (fun _ => ?_) fun _ => hJ _ _
 exact Ok.bind (AgN _ _) fun _ _ => hJ _ _
theorem Adm (h : Aa) : Ok (Sr h) (fun b => b = true → WfH h) := by
 unfold Sr
 by_cases w : WfH h
 ·have := w.tree.len2
  refine Ok.step (Iv w) (Ok.guard (by omega) ?_)
  refine Ok.mono (P := fun _ => True) ?_ fun _ _ _ => w
  refine Ul (fun k x n hn => ?_) (Ok.ret trivial)
  unfold AaH
  have hJ : ∀ b,Tot (Kq n b) := fun b => by
   unfold Kq
   exact Ok.ite (fun _ => Ok.ret trivial) fun _ => hn
  refine Ok.bind (Yh _ _) fun _ _ => Ok.ite (fun _ => hJ _) fun _ => Ok.ite (fun _ => Ok.ite (fun _ => ?_) fun _ => hJ _) fun _ => hJ _
  exact Ok.bind (Si _ _) fun _ _ => hJ _
 ·exact Ok.step (Rr w) (Ok.ret fun e => by simp at e)
theorem Qu (t : Ag) (id : Int) : Tot (Ls t id) := by
 unfold Ls
 refine Ok.bind (Aef _ _) fun l hl => Ok.guard (by omega) ?_
 refine Ul (fun k x n hn => ?_) (Ok.ret trivial)
 unfold Yq
 exact Ok.bind (Fg _ _) fun _ _ => Ok.ite (fun _ => Ok.ret trivial) fun _ => hn
theorem Vo (t : Ag) (id : Int) (b : Bool) : Tot (Nm t id b) := by
 unfold Nm
 refine Ok.ite (fun _ => Ok.ret trivial) fun _ => ?_
 refine Ok.bind (Zd _ _) fun l hl => Ok.guard (by omega) ?_
 refine Ul (fun k x n hn => ?_) (Ok.ret trivial)
 unfold Abz
 exact Ok.bind (Fg _ _) fun _ _ => Ok.ite (fun _ => Ok.ret trivial) fun _ => hn
theorem Ahb {t : Ag} (w : WfT t) : ∀ (n : Nat) (id : Int),id.toNat < n → Tot (Ll n t id) := by
 intro n
 induction n with
 | zero => intro id h; omega
 | succ n ih =>
  intro id hlt
  unfold Ll Sj
  refine Ok.step (Qj w id) ?_
  cases hg : Ut t id with
  | none => exact Ok.ret trivial
  | some x =>
   obtain ⟨hx,hxi⟩ := Xr hg
   simp only [Option.elim_some,Bool.not_true,Bool.false_eq_true,if_false]
   refine Ok.ite (fun _ => Ok.ret trivial) fun _ => ?_
   refine Ok.step (Qj w x.parent) ?_
   cases hp : Ut t x.parent with
   | none => exact Vo t id false
   | some p =>
    obtain ⟨hpm,hpi⟩ := Xr hp
    simp only [Option.elim_some,if_true]
    refine Ok.ite (fun _ => Vo _ _ _) fun _ => ?_
    refine Ok.bind (ih p.id ?_) fun _ _ => Vo _ _ _
    have g1 := w.p.ge1 p hpm
    rcases w.p.par x hx with ⟨_,r⟩ | ⟨a,b,_⟩
    ·have := r.parent; omega
    ·omega
theorem Pt (t : Ag) (id : Int) : Tot (Na t id) := by
 by_cases w : WfT t
 ·by_cases hid : id.toNat < Ej
  ·exact Ahb w Ej id hid
  ·unfold Na
   rw [Df] at *
   unfold Ll Sj
   refine Ok.step (Qj w id) ?_
   cases hg : Ut t id with
   | none => exact Ok.ret trivial
   | some x =>
    obtain ⟨hx,hxi⟩ := Xr hg
    have := w.next x hx
    have := w.nextLe
    omega
 ·unfold Na
  rw [Df]
  unfold Ll Sj
  exact Ok.step (AbD w id) (Ok.ret trivial)
theorem Oj (h : Aa) : Ok (Lr h) (fun b => b = true → WfH h) := by
 unfold Lr
 refine Ok.bind (Adm h) fun b hb => ?_
 refine Ok.ite (fun _ => Ok.ret fun e => by simp at e) fun c => ?_
 have w : WfH h := hb (by simpa using c)
 have := w.len
 have := w.tree.len2
 refine Ok.mono (P := fun _ => True) ?_ fun _ _ _ => w
 refine Ok.guard (by omega) (Ul (fun k x n hn => ?_) ?_)
 ·unfold Abv
  refine Ok.bind (Adf _ _) fun _ _ => Ok.bind (Qu _ _) fun _ _ => Ok.bind (Qu _ _) fun _ _ => ?_
  exact Ok.ite (fun _ => Ok.ret trivial) fun _ => hn
 ·unfold AbK
  refine Ok.guard (by omega) (Ul (fun k x n hn => ?_) (Ok.ret trivial))
  have h18 : ∀ b,Tot (Kr n b) := fun b => by
   unfold Kr
   exact Ok.ite (fun _ => Ok.ret trivial) fun _ => hn
  have h17 : ∀ r b,Tot (Mf h x n r b) := fun r b => by
   unfold Mf
   refine Ok.ite (fun _ => Ok.ret trivial) fun _ => Ok.ite (fun _ => Ok.ite (fun _ => Ok.ite (fun _ => h18 _) fun _ => ?_) fun _ => ?_) fun _ => h18 _
   ·exact Ok.bind (Pt _ _) fun _ _ => h18 _
   ·exact Ok.bind (Pt _ _) fun _ _ => h18 _
  unfold AbI
  refine Ok.bind (Fg _ _) fun _ _ => Ok.bind (Pt _ _) fun _ _ => ?_
  refine Ok.ite (fun _ => Ok.ite (fun _ => h17 _ _) fun _ => ?_) fun _ => h17 _ _
  exact Ok.bind (Si _ _) fun _ _ => h17 _ _
theorem Ahk (h : Aa) (id a d : Int) : Tot (Vg h id a d) := by
 unfold Vg
 refine Ok.bind (Adm h) fun b hb => ?_
 have hf : Tot (Ja h id a d true) := Ok.ret trivial
 refine Ok.ite (fun _ => hf) fun c => ?_
 have w : WfH h := hb (by simpa using c)
 have := w.len
 have := w.tree.len2
 have hJ4 : ∀ r b,Tot (Mb h a d r b) := fun r b => by
  unfold Mb
  refine Ok.ite (fun _ => Ok.ret trivial) fun _ => ?_
  refine Ok.step (Vl h (by omega) (by omega)) ?_
  exact Ok.step (AbJ h.tree _ (by omega)) (Ok.ret trivial)
 have hJ : ∀ b,Tot (Ja h id a d b) := fun b => by
  unfold Ja
  refine Ok.ite (fun _ => Ok.ret trivial) fun _ => ?_
  refine Ok.bind (Fg _ _) fun r _ => Ok.ite (fun _ => Ok.ret trivial) fun _ => ?_
  refine Ok.bind (Yh _ _) fun _ _ => Ok.ite (fun _ => Ok.ret trivial) fun _ => ?_
  refine Ok.bind (Zd _ _) fun l hl => Ok.guard (by omega) (Ul (fun k x n hn => ?_) ?_)
  ·unfold Aak
   exact Ok.bind (Fg _ _) fun _ _ => Ok.ite (fun _ => Ok.ret trivial) fun _ => hn
  ·unfold Aaw
   refine Ok.ite (fun _ => Ok.ite (fun _ => ?_) fun _ => hJ4 _ _) fun _ => hJ4 _ _
   exact Ok.bind (Si _ _) fun _ _ => hJ4 _ _
 unfold AaC
 refine Ok.step rfl (Ok.ite (fun _ => hf) fun _ => Ok.step rfl (Ok.ite (fun _ => hf) fun _ => hJ _))
theorem Ahd (h : Aa) (id a d : Int) : Ok (Tr h id a d) (fun r => r.2 = 0 → WfH r.1) := by
 unfold Tr
 have bad : ∀ (x : Aa) (n : Int),n ≠ 0 → Ok (some (x,n)) (fun r : Aa × Int => r.2 = 0 → WfH r.1) := fun x n hn => Ok.ret fun e => absurd e hn
 refine Ok.bind (Oj h) fun _ _ => Ok.ite (fun _ => bad _ _ (by decide)) fun _ => ?_
 refine Ok.bind (Ahk _ _ _ _) fun r _ => Ok.ite (fun c => bad _ _ (by simpa using c)) fun _ => ?_
 refine Ok.bind (Oj r.1) fun b hb => Ok.ite (fun _ => bad _ _ (by decide)) fun c => ?_
 exact Ok.ret fun _ => hb (by simpa using c)
theorem AgH (h : Aa) (id : Int) : Ok (Rp h id) (fun r => r.2 = 0 → WfH r.1) := by
 unfold Rp
 have bad : ∀ (x : Aa) (n : Int),n ≠ 0 → Ok (some (x,n)) (fun r : Aa × Int => r.2 = 0 → WfH r.1) := fun x n hn => Ok.ret fun e => absurd e hn
 refine Ok.bind (Oj h) fun b hb => Ok.ite (fun _ => bad _ _ (by decide)) fun c => ?_
 have w : WfH h := hb (by simpa using c)
 have := w.len
 have := w.tree.len2
 have hJ : ∀ r b,Ok (Jz h id r b) (fun r => r.2 = 0 → WfH r.1) := fun r b => by
  unfold Jz
  refine Ok.ite (fun _ => bad _ _ (by decide)) fun _ => Ok.ite (fun _ => bad _ _ (by decide)) fun _ => ?_
  refine Ok.step (Vl h (by omega) (by omega)) (Ok.step (AbJ h.tree _ (by omega)) ?_)
  refine Ok.bind (Si _ _) fun _ _ => ?_
  unfold Oh
  refine Ok.ite (fun _ => bad _ _ (by decide)) fun _ => ?_
  refine Ok.bind (Oj _) fun b hb => Ok.ite (fun _ => bad _ _ (by decide)) fun c => ?_
  exact Ok.ret fun _ => hb (by simpa using c)
 refine Ok.bind (Fg _ _) fun _ _ => Ok.ite (fun _ => bad _ _ (by decide)) fun _ => Ok.ite (fun _ => bad _ _ (by decide)) fun _ => ?_
 refine Ok.bind (Fg _ _) fun _ _ => Ok.bind (Pt _ _) fun _ _ => Ok.ite (fun _ => hJ _ _) fun _ => Ok.ite (fun _ => hJ _ _) fun _ => hJ _ _
theorem Aba (h : Aa) (g : Int) : Tot (Qh h g) := by
 unfold Qh
 refine Ok.bind (Oj h) fun b hb => Ok.ite (fun _ => Ok.ret trivial) fun c => ?_
 refine Ok.bind (Fg _ _) fun _ _ => Ok.ite (fun _ => Ok.ret trivial) fun _ => ?_
 refine Ok.bind (Pt _ _) fun _ _ => Ok.ite (fun _ => Ok.ret trivial) fun _ => Ok.ite (fun _ => Ok.ret trivial) fun _ => Ok.ret trivial
theorem AcV (h : Aa) (k g : Int) : Ok (Lf h k g) (fun r => r.2 = 0 → WfH r.1) := by
 unfold Lf
 have bad : ∀ (x : Aa) (n : Int),n ≠ 0 → Ok (some (x,n)) (fun r : Aa × Int => r.2 = 0 → WfH r.1) := fun x n hn => Ok.ret fun e => absurd e hn
 refine Ok.bind (Oj h) fun b hb => Ok.ite (fun _ => bad _ _ (by decide)) fun c => ?_
 have w : WfH h := hb (by simpa using c)
 have hJ : ∀ r b,Ok (Hn h k g r b) (fun r => r.2 = 0 → WfH r.1) := fun r b => by
  unfold Hn
  refine Ok.ite (fun _ => bad _ _ (by decide)) fun _ => ?_
  refine Ok.bind (Aba _ _) fun _ _ => Ok.ite (fun c => bad _ _ (by simpa using c)) fun _ => ?_
  refine Ok.bind (Qu _ _) fun _ _ => Ok.bind (Qu _ _) fun _ _ => Ok.ite (fun _ => bad _ _ (by decide)) fun _ => ?_
  exact Ok.step (Aix w k g) (Ok.ret fun e => placeK_wf w rfl e)
 refine Ok.bind (Adf _ _) fun _ _ => Ok.ite (fun _ => hJ _ _) fun _ => Ok.bind (Aji _ _) fun _ _ => hJ _ _
theorem step_ok {d : Aq} (hd : Bv d) {h : Aa} (w : WfH h) : Ok (Nu d h) (fun r => WfH r.1 ∧ Bv r.2) := by
 have l1 := w.len
 have l2 := w.tree.len2
 unfold Nu
 refine Ok.bind (Wb hd h.tree (by omega)) fun r1 h1 => Ok.bind (Aco h1 5 (by omega)) fun r2 h2 => ?_
 have hJ1 : ∀ y : Aq × Aa,Bv y.1 → WfH y.2 → Ok (Gw y) (fun r => WfH r.1 ∧ Bv r.2) := fun y a b => Ok.ret ⟨b,a⟩
 have hJ : ∀ b,Ok (Jt h r1 r2 b) (fun r => WfH r.1 ∧ Bv r.2) := fun b => by
  unfold Jt
  refine Ok.ite (fun _ => ?_) fun _ => Ok.ite (fun _ => ?_) fun _ => Ok.ite (fun _ => ?_) fun _ => hJ1 _ h2.1 w
  ·refine Ok.bind (Ahw h2.1) fun r3 h3 => Ok.bind (Ahd _ _ _ _) fun r4 h4 => Ok.ite (fun c => ?_) fun _ => hJ1 _ h3.1 w
   exact Ok.ret ⟨h4 (by simpa using c),h3.1⟩
  ·refine Ok.bind (AgH _ _) fun r4 h4 => Ok.ite (fun c => ?_) fun _ => hJ1 _ h2.1 w
   exact Ok.ret ⟨h4 (by simpa using c),h2.1⟩
  ·refine Ok.step (Qj w.tree _) (Ok.ite (fun c => ?_) fun _ => hJ1 _ h2.1 w)
   cases hg : Ut h.tree r1.1 with
   | none => rw [hg] at c; simp at c
   | some x =>
    obtain ⟨hx,hxi⟩ := Xr hg
    simp only [Option.elim_some]
    refine Ok.bind (Et h2.1 3 (by omega) (by omega)) fun r3 h3 => ?_
    refine Ok.step (AbJ _ _ (by omega)) (hJ1 _ h3.1 ?_)
    have v := w.tree.p.val x hx
    have wt := setT_wf w.tree (x := { id := x.id,parent := x.parent,name := x.name,control := x.control,kind := x.kind,owner := r3.1 }) hx rfl rfl rfl ⟨v.kind,v.c1,v.c2,h3.2.1,by simp only; omega⟩ (fun e => by
     rcases w.tree.p.par x hx with ⟨_,r⟩ | ⟨a,b,_⟩
     ·exact r.kind
     ·omega)
    refine ⟨wt,w.len,w.n1,w.n2,w.sorted,w.lt,fun y hy => ?_⟩
    have u := w.val y hy
    refine ⟨u.pos,?_,u.u1,u.u2,u.ldr⟩
    obtain ⟨z,hz,hzi⟩ := hasN_iff.mp u.grp
    refine hasN_iff.mpr ⟨Yz _ z,List.mem_map.mpr ⟨z,hz,rfl⟩,?_⟩
    unfold Yz
    split
    ·rename_i q
     have q : z.id = x.id := by simpa using q
     simp only
     omega
    ·exact hzi
 exact Ok.ite (fun _ => hJ _) fun _ => hJ _
theorem AdZ {d : Aq} (hd : Bv d) (n m : Int) (n0 : 0 ≤ n) (n1 : n ≤ 100) (m0 : 0 ≤ m) (m1 : m ≤ 100) : Ok (Hp d n m) (fun r => WfH r.1 ∧ Bv r.2) := by
 unfold Hp
 refine Ok.step (a := { tree := newT,tasks := [],next := 1 }) rfl ?_
 refine Ok.bind (Tree_ok hd n n0 (by omega)) fun r1 ⟨w1,h1⟩ => ?_
 rw [Ay (by omega) (by omega)]
 refine Ok.bind (Et h1 (n + 3) (by omega) (by omega)) fun r2 ⟨h2,a1,a2⟩ => ?_
 refine Ok.while (fun s => Bv s.1 ∧ WfH s.2.1 ∧ s.2.2 ≤ 2000) (fun s => s.2.2.toNat) ⟨h2,?_,by simp only; omega⟩ (by rw [Df]; simp only; omega) ?_
 ·exact ⟨w1,by simp,by simp,by simp,by simp,by simp,by simp⟩
 rintro ⟨d,h,c⟩ k ⟨b1,b2,b3⟩ hk
 simp only at b1 b2 b3 hk
 unfold Ow
 simp only
 refine Ok.ite (fun c1 => ?_) fun _ => ?_
 ·have hc := of_decide_eq_true c1
  refine Ok.bind (step_ok b1 b2) fun r3 h3 => ?_
  rw [Ay (by omega) (by omega)]
  exact hk _ ⟨h3.2,h3.1,by simp only; omega⟩ (by simp only; omega)
 rw [Ay (by omega) (by omega)]
 refine Ok.bind (Et b1 (m + 1) (by omega) (by omega)) fun r3 ⟨h3,a3,a4⟩ => ?_
 clear hk
 refine Ok.while (fun s => Bv s.1 ∧ WfH s.2.1 ∧ s.2.2 ≤ 2000) (fun s => s.2.2.toNat) ⟨h3,b2,by simp only; omega⟩ (by rw [Df]; simp only; omega) ?_
 clear b1 b2 b3
 rintro ⟨d,h,c⟩ k ⟨b1,b2,b3⟩ hk
 simp only at b1 b2 b3 hk
 unfold Ob
 simp only
 refine Ok.ite (fun c1 => ?_) fun _ => Ok.ret ⟨b2,b1⟩
 have hc := of_decide_eq_true c1
 have l1 := b2.len
 have l2 := b2.tree.len2
 have hw : w64 (c - 1) = c - 1 := Ay (by omega) (by omega)
 have hJ13 : ∀ y : Aq × Aa,Bv y.1 → WfH y.2 → Ok (Dr (d,h,c) k y) (fun r => WfH r.1 ∧ Bv r.2) := fun y y1 y2 => by
  unfold Dr
  simp only
  rw [hw]
  exact hk _ ⟨y1,y2,by simp only; omega⟩ (by simp only; omega)
 have hJ16 : ∀ y : Aq × Aa,Bv y.1 → WfH y.2 → Ok (Ez (d,h,c) k y) (fun r => WfH r.1 ∧ Bv r.2) := fun y y1 y2 => by
  unfold Ez
  refine Ok.bind (Qi y1 8 (by omega)) fun r4 h4 => Ok.ite (fun _ => ?_) fun _ => hJ13 _ h4 y2
  have := y2.len
  refine Ok.bind (Ahx h4 _ (by omega)) fun r5 h5 => Ok.step (AjH y2 _) (Ok.ite (fun c => ?_) fun _ => hJ13 _ h5 y2)
  exact hJ13 _ h5 (exitK_wf y2 rfl (by simpa using c))
 have hJ15 : ∀ y : Aq × Aa,Bv y.1 → WfH y.2 → Ok (Fa (d,h,c) k y) (fun r => WfH r.1 ∧ Bv r.2) := fun y y1 y2 => by
  unfold Fa
  refine Ok.bind (Qi y1 4 (by omega)) fun r4 h4 => Ok.ite (fun _ => ?_) fun _ => hJ16 _ h4 y2
  have := y2.len
  have := y2.tree.len2
  refine Ok.bind (Ahx h4 _ (by omega)) fun r5 h5 => Ok.bind (Wb h5 _ (by omega)) fun r6 h6 => Ok.bind (AcV _ _ _) fun r7 h7 => Ok.ite (fun c => ?_) fun _ => hJ16 _ h6 y2
  exact hJ16 _ h6 (h7 (by simpa using c))
 have hJ14 : ∀ (r : Int × Aq) (y : Aa),Bv r.2 → WfH y → Ok (Gk (d,h,c) k r y) (fun r => WfH r.1 ∧ Bv r.2) := fun r y y1 y2 => by
  unfold Gk
  refine Ok.bind (Qi y1 3 (by omega)) fun r4 h4 => Ok.ite (fun _ => ?_) fun _ => hJ15 _ h4 y2
  have := y2.len
  refine Ok.bind (Ahx h4 _ (by omega)) fun r5 h5 => Ok.step (Aiu y2 _) (Ok.ite (fun c => ?_) fun _ => hJ15 _ h5 y2)
  exact hJ15 _ h5 (cloneK_wf y2 rfl (by simpa using c))
 refine Ok.bind (Wb b1 _ (by omega)) fun r4 h4 => Ok.bind (Aba _ _) fun _ _ => Ok.ite (fun _ => hJ13 _ h4 b2) fun _ => ?_
 refine Ok.bind (Et h4 3 (by omega) (by omega)) fun r5 h5 => Ok.step (Ajf b2 _ _) (Ok.ite (fun c => ?_) fun _ => hJ14 _ _ h5.1 b2)
 exact hJ14 _ _ h5.1 (spawnK_wf b2 rfl (by simpa using c))
end Go.Dm

/- Plain theory, part 10: the program's own Check of trees. -/
namespace Go.Dm
theorem AfD (bs : ByteArray) (i : Nat) (r : List UInt8) : ByteArray.toList.loop bs i r = r.reverse ++ bs.data.toList.drop i := by
 by_cases h : i < bs.size
 ·rw [ByteArray.toList.loop,if_pos h,AfD bs (i + 1)]
  have hd : bs.data.toList.drop i = bs.get! i :: bs.data.toList.drop (i + 1) := by
   rw [List.drop_eq_getElem_cons (show i < bs.data.toList.length from h)]
   congr 1
   have : bs.get! i = bs.data[i]! := rfl
   rw [this,getElem!_pos bs.data i h]
   simp
  rw [hd]
  simp
 ·rw [ByteArray.toList.loop,if_neg h,List.drop_of_length_le (by simpa using h)]
  simp
termination_by bs.size - i
theorem Ajs (bs : ByteArray) : bs.toList = bs.data.toList := by
 unfold ByteArray.toList
 rw [AfD]
 simp
theorem beqS_eq {a b : ByteArray} (h : Ea a b = true) : a = b := by
 simp only [Ea,beq_iff_eq,Ajs] at h
 exact ByteArray.ext (Array.toList_inj.mp h)
theorem Ajm {c : Int} (h0 : 0 ≤ c) (h : c ≤ 31) : Ek .i64 c 31 = 0 := by
 have : ∀ n : Fin 32,Ek .i64 ((n.val : Nat) : Int) 31 = 0 := by decide
 have := this ⟨c.toNat,by omega⟩
 simpa [Int.toNat_of_nonneg h0] using this
theorem AiF {c : Int} (h : 31 < c) (hc : c < 9223372036854775808) : Ek .i64 c 31 ≠ 0 := by
 obtain ⟨n,rfl⟩ : ∃ n : Nat,c = (n : Int) := ⟨c.toNat,by omega⟩
 intro e
 unfold Ek at e
 have hb : IntKind.i64.bits = 64 := rfl
 rw [hb] at e
 generalize hx : (BitVec.ofInt 64 (n : Int) &&& ~~~(BitVec.ofInt 64 31)) = x at e
 have hn : ∀ i,5 ≤ i → n.testBit i = false := by
  intro i hi
  by_cases h63 : i < 63
  ·have h0 : x.toNat < 2 ^ 64 := x.isLt
   have hle : x.toNat ≤ n := by
    rw [← hx,BitVec.toNat_and]
    refine Nat.le_trans Nat.and_le_left ?_
    rw [BitVec.ofInt_natCast,BitVec.toNat_ofNat]
    exact Nat.mod_le _ _
   have hw : IntKind.i64.wrap ((x.toNat : Nat) : Int) = ((x.toNat : Nat) : Int) := Abf (by omega) (by omega)
   rw [hw] at e
   have hx0 : x = 0#64 := by
    apply BitVec.eq_of_toNat_eq
    simp
    omega
   have : x.getLsbD i = false := by rw [hx0]; simp
   rw [← hx,BitVec.getLsbD_and,BitVec.getLsbD_not] at this
   have h31 : (BitVec.ofInt 64 31).getLsbD i = false := by
    have : (BitVec.ofInt 64 31) = BitVec.ofNat 64 31 := rfl
    rw [this,BitVec.getLsbD_ofNat]
    have : Nat.testBit 31 i = false := Nat.testBit_lt_two_pow (Nat.lt_of_lt_of_le (by decide : 31 < 2 ^ 5) (Nat.pow_le_pow_right (by decide) hi))
    simp [this]
   rw [h31] at this
   have e2 : (BitVec.ofInt 64 (n : Int)).getLsbD i = n.testBit i := by
    rw [BitVec.ofInt_natCast,BitVec.getLsbD_ofNat]
    simp
    omega
   rw [e2] at this
   have h64 : i < 64 := by omega
   simpa [h64] using this
  ·exact Nat.testBit_lt_two_pow (Nat.lt_of_lt_of_le (show n < 2 ^ 63 by omega) (Nat.pow_le_pow_right (by decide) (by omega)))
 have : n < 2 ^ 5 := Nat.lt_pow_two_of_testBit n hn
 omega
theorem AhX (s : ByteArray) (h : s.size ≤ 9223372036854775807) : Uw s = some (Eo s) := by
 apply Ok.eq
 unfold Uw
 refine Ok.guard (by rw [Pu]; exact h) ?_
 refine Ok.range (fun pre _ => pre.all Oq = true) rfl ?_ ?_
 ·intro pre x post _ n e hI hn
  unfold AaF Zp
  refine Ok.step rfl ?_
  refine Ok.ite (fun c => ?_) fun c => ?_
  ·refine Ok.ret ?_
   have : (Iy s).all Oq = false := by
    rw [e,List.all_append,List.all_cons]
    have : Oq x = false := by simpa only [Oq,Bool.not_eq_true'] using c
    simp [this]
   simp [Eo,this]
  ·refine hn () ?_
   have : Oq x = true := by simpa only [Oq,Bool.not_eq_false'] using c
   rw [List.all_append,hI]
   simp [this]
 ·intro _ hI
  unfold Aau Ox
  refine Ok.ite (fun c => ?_) fun c => ?_
  ·have hs : 0 < s.size := by
    rcases Nat.eq_zero_or_pos s.size with h0 | h0
    ·exfalso
     have : s = ByteArray.empty := by
      apply ByteArray.ext
      apply Array.ext
      ·exact h0
      ·intro i h1 h2
       simp at h2
     rw [this] at c
     simp [AhN] at c
    ·exact h0
   refine Ok.ite (fun c2 => ?_) fun c2 => ?_
   ·have := of_decide_eq_true c2
    refine Ok.guard hs (Ok.ret ?_)
    have h32 : s.size ≤ 32 := by omega
    simp [Eo,hs,h32,hI]
   ·have := of_decide_eq_false c2
    refine Ok.ret ?_
    have h32 : ¬ s.size ≤ 32 := by omega
    simp [Eo,h32]
  ·refine Ok.ret ?_
   have : s.size = 0 := by
    rw [beqS_eq (a := s) (b := ByteArray.empty) (by simpa using c)]
    rfl
   simp [Eo,this]
end Go.Dm

/- Plain theory, part 11: the program's Check of trees is the document's. -/
namespace Go.Dm
def Acz (x : Ao) : Prop := x.name.size ≤ 9223372036854775807 ∧ x.control < 9223372036854775808
theorem Aiw {pre : List Ao} {y x : Ao} (hl : pre.length ≤ 1000000) (hx : Acz x) :
  Xv (pre ++ [y]) x = some (decide (y.id < x.id) && Eo x.name && (x.kind == 0 || x.kind == 1) && (pre ++ [y]).any (fun k => k.id == x.parent) && (pre ++ [y]).all (fun k => !(k.parent == x.parent && Ea k.name x.name))) := by
 apply Ok.eq
 unfold Xv
 have hw : w64 (((pre ++ [y]).length : Int) - 1) = (pre.length : Int) := by
  rw [Ay (by simp) (by simp; omega)]
  simp
 have ey : (pre ++ [y]).getD (Int.toNat (pre.length : Int)) default = y := by
  rw [show Int.toNat (pre.length : Int) = pre.length by omega]
  exact AcQ (post := [])
 rw [hw,ey]
 refine Ok.guard (by simp; omega) ?_
 refine Ok.ite (fun c => ?_) fun c => ?_
 ·have := of_decide_eq_true c
  have : ¬ y.id < x.id := by omega
  refine Ok.ret ?_
  simp [this]
 have hlt : y.id < x.id := by
  have := of_decide_eq_false c
  omega
 refine Ok.step (AhX _ hx.1) ?_
 refine Ok.ite (fun c => ?_) fun c => ?_
 ·refine Ok.ret ?_
  have : Eo x.name = false := by simpa using c
  simp [this]
 have hv : Eo x.name = true := by simpa using c
 have hloop : (x.kind == 0 || x.kind == 1) = true → Ok (Kg (pre ++ [y]) x false) (· = (decide (y.id < x.id) && Eo x.name && (x.kind == 0 || x.kind == 1) && (pre ++ [y]).any (fun k => k.id == x.parent) && (pre ++ [y]).all (fun k => !(k.parent == x.parent && Ea k.name x.name)))) := by
  intro hk
  rw [hk,hv]
  simp only [hlt,decide_true,Bool.and_self,Bool.true_and]
  have hlp : (pre ++ [y]).length ≤ 9223372036854775807 := by simp; omega
  generalize pre ++ [y] = P at *
  unfold Kg
  refine Ok.guard hlp ?_
  refine Ok.range (fun pre s => s = pre.any (fun k => k.id == x.parent) ∧ pre.all (fun k => !(k.parent == x.parent && Ea k.name x.name)) = true) ⟨rfl,rfl⟩ ?_ ?_
  ·intro q z post s n e hI hn
   unfold AbH
   refine Ok.ite (fun c => ?_) fun c => ?_
   ·refine Ok.ret ?_
    have : P.all (fun k => !(k.parent == x.parent && Ea k.name x.name)) = false := by
     rw [e,List.all_append,List.all_cons,c]
     simp
    rw [this,Bool.and_false]
   ·refine hn _ ⟨?_,?_⟩
    ·rw [List.any_append,← hI.1]
     simp
    ·rw [List.all_append,hI.2,List.all_cons,c]
     rfl
  ·intro s hI
   refine Ok.ret ?_
   rw [hI.2,Bool.and_true]
   exact hI.1
 have hbad : (x.kind == 0 || x.kind == 1) = false → Ok (Kg (pre ++ [y]) x true) (· = (decide (y.id < x.id) && Eo x.name && (x.kind == 0 || x.kind == 1) && (pre ++ [y]).any (fun k => k.id == x.parent) && (pre ++ [y]).all (fun k => !(k.parent == x.parent && Ea k.name x.name)))) := by
  intro hk
  refine Ok.ret ?_
  rw [hk]
  simp
 refine Ok.ite (fun c => ?_) fun c => ?_
 ·have h0 : ¬ x.kind = 0 := by simpa using c
  by_cases h1 : x.kind = 1
  ·have : (x.kind != 1) = false := by simp [h1]
   rw [this]
   exact hloop (by simp [h1])
  ·have : (x.kind != 1) = true := by simpa using h1
   rw [this]
   exact hbad (by simp [h0,h1])
 ·exact hloop (by
   have : x.kind = 0 := by simpa using c
   simp [this])
theorem nodes_pre {L pre post : List Ao} {x : Ao} (h : WfP L) (e : L = pre ++ x :: post) (hp : pre ≠ []) : WfP pre ∧ Sm x ∧ NodeS pre x := by
 induction h generalizing post with
 | root z v r =>
  exfalso
  have : (pre ++ x :: post).length = 1 := by rw [← e]; rfl
  simp at this
  have := List.length_pos_iff.mpr hp
  omega
 | snoc L z w v s ih =>
  rcases Ke post with rfl | ⟨p',u,rfl⟩
  ·have := List.append_inj' (s₁ := L) (t₁ := [z]) (s₂ := pre) (t₂ := [x]) (by simpa using e) rfl
   obtain ⟨rfl,e2⟩ := this
   obtain rfl : z = x := by simpa using e2
   exact ⟨w,v,s⟩
  ·have e2 : L ++ [z] = (pre ++ x :: p') ++ [u] := by simpa using e
   have := List.append_inj' e2 rfl
   exact ih this.1
theorem up_pre {L pre post : List Ao} (h : WfP L) (e : L = pre ++ post) (hp : WfP pre) {x : Ao} (hx : x ∈ pre) : upR L.reverse x.id = upR pre.reverse x.id := by
 rw [e,List.reverse_append]
 refine Za fun y hy => ?_
 have hs := h.sorted
 rw [e,List.pairwise_append] at hs
 have := hs.2.2 x hx y (by simpa using hy)
 omega
theorem Yl (t : Ag) (hm : ∀ x ∈ t.nodes,Acz x) : Ok (Ni t) (fun b => b = true ↔ WfT t) := by
 have bad : ¬ WfT t → Ok (some false) (fun b => b = true ↔ WfT t) := fun hn => Ok.ret ⟨fun e => by simp at e,fun w => absurd w hn⟩
 unfold Ni
 refine Ok.ite (fun c => ?_) fun c => ?_
 ·have := of_decide_eq_true c
  exact bad fun w => by have := w.len1; omega
 have l1 := of_decide_eq_false c
 refine Ok.ite (fun c => ?_) fun c => ?_
 ·have := of_decide_eq_true c
  exact bad fun w => by have := w.len2; omega
 have l2 := of_decide_eq_false c
 refine Ok.guard (by omega) ?_
 unfold Abi
 refine Ok.step rfl ?_
 unfold On
 have hroot0 : WfT t → ((((t.nodes.getD 0 default).id == 1 && (t.nodes.getD 0 default).parent == 0) && Ea (t.nodes.getD 0 default).name ByteArray.empty) && (t.nodes.getD 0 default).kind == 0) = true := by
  intro w
  obtain ⟨x,r,e,hr⟩ := w.root
  rw [e]
  simp [hr.id,hr.parent,hr.name,hr.kind]
 refine Ok.ite (fun c => ?_) fun c => ?_
 ·exact bad fun w => by rw [hroot0 w] at c; simp at c
 have hR : Abe (t.nodes.getD 0 default) := by
  simp only [Bool.not_eq_false',Bool.and_eq_true,beq_iff_eq] at c
  exact ⟨c.1.1.1,c.1.1.2,c.1.2,c.2⟩
 refine Ok.guard (by omega) ?_
 refine Ok.range (fun pre s => (pre = [] ∧ ∀ i,s.get i = 0) ∨ (WfP pre ∧ (∀ y ∈ pre,s.get y.id = ((upR pre.reverse y.id).length : Int) - 1 ∧ (upR pre.reverse y.id).length ≤ 9) ∧ ∀ i,(∀ y ∈ pre,y.id ≠ i) → s.get i = 0)) (.inl ⟨rfl,fun i => rfl⟩) ?_ ?_
 ·intro pre x post s n he hI hn
  have hxm : x ∈ t.nodes := by rw [he]; simp
  have hJ : ∀ b,(b = true → ¬ WfT t) → (b = false → Sm x ∧ (pre ≠ [] → NodeS pre x)) → (Sm x → pre = [] → Abe x) → Ok (Gx pre.length x s n b) (fun b => b = true ↔ WfT t) := by
   intro b hbt hbf hroot
   unfold Gx
   refine Ok.ite (fun c => bad (hbt c)) fun c => ?_
   obtain ⟨hv,hs⟩ := hbf c
   unfold Rl
   rcases hI with ⟨rfl,hz⟩ | ⟨hw,hd,hz⟩
   ·simp only [List.length_nil,Int.ofNat_eq_natCast,Int.cast_ofNat_Int,gt_iff_lt,Int.lt_irrefl,decide_false,Bool.false_eq_true,if_false]
    rw [hz]
    simp only [Int.reduceLT,decide_false,Bool.false_eq_true,if_false]
    have hr := hroot hv rfl
    refine hn _ (.inr ⟨.root x hv hr,?_,fun i _ => hz i⟩)
    intro y hy
    obtain rfl : y = x := by simpa using hy
    rw [hz]
    simp [upR,hr.parent]
   ·have hne : pre ≠ [] := by
     intro e
     have := hw.pos
     simp [e] at this
    have hs := hs hne
    have hpos := hw.pos
    have hgt : decide (((pre.length : Nat) : Int) > 0) = true := by simp; omega
    rw [hgt]
    simp only [if_true]
    obtain ⟨p,hp,hpp⟩ := hs.parent
    have hdp := hd p hp
    rw [hpp] at hdp
    have hup : upR (pre ++ [x]).reverse x.id = x.id :: upR pre.reverse x.parent := by
     rw [List.reverse_append,List.reverse_cons,List.reverse_nil,List.nil_append,List.singleton_append,upR,if_pos (by simp)]
    have hgx : (s.set x.id (w64 (s.get x.parent + 1))).get x.id = ((upR pre.reverse x.parent).length : Int) := by
     rw [AbC,if_pos rfl,hdp.1,Ay (by omega) (by omega)]
     omega
    have hwx : WfP (pre ++ [x]) := .snoc pre x hw hv hs
    refine Ok.ite (fun c => ?_) fun c => ?_
    ·refine bad fun w => ?_
     have := of_decide_eq_true c
     rw [hgx] at this
     have hdx := w.depth x hxm
     unfold upT at hdx
     rw [up_pre w.p (show t.nodes = (pre ++ [x]) ++ post by rw [he]; simp) hwx (by simp),hup] at hdx
     simp at hdx
     omega
    ·have hle := of_decide_eq_false c
     rw [hgx] at hle
     refine hn _ (.inr ⟨hwx,?_,?_⟩)
     ·intro y hy
      rcases List.mem_append.mp hy with hy | hy
      ·have hlt := hs.lt y hy
       rw [AbC,if_neg (by omega),AdV (by omega)]
       exact hd y hy
      ·obtain rfl : y = x := by simpa using hy
       rw [hgx,hup]
       simp
       omega
     ·intro i hi
      have := hi x (by simp)
      rw [AbC,if_neg (by omega)]
      exact hz i fun y hy => hi y (by simp [hy])
  have hroot : Sm x → pre = [] → Abe x := by
   intro _ e
   subst e
   rw [he] at hR
   exact hR
  unfold Aay
  have hbad : ∀ P : Prop,(WfT t → P) → ¬ P → Ok (Gx pre.length x s n true) (fun b => b = true ↔ WfT t) := fun P h1 h2 => hJ true (fun _ w => h2 (h1 w)) (by simp) hroot
  refine Ok.ite (fun c => ?_) fun c => ?_
  ·have := of_decide_eq_true c
   exact hbad (0 ≤ x.control) (fun w => (w.p.val x hxm).c1) (by omega)
  have c1 := of_decide_eq_false c
  refine Ok.ite (fun c => ?_) fun c => ?_
  ·refine hbad (x.control ≤ 31) (fun w => (w.p.val x hxm).c2) fun h => ?_
   rw [Ajm (by omega) h] at c
   simp at c
  have c2 : x.control ≤ 31 := by
   by_cases h : x.control ≤ 31
   ·exact h
   ·have := AiF (c := x.control) (by omega) (hm x hxm).2
    have c' : Ek .i64 x.control 31 = 0 := by simpa using c
    exact absurd c' this
  refine Ok.ite (fun c => ?_) fun c => ?_
  ·have := of_decide_eq_true c
   exact hbad (0 ≤ x.owner) (fun w => (w.p.val x hxm).o1) (by omega)
  have o1 := of_decide_eq_false c
  refine Ok.ite (fun c => ?_) fun c => ?_
  ·have := of_decide_eq_true c
   exact hbad (x.owner ≤ 1048576) (fun w => (w.p.val x hxm).o2) (by omega)
  have o2 := of_decide_eq_false c
  refine Ok.ite (fun c => ?_) fun c => ?_
  ·have hk := of_decide_eq_true c
   have hle : pre.length ≤ t.nodes.length := by rw [he]; simp
   refine Ok.guard (by omega) ?_
   have ht : t.nodes.take pre.length = pre := by rw [he]; simp
   rw [ht]
   rcases Ke pre with rfl | ⟨pr,y,rfl⟩
   ·simp at hk
   have hw : WfP (pr ++ [y]) := by
    rcases hI with ⟨e,_⟩ | ⟨h,_⟩
    ·simp at e
    ·exact h
   refine Ok.step (Aiw (by simp at hle; omega) (hm x hxm)) ?_
   refine hJ _ ?_ ?_ hroot
   ·intro hb w
    obtain ⟨_,v,s⟩ := nodes_pre w.p he (by simp)
    have a1 := s.lt y (by simp)
    have a2 := s.valid
    have a3 : (x.kind == 0 || x.kind == 1) = true := by
     rcases v.kind with h | h <;> simp [h]
    have a4 : (pr ++ [y]).any (fun k => k.id == x.parent) = true := by
     obtain ⟨p,hp,hpp⟩ := s.parent
     exact List.any_eq_true.mpr ⟨p,hp,by simp [hpp]⟩
    have a5 : (pr ++ [y]).all (fun k => !(k.parent == x.parent && Ea k.name x.name)) = true := by
     rw [List.all_eq_true]
     intro k hk
     by_cases q : k.parent = x.parent
     ·simp [s.fresh k hk q]
     ·simp [q]
    simp only [a1,a2,a3,a4,a5,decide_true] at hb
    simp at hb
   ·intro hb
    simp only [Bool.not_eq_false',Bool.and_eq_true,decide_eq_true_eq,List.any_eq_true,List.all_eq_true,beq_iff_eq,Bool.or_eq_true] at hb
    obtain ⟨⟨⟨⟨a1,a2⟩,a3⟩,a4⟩,a5⟩ := hb
    refine ⟨⟨a3,by omega,c2,by omega,by omega⟩,fun _ => ⟨?_,a2,a4,?_⟩⟩
    ·intro z hz
     have hs := hw.sorted
     rw [List.pairwise_append] at hs
     rcases List.mem_append.mp hz with hz | hz
     ·have := hs.2.2 z hz y (by simp)
      omega
     ·obtain rfl : z = y := by simpa using hz
      exact a1
    ·intro z hz hp
     have := a5 z hz
     simpa [hp] using this
  ·have hk := of_decide_eq_false c
   have e : pre = [] := List.length_eq_zero_iff.mp (by omega)
   refine hJ false (by simp) (fun _ => ⟨?_,fun h => absurd e h⟩) hroot
   subst e
   rw [he] at hR
   exact ⟨.inl hR.kind,by omega,c2,by omega,by omega⟩
 ·intro s hI
  unfold Aar Px
  have hw : w64 ((t.nodes.length : Int) - 1) = ((t.nodes.length - 1 : Nat) : Int) := by
   rw [Ay (by omega) (by omega)]
   omega
  rw [hw]
  refine Ok.guard (by omega) ?_
  have : Int.toNat ((t.nodes.length - 1 : Nat) : Int) = t.nodes.length - 1 := by omega
  rw [this]
  rcases hI with ⟨e,_⟩ | ⟨hp,hd,_⟩
  ·rw [e] at l1; simp at l1
  refine Ok.ite (fun c => ?_) fun c => ?_
  ·have hc := of_decide_eq_true c
   refine Ok.ret ⟨fun e => ?_,fun w => ?_⟩
   ·exact ⟨by omega,by omega,hp.split,fun x hx => (hd x hx).2,hc,by simpa using e⟩
   ·simpa using w.nextLe
  ·have := of_decide_eq_false c
   exact bad fun w => by have := w.last; omega
theorem WfP.names {L : List Ao} (h : WfP L) : ∀ x ∈ L,Acz x := by
 intro x hx
 have v := h.val x hx
 refine ⟨?_,by have := v.c2; omega⟩
 rcases h.par x hx with ⟨_,r⟩ | ⟨_,_,_,hv⟩
 ·rw [beqS_eq r.name]
  decide
 ·simp only [Eo,Bool.and_eq_true,decide_eq_true_eq] at hv
  omega
theorem Ajl {t : Ag} (w : WfT t) : Ni t = some true := by
 obtain ⟨b,hb,e⟩ := Yl t w.p.names
 rw [hb,e.mpr w]
end Go.Dm

/- Plain theory, part 12: subtrees. -/
namespace Go.Dm
theorem Qe {α : Type} {p : α → Bool} {xs : List α} {body : Nat → α → Unit → (Unit → Option Int) → Option Int} {done : Unit → Option Int}
  (hb : ∀ k x n,body k x () n = if p x then some ((k : Nat) : Int) else n ()) (hd : done () = some (-1)) : Bl body done xs 0 () = some ((xs.findIdx? p).elim (-1) (fun i => (i : Int))) := by
 have key : ∀ (ys : List α) (k : Nat),Bl body done ys k () = some ((ys.findIdx? p).elim (-1) (fun i => ((i + k : Nat) : Int))) := by
  intro ys
  induction ys with
  | nil => intro k; simp [Bl,hd]
  | cons x r ih =>
   intro k
   rw [Bl,hb,List.findIdx?_cons]
   cases hp : p x
   ·simp only [Bool.false_eq_true,if_false]
    rw [ih (k + 1)]
    cases r.findIdx? p with
    | none => rfl
    | some i =>
     simp only [Option.map_some,Option.elim_some]
     congr 2
     omega
   ·simp
 have := key xs 0
 simpa using this
theorem Rq {α : Type} (p : α → Bool) (xs : List α) (d : α) :
  (∃ i,i < xs.length ∧ xs.findIdx? p = some i ∧ xs.find? p = some (xs.getD i d)) ∨ (xs.findIdx? p = none ∧ xs.find? p = none) := by
 induction xs with
 | nil => exact .inr ⟨rfl,rfl⟩
 | cons x r ih =>
  rw [List.findIdx?_cons,List.find?_cons]
  cases hp : p x
  ·rcases ih with ⟨i,h1,h2,h3⟩ | ⟨h1,h2⟩
   ·refine .inl ⟨i + 1,by simp; omega,?_,?_⟩
    ·simp [h2]
    ·simpa using h3
   ·refine .inr ⟨?_,?_⟩
    ·simp [h1]
    ·simpa using h2
  ·exact .inl ⟨0,by simp,by simp,by simp⟩
theorem Akl (h : Aa) (id : Int) (hl : h.tasks.length ≤ 1000000) : Acj h id = some ((h.tasks.findIdx? (fun x => x.id == id)).elim (-1) (fun i => (i : Int))) := by
 unfold Acj Gg
 rw [if_pos (by omega),Qe (p := fun x : Aw => x.id == id) (fun k x n => rfl) rfl]
 rfl
theorem Aea (h : Aa) (id : Int) (hl : h.tasks.length ≤ 1000000) : Rj h id = some ((Fd h.tasks id).elim (zK,false) (fun x => (x,true))) := by
 unfold Rj Fd
 rw [Akl h id hl,Option.bind_some]
 rcases Rq (fun x : Aw => x.id == id) h.tasks default with ⟨i,h1,h2,h3⟩ | ⟨h1,h2⟩
 ·rw [h2,h3,Option.elim_some,Option.elim_some,if_neg (by simp),if_pos (by omega),show Int.toNat (i : Int) = i by omega]
 ·rw [h1,h2]
  rfl
theorem AeF (t : Ag) (id : Int) (hl : t.nodes.length ≤ 1000000) : Pb t id = some ((t.nodes.findIdx? (fun x => x.id == id)).elim (-1) (fun i => (i : Int))) := by
 unfold Pb Fq
 rw [if_pos (by omega),Qe (p := fun x : Ao => x.id == id) (fun k x n => rfl) rfl]
 rfl
theorem Ahc (t : Ag) (id : Int) (hl : t.nodes.length ≤ 1000000) : Tn t id = some ((Ut t id).elim (zN,false) (fun x => (x,true))) := by
 unfold Tn Ut
 rw [AeF t id hl,Option.bind_some]
 rcases Rq (fun x : Ao => x.id == id) t.nodes default with ⟨i,h1,h2,h3⟩ | ⟨h1,h2⟩
 ·rw [h2,h3,Option.elim_some,Option.elim_some,if_neg (by simp),if_pos (by omega),show Int.toNat (i : Int) = i by omega]
 ·rw [h1,h2]
  rfl
theorem Ade (t : Ag) (id : Int) (hl : t.nodes.length ≤ 1000000) : Ok (Pb t id) (fun i => decide (i < 0) = !Gs t id ∧ decide (i ≥ 0) = Gs t id) := by
 refine Ok.of_eq (AeF t id hl) ?_
 unfold Gs Ut
 rcases Rq (fun x : Ao => x.id == id) t.nodes default with ⟨i,h1,h2,h3⟩ | ⟨h1,h2⟩
 ·rw [h2,h3]
  have : ¬ (i : Int) < 0 := by omega
  simp [this]
 ·rw [h1,h2]
  simp
theorem Aem (t : Ag) (id : Int) (hl : t.nodes.length ≤ 1000000) : Nf t id = some (Kf t id) := by
 unfold Nf
 rw [if_pos (by omega)]
 refine (Hc (p := fun x : Ao => x.parent == id) (f := fun x : Ao => x.id) (r := some) ?_ (fun _ => rfl) (by simp; omega)).trans (by simp [Kf])
 intro k x s n hs
 unfold Sz Le
 rw [if_pos hs]
theorem AfO {α : Type} [DecidableEq α] : ∀ {l m : List α},l.Nodup → (∀ x ∈ l,x ∈ m) → l.length ≤ m.length
 | [],_,_,_ => by simp
 | a :: r,m,hn,hs => by
  rw [List.nodup_cons] at hn
  have ha := hs a (by simp)
  have := AfO (l := r) (m := m.erase a) hn.2 fun x hx => by
   have hne : x ≠ a := fun e => hn.1 (by rw [← e]; exact hx)
   rw [List.mem_erase_of_ne hne]
   exact hs x (by simp [hx])
  rw [List.length_erase_of_mem ha] at this
  have := List.length_pos_of_mem ha
  simp
  omega
theorem WfT.id_pos {t : Ag} (w : WfT t) {x : Ao} (h : x ∈ t.nodes) : 1 ≤ x.id := w.p.ge1 x h
theorem WfT.par_lt {t : Ag} (w : WfT t) {x : Ao} (h : x ∈ t.nodes) : x.parent < x.id := by
 rcases w.p.par x h with ⟨h1,r⟩ | ⟨_,h2,_⟩
 ·rw [r.parent]; omega
 ·exact h2
theorem Ss {t : Ag} {x k : Int} (h : k ∈ upT t x) : ∃ n ∈ t.nodes,n.id = x := by
 by_cases e : ∃ n ∈ t.nodes,n.id = x
 ·exact e
 ·have : upT t x = [] := AfW fun n hn hx => e ⟨n,by simpa using hn,hx⟩
  rw [this] at h
  simp at h
theorem WfT.induct {t : Ag} (w : WfT t) {P : Ao → Prop} (step : ∀ x ∈ t.nodes,(∀ y ∈ t.nodes,y.id = x.parent → P y) → P x) : ∀ x ∈ t.nodes,P x := by
 have key : ∀ (n : Nat),∀ x ∈ t.nodes,x.id.toNat < n → P x := by
  intro n
  induction n with
  | zero => intro x _ h; omega
  | succ n ih =>
   intro x hx h
   refine step x hx fun y hy e => ih y hy ?_
   have := w.par_lt hx
   have := w.id_pos hx
   omega
 intro x hx
 exact key _ x hx (Nat.lt_succ_self _)
theorem up_le {t : Ag} (w : WfT t) : ∀ x ∈ t.nodes,∀ k ∈ upT t x.id,k ≤ x.id := by
 refine w.induct fun x hx ih k hk => ?_
 rw [w.up hx] at hk
 rcases List.mem_cons.mp hk with rfl | hk
 ·exact Int.le_refl _
 ·obtain ⟨y,hy,e⟩ := Ss hk
  rw [← e] at hk
  have := ih y hy e k hk
  have := w.par_lt hx
  omega
theorem AgY {t : Ag} (w : WfT t) {x : Ao} (hx : x ∈ t.nodes) : x.id ∈ upT t x.id := by
 rw [w.up hx]
 simp
theorem up_mem {t : Ag} (w : WfT t) : ∀ x ∈ t.nodes,∀ k ∈ upT t x.id,∃ n ∈ t.nodes,n.id = k := by
 refine w.induct fun x hx ih k hk => ?_
 rw [w.up hx] at hk
 rcases List.mem_cons.mp hk with rfl | hk
 ·exact ⟨x,hx,rfl⟩
 ·obtain ⟨y,hy,e⟩ := Ss hk
  rw [← e] at hk
  exact ih y hy e k hk
theorem up_trans {t : Ag} (w : WfT t) {k y : Int} (h2 : k ∈ upT t y) : ∀ x ∈ t.nodes,y ∈ upT t x.id → k ∈ upT t x.id := by
 refine w.induct fun x hx ih h1 => ?_
 have e := w.up hx
 rw [e] at h1
 rcases List.mem_cons.mp h1 with rfl | h1
 ·exact h2
 ·rw [e]
  obtain ⟨z,hz,ez⟩ := Ss h1
  rw [← ez] at h1
  have := ih z hz ez h1
  rw [ez] at this
  exact List.mem_cons_of_mem _ this
theorem up_child {t : Ag} (w : WfT t) {y : Int} : ∀ x ∈ t.nodes,y ∈ upT t x.id → x.id = y ∨ ∃ c ∈ Kf t y,c ∈ upT t x.id := by
 refine w.induct fun x hx ih h1 => ?_
 have e := w.up hx
 rw [e] at h1
 rcases List.mem_cons.mp h1 with rfl | h1
 ·exact .inl rfl
 ·obtain ⟨z,hz,ez⟩ := Ss h1
  rw [← ez] at h1
  refine .inr ?_
  rcases ih z hz ez h1 with h | ⟨c,hc,hcu⟩
  ·refine ⟨x.id,?_,AgY w hx⟩
   unfold Kf
   exact List.mem_map.mpr ⟨x,List.mem_filter.mpr ⟨hx,by simp; omega⟩,rfl⟩
  ·refine ⟨c,hc,?_⟩
   rw [e]
   rw [ez] at hcu
   exact List.mem_cons_of_mem _ hcu
theorem kids_iff {t : Ag} {y c : Int} : c ∈ Kf t y ↔ ∃ x ∈ t.nodes,x.parent = y ∧ x.id = c := by
 unfold Kf
 constructor
 ·intro h
  obtain ⟨x,hx,e⟩ := List.mem_map.mp h
  obtain ⟨h1,h2⟩ := List.mem_filter.mp hx
  exact ⟨x,h1,by simpa using h2,e⟩
 ·rintro ⟨x,h1,h2,h3⟩
  exact List.mem_map.mpr ⟨x,List.mem_filter.mpr ⟨h1,by simp [h2]⟩,h3⟩
theorem AhQ {t : Ag} (w : WfT t) : (t.nodes.map (·.id)).Nodup := by
 have := w.sorted
 unfold List.Nodup
 rw [List.pairwise_map]
 exact this.imp fun h => by omega
theorem AjT {t : Ag} (w : WfT t) (y : Int) : (Kf t y).Nodup := by
 unfold Kf List.Nodup
 rw [List.pairwise_map]
 exact (w.sorted.sublist List.filter_sublist).imp fun h => by omega
theorem Afi {t : Ag} (w : WfT t) (k : Int) : Ok (Nz t k) (fun l => l.Nodup ∧ l.length ≤ t.nodes.length ∧ ∀ x,x ∈ l ↔ k ∈ upT t x) := by
 have l2 := w.len2
 unfold Nz
 refine Ok.bind (Ade t k (by omega)) fun i hi => ?_
 refine Ok.ite (fun c => ?_) fun c => ?_
 ·refine Ok.ret ⟨List.nodup_nil,by simp,fun x => ⟨fun h => by simp at h,fun h => ?_⟩⟩
  exfalso
  have hno : Gs t k = false := by
   rw [hi.1] at c
   simpa using c
  obtain ⟨n,hn,e⟩ := Ss h
  rw [← e] at h
  obtain ⟨m,hm,em⟩ := up_mem w n hn k h
  have := hasN_iff.mpr ⟨m,hm,em⟩
  rw [this] at hno
  simp at hno
 have hk : Gs t k = true := by
  rw [hi.1] at c
  simpa using c
 obtain ⟨kn,hkn,hke⟩ := hasN_iff.mp hk
 let I : List Int × List Int → Prop := fun s => (s.1 ++ s.2).Nodup ∧ (∀ z ∈ s.1 ++ s.2,k ∈ upT t z) ∧ (∀ z ∈ s.1 ++ s.2,z = k ∨ ∃ n ∈ t.nodes,n.id = z ∧ n.parent ∈ s.1) ∧ (∀ x,k ∈ upT t x → x ∈ s.1 ∨ ∃ y ∈ s.2,y ∈ upT t x)
 have hbound : ∀ s,I s → s.1.length + s.2.length ≤ t.nodes.length := by
  intro s hs
  have := AfO hs.1 (m := t.nodes.map (·.id)) fun z hz => by
   obtain ⟨n,hn,e⟩ := Ss (hs.2.1 z hz)
   exact List.mem_map.mpr ⟨n,hn,e⟩
  simpa using this
 refine Ok.while I (fun s => t.nodes.length - s.1.length) ?_ (by rw [Df]; simp only [List.length_nil]; omega) ?_
 ·refine ⟨by simp,?_,?_,?_⟩
  ·intro z hz
   obtain rfl : z = k := by simpa using hz
   rw [← hke]
   exact AgY w hkn
  ·intro z hz
   exact .inl (by simpa using hz)
  ·intro x hx
   exact .inr ⟨k,by simp,hx⟩
 rintro ⟨out,todo⟩ n hI hn
 have hb := hbound _ hI
 obtain ⟨i1,i2,i3,i4⟩ := hI
 simp only at hb i1 i2 i3 i4 hn
 unfold Uf
 simp only
 cases todo with
 | nil =>
  simp only [List.length_nil,gt_iff_lt,Int.cast_ofNat_Int,Int.lt_irrefl,decide_false,Bool.false_and,Bool.false_eq_true,if_false]
  refine Ok.ret ⟨by simpa using i1,by simpa using hb,fun x => ⟨fun h => i2 x (by simpa using h),fun h => ?_⟩⟩
  rcases i4 x h with h | ⟨y,hy,_⟩
  ·exact h
  ·simp at hy
 | cons y rest =>
  simp only [List.length_cons] at hb
  have hc : (decide (((((y :: rest).length : Nat) : Int)) > 0) && decide (((out.length : Nat) : Int) < ((t.nodes.length : Nat) : Int))) = true := by
   simp only [List.length_cons,Bool.and_eq_true,decide_eq_true_eq]
   omega
  rw [if_pos hc]
  refine Ok.guard (by simp) (Ok.guard (by omega) (Ok.guard (by simp) ?_))
  have ey : (y :: rest).getD 0 0 = y := rfl
  rw [ey]
  refine Ok.step (Aem t y (by omega)) (Ok.guard (by simp) ?_)
  have hsub : Fz (y :: rest).length 1 = rest.length := rfl
  rw [hsub]
  have hkl := AdM t y
  refine Ok.guard (by omega) ?_
  have ed : (y :: rest).drop 1 = rest := rfl
  rw [ed]
  have hyk := i2 y (by simp)
  have hyn : y ∉ out := by
   rw [List.nodup_append] at i1
   intro h
   exact i1.2.2 y h y (by simp) rfl
  have hyr : y ∉ rest := by
   rw [List.nodup_append,List.nodup_cons] at i1
   exact i1.2.1.1
  have hnew : ∀ c ∈ Kf t y,c ∉ out ∧ c ∉ rest ∧ c ≠ y := by
   intro c hc
   obtain ⟨cn,hcn,hcp,hce⟩ := kids_iff.mp hc
   have hlt := w.par_lt hcn
   have hck : c ≠ k := by
    rintro rfl
    obtain ⟨yn,hyn2,hye⟩ := Ss hyk
    rw [← hye] at hyk
    have := up_le w yn hyn2 _ hyk
    omega
   have hno : c ∉ out ++ (y :: rest) := by
    intro hm
    rcases i3 c hm with h | ⟨m,hm1,hm2,hm3⟩
    ·exact hck h
    ·obtain rfl : m = cn := AgP w.sorted hm1 hcn (by omega)
     rw [hcp] at hm3
     exact hyn hm3
   exact ⟨fun h => hno (by simp [h]),fun h => hno (by simp [h]),by omega⟩
  refine hn _ ⟨?_,?_,?_,?_⟩ (by simp only [List.length_append,List.length_cons,List.length_nil]; omega)
  ·simp only
   rw [List.nodup_append] at i1 ⊢
   obtain ⟨n1,n2,n3⟩ := i1
   rw [List.nodup_cons] at n2
   refine ⟨?_,?_,?_⟩
   ·rw [List.nodup_append]
    exact ⟨n1,by simp,fun a ha b hb => by
     obtain rfl : b = y := by simpa using hb
     exact fun e => hyn (e ▸ ha)⟩
   ·rw [List.nodup_append]
    exact ⟨AjT w y,n2.2,fun a ha b hb e => (hnew a ha).2.1 (e ▸ hb)⟩
   ·intro a ha b hb e
    subst e
    rcases List.mem_append.mp ha with ha | ha
    ·rcases List.mem_append.mp hb with hb | hb
     ·exact (hnew a hb).1 ha
     ·exact n3 a ha a (by simp [hb]) rfl
    ·obtain rfl : a = y := by simpa using ha
     rcases List.mem_append.mp hb with hb | hb
     ·exact (hnew a hb).2.2 rfl
     ·exact hyr hb
  ·intro z hz
   simp only [List.mem_append,List.mem_cons,List.not_mem_nil,or_false] at hz
   rcases hz with (hz | rfl) | hz | hz
   ·exact i2 z (by simp [hz])
   ·exact hyk
   ·obtain ⟨cn,hcn,hcp,hce⟩ := kids_iff.mp hz
    rw [← hce]
    refine up_trans w hyk cn hcn ?_
    rw [w.up hcn,hcp]
    obtain ⟨yn,hyn2,hye⟩ := Ss hyk
    rw [← hye]
    exact List.mem_cons_of_mem _ (AgY w hyn2)
   ·exact i2 z (by simp [hz])
  ·intro z hz
   simp only [List.mem_append,List.mem_cons,List.not_mem_nil,or_false] at hz
   have lift : (z = k ∨ ∃ n ∈ t.nodes,n.id = z ∧ n.parent ∈ out) → (z = k ∨ ∃ n ∈ t.nodes,n.id = z ∧ n.parent ∈ out ++ [y]) := by
    rintro (h | ⟨n,h1,h2,h3⟩)
    ·exact .inl h
    ·exact .inr ⟨n,h1,h2,by simp [h3]⟩
   rcases hz with (hz | rfl) | hz | hz
   ·exact lift (i3 z (by simp [hz]))
   ·exact lift (i3 z (by simp))
   ·obtain ⟨cn,hcn,hcp,hce⟩ := kids_iff.mp hz
    exact .inr ⟨cn,hcn,hce,by simp [hcp]⟩
   ·exact lift (i3 z (by simp [hz]))
  ·intro x hx
   rcases i4 x hx with h | ⟨z,hz,hzx⟩
   ·exact .inl (by simp [h])
   ·rcases List.mem_cons.mp hz with rfl | hz
    ·obtain ⟨xn,hxn,hxe⟩ := Ss hzx
     rw [← hxe] at hzx ⊢
     rcases up_child w xn hxn hzx with h | ⟨c,hc,hcx⟩
     ·exact .inl (by simp [h])
     ·exact .inr ⟨c,by simp [hc],hcx⟩
    ·exact .inr ⟨z,by simp [hz],hzx⟩
end Go.Dm

/- Plain theory, part 13: the program's Check of hierarchies; counts; moves. -/
namespace Go.Dm
theorem AhC (h : Aa) (x : Aw) (l1 : h.tasks.length ≤ 1000000) (l2 : h.tree.nodes.length ≤ 1000000) :
  Ok (Tp h x) (fun b => b = true ↔ (0 ≤ x.user ∧ x.user ≤ 1048576 ∧ Gs h.tree x.group = true ∧ ∃ p,Fd h.tasks x.process = some p ∧ p.process = x.process ∧ p.user = x.user)) := by
 unfold Tp Hw
 refine Ok.step (Aea h x.process l1) ?_
 have no : ∀ {P : Prop},¬ P → Ok (some false) (fun b => b = true ↔ P) := fun hn => Ok.ret ⟨fun e => by simp at e,fun w => absurd w hn⟩
 refine Ok.ite (fun c => ?_) fun c => ?_
 rotate_left
 ·have := of_decide_eq_false c
  exact no fun w => by omega
 have u1 := of_decide_eq_true c
 refine Ok.ite (fun c => ?_) fun c => ?_
 rotate_left
 ·have := of_decide_eq_false c
  exact no fun w => by omega
 have u2 := of_decide_eq_true c
 cases hk : Fd h.tasks x.process with
 | none =>
  exact no fun w => by
   obtain ⟨_,_,_,p,hp,_⟩ := w
   simp at hp
 | some p =>
  obtain ⟨hp1,hp2⟩ := Uj hk
  simp only [Option.elim_some,if_true]
  refine Ok.ite (fun c => ?_) fun c => ?_
  rotate_left
  ·exact no fun w => by
    obtain ⟨_,_,_,q,hq,hq2,_⟩ := w
    obtain rfl : p = q := by simpa using hq
    have : ¬ p.process = p.id := by simpa using c
    omega
  have c1 : p.process = p.id := by simpa using c
  refine Ok.ite (fun c => ?_) fun c => ?_
  rotate_left
  ·exact no fun w => by
    obtain ⟨_,_,_,q,hq,_,hq3⟩ := w
    obtain rfl : p = q := by simpa using hq
    have : ¬ p.user = x.user := by simpa using c
    omega
  have c2 : p.user = x.user := by simpa using c
  refine Ok.bind (Ade h.tree x.group l2) fun i hi => Ok.ret ?_
  rw [hi.2]
  constructor
  ·intro hh
   exact ⟨u1,u2,hh,p,rfl,by omega,c2⟩
  ·intro w
   exact w.2.2.1
theorem Abd (h : Aa) (hm : ∀ x ∈ h.tree.nodes,Acz x) : Ok (Iu h) (fun b => b = true ↔ WfH h) := by
 have bad : ¬ WfH h → Ok (some false) (fun b => b = true ↔ WfH h) := fun hn => Ok.ret ⟨fun e => by simp at e,fun w => absurd w hn⟩
 unfold Iu
 refine Ok.ite (fun c => ?_) fun c => ?_
 ·have := of_decide_eq_true c
  exact bad fun w => by have := w.len; omega
 have l1 := of_decide_eq_false c
 refine Ok.ite (fun c => ?_) fun c => ?_
 ·have := of_decide_eq_true c
  exact bad fun w => by have := w.n2; omega
 have n2 := of_decide_eq_false c
 refine Ok.bind (Yl h.tree hm) fun b hb => ?_
 unfold Ly
 refine Ok.ite (fun c => ?_) fun c => ?_
 ·refine bad fun w => ?_
  have := hb.mpr w.tree
  rw [this] at c
  simp at c
 have wt : WfT h.tree := hb.mp (by simpa using c)
 have l2 := wt.len2
 refine Ok.guard (by omega) ?_
 refine Ok.range (fun pre s => 0 ≤ s ∧ (∀ y ∈ pre,y.id ≤ s) ∧ (s = 0 ∨ ∃ y ∈ pre,y.id = s) ∧ pre.Pairwise (fun a b => a.id < b.id) ∧ ∀ x ∈ pre,TaskV h x) (by simp) ?_ ?_
 ·rintro pre x post s n he ⟨i0,i1,i2,i3,i4⟩ hn
  have hx : x ∈ h.tasks := by rw [he]; simp
  unfold Wq Nr
  refine Ok.ite (fun c => ?_) fun c => ?_
  ·have hle := of_decide_eq_true c
   refine bad fun w => ?_
   rcases i2 with rfl | ⟨y,hy,e⟩
   ·have := (w.val x hx).pos
    omega
   ·have hs := w.sorted
    rw [he,List.pairwise_append] at hs
    have := hs.2.2 y hy x (by simp)
    omega
  have hgt := of_decide_eq_false c
  refine Ok.bind (AhC h x (by omega) (by omega)) fun b hb => ?_
  refine Ok.ite (fun c => ?_) fun c => ?_
  ·refine bad fun w => ?_
   have v := w.val x hx
   have := hb.mpr ⟨v.u1,v.u2,v.grp,v.ldr⟩
   rw [this] at c
   simp at c
  ·obtain ⟨a1,a2,a3,a4⟩ := hb.mp (by simpa using c)
   refine hn _ ⟨by omega,?_,.inr ⟨x,by simp,rfl⟩,?_,?_⟩
   ·intro y hy
    rcases List.mem_append.mp hy with hy | hy
    ·have := i1 y hy
     omega
    ·obtain rfl : y = x := by simpa using hy
     exact Int.le_refl _
   ·rw [List.pairwise_append]
    refine ⟨i3,by simp,fun a ha b hb => ?_⟩
    obtain rfl : b = x := by simpa using hb
    have := i1 a ha
    omega
   ·intro y hy
    rcases List.mem_append.mp hy with hy | hy
    ·exact i4 y hy
    ·obtain rfl : y = x := by simpa using hy
     exact ⟨by omega,a3,a1,a2,a4⟩
 ·rintro s ⟨i0,i1,i2,i3,i4⟩
  refine Ok.ret ⟨fun e => ?_,fun w => ?_⟩
  ·have hlt : s < h.next := by
    have := of_decide_eq_true e
    omega
   exact ⟨wt,by omega,by omega,by omega,i3,fun x hx => by have := i1 x hx; omega,i4⟩
  ·rcases i2 with rfl | ⟨y,hy,e⟩
   ·have := w.n1
    simp; omega
   ·have := w.lt y hy
    simp; omega
theorem Wj {h : Aa} (w : WfH h) : Iu h = some true := by
 obtain ⟨b,hb,e⟩ := Abd h w.tree.p.names
 rw [hb,e.mpr w]
theorem AfF (l : List Int) (x : Int) (hl : l.length ≤ 1000000) : Ec l x = some (l.contains x) := by
 unfold Ec Mi
 rw [if_pos (by omega),Qe (p := fun y : Int => x == y) (fun k y n => rfl) rfl,Option.bind_some]
 rcases Rq (fun y : Int => x == y) l 0 with ⟨i,h1,h2,h3⟩ | ⟨h1,h2⟩
 ·rw [h2]
  have hm := List.mem_of_find?_eq_some h3
  have he := List.find?_some h3
  have : l.contains x = true := by
   rw [List.contains_iff_mem]
   have : x = l.getD i 0 := by simpa using he
   rw [this]
   exact hm
  rw [this]
  simp
 ·rw [h1]
  have : l.contains x = false := by
   rw [List.find?_eq_none] at h2
   cases hc : l.contains x
   ·rfl
   ·rw [List.contains_iff_mem] at hc
    have := h2 x hc
    simp at this
  rw [this]
  simp
theorem Afl (l : List Int) (x : Int) (hl : l.length ≤ 1000000) : Po l x = some (l.contains x) := by
 unfold Po
 rw [if_pos (by omega),Is (p := fun y : Int => y == x) (f := fun _ => true) (z := false) (fun k y n => rfl) rfl]
 congr 1
 cases hf : l.find? (fun y => y == x) with
 | none =>
  rw [List.find?_eq_none] at hf
  cases hc : l.contains x
  ·rfl
  ·rw [List.contains_iff_mem] at hc
   have := hf x hc
   simp at this
 | some y =>
  have hm := List.mem_of_find?_eq_some hf
  have he := List.find?_some hf
  have : y = x := by simpa using he
  rw [this] at hm
  simp [hm]
end Go.Dm

/- Plain theory, part 14: the document's subtrees and counts; ancestors. -/
namespace Go.Dm
end Go.Dm

/- Plain theory, part 20: the library's sort leaves an ascending list as it is. -/
namespace Go.Dm
theorem Ky (a b : Int) : Cw a b = some (decide (a < b)) := by
 unfold Cw Pv Lw
 simp
theorem lens_pos : (List.range 1001).all (fun n => (Uh (IntKind.u64.wrap (n : Int))).any (fun k => n == 0 || decide (1 ≤ k))) = true := by decide +kernel
theorem Ajd {n : Nat} (hn : n ≤ 1000) : Ok (Uh (IntKind.u64.wrap (n : Int))) (fun _ => True) := by
 have := List.all_eq_true.mp lens_pos n (by rw [List.mem_range]; omega)
 cases hb : Uh (IntKind.u64.wrap (n : Int)) with
 | none => rw [hb] at this; simp at this
 | some k => exact ⟨k,rfl,trivial⟩
theorem Ahm {L : List Aw} (h : L.Pairwise (fun a b => a.id < b.id)) (p : Aw → Bool) : ((L.filter p).map (·.id)).Pairwise (· < ·) := by
 rw [List.pairwise_map]
 exact h.filter p
end Go.Dm

/- Plain theory, part 26: rows that are permuted within a range; insertion sort. -/
namespace Go.Dm
structure RP (a b : Nat) (L M : List Int) : Prop where
 len : M.length = L.length
 out : ∀ i,i < a ∨ b ≤ i → M.getD i 0 = L.getD i 0
 mem : ∀ i,a ≤ i → i < b → ∃ j,a ≤ j ∧ j < b ∧ M.getD i 0 = L.getD j 0
 perm : M.Perm L
theorem RP.refl (a b : Nat) (L : List Int) : RP a b L L := ⟨rfl,fun _ _ => rfl,fun i h1 h2 => ⟨i,h1,h2,rfl⟩,.refl _⟩
theorem RP.trans {a b : Nat} {L M N : List Int} (h : RP a b L M) (k : RP a b M N) : RP a b L N := by
 refine ⟨k.len.trans h.len,fun i hi => (k.out i hi).trans (h.out i hi),fun i h1 h2 => ?_,k.perm.trans h.perm⟩
 obtain ⟨j,j1,j2,e⟩ := k.mem i h1 h2
 obtain ⟨q,q1,q2,e2⟩ := h.mem j j1 j2
 exact ⟨q,q1,q2,e.trans e2⟩
theorem RP.widen {a b c d : Nat} {L M : List Int} (h : RP a b L M) (h1 : c ≤ a) (h2 : b ≤ d) : RP c d L M := by
 refine ⟨h.len,fun i hi => h.out i (by omega),fun i i1 i2 => ?_,h.perm⟩
 by_cases q : a ≤ i ∧ i < b
 ·obtain ⟨j,j1,j2,e⟩ := h.mem i q.1 q.2
  exact ⟨j,by omega,by omega,e⟩
 ·exact ⟨i,i1,i2,h.out i (by omega)⟩
theorem RP.all {a b : Nat} {L M : List Int} (h : RP a b L M) {P : Int → Prop} (hp : ∀ i,a ≤ i → i < b → P (L.getD i 0)) : ∀ i,a ≤ i → i < b → P (M.getD i 0) := by
 intro i h1 h2
 obtain ⟨j,j1,j2,e⟩ := h.mem i h1 h2
 rw [e]
 exact hp j j1 j2
theorem AgX {α : Type} {l : List α} {i : Nat} {a d : α} (h : i < l.length) : (l.set i a).getD i d = a := by
 simp [List.getD_eq_getElem?_getD,h]
def Dy (L : List Int) (i j : Nat) : List Int := (L.set i (L.getD j 0)).set j (L.getD i 0)
theorem Aeh (L : List Int) (i j : Nat) : (Dy L i j).length = L.length := by simp [Dy]
theorem AiY {L : List Int} {i j : Nat} {x : Int} (hi : i < L.length) : (L.set i x).getD j 0 = if j = i then x else L.getD j 0 := by
 by_cases e : j = i
 ·subst e
  rw [if_pos rfl]
  exact AgX hi
 ·rw [if_neg e,List.getD_eq_getElem?_getD,List.getElem?_set_ne (fun h => e h.symm),← List.getD_eq_getElem?_getD]
theorem Ij {L : List Int} {i j k : Nat} (hi : i < L.length) (hj : j < L.length) : (Dy L i j).getD k 0 = if k = j then L.getD i 0 else if k = i then L.getD j 0 else L.getD k 0 := by
 unfold Dy
 rw [AiY (by simpa using hj),AiY hi]
theorem Akb {L : List Int} {i j : Nat} (hi : i < L.length) (hj : j < L.length) : (Dy L i j).Perm L := by
 have h := Array.swap_perm (xs := L.toArray) (i := i) (j := j) (by simpa using hi) (by simpa using hj)
 have e : (L.toArray.swap i j (by simpa using hi) (by simpa using hj)).toList = Dy L i j := by
  unfold Dy
  rw [Gj hi,Gj hj]
  simp [Array.swap]
 have := Array.perm_iff_toList_perm.mp h
 rw [e] at this
 simpa using this
theorem RP.swap {a b : Nat} {L : List Int} {i j : Nat} (hb : b ≤ L.length) (i1 : a ≤ i) (i2 : i < b) (j1 : a ≤ j) (j2 : j < b) : RP a b L (Dy L i j) := by
 have hi : i < L.length := by omega
 have hj : j < L.length := by omega
 refine ⟨Aeh L i j,fun k hk => ?_,fun k k1 k2 => ?_,Akb hi hj⟩
 ·rw [Ij hi hj,if_neg (by omega),if_neg (by omega)]
 ·rw [Ij hi hj]
  split
  ·exact ⟨i,i1,i2,rfl⟩
  ·split
   ·exact ⟨j,j1,j2,rfl⟩
   ·exact ⟨k,k1,k2,rfl⟩
def Gm (a b : Nat) (L : List Int) : Prop := ∀ p q,a ≤ p → p < q → q < b → L.getD p 0 ≤ L.getD q 0
theorem Ajj {L : List Int} {a b : Nat} (hab : a ≤ b) (hb : b ≤ L.length) (hl : L.length ≤ 1000000) : Ok (Eh L (a : Int) (b : Int)) (fun M => RP a b L M ∧ Gm a b M) := by
 unfold Eh
 have e1 : w64 ((a : Int) + 1) = ((a + 1 : Nat) : Int) := by
  rw [Ay (by omega) (by omega)]
  omega
 rw [e1]
 refine Ok.guard (by omega) ?_
 have em : Int.toNat ((b : Int) - ((a + 1 : Nat) : Int)) = b - (a + 1) := by omega
 rw [em]
 refine Ok.for (fun j s => RP a b L s ∧ Gm a (a + 1 + j) s) ⟨.refl _ _ _,fun p q h1 h2 h3 => by omega⟩ ?_ ?_
 ·intro j s n hj ⟨i1,i2⟩ hn
  have hs := i1.len
  have ei : ((a + 1 : Nat) : Int) + (j : Int) = ((a + 1 + j : Nat) : Int) := by omega
  rw [ei]
  unfold Hr
  refine Ok.while (fun q => ∃ k : Nat,q.2 = (k : Int) ∧ a ≤ k ∧ k ≤ a + 1 + j ∧ RP a b L q.1 ∧ (∀ p r,a ≤ p → p < r → r ≤ a + 1 + j → p ≠ k → r ≠ k → q.1.getD p 0 ≤ q.1.getD r 0) ∧ (∀ r,k < r → r ≤ a + 1 + j → q.1.getD k 0 ≤ q.1.getD r 0)) (fun q => q.2.toNat) ?_ ?_ ?_
  ·refine ⟨a + 1 + j,rfl,by omega,by omega,i1,fun p r h1 h2 h3 h4 h5 => i2 p r h1 h2 (by omega),fun r h1 h2 => by omega⟩
  ·rw [Df]
   simp only
   omega
  ·rintro ⟨M,x⟩ nn ⟨k,hx,k1,k2,rp,hA,hB⟩ hnn
   simp only at hx rp hA hB
   subst hx
   have hM := rp.len
   have ek : Int.toNat (k : Int) = k := by omega
   have fin : (k = a ∨ ¬ M.getD k 0 < M.getD (k - 1) 0) → Ok (n M) (fun M => RP a b L M ∧ Gm a b M) := by
    intro hstop
    refine hn M ⟨rp,fun p q h1 h2 h3 => ?_⟩
    by_cases hp : p = k
    ·subst hp
     exact hB q h2 (by omega)
    by_cases hq : q = k
    ·subst hq
     rcases hstop with h | h
     ·omega
     ·by_cases hp2 : p = q - 1
      ·subst hp2
       omega
      ·have := hA p (q - 1) h1 (by omega) (by omega) hp (by omega)
       omega
    exact hA p q h1 h2 (by omega) hp hq
   unfold Hs Dq
   simp only
   refine Ok.ite (fun c => ?_) fun c => ?_
   ·have c := of_decide_eq_true c
    have hw : w64 ((k : Int) - 1) = ((k - 1 : Nat) : Int) := by
     rw [Ay (by omega) (by omega)]
     omega
    have ek1 : Int.toNat ((k - 1 : Nat) : Int) = k - 1 := by omega
    rw [hw,ek,ek1,Ky]
    refine Ok.guard (by omega) (Ok.guard (by omega) (Ok.guard (by omega) (Ok.guard (by omega) ?_)))
    refine Ok.step rfl ?_
    refine Ok.ite (fun c2 => ?_) fun c2 => ?_
    ·have c2 := of_decide_eq_true c2
     refine Ok.guard (by omega) (Ok.guard (by omega) (Ok.guard (by omega) (Ok.guard (by omega) (Ok.guard (by omega) (Ok.guard (by omega) (Ok.guard (by omega) (Ok.guard (by omega) ?_)))))))
     have hkl : k < M.length := by omega
     have hk1 : k - 1 < M.length := by omega
     have hg : ∀ r,(Dy M k (k - 1)).getD r 0 = if r = k - 1 then M.getD k 0 else if r = k then M.getD (k - 1) 0 else M.getD r 0 := fun r => Ij hkl hk1
     refine hnn (Dy M k (k - 1),((k - 1 : Nat) : Int)) ⟨k - 1,rfl,by omega,by omega,rp.trans (RP.swap (by omega) (by omega) (by omega) (by omega) (by omega)),?_,?_⟩ (by simp only; omega)
     ·intro p r h1 h2 h3 h4 h5
      simp only
      rw [hg,hg,if_neg h4,if_neg h5]
      by_cases hp : p = k
      ·rw [if_pos hp,if_neg (by omega)]
       exact hA (k - 1) r (by omega) (by omega) h3 (by omega) (by omega)
      ·rw [if_neg hp]
       by_cases hr : r = k
       ·rw [if_pos hr]
        exact hA p (k - 1) h1 (by omega) (by omega) hp (by omega)
       ·rw [if_neg hr]
        exact hA p r h1 h2 h3 hp hr
     ·intro r h1 h2
      simp only
      rw [hg,hg,if_pos rfl,if_neg (by omega)]
      by_cases hr : r = k
      ·rw [if_pos hr]
       omega
      ·rw [if_neg hr]
       exact hB r (by omega) h2
    ·exact fin (.inr (of_decide_eq_false c2))
   ·have c := of_decide_eq_false c
    simp only [Bool.false_eq_true,if_false]
    exact fin (.inl (by omega))
 ·intro s ⟨i1,i2⟩
  refine Ok.ret ⟨i1,fun p q h1 h2 h3 => i2 p q h1 h2 (by omega)⟩
end Go.Dm
