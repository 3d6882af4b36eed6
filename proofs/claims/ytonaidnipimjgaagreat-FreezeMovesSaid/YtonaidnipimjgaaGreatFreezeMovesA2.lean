/- Texts of the proof of FreezeMoves: the data machine, the models of the Go functions, their contracts. -/
import Derived.Test.YtonaidnipimjgaaGreatFreezeMovesA1
import Derived.KernelRfl
set_option linter.unusedVariables false
set_option linter.unusedSimpArgs false
/- Models of Go types and functions, printed by a program. -/
namespace Go.Dm
set_option linter.unusedVariables false
structure An where
 id : Int
 parent : Int
 name : ByteArray
 control : Int
 kind : Int
 owner : Int
 deriving Inhabited
def Aq (x : An) : List PV := [vi x.id,vi x.parent,vs x.name,vi x.control,vi x.kind,vi x.owner]
abbrev Bj : An := default
abbrev Az (L : List An) : PV := Ps 6 Aq (default : An) L
abbrev Ak (L : List An) : Body := rowOf 6 Aq (default : An) L
abbrev Xf (L : List An) : Nat → List PV := elems Aq (default : An) L
structure Ag where
 nodes : List An
 next : Int
 deriving Inhabited
def As (x : Ag) : List PV := [Ps 6 Aq (default : An) x.nodes,vi x.next]
structure Aw where
 id : Int
 process : Int
 group : Int
 user : Int
 deriving Inhabited
def Ay (x : Aw) : List PV := [vi x.id,vi x.process,vi x.group,vi x.user]
abbrev Bt : Aw := default
abbrev Bb (L : List Aw) : PV := Ps 4 Ay (default : Aw) L
abbrev At (L : List Aw) : Body := rowOf 4 Ay (default : Aw) L
abbrev Abk (L : List Aw) : Nat → List PV := elems Ay (default : Aw) L
structure Aa where
 tree : Ag
 tasks : List Aw
 next : Int
 deriving Inhabited
def Ab (x : Aa) : List PV := [Ps 6 Aq (default : An) x.tree.nodes,vi x.tree.next,Ps 4 Ay (default : Aw) x.tasks,vi x.next]
structure Ar where
 l : List Int
 atF : Int
 deriving Inhabited
def Ap (x : Ar) : List PV := [Ps 1 Bm 0 x.l,vi x.atF]
def Yj (p0 : List Int) : Option Bool := (some (decide (((p0.length : Nat) : Int) ≤ 600)))
def Ze : Option Ag := (some ({ nodes := [({ id := 1,parent := 0,name := ByteArray.empty,control := 0,kind := 0,owner := 0 } : An)],next := 2 } : Ag))
def Afe : Option Aa := (Option.bind Ze fun r1 => (some ({ tree := r1,tasks := [],next := 1 } : Aa)))
def Zk (p0 : ByteArray) (k1 : Int) (s1 : Unit) (n1 : Unit → Option Bool) : Option Bool := (if 0 ≤ k1 ∧ k1 < ((p0.size : Nat) : Int) then (if (!((((((decide ((((Bp p0 (Int.toNat k1)) : Nat) : Int) ≥ 97)) && (decide ((((Bp p0 (Int.toNat k1)) : Nat) : Int) ≤ 122))) || ((decide ((((Bp p0 (Int.toNat k1)) : Nat) : Int) ≥ 65)) && (decide ((((Bp p0 (Int.toNat k1)) : Nat) : Int) ≤ 90)))) || ((decide ((((Bp p0 (Int.toNat k1)) : Nat) : Int) ≥ 48)) && (decide ((((Bp p0 (Int.toNat k1)) : Nat) : Int) ≤ 57)))) || ((((Bp p0 (Int.toNat k1)) : Nat) : Int) == 95)) || ((((Bp p0 (Int.toNat k1)) : Nat) : Int) == 45))) then (some false) else (n1 ())) else none)
def Adp (s1 : Unit) : Option Bool := (some true)
def Nh (p0 : ByteArray) (y1 : Bool) : Option Bool := (if y1 then (some false) else (if ((p0.size : Nat) : Int) ≤ 9223372036854775807 then (forO (Zk p0) Adp (Int.toNat (((p0.size : Nat) : Int) - 0)) 0 ()) else none))
def Re (p0 : ByteArray) : Option Bool := (if (((p0.size : Nat) : Int) == 0) then ((Nh p0) true) else (if (decide (((p0.size : Nat) : Int) > 32)) then ((Nh p0) true) else (if 0 < p0.size then ((Nh p0) ((((Bp p0 0) : Nat) : Int) == 45)) else none)))
def Pl (n1 : Bool → Option Bool) (y5 : Bool) (y6 : Bool) : Option Bool := (if y6 then (some false) else (n1 y5))
def Pm (p0 : Ag) (p1 : Int) (k1 : Int) (n1 : Bool → Option Bool) (y5 : Bool) : Option Bool := (if 0 ≤ k1 ∧ k1 < ((p0.nodes.length : Nat) : Int) then (if ((p0.nodes.getD (Int.toNat k1) (default : An)).parent == (p0.nodes.getD (Int.toNat p1) (default : An)).parent) then (if 0 ≤ k1 ∧ k1 < ((p0.nodes.length : Nat) : Int) then ((Pl n1 y5) (Dr (p0.nodes.getD (Int.toNat k1) (default : An)).name (p0.nodes.getD (Int.toNat p1) (default : An)).name)) else none) else ((Pl n1 y5) false)) else none)
def AaW (p0 : Ag) (p1 : Int) (k1 : Int) (s1 : Bool) (n1 : Bool → Option Bool) : Option Bool := (if s1 then ((Pm p0 p1 k1 n1) true) else (if 0 ≤ k1 ∧ k1 < ((p0.nodes.length : Nat) : Int) then ((Pm p0 p1 k1 n1) ((p0.nodes.getD (Int.toNat k1) (default : An)).id == (p0.nodes.getD (Int.toNat p1) (default : An)).parent)) else none))
def AeX (s1 : Bool) : Option Bool := (some s1)
def Sl (p0 : Ag) (p1 : Int) (y1 : Bool) : Option Bool := (if y1 then (some false) else (if p1 ≤ 9223372036854775807 then (forO (AaW p0 p1) AeX (Int.toNat (p1 - 0)) 0 false) else none))
def Ww (p0 : Ag) (p1 : Int) : Option Bool := (if 0 ≤ p1 ∧ p1 < ((p0.nodes.length : Nat) : Int) then (if (((((((p0.nodes.getD (Int.toNat p1) (default : An)).kind != 0) && ((p0.nodes.getD (Int.toNat p1) (default : An)).kind != 1)) || (decide ((p0.nodes.getD (Int.toNat p1) (default : An)).control < 0))) || (decide ((p0.nodes.getD (Int.toNat p1) (default : An)).control > 31))) || (decide ((p0.nodes.getD (Int.toNat p1) (default : An)).owner < 0))) || (decide ((p0.nodes.getD (Int.toNat p1) (default : An)).owner > 1048576))) then (some false) else (if (p1 == 0) then (some (((((p0.nodes.getD (Int.toNat p1) (default : An)).id == 1) && ((p0.nodes.getD (Int.toNat p1) (default : An)).parent == 0)) && (Dr (p0.nodes.getD (Int.toNat p1) (default : An)).name ByteArray.empty)) && ((p0.nodes.getD (Int.toNat p1) (default : An)).kind == 0))) else (if 0 ≤ (w64 (p1 - 1)) ∧ (w64 (p1 - 1)) < ((p0.nodes.length : Nat) : Int) then (if (decide ((p0.nodes.getD (Int.toNat p1) (default : An)).id ≤ (p0.nodes.getD (Int.toNat (w64 (p1 - 1))) (default : An)).id)) then ((Sl p0 p1) true) else (Option.bind (Re (p0.nodes.getD (Int.toNat p1) (default : An)).name) fun r17 => ((Sl p0 p1) (!r17)))) else none))) else none)
def Tf (s1 : (List Int) × Int × Int) (n1 : ((List Int) × Int × Int) → Option (List Int)) (y2 : (List Int) × Int) : Option (List Int) := (n1 (y2.1,y2.2,(w64 (s1.2.2 - 1))))
def AcP (p0 : Ag) (s1 : (List Int) × Int × Int) (n1 : ((List Int) × Int × Int) → Option (List Int)) : Option (List Int) := (if (decide (s1.2.2 ≥ 0)) then (if 0 ≤ s1.2.2 ∧ s1.2.2 < ((p0.nodes.length : Nat) : Int) then (if ((p0.nodes.getD (Int.toNat s1.2.2) (default : An)).id == s1.2.1) then (if s1.1.length + 1 ≤ 1073741824 then (if 0 ≤ s1.2.2 ∧ s1.2.2 < ((p0.nodes.length : Nat) : Int) then ((Tf s1 n1) ((s1.1 ++ [s1.2.1]),(p0.nodes.getD (Int.toNat s1.2.2) (default : An)).parent)) else none) else none) else ((Tf s1 n1) (s1.1,s1.2.1))) else none) else (some s1.1))
def Ys (p0 : Ag) (p1 : Int) : Option (List Int) := (whileO (AcP p0) Dy ([],p1,(w64 (((p0.nodes.length : Nat) : Int) - 1))))
def Zm (p0 : Ag) (k1 : Nat) (x1 : An) (s1 : Unit) (n1 : Unit → Option Bool) : Option Bool := (Option.bind (Ww p0 ((k1 : Nat) : Int)) fun r33 => (if (!r33) then (some false) else (n1 ())))
def Zg (p0 : Ag) (k4 : Nat) (x4 : An) (s4 : Unit) (n4 : Unit → Option Bool) : Option Bool := (Option.bind (Ys p0 x4.id) fun r50 => (if (decide (((r50.length : Nat) : Int) > 9)) then (some false) else (n4 ())))
def Qg (y7 : Bool) : Option Bool := (some y7)
def Zs (p0 : Ag) (s4 : Unit) : Option Bool := (if 0 ≤ (w64 (((p0.nodes.length : Nat) : Int) - 1)) ∧ (w64 (((p0.nodes.length : Nat) : Int) - 1)) < ((p0.nodes.length : Nat) : Int) then (if (decide (p0.next > (p0.nodes.getD (Int.toNat (w64 (((p0.nodes.length : Nat) : Int) - 1))) (default : An)).id)) then (Qg (decide (p0.next ≤ 2147483648))) else (Qg false)) else none)
def Zc (p0 : Ag) (s1 : Unit) : Option Bool := (if p0.nodes.length ≤ 9223372036854775807 then Bi (Zg p0) (Zs p0) p0.nodes 0 () else none)
def Jq (p0 : Ag) : Option Bool := (if ((decide (((p0.nodes.length : Nat) : Int) < 1)) || (decide (((p0.nodes.length : Nat) : Int) > 64))) then (some false) else (if p0.nodes.length ≤ 9223372036854775807 then Bi (Zm p0) (Zc p0) p0.nodes 0 () else none))
def Acv (p1 : Int) (k1 : Nat) (x1 : Aw) (s1 : Unit) (n1 : Unit → Option (Aw × Bool)) : Option (Aw × Bool) := (if (x1.id == p1) then (some (x1,(x1.process == p1))) else (n1 ()))
def AcD (s1 : Unit) : Option (Aw × Bool) := (some (({ id := 0,process := 0,group := 0,user := 0 } : Aw),false))
def Sh (p0 : List Aw) (p1 : Int) : Option (Aw × Bool) := (if p0.length ≤ 9223372036854775807 then Bi (Acv p1) AcD p0 0 () else none)
def AeT (p1 : Int) (k1 : Nat) (x1 : An) (s1 : Unit) (n1 : Unit → Option (An × Bool)) : Option (An × Bool) := (if (x1.id == p1) then (some (x1,true)) else (n1 ()))
def AeW (s1 : Unit) : Option (An × Bool) := (some (({ id := 0,parent := 0,name := ByteArray.empty,control := 0,kind := 0,owner := 0 } : An),false))
def Df (p0 : Ag) (p1 : Int) : Option (An × Bool) := (Option.bind (Jq p0) fun r1 => (if (!r1) then (some (({ id := 0,parent := 0,name := ByteArray.empty,control := 0,kind := 0,owner := 0 } : An),false)) else (if p0.nodes.length ≤ 9223372036854775807 then Bi (AeT p1) AeW p0.nodes 0 () else none)))
def Fn (p0 : Ag) (p1 : Int) : Option Bool := (Option.bind (Df p0 p1) fun r1 => (some r1.2))
def Ch (n1 : Unit → Option Bool) (y4 : Bool) : Option Bool := (if y4 then (some false) else (n1 ()))
def To (p0 : Aa) (k1 : Nat) (x1 : Aw) (s1 : Unit) (n1 : Unit → Option Bool) : Option Bool := (Option.bind (Sh p0.tasks x1.process) fun r46 => (if (decide (x1.id < 1)) then ((Ch n1) true) else (if (decide (((k1 : Nat) : Int) > 0)) then (if 0 ≤ (w64 (((k1 : Nat) : Int) - 1)) ∧ (w64 (((k1 : Nat) : Int) - 1)) < ((p0.tasks.length : Nat) : Int) then (if (decide ((p0.tasks.getD (Int.toNat (w64 (((k1 : Nat) : Int) - 1))) (default : Aw)).id ≥ x1.id)) then ((Ch n1) true) else (Option.bind (Fn p0.tree x1.group) fun r51 => (if (!r51) then ((Ch n1) true) else (if (decide (x1.user < 0)) then ((Ch n1) true) else (if (decide (x1.user > 1048576)) then ((Ch n1) true) else (if (!r46.2) then ((Ch n1) true) else ((Ch n1) (r46.1.user != x1.user)))))))) else none) else (Option.bind (Fn p0.tree x1.group) fun r56 => (if (!r56) then ((Ch n1) true) else (if (decide (x1.user < 0)) then ((Ch n1) true) else (if (decide (x1.user > 1048576)) then ((Ch n1) true) else (if (!r46.2) then ((Ch n1) true) else ((Ch n1) (r46.1.user != x1.user))))))))))
def Zz (s1 : Unit) : Option Bool := (some true)
def Il (p0 : Aa) (y1 : Bool) : Option Bool := (if y1 then (some false) else (if p0.tasks.length ≤ 9223372036854775807 then Bi (To p0) Zz p0.tasks 0 () else none))
def Fo (p0 : Aa) : Option Bool := (Option.bind (Jq p0.tree) fun r1 => (if (!r1) then ((Il p0) true) else (if (decide (((p0.tasks.length : Nat) : Int) > 128)) then ((Il p0) true) else (if (decide (p0.next < 1)) then ((Il p0) true) else (if (decide (p0.next > 2147483648)) then ((Il p0) true) else (if (decide (((p0.tasks.length : Nat) : Int) > 0)) then (if 0 ≤ (w64 (((p0.tasks.length : Nat) : Int) - 1)) ∧ (w64 (((p0.tasks.length : Nat) : Int) - 1)) < ((p0.tasks.length : Nat) : Int) then ((Il p0) (decide (p0.next ≤ (p0.tasks.getD (Int.toNat (w64 (((p0.tasks.length : Nat) : Int) - 1))) (default : Aw)).id))) else none) else ((Il p0) false)))))))
def Rz (p0 : Ag) (p1 : Int) : Option Int := (Option.bind (Df p0 p1) fun r1 => (if ((!r1.2) || (p1 == 1)) then (some 0) else (Option.bind (Df p0 r1.1.parent) fun r4 => (if (r1.1.kind == 1) then (some (Eb .i64 r4.1.control 6)) else (some r4.1.control)))))
def Lm (y2 : Int) : Option Int := (some y2)
def Jj (r1 : An × Bool) (y1 : Int) : Option Int := (if (r1.1.kind == 1) then (Lm (Eb .i64 y1 6)) else (Lm y1))
def Lh (p0 : Ag) (p1 : Int) : Option Int := (Option.bind (Df p0 p1) fun r1 => (if (!r1.2) then (some 0) else (if (p1 != 1) then (Option.bind (Rz p0 p1) fun r4 => ((Jj r1) r4)) else ((Jj r1) 31))))
def Qn (n1 : (List Int) → Option (List Int)) (y3 : List Int) : Option (List Int) := (n1 y3)
def Yy (p1 : Int) (k1 : Nat) (x1 : Aw) (s1 : List Int) (n1 : (List Int) → Option (List Int)) : Option (List Int) := (if (x1.group == p1) then (if s1.length + 1 ≤ 1073741824 then ((Qn n1) (s1 ++ [x1.id])) else none) else ((Qn n1) s1))
def AdF (s1 : List Int) : Option (List Int) := (some s1)
def Ig (p0 : Aa) (p1 : Int) : Option (List Int) := (Option.bind (Fo p0) fun r1 => (if (!r1) then (some []) else (if p0.tasks.length ≤ 9223372036854775807 then Bi (Yy p1) AdF p0.tasks 0 [] else none)))
def Jy (n1 : Unit → Option Bool) (y3 : Bool) : Option Bool := (if y3 then (some false) else (n1 ()))
def Aad (p0 : Aa) (k1 : Nat) (x1 : An) (s1 : Unit) (n1 : Unit → Option Bool) : Option Bool := (Option.bind (Lh p0.tree x1.id) fun r20 => (if ((Eb .i64 x1.control r20) != 0) then ((Jy n1) true) else (if (x1.id != 1) then (if ((kand .i64 x1.control 6) != 0) then (Option.bind (Ig p0 x1.id) fun r24 => ((Jy n1) (decide (((r24.length : Nat) : Int) > 0)))) else ((Jy n1) false)) else ((Jy n1) false))))
def AcO (s1 : Unit) : Option Bool := (some true)
def Rj (p0 : Aa) : Option Bool := (Option.bind (Fo p0) fun r1 => (if (!r1) then (some false) else (if p0.tree.nodes.length ≤ 9223372036854775807 then Bi (Aad p0) AcO p0.tree.nodes 0 () else none)))
def AeI (p1 : Int) (k1 : Nat) (x1 : Aw) (s1 : Unit) (n1 : Unit → Option (Aw × Bool)) : Option (Aw × Bool) := (if (x1.id == p1) then (some (x1,true)) else (n1 ()))
def AeS (s1 : Unit) : Option (Aw × Bool) := (some (({ id := 0,process := 0,group := 0,user := 0 } : Aw),false))
def Ha (p0 : Aa) (p1 : Int) : Option (Aw × Bool) := (Option.bind (Fo p0) fun r1 => (if (!r1) then (some (({ id := 0,process := 0,group := 0,user := 0 } : Aw),false)) else (if p0.tasks.length ≤ 9223372036854775807 then Bi (AeI p1) AeS p0.tasks 0 () else none)))
def Fu (p0 : Ag) (p1 : Int) : Option (List Int) := (Option.bind (Fn p0 p1) fun r1 => (if (!r1) then (some []) else (Option.bind (Ys p0 p1) fun r3 => (some r3))))
def Xm (p0 : Ag) (k1 : Nat) (x1 : Int) (s1 : Unit) (n1 : Unit → Option (Int × Bool)) : Option (Int × Bool) := (Option.bind (Df p0 x1) fun r17 => (if (r17.1.kind != 1) then (some (x1,true)) else (n1 ())))
def AcA (s1 : Unit) : Option (Int × Bool) := (some (0,false))
def Kz (p0 : Ag) (p1 : Int) : Option (Int × Bool) := (Option.bind (Fu p0 p1) fun r1 => (if r1.length ≤ 9223372036854775807 then Bi (Xm p0) AcA r1 0 () else none))
def Ml (n1 : (List Int) → Option (List Int)) (y3 : List Int) : Option (List Int) := (n1 y3)
def Up (p1 : Int) (k1 : Nat) (x1 : An) (s1 : List Int) (n1 : (List Int) → Option (List Int)) : Option (List Int) := (if (x1.parent == p1) then (if s1.length + 1 ≤ 1073741824 then ((Ml n1) (s1 ++ [x1.id])) else none) else ((Ml n1) s1))
def Aar (s1 : List Int) : Option (List Int) := (some s1)
def Hi (p0 : Ag) (p1 : Int) : Option (List Int) := (Option.bind (Fn p0 p1) fun r1 => (if (!r1) then (some []) else (if p0.nodes.length ≤ 9223372036854775807 then Bi (Up p1) Aar p0.nodes 0 [] else none)))
def Abf (p0 : Ag) (k1 : Nat) (x1 : Int) (s1 : Unit) (n1 : Unit → Option Int) : Option Int := (Option.bind (Df p0 x1) fun r21 => (if (r21.1.kind == 1) then (some 1) else (n1 ())))
def AeJ (s1 : Unit) : Option Int := (some 0)
def Ms (p0 : Ag) (p1 : Int) (y1 : Bool) : Option Int := (if y1 then (some 3) else (Option.bind (Hi p0 p1) fun r9 => (if r9.length ≤ 9223372036854775807 then Bi (Abf p0) AeJ r9 0 () else none)))
def Rb (rec : Ag → Int → Option Int) (p0 : Ag) (p1 : Int) : Option Int := (Option.bind (Df p0 p1) fun r1 => (if (!r1.2) then (some 0) else (if (r1.1.kind == 1) then (some 2) else (Option.bind (Df p0 r1.1.parent) fun r4 => (if r4.2 then (if (r4.1.kind == 1) then ((Ms p0 p1) true) else (Option.bind (rec p0 r4.1.id) fun r7 => ((Ms p0 p1) (r7 == 3)))) else ((Ms p0 p1) false))))))
def Kx : Nat → Ag → Int → Option Int
 | 0,_,_ => none
 | n + 1,p0,p1 => Rb (Kx n) p0 p1
def Mn (p0 : Ag) (p1 : Int) : Option Int := Kx Dy p0 p1
def AaZ (p0 : Aa) (k1 : Nat) (x1 : Aw) (s1 : Unit) (n1 : Unit → Option Bool) : Option Bool := (Option.bind (Ha p0 x1.process) fun r100 => (Option.bind (Kz p0.tree x1.group) fun r101 => (Option.bind (Kz p0.tree r100.1.group) fun r102 => (if (r101.1 != r102.1) then (some false) else (n1 ())))))
def Ju (n4 : Unit → Option Bool) (y18 : Bool) : Option Bool := (if y18 then (some false) else (n4 ()))
def Lr (p0 : Aa) (x4 : An) (n4 : Unit → Option Bool) (r133 : An × Bool) (y17 : Bool) : Option Bool := (if y17 then (some false) else (if (x4.kind == 1) then (if (r133.1.id != 1) then (if ((kand .i64 r133.1.control 6) != 0) then ((Ju n4) true) else (Option.bind (Mn p0.tree r133.1.id) fun r142 => ((Ju n4) (r142 == 3)))) else (Option.bind (Mn p0.tree r133.1.id) fun r143 => ((Ju n4) (r143 == 3)))) else ((Ju n4) false)))
def AaS (p0 : Aa) (k4 : Nat) (x4 : An) (s4 : Unit) (n4 : Unit → Option Bool) : Option Bool := (Option.bind (Df p0.tree x4.parent) fun r133 => (Option.bind (Mn p0.tree x4.id) fun r134 => (if (r134 == 3) then (if (x4.control != 0) then ((Lr p0 x4 n4 r133) true) else (Option.bind (Ig p0 x4.id) fun r137 => ((Lr p0 x4 n4 r133) (decide (((r137.length : Nat) : Int) > 0))))) else ((Lr p0 x4 n4 r133) false))))
def AeM (s4 : Unit) : Option Bool := (some true)
def AaQ (p0 : Aa) (s1 : Unit) : Option Bool := (if p0.tree.nodes.length ≤ 9223372036854775807 then Bi (AaS p0) AeM p0.tree.nodes 0 () else none)
def Ky (p0 : Aa) : Option Bool := (Option.bind (Rj p0) fun r1 => (if (!r1) then (some false) else (if p0.tasks.length ≤ 9223372036854775807 then Bi (AaZ p0) (AaQ p0) p0.tasks 0 () else none)))
def Ud (p0 : Ag) (p1 : Int) : Option Int := (Option.bind (Fu p0 p1) fun r1 => (some (w64 (((r1.length : Nat) : Int) - 1))))
def Oa (p0 : Ag) : Option Ag := (if p0.nodes.length ≤ 1073741824 then (some p0) else none)
def Ach (p1 : Int) (p2 : ByteArray) (k1 : Nat) (x1 : An) (s1 : Unit) (n1 : Unit → Option (Ag × Int × Int)) : Option (Ag × Int × Int) := (if ((x1.parent == p1) && (Dr x1.name p2)) then (some (({ nodes := [],next := 0 } : Ag),0,5)) else (n1 ()))
def Og (p0 : Ag) (p1 : Int) (p2 : ByteArray) (y6 : Bool) : Option (Ag × Int × Int) := (if y6 then (some (({ nodes := [],next := 0 } : Ag),0,7)) else (Option.bind (Oa p0) fun r36 => (if r36.nodes.length + 1 ≤ 1073741824 then (some (({ nodes := (r36.nodes ++ [({ id := p0.next,parent := p1,name := p2,control := 0,kind := 0,owner := 0 } : An)]),next := (w64 (r36.next + 1)) } : Ag),p0.next,0)) else none)))
def Acg (p0 : Ag) (p1 : Int) (p2 : ByteArray) (s1 : Unit) : Option (Ag × Int × Int) := (Option.bind (Ud p0 p1) fun r32 => (if (decide (r32 ≥ 8)) then ((Og p0 p1 p2) true) else (if (decide (((p0.nodes.length : Nat) : Int) ≥ 64)) then ((Og p0 p1 p2) true) else ((Og p0 p1 p2) (decide (p0.next > 2147483647))))))
def Ur (p0 : Ag) (p1 : Int) (p2 : ByteArray) (y1 : Bool) : Option (Ag × Int × Int) := (if y1 then (some (({ nodes := [],next := 0 } : Ag),0,1)) else (Option.bind (Fn p0 p1) fun r5 => (if (!r5) then (some (({ nodes := [],next := 0 } : Ag),0,4)) else (if p0.nodes.length ≤ 9223372036854775807 then Bi (Ach p1 p2) (Acg p0 p1 p2) p0.nodes 0 () else none))))
def Aab (p0 : Ag) (p1 : Int) (p2 : ByteArray) : Option (Ag × Int × Int) := (Option.bind (Jq p0) fun r1 => (if (!r1) then ((Ur p0 p1 p2) true) else (Option.bind (Re p2) fun r3 => ((Ur p0 p1 p2) (!r3)))))
def Oc (p0 : Aa) : Option Aa := (Option.bind (Oa p0.tree) fun r1 => (if p0.tasks.length ≤ 1073741824 then (some ({ tree := r1,tasks := p0.tasks,next := p0.next } : Aa)) else none))
def Uv (r3 : Aa) (y1 : Aw) : Option (Aa × Int × Int) := (if r3.tasks.length + 1 ≤ 1073741824 then (some (({ tree := r3.tree,tasks := (r3.tasks ++ [y1]),next := (w64 (r3.next + 1)) } : Aa),y1.id,0)) else none)
def Vr (p0 : Aa) (p1 : Aw) : Option (Aa × Int × Int) := (if ((decide (((p0.tasks.length : Nat) : Int) ≥ 128)) || (decide (p0.next > 2147483647))) then (some (({ tree := ({ nodes := [],next := 0 } : Ag),tasks := [],next := 0 } : Aa),0,7)) else (Option.bind (Oc p0) fun r3 => (if (p1.process == 0) then ((Uv r3) ({ id := p0.next,process := p0.next,group := p1.group,user := p1.user } : Aw)) else ((Uv r3) ({ id := p0.next,process := p1.process,group := p1.group,user := p1.user } : Aw)))))
def Nk (p0 : Aa) (p1 : Int) (p2 : Int) (y1 : Bool) : Option (Aa × Int × Int) := (if y1 then (some (({ tree := ({ nodes := [],next := 0 } : Ag),tasks := [],next := 0 } : Aa),0,1)) else (Option.bind (Fn p0.tree p1) fun r5 => (if (!r5) then (some (({ tree := ({ nodes := [],next := 0 } : Ag),tasks := [],next := 0 } : Aa),0,4)) else (Option.bind (Vr p0 ({ id := 0,process := 0,group := p1,user := p2 } : Aw)) fun r7 => (some (r7.1,r7.2.1,r7.2.2))))))
def Ts (p0 : Aa) (p1 : Int) (p2 : Int) : Option (Aa × Int × Int) := (Option.bind (Fo p0) fun r1 => (if (!r1) then ((Nk p0 p1 p2) true) else (if (decide (p2 < 0)) then ((Nk p0 p1 p2) true) else ((Nk p0 p1 p2) (decide (p2 > 1048576))))))
def Aav (p0 : An) : Option Bool := (some ((((p0.id == 1) && (p0.parent == 0)) && (Dr p0.name ByteArray.empty)) && (p0.kind == 0)))
def Yc (p0 : Int) : Option Bool := (some ((((((decide (p0 ≥ 97)) && (decide (p0 ≤ 122))) || ((decide (p0 ≥ 65)) && (decide (p0 ≤ 90)))) || ((decide (p0 ≥ 48)) && (decide (p0 ≤ 57)))) || (p0 == 95)) || (p0 == 45)))
def Aag (k1 : Nat) (x1 : Int) (s1 : Unit) (n1 : Unit → Option Bool) : Option Bool := (Option.bind (Yc x1) fun r16 => (if (!r16) then (some false) else (n1 ())))
def Nl (y3 : Bool) : Option Bool := (some y3)
def Zl (p0 : ByteArray) (s1 : Unit) : Option Bool := (if (!(Dr p0 ByteArray.empty)) then (if (decide (((p0.size : Nat) : Int) ≤ 32)) then (if 0 < p0.size then (Nl ((((Bp p0 0) : Nat) : Int) != 45)) else none) else (Nl false)) else (Nl false))
def Tz (p0 : ByteArray) : Option Bool := (if (Ie p0).length ≤ 9223372036854775807 then Bi Aag (Zl p0) (Ie p0) 0 () else none)
def Abg (p1 : An) (k1 : Nat) (x1 : An) (s1 : Bool) (n1 : Bool → Option Bool) : Option Bool := (if ((x1.parent == p1.parent) && (Dr x1.name p1.name)) then (some false) else (n1 (s1 || (x1.id == p1.parent))))
def AeV (s1 : Bool) : Option Bool := (some s1)
def Jo (p0 : List An) (p1 : An) (y1 : Bool) : Option Bool := (if y1 then (some false) else (if p0.length ≤ 9223372036854775807 then Bi (Abg p1) AeV p0 0 false else none))
def Wv (p0 : List An) (p1 : An) : Option Bool := (if 0 ≤ (w64 (((p0.length : Nat) : Int) - 1)) ∧ (w64 (((p0.length : Nat) : Int) - 1)) < ((p0.length : Nat) : Int) then (if (decide (p1.id ≤ (p0.getD (Int.toNat (w64 (((p0.length : Nat) : Int) - 1))) (default : An)).id)) then ((Jo p0 p1) true) else (Option.bind (Tz p1.name) fun r3 => (if (!r3) then ((Jo p0 p1) true) else (if (p1.kind != 0) then ((Jo p0 p1) (p1.kind != 1)) else ((Jo p0 p1) false))))) else none)
def Qr (x1 : An) (n1 : (IMap Int) → Option Bool) (y9 : IMap Int) : Option Bool := (if (decide ((y9.get x1.id) > 8)) then (some false) else (n1 y9))
def Gf (k1 : Nat) (x1 : An) (s1 : IMap Int) (n1 : (IMap Int) → Option Bool) (y8 : Bool) : Option Bool := (if y8 then (some false) else (if (decide (((k1 : Nat) : Int) > 0)) then ((Qr x1 n1) (s1.set x1.id (w64 ((s1.get x1.parent) + 1)))) else ((Qr x1 n1) s1)))
def Zn (p0 : Ag) (k1 : Nat) (x1 : An) (s1 : IMap Int) (n1 : (IMap Int) → Option Bool) : Option Bool := (if (decide (x1.control < 0)) then ((Gf k1 x1 s1 n1) true) else (if ((Eb .i64 x1.control 31) != 0) then ((Gf k1 x1 s1 n1) true) else (if (decide (x1.owner < 0)) then ((Gf k1 x1 s1 n1) true) else (if (decide (x1.owner > 1048576)) then ((Gf k1 x1 s1 n1) true) else (if (decide (((k1 : Nat) : Int) > 0)) then (if ((k1 : Nat) : Int) ≤ ((p0.nodes.length : Nat) : Int) then (Option.bind (Wv (p0.nodes.take k1) x1) fun r43 => ((Gf k1 x1 s1 n1) (!r43))) else none) else ((Gf k1 x1 s1 n1) false))))))
def Ot (y10 : Bool) : Option Bool := (some y10)
def Zh (p0 : Ag) (s1 : IMap Int) : Option Bool := (if 0 ≤ (w64 (((p0.nodes.length : Nat) : Int) - 1)) ∧ (w64 (((p0.nodes.length : Nat) : Int) - 1)) < ((p0.nodes.length : Nat) : Int) then (if (decide (p0.next > (p0.nodes.getD (Int.toNat (w64 (((p0.nodes.length : Nat) : Int) - 1))) (default : An)).id)) then (Ot (decide (p0.next ≤ 2147483648))) else (Ot false)) else none)
def Nq (p0 : Ag) (y1 : Bool) : Option Bool := (if y1 then (some false) else (if p0.nodes.length ≤ 9223372036854775807 then Bi (Zn p0) (Zh p0) p0.nodes 0 (IMap.empty 0) else none))
def Oi (p0 : Ag) : Option Bool := (if (decide (((p0.nodes.length : Nat) : Int) < 1)) then ((Nq p0) true) else (if (decide (((p0.nodes.length : Nat) : Int) > 64)) then ((Nq p0) true) else (if 0 < p0.nodes.length then (Option.bind (Aav (p0.nodes.getD 0 (default : An))) fun r4 => ((Nq p0) (!r4))) else none)))
def Adq (p0 : Aw) (p1 : Int) : Option Bool := (some (p0.id == p1))
def La (p1c0 : Int) (k1 : Nat) (x1 : Aw) (s1 : Unit) (n1 : Unit → Option Int) : Option Int := (Option.bind (Adq x1 p1c0) fun r10 => (if r10 then (some ((k1 : Nat) : Int)) else (n1 ())))
def Lb (s1 : Unit) : Option Int := (some (-1))
def Fs (p0 : List Aw) (p1c0 : Int) : Option Int := (if p0.length ≤ 9223372036854775807 then Bi (La p1c0) Lb p0 0 () else none)
def Abo (p0 : Aa) (p1 : Int) : Option Int := (Option.bind (Fs p0.tasks p1) fun r1 => (some r1))
def Qz (p0 : Aa) (p1 : Int) : Option (Aw × Bool) := (Option.bind (Abo p0 p1) fun r1 => (if (decide (r1 < 0)) then (some (({ id := 0,process := 0,group := 0,user := 0 } : Aw),false)) else (if 0 ≤ r1 ∧ r1 < ((p0.tasks.length : Nat) : Int) then (some ((p0.tasks.getD (Int.toNat r1) (default : Aw)),true)) else none)))
def AaV (p0 : An) (p1 : Int) : Option Bool := (some (p0.id == p1))
def Kk (p1c0 : Int) (k1 : Nat) (x1 : An) (s1 : Unit) (n1 : Unit → Option Int) : Option Int := (Option.bind (AaV x1 p1c0) fun r10 => (if r10 then (some ((k1 : Nat) : Int)) else (n1 ())))
def Ke (s1 : Unit) : Option Int := (some (-1))
def Fe (p0 : List An) (p1c0 : Int) : Option Int := (if p0.length ≤ 9223372036854775807 then Bi (Kk p1c0) Ke p0 0 () else none)
def Ob (p0 : Ag) (p1 : Int) : Option Int := (Option.bind (Fe p0.nodes p1) fun r1 => (some r1))
def Hm (y1 : Bool) : Option Bool := (some y1)
def Se (p0 : Aa) (p1 : Aw) : Option Bool := (Option.bind (Qz p0 p1.process) fun r1 => (if (decide (p1.user ≥ 0)) then (if (decide (p1.user ≤ 1048576)) then (if r1.2 then (if (r1.1.process == r1.1.id) then (if (r1.1.user == p1.user) then (Option.bind (Ob p0.tree p1.group) fun r7 => (Hm (decide (r7 ≥ 0)))) else (Hm false)) else (Hm false)) else (Hm false)) else (Hm false)) else (Hm false)))
def Ny (x1 : Aw) (n1 : Int → Option Bool) (y4 : Bool) : Option Bool := (if y4 then (some false) else (n1 x1.id))
def Va (p0 : Aa) (k1 : Nat) (x1 : Aw) (s1 : Int) (n1 : Int → Option Bool) : Option Bool := (if (decide (x1.id ≤ s1)) then ((Ny x1 n1) true) else (Option.bind (Se p0 x1) fun r17 => ((Ny x1 n1) (!r17))))
def AbK (p0 : Aa) (s1 : Int) : Option Bool := (some (decide (p0.next > s1)))
def Le (p0 : Aa) (y1 : Bool) : Option Bool := (if y1 then (some false) else (if p0.tasks.length ≤ 9223372036854775807 then Bi (Va p0) (AbK p0) p0.tasks 0 0 else none))
def Ka (p0 : Aa) : Option Bool := (if (decide (((p0.tasks.length : Nat) : Int) > 128)) then ((Le p0) true) else (if (decide (p0.next > 2147483648)) then ((Le p0) true) else (Option.bind (Oi p0.tree) fun r3 => ((Le p0) (!r3)))))
def Ks (n1 : (List Int) → Option (List Int)) (y3 : List Int) : Option (List Int) := (n1 y3)
def Rs (p1 : Int) (k1 : Nat) (x1 : An) (s1 : List Int) (n1 : (List Int) → Option (List Int)) : Option (List Int) := (if (x1.parent == p1) then (if s1.length + 1 ≤ 1073741824 then ((Ks n1) (s1 ++ [x1.id])) else none) else ((Ks n1) s1))
def Xu (s1 : List Int) : Option (List Int) := (some s1)
def Mj (p0 : Ag) (p1 : Int) : Option (List Int) := (if p0.nodes.length ≤ 9223372036854775807 then Bi (Rs p1) Xu p0.nodes 0 [] else none)
def Te (p0 : Ag) (s1 : (List Int) × (List Int)) (n1 : ((List Int) × (List Int)) → Option (List Int)) : Option (List Int) := (if ((decide (((s1.2.length : Nat) : Int) > 0)) && (decide (((s1.1.length : Nat) : Int) < ((p0.nodes.length : Nat) : Int)))) then (if 0 < s1.2.length then (if s1.1.length + 1 ≤ 1073741824 then (if 0 < s1.2.length then (Option.bind (Mj p0 (s1.2.getD 0 0)) fun r17 => (if 1 ≤ s1.2.length then (if r17.length + (Fp s1.2.length 1) ≤ 1073741824 then (n1 ((s1.1 ++ [(s1.2.getD 0 0)]),(r17 ++ (s1.2.drop 1)))) else none) else none)) else none) else none) else none) else (some s1.1))
def Ni (p0 : Ag) (p1 : Int) : Option (List Int) := (Option.bind (Ob p0 p1) fun r1 => (if (decide (r1 < 0)) then (some []) else (whileO (Te p0) Dy ([],[p1]))))
def Xc (p1 : Int) (k1 : Nat) (x1 : Int) (s1 : Unit) (n1 : Unit → Option Int) : Option Int := (if (p1 == x1) then (some ((k1 : Nat) : Int)) else (n1 ()))
def Wp (s1 : Unit) : Option Int := (some (-1))
def Oe (p0 : List Int) (p1 : Int) : Option Int := (if p0.length ≤ 9223372036854775807 then Bi (Xc p1) Wp p0 0 () else none)
def Fz (p0 : List Int) (p1 : Int) : Option Bool := (Option.bind (Oe p0 p1) fun r1 => (some (decide (r1 ≥ 0))))
def Sm (p0 : Ag) (p1 : Int) : Option (An × Bool) := (Option.bind (Ob p0 p1) fun r1 => (if (decide (r1 < 0)) then (some (({ id := 0,parent := 0,name := ByteArray.empty,control := 0,kind := 0,owner := 0 } : An),false)) else (if 0 ≤ r1 ∧ r1 < ((p0.nodes.length : Nat) : Int) then (some ((p0.nodes.getD (Int.toNat r1) (default : An)),true)) else none)))
def Jv (y1 : List Int) : Option (List Int) := (some y1)
def Qt (p0 : Ag) (k1 : Nat) (x1 : An) (s1 : (List Int) × Int) (n1 : ((List Int) × Int) → Option (List Int)) : Option (List Int) := (Option.bind (Sm p0 s1.2) fun r9 => (if (!r9.2) then (Jv s1.1) else (if s1.1.length + 1 ≤ 1073741824 then (n1 ((s1.1 ++ [s1.2]),r9.1.parent)) else none)))
def Wm (s1 : (List Int) × Int) : Option (List Int) := (Jv s1.1)
def Ln (p0 : Ag) (p1 : Int) : Option (List Int) := (if p0.nodes.length ≤ 9223372036854775807 then Bi (Qt p0) Wm p0.nodes 0 ([],p1) else none)
def Ade (p0 : List Int) : Option Ar := (some ({ l := p0,atF := 0 } : Ar))
def Lq (p0 : Ar) (y1 : Int) : Option (Int × Ar) := (some (y1,({ l := p0.l,atF := (w64 (p0.atF + 1)) } : Ar)))
def Bs (p0 : Ar) (p1 : Int) : Option (Int × Ar) := (if ((decide (p0.atF ≥ ((p0.l.length : Nat) : Int))) || (decide (p1 < 1))) then (some (0,p0)) else (if 0 ≤ (w64 ((w64 (p0.atF + 1)) - 1)) ∧ (w64 ((w64 (p0.atF + 1)) - 1)) < ((p0.l.length : Nat) : Int) then (if (p1 : Int) ≠ 0 then (if (decide ((Int.tmod (p0.l.getD (Int.toNat (w64 ((w64 (p0.atF + 1)) - 1))) 0) p1) < 0)) then ((Lq p0) (w64 ((Int.tmod (p0.l.getD (Int.toNat (w64 ((w64 (p0.atF + 1)) - 1))) 0) p1) + p1))) else ((Lq p0) (Int.tmod (p0.l.getD (Int.toNat (w64 ((w64 (p0.atF + 1)) - 1))) 0) p1))) else none) else none))
def Nd (p0 : Ar) : Option (ByteArray × Ar) := (Option.bind (Bs p0 6) fun r3 => (if 0 ≤ r3.1 ∧ r3.1 < (([(bs [97]),(bs [98]),(bs [99]),(bs [119,101,98]),(bs [100,98,45,49]),(bs [88,95,57])].length : Nat) : Int) then (if (Int.toNat r3.1) < [(bs [97]),(bs [98]),(bs [99]),(bs [119,101,98]),(bs [100,98,45,49]),(bs [88,95,57])].length then (some (([(bs [97]),(bs [98]),(bs [99]),(bs [119,101,98]),(bs [100,98,45,49]),(bs [88,95,57])].getD (Int.toNat r3.1) ByteArray.empty),r3.2)) else none) else none))
def Ez (p0 : Ar) (p1 : Int) : Option (Bool × Ar) := (Option.bind (Bs p0 p1) fun r1 => (some ((r1.1 == (w64 (p1 - 1))),r1.2)))
def Ou (n1 : (List An) → Option (Ag × Int)) (y3 : List An) : Option (Ag × Int) := (n1 y3)
def Sn (p1 : Int) (k1 : Nat) (x1 : An) (s1 : List An) (n1 : (List An) → Option (Ag × Int)) : Option (Ag × Int) := (if (x1.id != p1) then (if s1.length + 1 ≤ 1073741824 then ((Ou n1) (s1 ++ [x1])) else none) else ((Ou n1) s1))
def Ss (p0 : Ag) (s1 : List An) : Option (Ag × Int) := (some (({ nodes := s1,next := p0.next } : Ag),0))
def Sa (p0 : Ag) (p1 : Int) : Option (Ag × Int) := (Option.bind (Jq p0) fun r1 => (if (!r1) then (some (({ nodes := [],next := 0 } : Ag),1)) else (Option.bind (Fn p0 p1) fun r3 => (if (!r3) then (some (({ nodes := [],next := 0 } : Ag),4)) else (if (p1 == 1) then (some (({ nodes := [],next := 0 } : Ag),9)) else (Option.bind (Hi p0 p1) fun r6 => (if (decide (((r6.length : Nat) : Int) > 0)) then (some (({ nodes := [],next := 0 } : Ag),6)) else (if p0.nodes.length ≤ 9223372036854775807 then Bi (Sn p1) (Ss p0) p0.nodes 0 [] else none))))))))
def Hq (s1 : Ar × Ag × Int) (n1 : (Ar × Ag × Int) → Option (Ag × Ar)) (y3 : Ar × Ag) : Option (Ag × Ar) := (n1 (y3.1,y3.2,(w64 (s1.2.2 - 1))))
def Jd (s1 : Ar × Ag × Int) (n1 : (Ar × Ag × Int) → Option (Ag × Ar)) (r21 : ByteArray × Ar) (y4 : Ag) : Option (Ag × Ar) := (Option.bind (Ez r21.2 6) fun r24 => (if r24.1 then (Option.bind (Bs r24.2 ((y4.nodes.length : Nat) : Int)) fun r26 => (if 0 ≤ r26.1 ∧ r26.1 < ((y4.nodes.length : Nat) : Int) then (Option.bind (Sa y4 (y4.nodes.getD (Int.toNat r26.1) (default : An)).id) fun r28 => (if (r28.2 == 0) then ((Hq s1 n1) (r26.2,r28.1)) else ((Hq s1 n1) (r26.2,y4)))) else none)) else ((Hq s1 n1) (r24.2,y4))))
def Ta (s1 : Ar × Ag × Int) (n1 : (Ar × Ag × Int) → Option (Ag × Ar)) : Option (Ag × Ar) := (if (decide (s1.2.2 > 0)) then (Option.bind (Bs s1.1 ((s1.2.1.nodes.length : Nat) : Int)) fun r19 => (if 0 ≤ r19.1 ∧ r19.1 < ((s1.2.1.nodes.length : Nat) : Int) then (Option.bind (Nd r19.2) fun r21 => (Option.bind (Aab s1.2.1 (s1.2.1.nodes.getD (Int.toNat r19.1) (default : An)).id r21.1) fun r22 => (if (r22.2.2 == 0) then ((Jd s1 n1 r21) r22.1) else ((Jd s1 n1 r21) s1.2.1)))) else none)) else (some (s1.2.1,s1.1)))
def Mx (p0 : Ar) (p1 : Int) : Option (Ag × Ar) := (Option.bind Ze fun r1 => (Option.bind (Bs p0 (w64 (p1 + 1))) fun r2 => (whileO Ta Dy (r2.2,r1,r2.1))))
def Im (p1 : Ag) (r1 : Bool × Ar) (y1 : Bool) : Option (Int × Ar) := (if y1 then (Option.bind (Bs r1.2 9) fun r4 => (some ((w64 (r4.1 - 1)),r4.2))) else (Option.bind (Bs r1.2 ((p1.nodes.length : Nat) : Int)) fun r5 => (if 0 ≤ r5.1 ∧ r5.1 < ((p1.nodes.length : Nat) : Int) then (some ((p1.nodes.getD (Int.toNat r5.1) (default : An)).id,r5.2)) else none)))
def Gx (p0 : Ar) (p1 : Ag) : Option (Int × Ar) := (Option.bind (Ez p0 15) fun r1 => (if r1.1 then ((Im p1 r1) true) else ((Im p1 r1) (((p1.nodes.length : Nat) : Int) == 0))))
def Hu (p0 : Ar) : Option (Int × Ar) := (Option.bind (Bs p0 9) fun r3 => (if 0 ≤ r3.1 ∧ r3.1 < (([1,9,31,2,25,4,0,32,(-1)].length : Nat) : Int) then (if (Int.toNat r3.1) < [1,9,31,2,25,4,0,32,(-1)].length then (some (([1,9,31,2,25,4,0,32,(-1)].getD (Int.toNat r3.1) 0),r3.2)) else none) else none))
def Zv (p0 : Int) : Option Bool := (some ((decide (p0 ≥ 0)) && (decide (p0 ≤ 31))))
def Uj (s1 : (List An) × Int) (n1 : ((List An) × Int) → Option Ag) (y2 : List An) : Option Ag := (n1 (y2,(w64 (s1.2 + 1))))
def AbU (p1 : An) (r1 : Ag) (s1 : (List An) × Int) (n1 : ((List An) × Int) → Option Ag) : Option Ag := (if (decide (s1.2 < ((s1.1.length : Nat) : Int))) then (if 0 ≤ s1.2 ∧ s1.2 < ((s1.1.length : Nat) : Int) then (if (Int.toNat s1.2) < s1.1.length then (if ((s1.1.getD (Int.toNat s1.2) (default : An)).id == p1.id) then (if 0 ≤ s1.2 ∧ s1.2 < ((s1.1.length : Nat) : Int) then (if (Int.toNat s1.2) < s1.1.length then ((Uj s1 n1) (s1.1.set (Int.toNat s1.2) p1)) else none) else none) else ((Uj s1 n1) s1.1)) else none) else none) else (some ({ nodes := s1.1,next := r1.next } : Ag)))
def Sy (p0 : Ag) (p1 : An) : Option Ag := (Option.bind (Oa p0) fun r1 => (whileO (AbU p1 r1) Dy (r1.nodes,0)))
def Zj (p0 : Aa) (p3 : Int) (k1 : Nat) (x1 : Int) (s1 : Unit) (n1 : Unit → Option (Aa × Int)) : Option (Aa × Int) := (Option.bind (Df p0.tree x1) fun r36 => (if ((kand .i64 r36.1.control p3) != 0) then (some (({ tree := ({ nodes := [],next := 0 } : Ag),tasks := [],next := 0 } : Aa),9)) else (n1 ())))
def Ls (p0 : Aa) (p2 : Int) (p3 : Int) (r8 : An × Bool) (y4 : Bool) : Option (Aa × Int) := (if y4 then (some (({ tree := ({ nodes := [],next := 0 } : Ag),tasks := [],next := 0 } : Aa),6)) else (Option.bind (Oc p0) fun r42 => (Option.bind (Sy p0.tree ({ id := r8.1.id,parent := r8.1.parent,name := r8.1.name,control := (kor .i64 (Eb .i64 r8.1.control p3) p2),kind := r8.1.kind,owner := r8.1.owner } : An)) fun r43 => (some (({ tree := r43,tasks := r42.tasks,next := r42.next } : Aa),0)))))
def Aaf (p0 : Aa) (p1 : Int) (p2 : Int) (p3 : Int) (r8 : An × Bool) (s1 : Unit) : Option (Aa × Int) := (if ((Eb .i64 (kand .i64 (kor .i64 (Eb .i64 r8.1.control p3) p2) 6) r8.1.control) != 0) then (if (p1 != 1) then (Option.bind (Ig p0 p1) fun r40 => ((Ls p0 p2 p3 r8) (decide (((r40.length : Nat) : Int) > 0)))) else ((Ls p0 p2 p3 r8) false)) else ((Ls p0 p2 p3 r8) false))
def Ih (p0 : Aa) (p1 : Int) (p2 : Int) (p3 : Int) (y1 : Bool) : Option (Aa × Int) := (if y1 then (some (({ tree := ({ nodes := [],next := 0 } : Ag),tasks := [],next := 0 } : Aa),1)) else (Option.bind (Df p0.tree p1) fun r8 => (if (!r8.2) then (some (({ tree := ({ nodes := [],next := 0 } : Ag),tasks := [],next := 0 } : Aa),4)) else (Option.bind (Lh p0.tree p1) fun r10 => (if ((Eb .i64 p2 r10) != 0) then (some (({ tree := ({ nodes := [],next := 0 } : Ag),tasks := [],next := 0 } : Aa),9)) else (Option.bind (Hi p0.tree p1) fun r12 => (if r12.length ≤ 9223372036854775807 then Bi (Zj p0 p3) (Aaf p0 p1 p2 p3 r8) r12 0 () else none)))))))
def Ua (p0 : Aa) (p1 : Int) (p2 : Int) (p3 : Int) : Option (Aa × Int) := (Option.bind (Rj p0) fun r1 => (if (!r1) then ((Ih p0 p1 p2 p3) true) else (Option.bind (Zv p2) fun r3 => (if (!r3) then ((Ih p0 p1 p2 p3) true) else (Option.bind (Zv p3) fun r5 => (if (!r5) then ((Ih p0 p1 p2 p3) true) else ((Ih p0 p1 p2 p3) ((kand .i64 p2 p3) != 0))))))))
def Rw (p0 : Aa) (p1 : Int) (p2 : Int) (p3 : Int) : Option (Aa × Int) := (Option.bind (Ky p0) fun r1 => (if (!r1) then (some (({ tree := ({ nodes := [],next := 0 } : Ag),tasks := [],next := 0 } : Aa),1)) else (Option.bind (Ua p0 p1 p2 p3) fun r3 => (if (r3.2 != 0) then (some (({ tree := ({ nodes := [],next := 0 } : Ag),tasks := [],next := 0 } : Aa),r3.2)) else (Option.bind (Ky r3.1) fun r5 => (if (!r5) then (some (({ tree := ({ nodes := [],next := 0 } : Ag),tasks := [],next := 0 } : Aa),10)) else (some (r3.1,0))))))))
def Nr (r13 : Aa) (r14 : Ag) (y2 : Bool) : Option (Aa × Int) := (if y2 then (some (({ tree := ({ nodes := [],next := 0 } : Ag),tasks := [],next := 0 } : Aa),6)) else (some (({ tree := r14,tasks := r13.tasks,next := r13.next } : Aa),0)))
def Jh (p0 : Aa) (p1 : Int) (r3 : An × Bool) (y1 : Bool) : Option (Aa × Int) := (if y1 then (some (({ tree := ({ nodes := [],next := 0 } : Ag),tasks := [],next := 0 } : Aa),10)) else (if ((kand .i64 r3.1.control 6) != 0) then (some (({ tree := ({ nodes := [],next := 0 } : Ag),tasks := [],next := 0 } : Aa),9)) else (Option.bind (Oc p0) fun r13 => (Option.bind (Sy p0.tree ({ id := r3.1.id,parent := r3.1.parent,name := r3.1.name,control := r3.1.control,kind := 1,owner := r3.1.owner } : An)) fun r14 => (Option.bind (Ig p0 p1) fun r15 => (if (decide (((r15.length : Nat) : Int) > 0)) then ((Nr r13 r14) true) else (Option.bind (Ky ({ tree := r14,tasks := r13.tasks,next := r13.next } : Aa)) fun r17 => ((Nr r13 r14) (!r17)))))))))
def Qy (p0 : Aa) (p1 : Int) : Option (Aa × Int) := (Option.bind (Ky p0) fun r1 => (if (!r1) then (some (({ tree := ({ nodes := [],next := 0 } : Ag),tasks := [],next := 0 } : Aa),1)) else (Option.bind (Df p0.tree p1) fun r3 => (if (!r3.2) then (some (({ tree := ({ nodes := [],next := 0 } : Ag),tasks := [],next := 0 } : Aa),4)) else (if ((p1 == 1) || (r3.1.kind == 1)) then (some (({ tree := ({ nodes := [],next := 0 } : Ag),tasks := [],next := 0 } : Aa),9)) else (Option.bind (Df p0.tree r3.1.parent) fun r7 => (Option.bind (Mn p0.tree r7.1.id) fun r8 => (if (r8 == 3) then ((Jh p0 p1 r3) true) else (if (r7.1.id != 1) then ((Jh p0 p1 r3) ((kand .i64 r7.1.control 6) != 0)) else ((Jh p0 p1 r3) false))))))))))
def Gi (y1 : Ar × Aa) : Option (Aa × Ar) := (some (y1.2,y1.1))
def Ix (p1 : Aa) (r1 : Int × Ar) (r2 : Int × Ar) (y2 : Bool) : Option (Aa × Ar) := (if y2 then (Option.bind (Hu r2.2) fun r5 => (Option.bind (Rw p1 r1.1 r5.1 0) fun r6 => (if (r6.2 == 0) then (some (r6.1,r5.2)) else (Gi (r5.2,p1))))) else (if (r2.1 == 2) then (Option.bind (Qy p1 r1.1) fun r9 => (if (r9.2 == 0) then (some (r9.1,r2.2)) else (Gi (r2.2,p1)))) else (if (r2.1 == 3) then (Option.bind (Df p1.tree r1.1) fun r12 => (if (r12.2 && (r1.1 != 1)) then (Option.bind (Bs r2.2 3) fun r15 => (Option.bind (Sy p1.tree ({ id := r12.1.id,parent := r12.1.parent,name := r12.1.name,control := r12.1.control,kind := r12.1.kind,owner := r15.1 } : An)) fun r16 => (Gi (r15.2,({ tree := r16,tasks := p1.tasks,next := p1.next } : Aa))))) else (Gi (r2.2,p1)))) else (Gi (r2.2,p1)))))
def Np (p0 : Ar) (p1 : Aa) : Option (Aa × Ar) := (Option.bind (Gx p0 p1.tree) fun r1 => (Option.bind (Bs r1.2 5) fun r2 => (if (r2.1 == 0) then ((Ix p1 r1 r2) (r2.1 == 0)) else ((Ix p1 r1 r2) (r2.1 == 1)))))
def Ph (p0 : Aa) (p1 : Int) : Option Int := (Option.bind (Ky p0) fun r1 => (if (!r1) then (some 1) else (Option.bind (Df p0.tree p1) fun r3 => (if (!r3.2) then (some 4) else (Option.bind (Mn p0.tree p1) fun r5 => (if (r5 == 3) then (some 10) else (if ((p1 != 1) && ((kand .i64 r3.1.control 6) != 0)) then (some 6) else (some 0))))))))
def Jb (p1 : Aa) (r1 : Bool × Ar) (y1 : Bool) : Option (Int × Ar) := (if y1 then (Option.bind (Bs r1.2 9) fun r4 => (some ((w64 (r4.1 - 1)),r4.2))) else (Option.bind (Bs r1.2 ((p1.tasks.length : Nat) : Int)) fun r5 => (if 0 ≤ r5.1 ∧ r5.1 < ((p1.tasks.length : Nat) : Int) then (some ((p1.tasks.getD (Int.toNat r5.1) (default : Aw)).id,r5.2)) else none)))
def Jf (p0 : Ar) (p1 : Aa) : Option (Int × Ar) := (Option.bind (Ez p0 15) fun r1 => (if r1.1 then ((Jb p1 r1) true) else ((Jb p1 r1) (((p1.tasks.length : Nat) : Int) == 0))))
def Ut (p0 : Aa) (p1 : Int) : Option (Aa × Int × Int) := (Option.bind (Fo p0) fun r1 => (if (!r1) then (some (({ tree := ({ nodes := [],next := 0 } : Ag),tasks := [],next := 0 } : Aa),0,1)) else (Option.bind (Ha p0 p1) fun r3 => (if (!r3.2) then (some (({ tree := ({ nodes := [],next := 0 } : Ag),tasks := [],next := 0 } : Aa),0,4)) else (Option.bind (Vr p0 r3.1) fun r5 => (some (r5.1,r5.2.1,r5.2.2)))))))
def Qo (s1 : (List Aw) × Int) (n1 : ((List Aw) × Int) → Option (Aa × Int)) (y3 : List Aw) : Option (Aa × Int) := (n1 (y3,(w64 (s1.2 + 1))))
def Qp (p1 : Int) (p2 : Int) (r7 : Aa) (s1 : (List Aw) × Int) (n1 : ((List Aw) × Int) → Option (Aa × Int)) : Option (Aa × Int) := (if (decide (s1.2 < ((s1.1.length : Nat) : Int))) then (if 0 ≤ s1.2 ∧ s1.2 < ((s1.1.length : Nat) : Int) then (if (Int.toNat s1.2) < s1.1.length then (if ((s1.1.getD (Int.toNat s1.2) (default : Aw)).id == p1) then (if 0 ≤ s1.2 ∧ s1.2 < ((s1.1.length : Nat) : Int) then (if (Int.toNat s1.2) < s1.1.length then ((Qo s1 n1) (s1.1.set (Int.toNat s1.2) ({ id := (s1.1.getD (Int.toNat s1.2) (default : Aw)).id,process := (s1.1.getD (Int.toNat s1.2) (default : Aw)).process,group := p2,user := (s1.1.getD (Int.toNat s1.2) (default : Aw)).user } : Aw))) else none) else none) else ((Qo s1 n1) s1.1)) else none) else none) else (some (({ tree := r7.tree,tasks := s1.1,next := r7.next } : Aa),0)))
def Qk (p0 : Aa) (p1 : Int) (p2 : Int) (y1 : Bool) : Option (Aa × Int) := (if y1 then (some (({ tree := ({ nodes := [],next := 0 } : Ag),tasks := [],next := 0 } : Aa),4)) else (Option.bind (Oc p0) fun r7 => (whileO (Qp p1 p2 r7) Dy (r7.tasks,0))))
def Rf (p0 : Aa) (p1 : Int) (p2 : Int) : Option (Aa × Int) := (Option.bind (Fo p0) fun r1 => (if (!r1) then (some (({ tree := ({ nodes := [],next := 0 } : Ag),tasks := [],next := 0 } : Aa),1)) else (Option.bind (Ha p0 p1) fun r3 => (if (!r3.2) then ((Qk p0 p1 p2) true) else (Option.bind (Fn p0.tree p2) fun r5 => ((Qk p0 p1 p2) (!r5)))))))
def Hc (p0 : Aa) (p1 : Int) (p2 : Int) (r3 : Aw × Bool) (y1 : Bool) : Option (Aa × Int) := (if y1 then (some (({ tree := ({ nodes := [],next := 0 } : Ag),tasks := [],next := 0 } : Aa),4)) else (Option.bind (Ph p0 p2) fun r7 => (if (r7 != 0) then (some (({ tree := ({ nodes := [],next := 0 } : Ag),tasks := [],next := 0 } : Aa),r7)) else (Option.bind (Kz p0.tree p2) fun r9 => (Option.bind (Kz p0.tree r3.1.group) fun r10 => (if (r9.1 != r10.1) then (some (({ tree := ({ nodes := [],next := 0 } : Ag),tasks := [],next := 0 } : Aa),9)) else (Option.bind (Rf p0 p1 p2) fun r12 => (some (r12.1,r12.2)))))))))
def Kp (p0 : Aa) (p1 : Int) (p2 : Int) : Option (Aa × Int) := (Option.bind (Ky p0) fun r1 => (if (!r1) then (some (({ tree := ({ nodes := [],next := 0 } : Ag),tasks := [],next := 0 } : Aa),1)) else (Option.bind (Ha p0 p1) fun r3 => (if (!r3.2) then ((Hc p0 p1 p2 r3) true) else (Option.bind (Fn p0.tree p2) fun r5 => ((Hc p0 p1 p2 r3) (!r5)))))))
def Sj (n1 : (List Aw) → Option (Aa × Int)) (y3 : List Aw) : Option (Aa × Int) := (n1 y3)
def Wg (p1 : Int) (k1 : Nat) (x1 : Aw) (s1 : List Aw) (n1 : (List Aw) → Option (Aa × Int)) : Option (Aa × Int) := (if ((x1.id != p1) && (x1.process != p1)) then (if s1.length + 1 ≤ 1073741824 then ((Sj n1) (s1 ++ [x1])) else none) else ((Sj n1) s1))
def Vy (p0 : Aa) (r5 : Ag) (s1 : List Aw) : Option (Aa × Int) := (some (({ tree := r5,tasks := s1,next := p0.next } : Aa),0))
def Wu (p0 : Aa) (p1 : Int) : Option (Aa × Int) := (Option.bind (Fo p0) fun r1 => (if (!r1) then (some (({ tree := ({ nodes := [],next := 0 } : Ag),tasks := [],next := 0 } : Aa),1)) else (Option.bind (Ha p0 p1) fun r3 => (if (!r3.2) then (some (({ tree := ({ nodes := [],next := 0 } : Ag),tasks := [],next := 0 } : Aa),4)) else (Option.bind (Oa p0.tree) fun r5 => (if p0.tasks.length ≤ 9223372036854775807 then Bi (Wg p1) (Vy p0 r5) p0.tasks 0 [] else none))))))
def Dh (s3 : Ar × Aa × Int) (n3 : (Ar × Aa × Int) → Option (Aa × Ar)) (y13 : Ar × Aa) : Option (Aa × Ar) := (n3 (y13.1,y13.2,(w64 (s3.2.2 - 1))))
def Eo (s3 : Ar × Aa × Int) (n3 : (Ar × Aa × Int) → Option (Aa × Ar)) (y16 : Ar × Aa) : Option (Aa × Ar) := (Option.bind (Ez y16.1 8) fun r100 => (if r100.1 then (Option.bind (Jf r100.2 y16.2) fun r102 => (Option.bind (Wu y16.2 r102.1) fun r103 => (if (r103.2 == 0) then ((Dh s3 n3) (r102.2,r103.1)) else ((Dh s3 n3) (r102.2,y16.2))))) else ((Dh s3 n3) (r100.2,y16.2))))
def En (s3 : Ar × Aa × Int) (n3 : (Ar × Aa × Int) → Option (Aa × Ar)) (y15 : Ar × Aa) : Option (Aa × Ar) := (Option.bind (Ez y15.1 4) fun r94 => (if r94.1 then (Option.bind (Jf r94.2 y15.2) fun r96 => (Option.bind (Gx r96.2 y15.2.tree) fun r97 => (Option.bind (Kp y15.2 r96.1 r97.1) fun r98 => (if (r98.2 == 0) then ((Eo s3 n3) (r97.2,r98.1)) else ((Eo s3 n3) (r97.2,y15.2)))))) else ((Eo s3 n3) (r94.2,y15.2))))
def Fv (s3 : Ar × Aa × Int) (n3 : (Ar × Aa × Int) → Option (Aa × Ar)) (r86 : Int × Ar) (y14 : Aa) : Option (Aa × Ar) := (Option.bind (Ez r86.2 3) fun r89 => (if r89.1 then (Option.bind (Jf r89.2 y14) fun r91 => (Option.bind (Ut y14 r91.1) fun r92 => (if (r92.2.2 == 0) then ((En s3 n3) (r91.2,r92.1)) else ((En s3 n3) (r91.2,y14))))) else ((En s3 n3) (r89.2,y14))))
def Nj (s3 : Ar × Aa × Int) (n3 : (Ar × Aa × Int) → Option (Aa × Ar)) : Option (Aa × Ar) := (if (decide (s3.2.2 > 0)) then (Option.bind (Gx s3.1 s3.2.1.tree) fun r83 => (Option.bind (Ph s3.2.1 r83.1) fun r84 => (if (r84 != 0) then ((Dh s3 n3) (r83.2,s3.2.1)) else (Option.bind (Bs r83.2 3) fun r86 => (Option.bind (Ts s3.2.1 r83.1 r86.1) fun r87 => (if (r87.2.2 == 0) then ((Fv s3 n3 r86) r87.1) else ((Fv s3 n3 r86) s3.2.1))))))) else (some (s3.2.1,s3.1)))
def Nn (p2 : Int) (s1 : Ar × Aa × Int) (n1 : (Ar × Aa × Int) → Option (Aa × Ar)) : Option (Aa × Ar) := (if (decide (s1.2.2 > 0)) then (Option.bind (Np s1.1 s1.2.1) fun r57 => (n1 (r57.2,r57.1,(w64 (s1.2.2 - 1))))) else (Option.bind (Bs s1.1 (w64 (p2 + 1))) fun r58 => (whileO Nj Dy (r58.2,s1.2.1,r58.1))))
def Is (p0 : Ar) (p1 : Int) (p2 : Int) : Option (Aa × Ar) := (Option.bind Afe fun r1 => (Option.bind (Mx p0 p1) fun r2 => (Option.bind (Bs r2.2 (w64 (p1 + 3))) fun r3 => (whileO (Nn p2) Dy (r3.2,({ tree := r2.1,tasks := r1.tasks,next := r1.next } : Aa),r3.1)))))
def Agl (p1 : Int) (k1 : Nat) (x1 : Int) (s1 : Unit) (n1 : Unit → Option Bool) : Option Bool := (if (x1 == p1) then (some true) else (n1 ()))
def AfI (s1 : Unit) : Option Bool := (some false)
def On (p0 : List Int) (p1 : Int) : Option Bool := (if p0.length ≤ 9223372036854775807 then Bi (Agl p1) AfI p0 0 () else none)
def Tn (y3 : Int × Int) : Option Int := (if 0 ≤ (IntKind.u8.wrap y3.1) ∧ (IntKind.u8.wrap y3.1) < (((bs [0,1,2,2,3,3,3,3,4,4,4,4,4,4,4,4,5,5,5,5,5,5,5,5,5,5,5,5,5,5,5,5,6,6,6,6,6,6,6,6,6,6,6,6,6,6,6,6,6,6,6,6,6,6,6,6,6,6,6,6,6,6,6,6,7,7,7,7,7,7,7,7,7,7,7,7,7,7,7,7,7,7,7,7,7,7,7,7,7,7,7,7,7,7,7,7,7,7,7,7,7,7,7,7,7,7,7,7,7,7,7,7,7,7,7,7,7,7,7,7,7,7,7,7,7,7,7,7,8,8,8,8,8,8,8,8,8,8,8,8,8,8,8,8,8,8,8,8,8,8,8,8,8,8,8,8,8,8,8,8,8,8,8,8,8,8,8,8,8,8,8,8,8,8,8,8,8,8,8,8,8,8,8,8,8,8,8,8,8,8,8,8,8,8,8,8,8,8,8,8,8,8,8,8,8,8,8,8,8,8,8,8,8,8,8,8,8,8,8,8,8,8,8,8,8,8,8,8,8,8,8,8,8,8,8,8,8,8,8,8,8,8,8,8,8,8,8,8,8,8,8,8,8,8,8,8]).size : Nat) : Int) then (some (w64 (y3.2 + (w64 (((Bp (bs [0,1,2,2,3,3,3,3,4,4,4,4,4,4,4,4,5,5,5,5,5,5,5,5,5,5,5,5,5,5,5,5,6,6,6,6,6,6,6,6,6,6,6,6,6,6,6,6,6,6,6,6,6,6,6,6,6,6,6,6,6,6,6,6,7,7,7,7,7,7,7,7,7,7,7,7,7,7,7,7,7,7,7,7,7,7,7,7,7,7,7,7,7,7,7,7,7,7,7,7,7,7,7,7,7,7,7,7,7,7,7,7,7,7,7,7,7,7,7,7,7,7,7,7,7,7,7,7,8,8,8,8,8,8,8,8,8,8,8,8,8,8,8,8,8,8,8,8,8,8,8,8,8,8,8,8,8,8,8,8,8,8,8,8,8,8,8,8,8,8,8,8,8,8,8,8,8,8,8,8,8,8,8,8,8,8,8,8,8,8,8,8,8,8,8,8,8,8,8,8,8,8,8,8,8,8,8,8,8,8,8,8,8,8,8,8,8,8,8,8,8,8,8,8,8,8,8,8,8,8,8,8,8,8,8,8,8,8,8,8,8,8,8,8,8,8,8,8,8,8,8,8,8,8,8,8]) (Int.toNat (IntKind.u8.wrap y3.1))) : Nat) : Int))))) else none)
def Tp (y2 : Int × Int) : Option Int := (if (decide (y2.1 ≥ 256)) then (Tn ((kshr .u64 y2.1 8),(w64 (y2.2 + 8)))) else (Tn (y2.1,y2.2)))
def Um (y1 : Int × Int) : Option Int := (if (decide (y1.1 ≥ 65536)) then (Tp ((kshr .u64 y1.1 16),(w64 (y1.2 + 16)))) else (Tp (y1.1,y1.2)))
def AbZ (p0 : Int) : Option Int := (if (decide (p0 ≥ 4294967296)) then (Um ((kshr .u64 p0 32),32)) else (Um (p0,0)))
def Tc (p0 : Int) : Option Int := (Option.bind (AbZ p0) fun r1 => (some r1))
def Ox (p0 : Int) : Option Bool := (some (p0 != p0))
def Lf (y1 : Bool) : Option Bool := (some y1)
def Cv (p0 : Int) (p1 : Int) : Option Bool := (Option.bind (Ox p0) fun r1 => (if r1 then (Option.bind (Ox p1) fun r3 => (if (!r3) then (Lf true) else (Lf (decide (p0 < p1))))) else (Lf (decide (p0 < p1)))))
def Dg (n1 : (List Int) → Option (List Int)) (s4 : (List Int) × Int) (n4 : ((List Int) × Int) → Option (List Int)) (y6 : Bool) : Option (List Int) := (if y6 then (if 0 ≤ (w64 (s4.2 - 1)) ∧ (w64 (s4.2 - 1)) < ((s4.1.length : Nat) : Int) then (if (Int.toNat (w64 (s4.2 - 1))) < s4.1.length then (if 0 ≤ s4.2 ∧ s4.2 < ((s4.1.length : Nat) : Int) then (if (Int.toNat s4.2) < s4.1.length then (if 0 ≤ s4.2 ∧ s4.2 < ((s4.1.length : Nat) : Int) then (if (Int.toNat s4.2) < s4.1.length then (if 0 ≤ (w64 (s4.2 - 1)) ∧ (w64 (s4.2 - 1)) < ((s4.1.length : Nat) : Int) then (if (Int.toNat (w64 (s4.2 - 1))) < s4.1.length then (n4 (((s4.1.set (Int.toNat s4.2) (s4.1.getD (Int.toNat (w64 (s4.2 - 1))) 0)).set (Int.toNat (w64 (s4.2 - 1))) (s4.1.getD (Int.toNat s4.2) 0)),(w64 (s4.2 - 1)))) else none) else none) else none) else none) else none) else none) else none) else none) else (n1 s4.1))
def He (p1 : Int) (n1 : (List Int) → Option (List Int)) (s4 : (List Int) × Int) (n4 : ((List Int) × Int) → Option (List Int)) : Option (List Int) := (if (decide (s4.2 > p1)) then (if 0 ≤ s4.2 ∧ s4.2 < ((s4.1.length : Nat) : Int) then (if (Int.toNat s4.2) < s4.1.length then (if 0 ≤ (w64 (s4.2 - 1)) ∧ (w64 (s4.2 - 1)) < ((s4.1.length : Nat) : Int) then (if (Int.toNat (w64 (s4.2 - 1))) < s4.1.length then (Option.bind (Cv (s4.1.getD (Int.toNat s4.2) 0) (s4.1.getD (Int.toNat (w64 (s4.2 - 1))) 0)) fun r96 => ((Dg n1 s4 n4) r96)) else none) else none) else none) else none) else ((Dg n1 s4 n4) false))
def Hh (p1 : Int) (k1 : Int) (s1 : List Int) (n1 : (List Int) → Option (List Int)) : Option (List Int) := (whileO (He p1 n1) Dy (s1,k1))
def Lc (s1 : List Int) : Option (List Int) := (some s1)
def Dw (p0 : List Int) (p1 : Int) (p2 : Int) : Option (List Int) := (if -9223372036854775808 ≤ (w64 (p1 + 1)) ∧ p2 ≤ 9223372036854775807 then (forO (Hh p1) Lc (Int.toNat (p2 - (w64 (p1 + 1)))) (w64 (p1 + 1)) p0) else none)
def Dk (p3 : Int) (s1 : (List Int) × Int) (n1 : ((List Int) × Int) → Option (List Int)) (y4 : Int) : Option (List Int) := (if 0 ≤ (w64 (p3 + s1.2)) ∧ (w64 (p3 + s1.2)) < ((s1.1.length : Nat) : Int) then (if (Int.toNat (w64 (p3 + s1.2))) < s1.1.length then (if 0 ≤ (w64 (p3 + y4)) ∧ (w64 (p3 + y4)) < ((s1.1.length : Nat) : Int) then (if (Int.toNat (w64 (p3 + y4))) < s1.1.length then (Option.bind (Cv (s1.1.getD (Int.toNat (w64 (p3 + s1.2))) 0) (s1.1.getD (Int.toNat (w64 (p3 + y4))) 0)) fun r35 => (if (!r35) then (some s1.1) else (if 0 ≤ (w64 (p3 + y4)) ∧ (w64 (p3 + y4)) < ((s1.1.length : Nat) : Int) then (if (Int.toNat (w64 (p3 + y4))) < s1.1.length then (if 0 ≤ (w64 (p3 + s1.2)) ∧ (w64 (p3 + s1.2)) < ((s1.1.length : Nat) : Int) then (if (Int.toNat (w64 (p3 + s1.2))) < s1.1.length then (if 0 ≤ (w64 (p3 + s1.2)) ∧ (w64 (p3 + s1.2)) < ((s1.1.length : Nat) : Int) then (if (Int.toNat (w64 (p3 + s1.2))) < s1.1.length then (if 0 ≤ (w64 (p3 + y4)) ∧ (w64 (p3 + y4)) < ((s1.1.length : Nat) : Int) then (if (Int.toNat (w64 (p3 + y4))) < s1.1.length then (n1 (((s1.1.set (Int.toNat (w64 (p3 + s1.2))) (s1.1.getD (Int.toNat (w64 (p3 + y4))) 0)).set (Int.toNat (w64 (p3 + y4))) (s1.1.getD (Int.toNat (w64 (p3 + s1.2))) 0)),y4)) else none) else none) else none) else none) else none) else none) else none) else none))) else none) else none) else none) else none)
def Fb (p3 : Int) (s1 : (List Int) × Int) (n1 : ((List Int) × Int) → Option (List Int)) (y3 : Bool) : Option (List Int) := (if y3 then ((Dk p3 s1 n1) (w64 ((w64 ((w64 (2 * s1.2)) + 1)) + 1))) else ((Dk p3 s1 n1) (w64 ((w64 (2 * s1.2)) + 1))))
def Iz (p2 : Int) (p3 : Int) (s1 : (List Int) × Int) (n1 : ((List Int) × Int) → Option (List Int)) : Option (List Int) := (if (decide ((w64 ((w64 (2 * s1.2)) + 1)) ≥ p2)) then (some s1.1) else (if (decide ((w64 ((w64 ((w64 (2 * s1.2)) + 1)) + 1)) < p2)) then (if 0 ≤ (w64 (p3 + (w64 ((w64 (2 * s1.2)) + 1)))) ∧ (w64 (p3 + (w64 ((w64 (2 * s1.2)) + 1)))) < ((s1.1.length : Nat) : Int) then (if (Int.toNat (w64 (p3 + (w64 ((w64 (2 * s1.2)) + 1))))) < s1.1.length then (if 0 ≤ (w64 ((w64 (p3 + (w64 ((w64 (2 * s1.2)) + 1)))) + 1)) ∧ (w64 ((w64 (p3 + (w64 ((w64 (2 * s1.2)) + 1)))) + 1)) < ((s1.1.length : Nat) : Int) then (if (Int.toNat (w64 ((w64 (p3 + (w64 ((w64 (2 * s1.2)) + 1)))) + 1))) < s1.1.length then (Option.bind (Cv (s1.1.getD (Int.toNat (w64 (p3 + (w64 ((w64 (2 * s1.2)) + 1))))) 0) (s1.1.getD (Int.toNat (w64 ((w64 (p3 + (w64 ((w64 (2 * s1.2)) + 1)))) + 1))) 0)) fun r29 => ((Fb p3 s1 n1) r29)) else none) else none) else none) else none) else ((Fb p3 s1 n1) false)))
def Ea (p0 : List Int) (p1 : Int) (p2 : Int) (p3 : Int) : Option (List Int) := (whileO (Iz p2 p3) Dy (p0,p1))
def Jg (p1 : Int) (s3 : (List Int) × Int) (n3 : ((List Int) × Int) → Option (List Int)) : Option (List Int) := (if (decide (s3.2 ≥ 0)) then (if 0 ≤ (w64 (p1 + s3.2)) ∧ (w64 (p1 + s3.2)) < ((s3.1.length : Nat) : Int) then (if (Int.toNat (w64 (p1 + s3.2))) < s3.1.length then (if 0 ≤ p1 ∧ p1 < ((s3.1.length : Nat) : Int) then (if (Int.toNat p1) < s3.1.length then (if 0 ≤ p1 ∧ p1 < ((s3.1.length : Nat) : Int) then (if (Int.toNat p1) < s3.1.length then (if 0 ≤ (w64 (p1 + s3.2)) ∧ (w64 (p1 + s3.2)) < ((s3.1.length : Nat) : Int) then (if (Int.toNat (w64 (p1 + s3.2))) < s3.1.length then (Option.bind (Ea ((s3.1.set (Int.toNat p1) (s3.1.getD (Int.toNat (w64 (p1 + s3.2))) 0)).set (Int.toNat (w64 (p1 + s3.2))) (s3.1.getD (Int.toNat p1) 0)) 0 s3.2 p1) fun r49 => (if ((s3.1.set (Int.toNat p1) (s3.1.getD (Int.toNat (w64 (p1 + s3.2))) 0)).set (Int.toNat (w64 (p1 + s3.2))) (s3.1.getD (Int.toNat p1) 0)).length = r49.length then (n3 (r49,(w64 (s3.2 - 1)))) else none)) else none) else none) else none) else none) else none) else none) else none) else none) else (some s3.1))
def Je (p1 : Int) (p2 : Int) (s1 : (List Int) × Int) (n1 : ((List Int) × Int) → Option (List Int)) : Option (List Int) := (if (decide (s1.2 ≥ 0)) then (Option.bind (Ea s1.1 s1.2 (w64 (p2 - p1)) p1) fun r27 => (if s1.1.length = r27.length then (n1 (r27,(w64 (s1.2 - 1)))) else none)) else (whileO (Jg p1) Dy (s1.1,(w64 ((w64 (p2 - p1)) - 1)))))
def Fq (p0 : List Int) (p1 : Int) (p2 : Int) : Option (List Int) := (whileO (Je p1 p2) Dy (p0,(w64 (Int.tdiv (w64 ((w64 (p2 - p1)) - 1)) 2))))
def Dq (p0 : List Int) (p1 : Int) (p2 : Int) (p3 : Int) : Option (Int × Int × Int) := (if 0 ≤ p2 ∧ p2 < ((p0.length : Nat) : Int) then (if 0 ≤ p1 ∧ p1 < ((p0.length : Nat) : Int) then (Option.bind (Cv (p0.getD (Int.toNat p2) 0) (p0.getD (Int.toNat p1) 0)) fun r3 => (if r3 then (some (p2,p1,(w64 (p3 + 1)))) else (some (p1,p2,p3)))) else none) else none)
def Ey (p0 : List Int) (p1 : Int) (p2 : Int) (p3 : Int) (p4 : Int) : Option (Int × Int) := (Option.bind (Dq p0 p1 p2 p4) fun r1 => (Option.bind (Dq p0 r1.2.1 p3 r1.2.2) fun r2 => (Option.bind (Dq p0 r1.1 r2.1 r2.2.2) fun r3 => (some (r3.2.1,r3.2.2)))))
def Cj (p0 : List Int) (p1 : Int) (p2 : Int) : Option (Int × Int) := (Option.bind (Ey p0 (w64 (p1 - 1)) p1 (w64 (p1 + 1)) p2) fun r1 => (some (r1.1,r1.2)))
def Cy (y1 : Int × Int) : Option (Int × Int) := (if (y1.1 == 0) then (some (y1.2,1)) else (if (y1.1 == 12) then (some (y1.2,2)) else (some (y1.2,0))))
def Cz (p0 : List Int) (y2 : Int × Int × Int × Int) : Option (Int × Int) := (Option.bind (Ey p0 y2.2.1 y2.2.2.1 y2.2.2.2 y2.1) fun r6 => (Cy (r6.2,r6.1)))
def Ep (p0 : List Int) (p1 : Int) (p2 : Int) : Option (Int × Int) := (if (decide ((w64 (p2 - p1)) ≥ 8)) then (if (decide ((w64 (p2 - p1)) ≥ 50)) then (Option.bind (Cj p0 (w64 (p1 + (w64 ((w64 (Int.tdiv (w64 (p2 - p1)) 4)) * 1)))) 0) fun r3 => (Option.bind (Cj p0 (w64 (p1 + (w64 ((w64 (Int.tdiv (w64 (p2 - p1)) 4)) * 2)))) r3.2) fun r4 => (Option.bind (Cj p0 (w64 (p1 + (w64 ((w64 (Int.tdiv (w64 (p2 - p1)) 4)) * 3)))) r4.2) fun r5 => ((Cz p0) (r5.2,r3.1,r4.1,r5.1))))) else ((Cz p0) (0,(w64 (p1 + (w64 ((w64 (Int.tdiv (w64 (p2 - p1)) 4)) * 1)))),(w64 (p1 + (w64 ((w64 (Int.tdiv (w64 (p2 - p1)) 4)) * 2)))),(w64 (p1 + (w64 ((w64 (Int.tdiv (w64 (p2 - p1)) 4)) * 3))))))) else (Cy (0,(w64 (p1 + (w64 ((w64 (Int.tdiv (w64 (p2 - p1)) 4)) * 2)))))))
def Hp (s1 : (List Int) × Int × Int) (n1 : ((List Int) × Int × Int) → Option (List Int)) : Option (List Int) := (if (decide (s1.2.1 < s1.2.2)) then (if 0 ≤ s1.2.2 ∧ s1.2.2 < ((s1.1.length : Nat) : Int) then (if (Int.toNat s1.2.2) < s1.1.length then (if 0 ≤ s1.2.1 ∧ s1.2.1 < ((s1.1.length : Nat) : Int) then (if (Int.toNat s1.2.1) < s1.1.length then (if 0 ≤ s1.2.1 ∧ s1.2.1 < ((s1.1.length : Nat) : Int) then (if (Int.toNat s1.2.1) < s1.1.length then (if 0 ≤ s1.2.2 ∧ s1.2.2 < ((s1.1.length : Nat) : Int) then (if (Int.toNat s1.2.2) < s1.1.length then (n1 (((s1.1.set (Int.toNat s1.2.1) (s1.1.getD (Int.toNat s1.2.2) 0)).set (Int.toNat s1.2.2) (s1.1.getD (Int.toNat s1.2.1) 0)),(w64 (s1.2.1 + 1)),(w64 (s1.2.2 - 1)))) else none) else none) else none) else none) else none) else none) else none) else none) else (some s1.1))
def Ed (p0 : List Int) (p1 : Int) (p2 : Int) : Option (List Int) := (whileO Hp Dy (p0,p1,(w64 (p2 - 1))))
def Bv (n1 : ((List Int) × Int) → Option (Bool × (List Int))) (y11 : (List Int) × Int) : Option (Bool × (List Int)) := (n1 (y11.1,y11.2))
def Fh (n1 : ((List Int) × Int) → Option (Bool × (List Int))) (s12 : Int) (k16 : Int) (s16 : List Int) (n16 : (List Int) → Option (Bool × (List Int))) : Option (Bool × (List Int)) := (if 0 ≤ k16 ∧ k16 < ((s16.length : Nat) : Int) then (if (Int.toNat k16) < s16.length then (if 0 ≤ (w64 (k16 - 1)) ∧ (w64 (k16 - 1)) < ((s16.length : Nat) : Int) then (if (Int.toNat (w64 (k16 - 1))) < s16.length then (Option.bind (Cv (s16.getD (Int.toNat k16) 0) (s16.getD (Int.toNat (w64 (k16 - 1))) 0)) fun r570 => (if (!r570) then ((Bv n1) (s16,s12)) else (if 0 ≤ (w64 (k16 - 1)) ∧ (w64 (k16 - 1)) < ((s16.length : Nat) : Int) then (if (Int.toNat (w64 (k16 - 1))) < s16.length then (if 0 ≤ k16 ∧ k16 < ((s16.length : Nat) : Int) then (if (Int.toNat k16) < s16.length then (if 0 ≤ k16 ∧ k16 < ((s16.length : Nat) : Int) then (if (Int.toNat k16) < s16.length then (if 0 ≤ (w64 (k16 - 1)) ∧ (w64 (k16 - 1)) < ((s16.length : Nat) : Int) then (if (Int.toNat (w64 (k16 - 1))) < s16.length then (n16 ((s16.set (Int.toNat k16) (s16.getD (Int.toNat (w64 (k16 - 1))) 0)).set (Int.toNat (w64 (k16 - 1))) (s16.getD (Int.toNat k16) 0))) else none) else none) else none) else none) else none) else none) else none) else none))) else none) else none) else none) else none)
def Hw (n1 : ((List Int) × Int) → Option (Bool × (List Int))) (s12 : Int) (s16 : List Int) : Option (Bool × (List Int)) := ((Bv n1) (s16,s12))
def Br (p2 : Int) (n1 : ((List Int) × Int) → Option (Bool × (List Int))) (s12 : Int) (y15 : List Int) : Option (Bool × (List Int)) := (if (decide ((w64 (p2 - s12)) ≥ 2)) then (if -9223372036854775808 ≤ (w64 (s12 + 1)) ∧ p2 ≤ 9223372036854775807 then (forO (Fh n1 s12) (Hw n1 s12) (Int.toNat (p2 - (w64 (s12 + 1)))) (w64 (s12 + 1)) y15) else none) else ((Bv n1) (y15,s12)))
def Fg (p2 : Int) (n1 : ((List Int) × Int) → Option (Bool × (List Int))) (s12 : Int) (s15 : (List Int) × Int) (n15 : ((List Int) × Int) → Option (Bool × (List Int))) : Option (Bool × (List Int)) := (if (decide (s15.2 ≥ 1)) then (if 0 ≤ s15.2 ∧ s15.2 < ((s15.1.length : Nat) : Int) then (if (Int.toNat s15.2) < s15.1.length then (if 0 ≤ (w64 (s15.2 - 1)) ∧ (w64 (s15.2 - 1)) < ((s15.1.length : Nat) : Int) then (if (Int.toNat (w64 (s15.2 - 1))) < s15.1.length then (Option.bind (Cv (s15.1.getD (Int.toNat s15.2) 0) (s15.1.getD (Int.toNat (w64 (s15.2 - 1))) 0)) fun r524 => (if (!r524) then ((Br p2 n1 s12) s15.1) else (if 0 ≤ (w64 (s15.2 - 1)) ∧ (w64 (s15.2 - 1)) < ((s15.1.length : Nat) : Int) then (if (Int.toNat (w64 (s15.2 - 1))) < s15.1.length then (if 0 ≤ s15.2 ∧ s15.2 < ((s15.1.length : Nat) : Int) then (if (Int.toNat s15.2) < s15.1.length then (if 0 ≤ s15.2 ∧ s15.2 < ((s15.1.length : Nat) : Int) then (if (Int.toNat s15.2) < s15.1.length then (if 0 ≤ (w64 (s15.2 - 1)) ∧ (w64 (s15.2 - 1)) < ((s15.1.length : Nat) : Int) then (if (Int.toNat (w64 (s15.2 - 1))) < s15.1.length then (n15 (((s15.1.set (Int.toNat s15.2) (s15.1.getD (Int.toNat (w64 (s15.2 - 1))) 0)).set (Int.toNat (w64 (s15.2 - 1))) (s15.1.getD (Int.toNat s15.2) 0)),(w64 (s15.2 - 1)))) else none) else none) else none) else none) else none) else none) else none) else none))) else none) else none) else none) else none) else ((Br p2 n1 s12) s15.1))
def Bw (p1 : Int) (p2 : Int) (s1 : (List Int) × Int) (n1 : ((List Int) × Int) → Option (Bool × (List Int))) (s12 : Int) (n12 : Int → Option (Bool × (List Int))) (y14 : Bool) : Option (Bool × (List Int)) := (if y14 then (n12 (w64 (s12 + 1))) else (if (s12 == p2) then (some (true,s1.1)) else (if (decide ((w64 (p2 - p1)) < 50)) then (some (false,s1.1)) else (if 0 ≤ (w64 (s12 - 1)) ∧ (w64 (s12 - 1)) < ((s1.1.length : Nat) : Int) then (if (Int.toNat (w64 (s12 - 1))) < s1.1.length then (if 0 ≤ s12 ∧ s12 < ((s1.1.length : Nat) : Int) then (if (Int.toNat s12) < s1.1.length then (if 0 ≤ s12 ∧ s12 < ((s1.1.length : Nat) : Int) then (if (Int.toNat s12) < s1.1.length then (if 0 ≤ (w64 (s12 - 1)) ∧ (w64 (s12 - 1)) < ((s1.1.length : Nat) : Int) then (if (Int.toNat (w64 (s12 - 1))) < s1.1.length then (if (decide ((w64 (s12 - p1)) ≥ 2)) then (whileO (Fg p2 n1 s12) Dy (((s1.1.set (Int.toNat s12) (s1.1.getD (Int.toNat (w64 (s12 - 1))) 0)).set (Int.toNat (w64 (s12 - 1))) (s1.1.getD (Int.toNat s12) 0)),(w64 (s12 - 1)))) else ((Br p2 n1 s12) ((s1.1.set (Int.toNat s12) (s1.1.getD (Int.toNat (w64 (s12 - 1))) 0)).set (Int.toNat (w64 (s12 - 1))) (s1.1.getD (Int.toNat s12) 0)))) else none) else none) else none) else none) else none) else none) else none) else none))))
def Ff (p1 : Int) (p2 : Int) (s1 : (List Int) × Int) (n1 : ((List Int) × Int) → Option (Bool × (List Int))) (s12 : Int) (n12 : Int → Option (Bool × (List Int))) : Option (Bool × (List Int)) := (if (decide (s12 < p2)) then (if 0 ≤ s12 ∧ s12 < ((s1.1.length : Nat) : Int) then (if (Int.toNat s12) < s1.1.length then (if 0 ≤ (w64 (s12 - 1)) ∧ (w64 (s12 - 1)) < ((s1.1.length : Nat) : Int) then (if (Int.toNat (w64 (s12 - 1))) < s1.1.length then (Option.bind (Cv (s1.1.getD (Int.toNat s12) 0) (s1.1.getD (Int.toNat (w64 (s12 - 1))) 0)) fun r491 => ((Bw p1 p2 s1 n1 s12 n12) (!r491))) else none) else none) else none) else none) else ((Bw p1 p2 s1 n1 s12 n12) false))
def Fm (p1 : Int) (p2 : Int) (k1 : Int) (s1 : (List Int) × Int) (n1 : ((List Int) × Int) → Option (Bool × (List Int))) : Option (Bool × (List Int)) := (whileO (Ff p1 p2 s1 n1) Dy s1.2)
def Hy (s1 : (List Int) × Int) : Option (Bool × (List Int)) := (some (false,s1.1))
def Ct (p0 : List Int) (p1 : Int) (p2 : Int) : Option (Bool × (List Int)) := (forO (Fm p1 p2) Hy (Int.toNat (5 - 0)) 0 (p0,(w64 (p1 + 1))))
def Db (s1 : (List Int) × Int × Int) (n1 : ((List Int) × Int × Int) → Option (Int × (List Int))) (s5 : Int) (s7 : Int) (n7 : Int → Option (Int × (List Int))) (y12 : Bool) : Option (Int × (List Int)) := (if y12 then (n7 (w64 (s7 - 1))) else (if (decide (s5 > s7)) then (some (s5,s1.1)) else (if 0 ≤ s7 ∧ s7 < ((s1.1.length : Nat) : Int) then (if (Int.toNat s7) < s1.1.length then (if 0 ≤ s5 ∧ s5 < ((s1.1.length : Nat) : Int) then (if (Int.toNat s5) < s1.1.length then (if 0 ≤ s5 ∧ s5 < ((s1.1.length : Nat) : Int) then (if (Int.toNat s5) < s1.1.length then (if 0 ≤ s7 ∧ s7 < ((s1.1.length : Nat) : Int) then (if (Int.toNat s7) < s1.1.length then (n1 (((s1.1.set (Int.toNat s5) (s1.1.getD (Int.toNat s7) 0)).set (Int.toNat s7) (s1.1.getD (Int.toNat s5) 0)),(w64 (s7 - 1)),(w64 (s5 + 1)))) else none) else none) else none) else none) else none) else none) else none) else none)))
def Et (p1 : Int) (s1 : (List Int) × Int × Int) (n1 : ((List Int) × Int × Int) → Option (Int × (List Int))) (s5 : Int) (s7 : Int) (n7 : Int → Option (Int × (List Int))) : Option (Int × (List Int)) := (if (decide (s5 ≤ s7)) then (if 0 ≤ p1 ∧ p1 < ((s1.1.length : Nat) : Int) then (if (Int.toNat p1) < s1.1.length then (if 0 ≤ s7 ∧ s7 < ((s1.1.length : Nat) : Int) then (if (Int.toNat s7) < s1.1.length then (Option.bind (Cv (s1.1.getD (Int.toNat p1) 0) (s1.1.getD (Int.toNat s7) 0)) fun r178 => ((Db s1 n1 s5 s7 n7) r178)) else none) else none) else none) else none) else ((Db s1 n1 s5 s7 n7) false))
def Dd (p1 : Int) (s1 : (List Int) × Int × Int) (n1 : ((List Int) × Int × Int) → Option (Int × (List Int))) (s5 : Int) (n5 : Int → Option (Int × (List Int))) (y10 : Bool) : Option (Int × (List Int)) := (if y10 then (n5 (w64 (s5 + 1))) else (whileO (Et p1 s1 n1 s5) Dy s1.2.1))
def Gw (p1 : Int) (s1 : (List Int) × Int × Int) (n1 : ((List Int) × Int × Int) → Option (Int × (List Int))) (s5 : Int) (n5 : Int → Option (Int × (List Int))) : Option (Int × (List Int)) := (if (decide (s5 ≤ s1.2.1)) then (if 0 ≤ p1 ∧ p1 < ((s1.1.length : Nat) : Int) then (if (Int.toNat p1) < s1.1.length then (if 0 ≤ s5 ∧ s5 < ((s1.1.length : Nat) : Int) then (if (Int.toNat s5) < s1.1.length then (Option.bind (Cv (s1.1.getD (Int.toNat p1) 0) (s1.1.getD (Int.toNat s5) 0)) fun r155 => ((Dd p1 s1 n1 s5 n5) (!r155))) else none) else none) else none) else none) else ((Dd p1 s1 n1 s5 n5) false))
def Gv (p1 : Int) (s1 : (List Int) × Int × Int) (n1 : ((List Int) × Int × Int) → Option (Int × (List Int))) : Option (Int × (List Int)) := (whileO (Gw p1 s1 n1) Dy s1.2.2)
def Dp (p0 : List Int) (p1 : Int) (p2 : Int) (p3 : Int) : Option (Int × (List Int)) := (if 0 ≤ p3 ∧ p3 < ((p0.length : Nat) : Int) then (if (Int.toNat p3) < p0.length then (if 0 ≤ p1 ∧ p1 < ((p0.length : Nat) : Int) then (if (Int.toNat p1) < p0.length then (if 0 ≤ p1 ∧ p1 < ((p0.length : Nat) : Int) then (if (Int.toNat p1) < p0.length then (if 0 ≤ p3 ∧ p3 < ((p0.length : Nat) : Int) then (if (Int.toNat p3) < p0.length then (whileO (Gv p1) Dy (((p0.set (Int.toNat p1) (p0.getD (Int.toNat p3) 0)).set (Int.toNat p3) (p0.getD (Int.toNat p1) 0)),(w64 (p2 - 1)),(w64 (p1 + 1)))) else none) else none) else none) else none) else none) else none) else none) else none)
def Ee (p1 : Int) (s25 : (List Int) × Int × Int) (n25 : ((List Int) × Int × Int) → Option (Int × Bool × (List Int))) (s29 : Int) (s31 : Int) (n31 : Int → Option (Int × Bool × (List Int))) (y54 : Bool) : Option (Int × Bool × (List Int)) := (if y54 then (n31 (w64 (s31 - 1))) else (if (decide (s29 > s31)) then (if 0 ≤ p1 ∧ p1 < ((s25.1.length : Nat) : Int) then (if (Int.toNat p1) < s25.1.length then (if 0 ≤ s31 ∧ s31 < ((s25.1.length : Nat) : Int) then (if (Int.toNat s31) < s25.1.length then (if 0 ≤ s31 ∧ s31 < ((s25.1.length : Nat) : Int) then (if (Int.toNat s31) < s25.1.length then (if 0 ≤ p1 ∧ p1 < ((s25.1.length : Nat) : Int) then (if (Int.toNat p1) < s25.1.length then (some (s31,false,((s25.1.set (Int.toNat s31) (s25.1.getD (Int.toNat p1) 0)).set (Int.toNat p1) (s25.1.getD (Int.toNat s31) 0)))) else none) else none) else none) else none) else none) else none) else none) else none) else (if 0 ≤ s31 ∧ s31 < ((s25.1.length : Nat) : Int) then (if (Int.toNat s31) < s25.1.length then (if 0 ≤ s29 ∧ s29 < ((s25.1.length : Nat) : Int) then (if (Int.toNat s29) < s25.1.length then (if 0 ≤ s29 ∧ s29 < ((s25.1.length : Nat) : Int) then (if (Int.toNat s29) < s25.1.length then (if 0 ≤ s31 ∧ s31 < ((s25.1.length : Nat) : Int) then (if (Int.toNat s31) < s25.1.length then (n25 (((s25.1.set (Int.toNat s29) (s25.1.getD (Int.toNat s31) 0)).set (Int.toNat s31) (s25.1.getD (Int.toNat s29) 0)),(w64 (s29 + 1)),(w64 (s31 - 1)))) else none) else none) else none) else none) else none) else none) else none) else none)))
def Gd (p1 : Int) (s25 : (List Int) × Int × Int) (n25 : ((List Int) × Int × Int) → Option (Int × Bool × (List Int))) (s29 : Int) (s31 : Int) (n31 : Int → Option (Int × Bool × (List Int))) : Option (Int × Bool × (List Int)) := (if (decide (s29 ≤ s31)) then (if 0 ≤ s31 ∧ s31 < ((s25.1.length : Nat) : Int) then (if (Int.toNat s31) < s25.1.length then (if 0 ≤ p1 ∧ p1 < ((s25.1.length : Nat) : Int) then (if (Int.toNat p1) < s25.1.length then (Option.bind (Cv (s25.1.getD (Int.toNat s31) 0) (s25.1.getD (Int.toNat p1) 0)) fun r1118 => ((Ee p1 s25 n25 s29 s31 n31) (!r1118))) else none) else none) else none) else none) else ((Ee p1 s25 n25 s29 s31 n31) false))
def Em (p1 : Int) (s25 : (List Int) × Int × Int) (n25 : ((List Int) × Int × Int) → Option (Int × Bool × (List Int))) (s29 : Int) (n29 : Int → Option (Int × Bool × (List Int))) (y52 : Bool) : Option (Int × Bool × (List Int)) := (if y52 then (n29 (w64 (s29 + 1))) else (whileO (Gd p1 s25 n25 s29) Dy s25.2.2))
def Ic (p1 : Int) (s25 : (List Int) × Int × Int) (n25 : ((List Int) × Int × Int) → Option (Int × Bool × (List Int))) (s29 : Int) (n29 : Int → Option (Int × Bool × (List Int))) : Option (Int × Bool × (List Int)) := (if (decide (s29 ≤ s25.2.2)) then (if 0 ≤ s29 ∧ s29 < ((s25.1.length : Nat) : Int) then (if (Int.toNat s29) < s25.1.length then (if 0 ≤ p1 ∧ p1 < ((s25.1.length : Nat) : Int) then (if (Int.toNat p1) < s25.1.length then (Option.bind (Cv (s25.1.getD (Int.toNat s29) 0) (s25.1.getD (Int.toNat p1) 0)) fun r1087 => ((Em p1 s25 n25 s29 n29) r1087)) else none) else none) else none) else none) else ((Em p1 s25 n25 s29 n29) false))
def Gb (p1 : Int) (s25 : (List Int) × Int × Int) (n25 : ((List Int) × Int × Int) → Option (Int × Bool × (List Int))) : Option (Int × Bool × (List Int)) := (whileO (Ic p1 s25 n25) Dy s25.2.1)
def Ei (p0 : List Int) (p1 : Int) (p3 : Int) (s1 : Int) (s17 : Int) (n17 : Int → Option (Int × Bool × (List Int))) (y42 : Bool) : Option (Int × Bool × (List Int)) := (if y42 then (n17 (w64 (s17 - 1))) else (if (decide (s1 > s17)) then (if 0 ≤ p1 ∧ p1 < ((((p0.set (Int.toNat p1) (p0.getD (Int.toNat p3) 0)).set (Int.toNat p3) (p0.getD (Int.toNat p1) 0)).length : Nat) : Int) then (if (Int.toNat p1) < ((p0.set (Int.toNat p1) (p0.getD (Int.toNat p3) 0)).set (Int.toNat p3) (p0.getD (Int.toNat p1) 0)).length then (if 0 ≤ s17 ∧ s17 < ((((p0.set (Int.toNat p1) (p0.getD (Int.toNat p3) 0)).set (Int.toNat p3) (p0.getD (Int.toNat p1) 0)).length : Nat) : Int) then (if (Int.toNat s17) < ((p0.set (Int.toNat p1) (p0.getD (Int.toNat p3) 0)).set (Int.toNat p3) (p0.getD (Int.toNat p1) 0)).length then (if 0 ≤ s17 ∧ s17 < ((((p0.set (Int.toNat p1) (p0.getD (Int.toNat p3) 0)).set (Int.toNat p3) (p0.getD (Int.toNat p1) 0)).length : Nat) : Int) then (if (Int.toNat s17) < ((p0.set (Int.toNat p1) (p0.getD (Int.toNat p3) 0)).set (Int.toNat p3) (p0.getD (Int.toNat p1) 0)).length then (if 0 ≤ p1 ∧ p1 < ((((p0.set (Int.toNat p1) (p0.getD (Int.toNat p3) 0)).set (Int.toNat p3) (p0.getD (Int.toNat p1) 0)).length : Nat) : Int) then (if (Int.toNat p1) < ((p0.set (Int.toNat p1) (p0.getD (Int.toNat p3) 0)).set (Int.toNat p3) (p0.getD (Int.toNat p1) 0)).length then (some (s17,true,((((p0.set (Int.toNat p1) (p0.getD (Int.toNat p3) 0)).set (Int.toNat p3) (p0.getD (Int.toNat p1) 0)).set (Int.toNat s17) (((p0.set (Int.toNat p1) (p0.getD (Int.toNat p3) 0)).set (Int.toNat p3) (p0.getD (Int.toNat p1) 0)).getD (Int.toNat p1) 0)).set (Int.toNat p1) (((p0.set (Int.toNat p1) (p0.getD (Int.toNat p3) 0)).set (Int.toNat p3) (p0.getD (Int.toNat p1) 0)).getD (Int.toNat s17) 0)))) else none) else none) else none) else none) else none) else none) else none) else none) else (if 0 ≤ s17 ∧ s17 < ((((p0.set (Int.toNat p1) (p0.getD (Int.toNat p3) 0)).set (Int.toNat p3) (p0.getD (Int.toNat p1) 0)).length : Nat) : Int) then (if (Int.toNat s17) < ((p0.set (Int.toNat p1) (p0.getD (Int.toNat p3) 0)).set (Int.toNat p3) (p0.getD (Int.toNat p1) 0)).length then (if 0 ≤ s1 ∧ s1 < ((((p0.set (Int.toNat p1) (p0.getD (Int.toNat p3) 0)).set (Int.toNat p3) (p0.getD (Int.toNat p1) 0)).length : Nat) : Int) then (if (Int.toNat s1) < ((p0.set (Int.toNat p1) (p0.getD (Int.toNat p3) 0)).set (Int.toNat p3) (p0.getD (Int.toNat p1) 0)).length then (if 0 ≤ s1 ∧ s1 < ((((p0.set (Int.toNat p1) (p0.getD (Int.toNat p3) 0)).set (Int.toNat p3) (p0.getD (Int.toNat p1) 0)).length : Nat) : Int) then (if (Int.toNat s1) < ((p0.set (Int.toNat p1) (p0.getD (Int.toNat p3) 0)).set (Int.toNat p3) (p0.getD (Int.toNat p1) 0)).length then (if 0 ≤ s17 ∧ s17 < ((((p0.set (Int.toNat p1) (p0.getD (Int.toNat p3) 0)).set (Int.toNat p3) (p0.getD (Int.toNat p1) 0)).length : Nat) : Int) then (if (Int.toNat s17) < ((p0.set (Int.toNat p1) (p0.getD (Int.toNat p3) 0)).set (Int.toNat p3) (p0.getD (Int.toNat p1) 0)).length then (whileO (Gb p1) Dy (((((p0.set (Int.toNat p1) (p0.getD (Int.toNat p3) 0)).set (Int.toNat p3) (p0.getD (Int.toNat p1) 0)).set (Int.toNat s1) (((p0.set (Int.toNat p1) (p0.getD (Int.toNat p3) 0)).set (Int.toNat p3) (p0.getD (Int.toNat p1) 0)).getD (Int.toNat s17) 0)).set (Int.toNat s17) (((p0.set (Int.toNat p1) (p0.getD (Int.toNat p3) 0)).set (Int.toNat p3) (p0.getD (Int.toNat p1) 0)).getD (Int.toNat s1) 0)),(w64 (s1 + 1)),(w64 (s17 - 1)))) else none) else none) else none) else none) else none) else none) else none) else none)))
def Gc (p0 : List Int) (p1 : Int) (p3 : Int) (s1 : Int) (s17 : Int) (n17 : Int → Option (Int × Bool × (List Int))) : Option (Int × Bool × (List Int)) := (if (decide (s1 ≤ s17)) then (if 0 ≤ s17 ∧ s17 < ((((p0.set (Int.toNat p1) (p0.getD (Int.toNat p3) 0)).set (Int.toNat p3) (p0.getD (Int.toNat p1) 0)).length : Nat) : Int) then (if (Int.toNat s17) < ((p0.set (Int.toNat p1) (p0.getD (Int.toNat p3) 0)).set (Int.toNat p3) (p0.getD (Int.toNat p1) 0)).length then (if 0 ≤ p1 ∧ p1 < ((((p0.set (Int.toNat p1) (p0.getD (Int.toNat p3) 0)).set (Int.toNat p3) (p0.getD (Int.toNat p1) 0)).length : Nat) : Int) then (if (Int.toNat p1) < ((p0.set (Int.toNat p1) (p0.getD (Int.toNat p3) 0)).set (Int.toNat p3) (p0.getD (Int.toNat p1) 0)).length then (Option.bind (Cv (((p0.set (Int.toNat p1) (p0.getD (Int.toNat p3) 0)).set (Int.toNat p3) (p0.getD (Int.toNat p1) 0)).getD (Int.toNat s17) 0) (((p0.set (Int.toNat p1) (p0.getD (Int.toNat p3) 0)).set (Int.toNat p3) (p0.getD (Int.toNat p1) 0)).getD (Int.toNat p1) 0)) fun r874 => ((Ei p0 p1 p3 s1 s17 n17) (!r874))) else none) else none) else none) else none) else ((Ei p0 p1 p3 s1 s17 n17) false))
def Eg (p0 : List Int) (p1 : Int) (p2 : Int) (p3 : Int) (s1 : Int) (n1 : Int → Option (Int × Bool × (List Int))) (y28 : Bool) : Option (Int × Bool × (List Int)) := (if y28 then (n1 (w64 (s1 + 1))) else (whileO (Gc p0 p1 p3 s1) Dy (w64 (p2 - 1))))
def Iq (p0 : List Int) (p1 : Int) (p2 : Int) (p3 : Int) (s1 : Int) (n1 : Int → Option (Int × Bool × (List Int))) : Option (Int × Bool × (List Int)) := (if (decide (s1 ≤ (w64 (p2 - 1)))) then (if 0 ≤ s1 ∧ s1 < ((((p0.set (Int.toNat p1) (p0.getD (Int.toNat p3) 0)).set (Int.toNat p3) (p0.getD (Int.toNat p1) 0)).length : Nat) : Int) then (if (Int.toNat s1) < ((p0.set (Int.toNat p1) (p0.getD (Int.toNat p3) 0)).set (Int.toNat p3) (p0.getD (Int.toNat p1) 0)).length then (if 0 ≤ p1 ∧ p1 < ((((p0.set (Int.toNat p1) (p0.getD (Int.toNat p3) 0)).set (Int.toNat p3) (p0.getD (Int.toNat p1) 0)).length : Nat) : Int) then (if (Int.toNat p1) < ((p0.set (Int.toNat p1) (p0.getD (Int.toNat p3) 0)).set (Int.toNat p3) (p0.getD (Int.toNat p1) 0)).length then (Option.bind (Cv (((p0.set (Int.toNat p1) (p0.getD (Int.toNat p3) 0)).set (Int.toNat p3) (p0.getD (Int.toNat p1) 0)).getD (Int.toNat s1) 0) (((p0.set (Int.toNat p1) (p0.getD (Int.toNat p3) 0)).set (Int.toNat p3) (p0.getD (Int.toNat p1) 0)).getD (Int.toNat p1) 0)) fun r587 => ((Eg p0 p1 p2 p3 s1 n1) r587)) else none) else none) else none) else none) else ((Eg p0 p1 p2 p3 s1 n1) false))
def Fj (p0 : List Int) (p1 : Int) (p2 : Int) (p3 : Int) : Option (Int × Bool × (List Int)) := (if 0 ≤ p3 ∧ p3 < ((p0.length : Nat) : Int) then (if (Int.toNat p3) < p0.length then (if 0 ≤ p1 ∧ p1 < ((p0.length : Nat) : Int) then (if (Int.toNat p1) < p0.length then (if 0 ≤ p1 ∧ p1 < ((p0.length : Nat) : Int) then (if (Int.toNat p1) < p0.length then (if 0 ≤ p3 ∧ p3 < ((p0.length : Nat) : Int) then (if (Int.toNat p3) < p0.length then (whileO (Iq p0 p1 p2 p3) Dy (w64 (p1 + 1))) else none) else none) else none) else none) else none) else none) else none) else none)
def Ge (p0 : Int) : Option Int := (Option.bind (Tc (IntKind.u64.wrap p0)) fun r1 => (if (0 : Int) ≤ r1 then (some (kshl .u64 1 r1)) else none))
def Kt (p0 : Int) : Option (Int × Int) := (some ((kxor .u64 (kxor .u64 (kxor .u64 p0 (kshl .u64 p0 13)) (kshr .u64 (kxor .u64 p0 (kshl .u64 p0 13)) 7)) (kshl .u64 (kxor .u64 (kxor .u64 p0 (kshl .u64 p0 13)) (kshr .u64 (kxor .u64 p0 (kshl .u64 p0 13)) 7)) 17)),(kxor .u64 (kxor .u64 (kxor .u64 p0 (kshl .u64 p0 13)) (kshr .u64 (kxor .u64 p0 (kshl .u64 p0 13)) 7)) (kshl .u64 (kxor .u64 (kxor .u64 p0 (kshl .u64 p0 13)) (kshr .u64 (kxor .u64 p0 (kshl .u64 p0 13)) 7)) 17))))
def Cq (p1 : Int) (s1 : (List Int) × Int × Int) (n1 : ((List Int) × Int × Int) → Option (List Int)) (r15 : Int × Int) (y2 : Int) : Option (List Int) := (if 0 ≤ (w64 (p1 + y2)) ∧ (w64 (p1 + y2)) < ((s1.1.length : Nat) : Int) then (if (Int.toNat (w64 (p1 + y2))) < s1.1.length then (if 0 ≤ s1.2.2 ∧ s1.2.2 < ((s1.1.length : Nat) : Int) then (if (Int.toNat s1.2.2) < s1.1.length then (if 0 ≤ s1.2.2 ∧ s1.2.2 < ((s1.1.length : Nat) : Int) then (if (Int.toNat s1.2.2) < s1.1.length then (if 0 ≤ (w64 (p1 + y2)) ∧ (w64 (p1 + y2)) < ((s1.1.length : Nat) : Int) then (if (Int.toNat (w64 (p1 + y2))) < s1.1.length then (n1 (((s1.1.set (Int.toNat s1.2.2) (s1.1.getD (Int.toNat (w64 (p1 + y2))) 0)).set (Int.toNat (w64 (p1 + y2))) (s1.1.getD (Int.toNat s1.2.2) 0)),r15.2,(w64 (s1.2.2 + 1)))) else none) else none) else none) else none) else none) else none) else none) else none)
def Hf (p1 : Int) (p2 : Int) (r2 : Int) (s1 : (List Int) × Int × Int) (n1 : ((List Int) × Int × Int) → Option (List Int)) : Option (List Int) := (if (decide (s1.2.2 ≤ (w64 ((w64 (p1 + (w64 ((w64 (Int.tdiv (w64 (p2 - p1)) 4)) * 2)))) + 1)))) then (Option.bind (Kt s1.2.1) fun r15 => (if (decide ((w64 (kand .u64 r15.1 (IntKind.u64.wrap (r2 - 1)))) ≥ (w64 (p2 - p1)))) then ((Cq p1 s1 n1 r15) (w64 ((w64 (kand .u64 r15.1 (IntKind.u64.wrap (r2 - 1)))) - (w64 (p2 - p1))))) else ((Cq p1 s1 n1 r15) (w64 (kand .u64 r15.1 (IntKind.u64.wrap (r2 - 1))))))) else (some s1.1))
def Dv (p0 : List Int) (p1 : Int) (p2 : Int) : Option (List Int) := (if (decide ((w64 (p2 - p1)) ≥ 8)) then (Option.bind (Ge (w64 (p2 - p1))) fun r2 => (whileO (Hf p1 p2 r2) Dy (p0,(IntKind.u64.wrap (w64 (p2 - p1))),(w64 ((w64 (p1 + (w64 ((w64 (Int.tdiv (w64 (p2 - p1)) 4)) * 2)))) - 1))))) else (some p0))
def Dj (rec : (List Int) → Int → Int → Int → Option (List Int)) (s1 : (List Int) × Int × Int × Int × Bool × Bool) (n1 : ((List Int) × Int × Int × Int × Bool × Bool) → Option (List Int)) (y8 : (List Int) × Int) (y9 : (List Int) × Int × Int) (y10 : List Int) (y11 : Bool) : Option (List Int) := (if y11 then (Option.bind (Dp y10 s1.2.1 s1.2.2.1 y9.2.1) fun r92 => (if y10.length = r92.2.length then (n1 (r92.2,r92.1,s1.2.2.1,y8.2,s1.2.2.2.2.1,s1.2.2.2.2.2)) else none)) else (Option.bind (Fj y10 s1.2.1 s1.2.2.1 y9.2.1) fun r94 => (if y10.length = r94.2.2.length then (if (decide ((w64 (r94.1 - s1.2.1)) < (w64 (s1.2.2.1 - r94.1)))) then (Option.bind (rec r94.2.2 s1.2.1 r94.1 y8.2) fun r97 => (if r94.2.2.length = r97.length then (n1 (r97,(w64 (r94.1 + 1)),s1.2.2.1,y8.2,(decide ((w64 (r94.1 - s1.2.1)) ≥ (w64 (Int.tdiv (w64 (s1.2.2.1 - s1.2.1)) 8)))),r94.2.1)) else none)) else (Option.bind (rec r94.2.2 (w64 (r94.1 + 1)) s1.2.2.1 y8.2) fun r99 => (if r94.2.2.length = r99.length then (n1 (r99,s1.2.1,r94.1,y8.2,(decide ((w64 (s1.2.2.1 - r94.1)) ≥ (w64 (Int.tdiv (w64 (s1.2.2.1 - s1.2.1)) 8)))),r94.2.1)) else none))) else none)))
def Di (rec : (List Int) → Int → Int → Int → Option (List Int)) (s1 : (List Int) × Int × Int × Int × Bool × Bool) (n1 : ((List Int) × Int × Int × Int × Bool × Bool) → Option (List Int)) (y8 : (List Int) × Int) (y9 : (List Int) × Int × Int) (y10 : List Int) : Option (List Int) := (if (decide (s1.2.1 > 0)) then (if 0 ≤ (w64 (s1.2.1 - 1)) ∧ (w64 (s1.2.1 - 1)) < ((y10.length : Nat) : Int) then (if (Int.toNat (w64 (s1.2.1 - 1))) < y10.length then (if 0 ≤ y9.2.1 ∧ y9.2.1 < ((y10.length : Nat) : Int) then (if (Int.toNat y9.2.1) < y10.length then (Option.bind (Cv (y10.getD (Int.toNat (w64 (s1.2.1 - 1))) 0) (y10.getD (Int.toNat y9.2.1) 0)) fun r90 => ((Dj rec s1 n1 y8 y9 y10) (!r90))) else none) else none) else none) else none) else ((Dj rec s1 n1 y8 y9 y10) false))
def Ds (rec : (List Int) → Int → Int → Int → Option (List Int)) (s1 : (List Int) × Int × Int × Int × Bool × Bool) (n1 : ((List Int) × Int × Int × Int × Bool × Bool) → Option (List Int)) (y8 : (List Int) × Int) (y9 : (List Int) × Int × Int) : Option (List Int) := (if ((s1.2.2.2.2.1 && s1.2.2.2.2.2) && (y9.2.2 == 1)) then (Option.bind (Ct y9.1 s1.2.1 s1.2.2.1) fun r82 => (if y9.1.length = r82.2.length then (if r82.1 then (some r82.2) else ((Di rec s1 n1 y8 y9) r82.2)) else none)) else ((Di rec s1 n1 y8 y9) y9.1))
def Du (rec : (List Int) → Int → Int → Int → Option (List Int)) (s1 : (List Int) × Int × Int × Int × Bool × Bool) (n1 : ((List Int) × Int × Int × Int × Bool × Bool) → Option (List Int)) (y8 : (List Int) × Int) : Option (List Int) := (Option.bind (Ep y8.1 s1.2.1 s1.2.2.1) fun r75 => (if (r75.2 == 2) then (Option.bind (Ed y8.1 s1.2.1 s1.2.2.1) fun r77 => (if y8.1.length = r77.length then ((Ds rec s1 n1 y8) (r77,(w64 ((w64 (s1.2.2.1 - 1)) - (w64 (r75.1 - s1.2.1)))),1)) else none)) else ((Ds rec s1 n1 y8) (y8.1,r75.1,r75.2))))
def Jt (rec : (List Int) → Int → Int → Int → Option (List Int)) (s1 : (List Int) × Int × Int × Int × Bool × Bool) (n1 : ((List Int) × Int × Int × Int × Bool × Bool) → Option (List Int)) : Option (List Int) := (if (decide ((w64 (s1.2.2.1 - s1.2.1)) ≤ 12)) then (Option.bind (Dw s1.1 s1.2.1 s1.2.2.1) fun r67 => (if s1.1.length = r67.length then (some r67) else none)) else (if (s1.2.2.2.1 == 0) then (Option.bind (Fq s1.1 s1.2.1 s1.2.2.1) fun r70 => (if s1.1.length = r70.length then (some r70) else none)) else (if (!s1.2.2.2.2.1) then (Option.bind (Dv s1.1 s1.2.1 s1.2.2.1) fun r73 => (if s1.1.length = r73.length then ((Du rec s1 n1) (r73,(w64 (s1.2.2.2.1 - 1)))) else none)) else ((Du rec s1 n1) (s1.1,s1.2.2.2.1)))))
def Ho (rec : (List Int) → Int → Int → Int → Option (List Int)) (p0 : List Int) (p1 : Int) (p2 : Int) (p3 : Int) : Option (List Int) := (whileO (Jt rec) Dy (p0,p1,p2,p3,true,true))
def Ca : Nat → (List Int) → Int → Int → Int → Option (List Int)
 | 0,_,_,_,_ => none
 | n + 1,p0,p1,p2,p3 => Ho (Ca n) p0 p1 p2 p3
def Kv (p0 : List Int) (p1 : Int) (p2 : Int) (p3 : Int) : Option (List Int) := Ca Dy p0 p1 p2 p3
def Hz (p0 : List Int) : Option (List Int) := (Option.bind (Tc (IntKind.u64.wrap ((p0.length : Nat) : Int))) fun r1 => (Option.bind (Kv p0 0 ((p0.length : Nat) : Int) r1) fun r2 => (if p0.length = r2.length then (some r2) else none)))
def Ku (n4 : ((List Int) × Int) → Option (Nat × (List Int))) (y9 : (List Int) × Int) : Option (Nat × (List Int)) := (n4 (y9.1,y9.2))
def Om (p0 : List Int) (k1 : Int) (k4 : Int) (s4 : (List Int) × Int) (n4 : ((List Int) × Int) → Option (Nat × (List Int))) : Option (Nat × (List Int)) := (if 0 ≤ k4 ∧ k4 < (((Fp p0.length (Int.toNat k1)) : Nat) : Int) then (if (Tr (Int.toNat k1) (Int.toNat k4)) < s4.1.length then (if 0 ≤ (w64 (k4 - 1)) ∧ (w64 (k4 - 1)) < (((Fp p0.length (Int.toNat k1)) : Nat) : Int) then (if (Tr (Int.toNat k1) (Int.toNat (w64 (k4 - 1)))) < s4.1.length then (if ((s4.1.getD (Tr (Int.toNat k1) (Int.toNat k4)) 0) != (s4.1.getD (Tr (Int.toNat k1) (Int.toNat (w64 (k4 - 1)))) 0)) then (if 0 ≤ k4 ∧ k4 < (((Fp p0.length (Int.toNat k1)) : Nat) : Int) then (if (Tr (Int.toNat k1) (Int.toNat k4)) < s4.1.length then (if 0 ≤ s4.2 ∧ s4.2 < ((s4.1.length : Nat) : Int) then (if (Int.toNat s4.2) < s4.1.length then ((Ku n4) ((s4.1.set (Int.toNat s4.2) (s4.1.getD (Tr (Int.toNat k1) (Int.toNat k4)) 0)),(w64 (s4.2 + 1)))) else none) else none) else none) else none) else ((Ku n4) (s4.1,s4.2))) else none) else none) else none) else none)
def Oo (s4 : (List Int) × Int) : Option (Nat × (List Int)) := (if 0 ≤ s4.2 ∧ s4.2 ≤ ((s4.1.length : Nat) : Int) then (if (Int.toNat s4.2) + (Fp s4.1.length (Int.toNat s4.2)) ≤ s4.1.length then (if 0 ≤ s4.2 ∧ s4.2 ≤ (((Ki s4.1 (Int.toNat s4.2) (Fp s4.1.length (Int.toNat s4.2)) 0).length : Nat) : Int) then (some ((Int.toNat s4.2),(Ki s4.1 (Int.toNat s4.2) (Fp s4.1.length (Int.toNat s4.2)) 0))) else none) else none) else none)
def Oq (p0 : List Int) (k1 : Int) (s1 : Unit) (n1 : Unit → Option (Nat × (List Int))) : Option (Nat × (List Int)) := (if 0 ≤ k1 ∧ k1 < ((p0.length : Nat) : Int) then (if (Int.toNat k1) < p0.length then (if 0 ≤ (w64 (k1 - 1)) ∧ (w64 (k1 - 1)) < ((p0.length : Nat) : Int) then (if (Int.toNat (w64 (k1 - 1))) < p0.length then (if ((p0.getD (Int.toNat k1) 0) == (p0.getD (Int.toNat (w64 (k1 - 1))) 0)) then (if 0 ≤ k1 ∧ k1 ≤ ((p0.length : Nat) : Int) then (if (((Fp p0.length (Int.toNat k1)) : Nat) : Int) ≤ 9223372036854775807 then (forO (Om p0 k1) Oo (Int.toNat ((((Fp p0.length (Int.toNat k1)) : Nat) : Int) - 1)) 1 (p0,k1)) else none) else none) else (n1 ())) else none) else none) else none) else none)
def Uh (p0 : List Int) (s1 : Unit) : Option (Nat × (List Int)) := (some (p0.length,p0))
def Hr (p0 : List Int) : Option (Nat × (List Int)) := (if (decide (((p0.length : Nat) : Int) < 2)) then (some (p0.length,p0)) else (if p0.length ≤ 9223372036854775807 then (forO (Oq p0) (Uh p0) (Int.toNat (((p0.length : Nat) : Int) - 1)) 1 ()) else none))
end Go.Dm

/- Models of Go types and functions, printed by a program. -/
namespace Go.Dm
set_option linter.unusedVariables false
end Go.Dm

/- Models of Go types and functions, printed by a program. -/
namespace Go.Dm
set_option linter.unusedVariables false
end Go.Dm

/- Models of Go types and functions, printed by a program. -/
namespace Go.Dm
set_option linter.unusedVariables false
structure Ai where
 group : Int
 want : Bool
 frozen : Bool
 changes : Int
 deriving Inhabited
def Bd (x : Ai) : List PV := [vi x.group,vb x.want,vb x.frozen,vi x.changes]
abbrev Bh : Ai := default
abbrev Ec (L : List Ai) : PV := Ps 4 Bd (default : Ai) L
abbrev Af (L : List Ai) : Body := rowOf 4 Bd (default : Ai) L
abbrev Kg (L : List Ai) : Nat → List PV := elems Bd (default : Ai) L
def Aee (x y : Ai) : Bool := ((x.group == y.group) && ((x.want == y.want) && ((x.frozen == y.frozen) && ((x.changes == y.changes) && true))))
structure Ac where
 frosts : List Ai
 stopped : List Int
 deriving Inhabited
def Al (x : Ac) : List PV := [Ps 4 Bd (default : Ai) x.frosts,Ps 1 Bm 0 x.stopped]
structure freezer where
 h : Aa
 f : Ac
 deriving Inhabited
def AbW : Option Aa := (some ({ tree := ({ nodes := [({ id := 1,parent := 0,name := ByteArray.empty,control := 0,kind := 0,owner := 0 } : An),({ id := 2,parent := 1,name := (bs [97]),control := 0,kind := 0,owner := 0 } : An),({ id := 3,parent := 2,name := (bs [98]),control := 0,kind := 0,owner := 0 } : An)],next := 4 } : Ag),tasks := [({ id := 1,process := 1,group := 3,user := 0 } : Aw)],next := 2 } : Aa))
def AdV (k1 : Nat) (x1 : An) (s1 : List Ai) (n1 : (List Ai) → Option Ac) : Option Ac := (if s1.length + 1 ≤ 1073741824 then (n1 (s1 ++ [({ group := x1.id,want := false,frozen := false,changes := 0 } : Ai)])) else none)
def AdQ (s1 : List Ai) : Option Ac := (some ({ frosts := s1,stopped := [] } : Ac))
def Ym (p0 : Aa) : Option Ac := (Option.bind (Ka p0) fun r1 => (if (!r1) then (some ({ frosts := [],stopped := [] } : Ac)) else (if p0.tree.nodes.length ≤ 9223372036854775807 then Bi AdV AdQ p0.tree.nodes 0 [] else none)))
def AdZ (p1 : Int) (k1 : Nat) (x1 : Ai) (s1 : Unit) (n1 : Unit → Option Ai) : Option Ai := (if (x1.group == p1) then (some x1) else (n1 ()))
def Adv (p1 : Int) (s1 : Unit) : Option Ai := (some ({ group := p1,want := false,frozen := false,changes := 0 } : Ai))
def Hl (p0 : Ac) (p1 : Int) : Option Ai := (if p0.frosts.length ≤ 9223372036854775807 then Bi (AdZ p1) (Adv p1) p0.frosts 0 () else none)
def Vf (p1 : Ac) (k1 : Nat) (x1 : Int) (s1 : Unit) (n1 : Unit → Option Bool) : Option Bool := (Option.bind (Hl p1 x1) fun r13 => (if r13.want then (some true) else (n1 ())))
def AbE (s1 : Unit) : Option Bool := (some false)
def Kc (p0 : Ag) (p1 : Ac) (p2 : Int) : Option Bool := (Option.bind (Ln p0 p2) fun r1 => (if r1.length ≤ 9223372036854775807 then Bi (Vf p1) AbE r1 0 () else none))
def Pu (y1 : Bool) : Option Bool := (some y1)
def Hk (p0 : Aa) (p1 : Ac) (p2 : Int) : Option Bool := (Option.bind (Qz p0 p2) fun r1 => (if r1.2 then (Option.bind (Kc p0.tree p1 r1.1.group) fun r3 => (Pu r3)) else (Pu false)))
def Gq (p0 : Ac) (p1 : Int) : Option Bool := (Option.bind (Fz p0.stopped p1) fun r1 => (some r1))
def Pg (n1 : Unit → Option Bool) (y3 : Bool) : Option Bool := (if y3 then (some false) else (n1 ()))
def Xp (p1 : Ac) (r3 : List Int) (k1 : Nat) (x1 : Aw) (s1 : Unit) (n1 : Unit → Option Bool) : Option Bool := (Option.bind (Fz r3 x1.group) fun r17 => (if r17 then (Option.bind (Gq p1 x1.id) fun r19 => ((Pg n1) (!r19))) else ((Pg n1) false)))
def Acx (s1 : Unit) : Option Bool := (some true)
def Mu (p0 : Aa) (p1 : Ac) (p2 : Int) : Option Bool := (Option.bind (Kc p0.tree p1 p2) fun r1 => (if (!r1) then (some false) else (Option.bind (Ni p0.tree p2) fun r3 => (if p0.tasks.length ≤ 9223372036854775807 then Bi (Xp p1 r3) Acx p0.tasks 0 () else none))))
def Kf (n1 : Unit → Option Bool) (y10 : Bool) : Option Bool := (if y10 then (some false) else (n1 ()))
def Vn (p0 : Aa) (k1 : Nat) (x1 : Ai) (s1 : Unit) (n1 : Unit → Option Bool) : Option Bool := (if k1 < p0.tree.nodes.length then (if (x1.group != (p0.tree.nodes.getD k1 (default : An)).id) then ((Kf n1) true) else (if (decide (x1.changes < 0)) then ((Kf n1) true) else ((Kf n1) (decide (x1.changes > 1099511627776))))) else none)
def Ii (n10 : Unit → Option Bool) (y13 : Bool) : Option Bool := (if y13 then (some false) else (n10 ()))
def Ux (p0 : Aa) (p1 : Ac) (k10 : Nat) (x10 : Int) (s10 : Unit) (n10 : Unit → Option Bool) : Option Bool := (if (decide (((k10 : Nat) : Int) > 0)) then (if 0 ≤ (w64 (((k10 : Nat) : Int) - 1)) ∧ (w64 (((k10 : Nat) : Int) - 1)) < ((p1.stopped.length : Nat) : Int) then (if (decide (x10 ≤ (p1.stopped.getD (Int.toNat (w64 (((k10 : Nat) : Int) - 1))) 0))) then ((Ii n10) true) else (Option.bind (Hk p0 p1 x10) fun r145 => ((Ii n10) (!r145)))) else none) else (Option.bind (Hk p0 p1 x10) fun r146 => ((Ii n10) (!r146))))
def Uo (p0 : Aa) (p1 : Ac) (k13 : Nat) (x13 : Ai) (s13 : Unit) (n13 : Unit → Option Bool) : Option Bool := (Option.bind (Mu p0 p1 x13.group) fun r157 => (if (x13.frozen != r157) then (some false) else (n13 ())))
def Aam (s13 : Unit) : Option Bool := (some true)
def Tm (p0 : Aa) (p1 : Ac) (s10 : Unit) : Option Bool := (if p1.frosts.length ≤ 9223372036854775807 then Bi (Uo p0 p1) Aam p1.frosts 0 () else none)
def Vg (p0 : Aa) (p1 : Ac) (s1 : Unit) : Option Bool := (if p1.stopped.length ≤ 9223372036854775807 then Bi (Ux p0 p1) (Tm p0 p1) p1.stopped 0 () else none)
def Nx (p0 : Aa) (p1 : Ac) (y1 : Bool) : Option Bool := (if y1 then (some false) else (if p1.frosts.length ≤ 9223372036854775807 then Bi (Vn p0) (Vg p0 p1) p1.frosts 0 () else none))
def Lj (p0 : Aa) (p1 : Ac) : Option Bool := (Option.bind (Ka p0) fun r1 => (if (!r1) then ((Nx p0 p1) true) else ((Nx p0 p1) (((p1.frosts.length : Nat) : Int) != ((p0.tree.nodes.length : Nat) : Int)))))
def Aaa (p0 : Ai) (p1 : Int) : Option Bool := (some (p0.group == p1))
def Jl (p1c0 : Int) (k1 : Nat) (x1 : Ai) (s1 : Unit) (n1 : Unit → Option Int) : Option Int := (Option.bind (Aaa x1 p1c0) fun r10 => (if r10 then (some ((k1 : Nat) : Int)) else (n1 ())))
def Jm (s1 : Unit) : Option Int := (some (-1))
def Gm (p0 : List Ai) (p1c0 : Int) : Option Int := (if p0.length ≤ 9223372036854775807 then Bi (Jl p1c0) Jm p0 0 () else none)
def Jw (p0 : List Ai) : Option (List Ai) := (if 0 + p0.length ≤ 1073741824 then (some p0) else none)
def Mw (p0 : List Ai) : Option (List Ai) := (some [])
def Gj (p0 : List Int) : Option (List Int) := (if 0 + p0.length ≤ 1073741824 then (some p0) else none)
def Pt (p0 : List Int) : Option (List Int) := (some [])
def Wd (p0 : Aa) (p1 : Ac) : Option freezer := (Option.bind (Jw p1.frosts) fun r1 => (Option.bind (Gj p1.stopped) fun r2 => (some ({ h := p0,f := ({ frosts := r1,stopped := r2 } : Ac) } : freezer))))
def Fw (p0 : Int) (p1 : freezer) : Option Bool := (Option.bind (Hk p1.h p1.f p0) fun r1 => (some (!r1)))
def Ej (p0 : List Int) (p1c0 : freezer) (k1 : Nat) (x1 : Int) (s1 : Unit) (n1 : Unit → Option Int) : Option Int := (Option.bind (Fw x1 ({ h := p1c0.h,f := ({ frosts := p1c0.f.frosts,stopped := p0 } : Ac) } : freezer)) fun r12 => (if r12 then (some ((k1 : Nat) : Int)) else (n1 ())))
def Gy (s1 : Unit) : Option Int := (some (-1))
def Da (p0 : List Int) (p1c0 : freezer) : Option Int := (if p0.length ≤ 9223372036854775807 then Bi (Ej p0 p1c0) Gy p0 0 () else none)
def Cd (s1 : (List Int) × Int × Int) (n1 : ((List Int) × Int × Int) → Option (Nat × (List Int) × freezer)) (y2 : (List Int) × Int) : Option (Nat × (List Int) × freezer) := (n1 (y2.1,y2.2,(w64 (s1.2.2 + 1))))
def Cr (p1c0 : freezer) (s1 : (List Int) × Int × Int) (n1 : ((List Int) × Int × Int) → Option (Nat × (List Int) × freezer)) : Option (Nat × (List Int) × freezer) := (if (decide (s1.2.2 < ((s1.1.length : Nat) : Int))) then (if 0 ≤ s1.2.2 ∧ s1.2.2 < ((s1.1.length : Nat) : Int) then (if (Int.toNat s1.2.2) < s1.1.length then (Option.bind (Fw (s1.1.getD (Int.toNat s1.2.2) 0) ({ h := p1c0.h,f := ({ frosts := p1c0.f.frosts,stopped := s1.1 } : Ac) } : freezer)) fun r16 => (if (!r16) then (if 0 ≤ s1.2.1 ∧ s1.2.1 < ((s1.1.length : Nat) : Int) then (if (Int.toNat s1.2.1) < s1.1.length then ((Cd s1 n1) ((s1.1.set (Int.toNat s1.2.1) (s1.1.getD (Int.toNat s1.2.2) 0)),(w64 (s1.2.1 + 1)))) else none) else none) else ((Cd s1 n1) (s1.1,s1.2.1)))) else none) else none) else (if 0 ≤ s1.2.1 ∧ s1.2.1 ≤ ((s1.1.length : Nat) : Int) then (if (Int.toNat s1.2.1) + (Fp s1.1.length (Int.toNat s1.2.1)) ≤ s1.1.length then (if 0 ≤ s1.2.1 ∧ s1.2.1 ≤ (((Ki s1.1 (Int.toNat s1.2.1) (Fp s1.1.length (Int.toNat s1.2.1)) 0).length : Nat) : Int) then (some ((Int.toNat s1.2.1),(Ki s1.1 (Int.toNat s1.2.1) (Fp s1.1.length (Int.toNat s1.2.1)) 0),({ h := p1c0.h,f := ({ frosts := p1c0.f.frosts,stopped := (Ki s1.1 (Int.toNat s1.2.1) (Fp s1.1.length (Int.toNat s1.2.1)) 0) } : Ac) } : freezer))) else none) else none) else none))
def Cg (p0 : List Int) (p1c0 : freezer) : Option (Nat × (List Int) × freezer) := (Option.bind (Da p0 ({ h := p1c0.h,f := ({ frosts := p1c0.f.frosts,stopped := p0 } : Ac) } : freezer)) fun r1 => (if (r1 == (-1)) then (some (p0.length,p0,({ h := p1c0.h,f := ({ frosts := p1c0.f.frosts,stopped := p0 } : Ac) } : freezer))) else (whileO (Cr p1c0) Dy (p0,r1,(w64 (r1 + 1))))))
def Gn (p0 : freezer) : Option (freezer × Nat) := (Option.bind (Cg p0.f.stopped p0) fun r1 => (if p0.f.stopped.length = r1.2.1.length then (if p0.f.frosts.length = r1.2.2.f.frosts.length then (if r1.1 ≤ r1.2.1.length then (some (({ h := r1.2.2.h,f := ({ frosts := r1.2.2.f.frosts,stopped := r1.2.1 } : Ac) } : freezer),r1.1)) else none) else none) else none))
def Gs (n1 : (List Ai) → Option (Ac × freezer)) (y3 : List Ai) : Option (Ac × freezer) := (n1 y3)
def Lz (p0 : freezer) (k1 : Int) (s1 : List Ai) (n1 : (List Ai) → Option (Ac × freezer)) : Option (Ac × freezer) := (if 0 ≤ k1 ∧ k1 < ((s1.length : Nat) : Int) then (if (Int.toNat k1) < s1.length then (Option.bind (Mu p0.h ({ frosts := s1,stopped := p0.f.stopped } : Ac) (s1.getD (Int.toNat k1) (default : Ai)).group) fun r22 => (if (Int.toNat k1) < s1.length then (if (r22 != (s1.getD (Int.toNat k1) (default : Ai)).frozen) then (if (Int.toNat k1) < s1.length then (if (Int.toNat k1) < s1.length then (if (Int.toNat k1) < s1.length then ((Gs n1) ((s1.set (Int.toNat k1) ({ group := (s1.getD (Int.toNat k1) (default : Ai)).group,want := (s1.getD (Int.toNat k1) (default : Ai)).want,frozen := r22,changes := (s1.getD (Int.toNat k1) (default : Ai)).changes } : Ai)).set (Int.toNat k1) ({ group := ((s1.set (Int.toNat k1) ({ group := (s1.getD (Int.toNat k1) (default : Ai)).group,want := (s1.getD (Int.toNat k1) (default : Ai)).want,frozen := r22,changes := (s1.getD (Int.toNat k1) (default : Ai)).changes } : Ai)).getD (Int.toNat k1) (default : Ai)).group,want := ((s1.set (Int.toNat k1) ({ group := (s1.getD (Int.toNat k1) (default : Ai)).group,want := (s1.getD (Int.toNat k1) (default : Ai)).want,frozen := r22,changes := (s1.getD (Int.toNat k1) (default : Ai)).changes } : Ai)).getD (Int.toNat k1) (default : Ai)).want,frozen := ((s1.set (Int.toNat k1) ({ group := (s1.getD (Int.toNat k1) (default : Ai)).group,want := (s1.getD (Int.toNat k1) (default : Ai)).want,frozen := r22,changes := (s1.getD (Int.toNat k1) (default : Ai)).changes } : Ai)).getD (Int.toNat k1) (default : Ai)).frozen,changes := (Mt (w64 ((s1.getD (Int.toNat k1) (default : Ai)).changes + 1)) 1099511627776) } : Ai))) else none) else none) else none) else ((Gs n1) s1)) else none)) else none) else none)
def Ro (p0 : freezer) (s1 : List Ai) : Option (Ac × freezer) := (some (({ frosts := s1,stopped := p0.f.stopped } : Ac),({ h := p0.h,f := ({ frosts := s1,stopped := p0.f.stopped } : Ac) } : freezer)))
def Dt (p0 : freezer) : Option (Ac × freezer) := (if p0.f.frosts.length ≤ 9223372036854775807 then (forO (Lz p0) (Ro p0) (Int.toNat (((p0.f.frosts.length : Nat) : Int) - 0)) 0 p0.f.frosts) else none)
def Yl (p0 : Aa) (p1 : Ac) (p2 : Int) (p3 : Bool) : Option (Ac × Int) := (Option.bind (Lj p0 p1) fun r1 => (if (!r1) then (some (({ frosts := [],stopped := [] } : Ac),1)) else (Option.bind (Gm p1.frosts p2) fun r3 => (if (decide (r3 < 0)) then (some (({ frosts := [],stopped := [] } : Ac),4)) else (if (p2 == 1) then (some (({ frosts := [],stopped := [] } : Ac),9)) else (Option.bind (Wd p0 p1) fun r6 => (if 0 ≤ r3 ∧ r3 < ((r6.f.frosts.length : Nat) : Int) then (if (Int.toNat r3) < r6.f.frosts.length then (Option.bind (Gn ({ h := r6.h,f := ({ frosts := (r6.f.frosts.set (Int.toNat r3) ({ group := (r6.f.frosts.getD (Int.toNat r3) (default : Ai)).group,want := p3,frozen := (r6.f.frosts.getD (Int.toNat r3) (default : Ai)).frozen,changes := (r6.f.frosts.getD (Int.toNat r3) (default : Ai)).changes } : Ai)),stopped := r6.f.stopped } : Ac) } : freezer)) fun r9 => (if (r6.f.frosts.set (Int.toNat r3) ({ group := (r6.f.frosts.getD (Int.toNat r3) (default : Ai)).group,want := p3,frozen := (r6.f.frosts.getD (Int.toNat r3) (default : Ai)).frozen,changes := (r6.f.frosts.getD (Int.toNat r3) (default : Ai)).changes } : Ai)).length = r9.1.f.frosts.length then (if r6.f.stopped.length = r9.1.f.stopped.length then (if r9.2 ≤ r9.1.f.stopped.length then (Option.bind (Dt ({ h := r9.1.h,f := ({ frosts := r9.1.f.frosts,stopped := (r9.1.f.stopped.take r9.2) } : Ac) } : freezer)) fun r13 => (if r9.1.f.frosts.length = r13.2.f.frosts.length then (if (r9.1.f.stopped.take r9.2).length = r13.2.f.stopped.length then (some (r13.2.f,0)) else none) else none)) else none) else none) else none)) else none) else none)))))))
def Sp (n1 : (List Int) → Option (Ac × Int)) (y5 : List Int) : Option (Ac × Int) := (n1 y5)
def Ov (x1 : Aw) (s1 : List Int) (n1 : (List Int) → Option (Ac × Int)) (y6 : Bool) : Option (Ac × Int) := (if y6 then (if s1.length + 1 ≤ 1073741824 then ((Sp n1) (s1 ++ [x1.id])) else none) else ((Sp n1) s1))
def AcB (p0 : Aa) (p1 : Ac) (p2 : List Int) (r3 : freezer) (k1 : Nat) (x1 : Aw) (s1 : List Int) (n1 : (List Int) → Option (Ac × Int)) : Option (Ac × Int) := (Option.bind (Kc p0.tree p1 x1.group) fun r33 => (if r33 then (Option.bind (Fz p2 x1.id) fun r35 => (if (!r35) then (Option.bind (Gq ({ frosts := r3.f.frosts,stopped := s1 } : Ac) x1.id) fun r37 => ((Ov x1 s1 n1) (!r37))) else ((Ov x1 s1 n1) false))) else ((Ov x1 s1 n1) false)))
def Acz (r3 : freezer) (s1 : List Int) : Option (Ac × Int) := (Option.bind (Hz s1) fun r40 => (if s1.length = r40.length then (Option.bind (Dt ({ h := r3.h,f := ({ frosts := r3.f.frosts,stopped := r40 } : Ac) } : freezer)) fun r42 => (if r3.f.frosts.length = r42.2.f.frosts.length then (if r40.length = r42.2.f.stopped.length then (some (r42.2.f,0)) else none) else none)) else none))
def We (p0 : Aa) (p1 : Ac) (p2 : List Int) : Option (Ac × Int) := (Option.bind (Lj p0 p1) fun r1 => (if (!r1) then (some (({ frosts := [],stopped := [] } : Ac),1)) else (Option.bind (Wd p0 p1) fun r3 => (if p0.tasks.length ≤ 9223372036854775807 then Bi (AcB p0 p1 p2 r3) (Acz r3) p0.tasks 0 r3.f.stopped else none))))
def AaX (p1 : List Ai) (k1 : Nat) (x1 : Ai) (s1 : Unit) (n1 : Unit → Option Bool) : Option Bool := (if k1 < p1.length then (if (!(Aee x1 (p1.getD k1 (default : Ai)))) then (some false) else (n1 ())) else none)
def AeK (s1 : Unit) : Option Bool := (some true)
def Xb (p0 : List Ai) (p1 : List Ai) : Option Bool := (if (((p0.length : Nat) : Int) != ((p1.length : Nat) : Int)) then (some false) else (if p0.length ≤ 9223372036854775807 then Bi (AaX p1) AeK p0 0 () else none))
def Vd (p1 : List Int) (k1 : Nat) (x1 : Int) (s1 : Unit) (n1 : Unit → Option Bool) : Option Bool := (if k1 < p1.length then (if (x1 != (p1.getD k1 0)) then (some false) else (n1 ())) else none)
def AbL (s1 : Unit) : Option Bool := (some true)
def Qj (p0 : List Int) (p1 : List Int) : Option Bool := (if (((p0.length : Nat) : Int) != ((p1.length : Nat) : Int)) then (some false) else (if p0.length ≤ 9223372036854775807 then Bi (Vd p1) AbL p0 0 () else none))
def Mk (y1 : Bool) : Option Bool := (some y1)
def Ji (p0 : Ac) (p1 : Ac) : Option Bool := (Option.bind (Xb p0.frosts p1.frosts) fun r1 => (if r1 then (Option.bind (Qj p0.stopped p1.stopped) fun r3 => (Mk r3)) else (Mk false)))
def Ef (y1 : Bool) : Option Bool := (some y1)
def Rm : Option Bool := (Option.bind AbW fun r1 => (Option.bind (Ym r1) fun r4 => (Option.bind (Yl r1 r4 2 true) fun r5 => (Option.bind (We r1 r5.1 [1]) fun r8 => (Option.bind (We r1 r8.1 []) fun r11 => (Option.bind (Ym ({ tree := r1.tree,tasks := [],next := r1.next } : Aa)) fun r12 => (Option.bind (Yl ({ tree := r1.tree,tasks := [],next := r1.next } : Aa) r12 3 true) fun r13 => (if (r5.2 == 0) then (Option.bind (Hl r5.1 2) fun r15 => (if (!r15.frozen) then (if (r8.2 == 0) then (Option.bind (Ji r5.1 r8.1) fun r18 => (if r18 then (if (r11.2 == 0) then (Option.bind (Hl r11.1 2) fun r21 => (if r21.frozen then (Option.bind (Hl r11.1 3) fun r23 => (if r23.frozen then (Option.bind (Hl r11.1 3) fun r25 => (if (r25.changes == 1) then (Option.bind (Hl r11.1 1) fun r27 => (if (!r27.frozen) then (Option.bind (Gq r11.1 1) fun r29 => (if r29 then (if (r13.2 == 0) then (Option.bind (Hl r13.1 3) fun r32 => (Ef r32.frozen)) else (Ef false)) else (Ef false))) else (Ef false))) else (Ef false))) else (Ef false))) else (Ef false))) else (Ef false)) else (Ef false))) else (Ef false)) else (Ef false))) else (Ef false)))))))))
def Ko (n1 : (Ar × (List Int)) → Option ((List Int) × Ar)) (y5 : Ar × (List Int)) : Option ((List Int) × Ar) := (n1 (y5.1,y5.2))
def Ip (x1 : Aw) (s1 : Ar × (List Int)) (n1 : (Ar × (List Int)) → Option ((List Int) × Ar)) (y6 : Ar × Bool) : Option ((List Int) × Ar) := (if y6.2 then (if s1.2.length + 1 ≤ 1073741824 then ((Ko n1) (y6.1,(s1.2 ++ [x1.id]))) else none) else ((Ko n1) (y6.1,s1.2)))
def Rr (p2 : Bool) (k1 : Nat) (x1 : Aw) (s1 : Ar × (List Int)) (n1 : (Ar × (List Int)) → Option ((List Int) × Ar)) : Option ((List Int) × Ar) := (if p2 then ((Ip x1 s1 n1) (s1.1,true)) else (Option.bind (Bs s1.1 4) fun r14 => ((Ip x1 s1 n1) (r14.2,(decide (r14.1 > 0))))))
def Xx (s1 : Ar × (List Int)) : Option ((List Int) × Ar) := (some (s1.2,s1.1))
def Mm (p0 : Ar) (p1 : Aa) (p2 : Bool) : Option ((List Int) × Ar) := (if p1.tasks.length ≤ 9223372036854775807 then Bi (Rr p2) Xx p1.tasks 0 (p0,[]) else none)
def Pz (y1 : Bool) : Option Bool := (some y1)
def Oy (p0 : Ag) (p1 : Ac) (p2 : Int) : Option Bool := (Option.bind (Oi p0) fun r1 => (if r1 then (Option.bind (Kc p0 p1 p2) fun r3 => (Pz r3)) else (Pz false)))
def AeQ (p1 : Int) (k1 : Nat) (x1 : Ai) (s1 : Unit) (n1 : Unit → Option Ai) : Option Ai := (if (x1.group == p1) then (some x1) else (n1 ()))
def AeN (p1 : Int) (s1 : Unit) : Option Ai := (some ({ group := p1,want := false,frozen := false,changes := 0 } : Ai))
def Tg (p0 : Ac) (p1 : Int) : Option Ai := (if p0.frosts.length ≤ 9223372036854775807 then Bi (AeQ p1) (AeN p1) p0.frosts 0 () else none)
def Kl (p0 : Ac) (p1 : Int) : Option Bool := (Option.bind (On p0.stopped p1) fun r1 => (some r1))
def Vq (p1 : Ac) (k1 : Nat) (x1 : Int) (s1 : Unit) (n1 : Unit → Option Bool) : Option Bool := (Option.bind (Tg p1 x1) fun r13 => (if r13.want then (some true) else (n1 ())))
def Abt (s1 : Unit) : Option Bool := (some false)
def Hg (p0 : Ag) (p1 : Ac) (p2 : Int) : Option Bool := (Option.bind (Fu p0 p2) fun r1 => (if r1.length ≤ 9223372036854775807 then Bi (Vq p1) Abt r1 0 () else none))
def Qw (n1 : (List Int) → Option (List Int)) (y5 : List Int) : Option (List Int) := (n1 y5)
def Qh (x1 : Aw) (s1 : List Int) (n1 : (List Int) → Option (List Int)) (y6 : Bool) : Option (List Int) := (if y6 then (if s1.length + 1 ≤ 1073741824 then ((Qw n1) (s1 ++ [x1.id])) else none) else ((Qw n1) s1))
def Yx (p0 : Aa) (p1 : Ac) (k1 : Nat) (x1 : Aw) (s1 : List Int) (n1 : (List Int) → Option (List Int)) : Option (List Int) := (Option.bind (Kl p1 x1.id) fun r19 => (if r19 then (Option.bind (Hg p0.tree p1 x1.group) fun r21 => ((Qh x1 s1 n1) r21)) else ((Qh x1 s1 n1) false)))
def Aai (s1 : List Int) : Option (List Int) := (some s1)
def Ib (p0 : Aa) (p1 : Ac) : Option (List Int) := (if p0.tasks.length ≤ 9223372036854775807 then Bi (Yx p0 p1) Aai p0.tasks 0 [] else none)
def Oz (n1 : Unit → Option Bool) (y3 : Bool) : Option Bool := (if y3 then (some false) else (n1 ()))
def Xg (p0 : Aa) (p1 : Ac) (p2 : Int) (k1 : Nat) (x1 : Aw) (s1 : Unit) (n1 : Unit → Option Bool) : Option Bool := (Option.bind (Fu p0.tree x1.group) fun r20 => (Option.bind (On r20 p2) fun r21 => (if r21 then (Option.bind (Kl p1 x1.id) fun r23 => ((Oz n1) (!r23))) else ((Oz n1) false))))
def AcI (s1 : Unit) : Option Bool := (some true)
def Pi (p0 : Aa) (p1 : Ac) (p2 : Int) : Option Bool := (Option.bind (Hg p0.tree p1 p2) fun r1 => (if (!r1) then (some false) else (if p0.tasks.length ≤ 9223372036854775807 then Bi (Xg p0 p1 p2) AcI p0.tasks 0 () else none)))
def Mc (s1 : List Ai) (n1 : (List Ai) → Option Ac) (y3 : Ai) : Option Ac := (if s1.length + 1 ≤ 1073741824 then (n1 (s1 ++ [y3])) else none)
def Xj (p0 : Aa) (p1 : Ac) (k1 : Nat) (x1 : Ai) (s1 : List Ai) (n1 : (List Ai) → Option Ac) : Option Ac := (Option.bind (Pi p0 p1 x1.group) fun r12 => (if (r12 != x1.frozen) then ((Mc s1 n1) ({ group := x1.group,want := x1.want,frozen := r12,changes := (Mt (w64 (x1.changes + 1)) 1099511627776) } : Ai)) else ((Mc s1 n1) x1)))
def AcE (p1 : Ac) (s1 : List Ai) : Option Ac := (some ({ frosts := s1,stopped := p1.stopped } : Ac))
def Gl (p0 : Aa) (p1 : Ac) : Option Ac := (if p1.stopped.length ≤ 1073741824 then (if p1.frosts.length ≤ 9223372036854775807 then Bi (Xj p0 p1) (AcE p1) p1.frosts 0 [] else none) else none)
def Na (s1 : List Ai) (n1 : (List Ai) → Option (Ac × Int)) (y3 : Ai) : Option (Ac × Int) := (if s1.length + 1 ≤ 1073741824 then (n1 (s1 ++ [y3])) else none)
def Vt (p1 : Ac) (k1 : Nat) (x1 : An) (s1 : List Ai) (n1 : (List Ai) → Option (Ac × Int)) : Option (Ac × Int) := (Option.bind (Tg p1 x1.id) fun r20 => (if r20.want then ((Na s1 n1) ({ group := r20.group,want := (r20.group != 1),frozen := r20.frozen,changes := (Vk 0 (Mt r20.changes 1099511627776)) } : Ai)) else ((Na s1 n1) ({ group := r20.group,want := false,frozen := r20.frozen,changes := (Vk 0 (Mt r20.changes 1099511627776)) } : Ai))))
def Ra (p0 : Aa) (p1 : Ac) (s1 : List Ai) : Option (Ac × Int) := (Option.bind (Ib p0 ({ frosts := s1,stopped := p1.stopped } : Ac)) fun r24 => (Option.bind (Gl p0 ({ frosts := s1,stopped := r24 } : Ac)) fun r26 => (some (r26,0))))
def My (p0 : Aa) (p1 : Ac) : Option (Ac × Int) := (Option.bind (Fo p0) fun r1 => (if (!r1) then (some (({ frosts := [],stopped := [] } : Ac),1)) else (if p0.tree.nodes.length ≤ 9223372036854775807 then Bi (Vt p1) (Ra p0 p1) p0.tree.nodes 0 [] else none)))
def Wo (p0 : Aa) : Option Ac := (Option.bind (My p0 ({ frosts := [],stopped := [] } : Ac)) fun r1 => (some r1.1))
def Ld (n1 : Unit → Option Bool) (y10 : Bool) : Option Bool := (if y10 then (some false) else (n1 ()))
def Xo (p0 : Aa) (k1 : Nat) (x1 : Ai) (s1 : Unit) (n1 : Unit → Option Bool) : Option Bool := (if k1 < p0.tree.nodes.length then (if (x1.group != (p0.tree.nodes.getD k1 (default : An)).id) then ((Ld n1) true) else (if (decide (x1.changes < 0)) then ((Ld n1) true) else ((Ld n1) (decide (x1.changes > 1099511627776))))) else none)
def Hs (n10 : Unit → Option Bool) (y13 : Bool) : Option Bool := (if y13 then (some false) else (n10 ()))
def Vm (p0 : Aa) (p1 : Ac) (k10 : Nat) (x10 : Int) (s10 : Unit) (n10 : Unit → Option Bool) : Option Bool := (Option.bind (Ha p0 x10) fun r174 => (if (!r174.2) then ((Hs n10) true) else (if (decide (((k10 : Nat) : Int) > 0)) then (if 0 ≤ (w64 (((k10 : Nat) : Int) - 1)) ∧ (w64 (((k10 : Nat) : Int) - 1)) < ((p1.stopped.length : Nat) : Int) then (if (decide (x10 ≤ (p1.stopped.getD (Int.toNat (w64 (((k10 : Nat) : Int) - 1))) 0))) then ((Hs n10) true) else (Option.bind (Hg p0.tree p1 r174.1.group) fun r179 => ((Hs n10) (!r179)))) else none) else (Option.bind (Hg p0.tree p1 r174.1.group) fun r180 => ((Hs n10) (!r180))))))
def Vu (p0 : Aa) (p1 : Ac) (k13 : Nat) (x13 : Ai) (s13 : Unit) (n13 : Unit → Option Bool) : Option Bool := (Option.bind (Pi p0 p1 x13.group) fun r193 => (if (x13.frozen != r193) then (some false) else (n13 ())))
def AbD (s13 : Unit) : Option Bool := (some true)
def Vj (p0 : Aa) (p1 : Ac) (s10 : Unit) : Option Bool := (if p1.frosts.length ≤ 9223372036854775807 then Bi (Vu p0 p1) AbD p1.frosts 0 () else none)
def Xs (p0 : Aa) (p1 : Ac) (s1 : Unit) : Option Bool := (if p1.stopped.length ≤ 9223372036854775807 then Bi (Vm p0 p1) (Vj p0 p1) p1.stopped 0 () else none)
def Pc (p0 : Aa) (p1 : Ac) (y1 : Bool) : Option Bool := (if y1 then (some false) else (if p1.frosts.length ≤ 9223372036854775807 then Bi (Xo p0) (Xs p0 p1) p1.frosts 0 () else none))
def Pj (p0 : Aa) (p1 : Ac) : Option Bool := (Option.bind (Fo p0) fun r1 => (if (!r1) then ((Pc p0 p1) true) else ((Pc p0 p1) (((p1.frosts.length : Nat) : Int) != ((p0.tree.nodes.length : Nat) : Int)))))
def Qu (n1 : (List Int) → Option (Ac × Int)) (y5 : List Int) : Option (Ac × Int) := (n1 y5)
def Nf (x1 : Aw) (s1 : List Int) (n1 : (List Int) → Option (Ac × Int)) (y6 : Bool) : Option (Ac × Int) := (if y6 then (if s1.length + 1 ≤ 1073741824 then ((Qu n1) (s1 ++ [x1.id])) else none) else ((Qu n1) s1))
def Aae (p0 : Aa) (p1 : Ac) (p2 : List Int) (k1 : Nat) (x1 : Aw) (s1 : List Int) (n1 : (List Int) → Option (Ac × Int)) : Option (Ac × Int) := (Option.bind (Kl p1 x1.id) fun r24 => (if r24 then ((Nf x1 s1 n1) true) else (Option.bind (Hg p0.tree p1 x1.group) fun r26 => (if r26 then (Option.bind (On p2 x1.id) fun r28 => ((Nf x1 s1 n1) (!r28))) else ((Nf x1 s1 n1) false)))))
def Un (p0 : Aa) (p1 : Ac) (s1 : List Int) : Option (Ac × Int) := (Option.bind (Gl p0 ({ frosts := p1.frosts,stopped := s1 } : Ac)) fun r32 => (some (r32,0)))
def Tv (p0 : Aa) (p1 : Ac) (p2 : List Int) : Option (Ac × Int) := (Option.bind (Pj p0 p1) fun r1 => (if (!r1) then (some (({ frosts := [],stopped := [] } : Ac),1)) else (if p0.tasks.length ≤ 9223372036854775807 then Bi (Aae p0 p1 p2) (Un p0 p1) p0.tasks 0 [] else none)))
def Rx (s1 : (List Ai) × Int) (n1 : ((List Ai) × Int) → Option (Ac × Int)) (y2 : List Ai) : Option (Ac × Int) := (n1 (y2,(w64 (s1.2 + 1))))
def Wa (p0 : Aa) (p1 : Ac) (p2 : Int) (p3 : Bool) (s1 : (List Ai) × Int) (n1 : ((List Ai) × Int) → Option (Ac × Int)) : Option (Ac × Int) := (if (decide (s1.2 < ((s1.1.length : Nat) : Int))) then (if 0 ≤ s1.2 ∧ s1.2 < ((s1.1.length : Nat) : Int) then (if (Int.toNat s1.2) < s1.1.length then (if ((s1.1.getD (Int.toNat s1.2) (default : Ai)).group == p2) then (if 0 ≤ s1.2 ∧ s1.2 < ((s1.1.length : Nat) : Int) then (if (Int.toNat s1.2) < s1.1.length then ((Rx s1 n1) (s1.1.set (Int.toNat s1.2) ({ group := (s1.1.getD (Int.toNat s1.2) (default : Ai)).group,want := p3,frozen := (s1.1.getD (Int.toNat s1.2) (default : Ai)).frozen,changes := (s1.1.getD (Int.toNat s1.2) (default : Ai)).changes } : Ai))) else none) else none) else ((Rx s1 n1) s1.1)) else none) else none) else (Option.bind (Ib p0 ({ frosts := s1.1,stopped := p1.stopped } : Ac)) fun r24 => (Option.bind (Gl p0 ({ frosts := s1.1,stopped := r24 } : Ac)) fun r26 => (some (r26,0)))))
def Wx (p0 : Aa) (p1 : Ac) (p2 : Int) (p3 : Bool) : Option (Ac × Int) := (Option.bind (Pj p0 p1) fun r1 => (if (!r1) then (some (({ frosts := [],stopped := [] } : Ac),1)) else (Option.bind (Fn p0.tree p2) fun r3 => (if (!r3) then (some (({ frosts := [],stopped := [] } : Ac),4)) else (if (p2 == 1) then (some (({ frosts := [],stopped := [] } : Ac),9)) else (if p1.frosts.length ≤ 1073741824 then (whileO (Wa p0 p1 p2 p3) Dy (p1.frosts,0)) else none))))))
def Iw (s1 : Ar × Ac × Int) (n1 : (Ar × Ac × Int) → Option (Ac × Ar)) (y3 : Ar × Ac) : Option (Ac × Ar) := (n1 (y3.1,y3.2,(w64 (s1.2.2 - 1))))
def Fy (s1 : Ar × Ac × Int) (n1 : (Ar × Ac × Int) → Option (Ac × Ar)) (y4 : Ar × Ac × Int) : Option (Ac × Ar) := (if (y4.2.2 == 0) then ((Iw s1 n1) (y4.1,y4.2.1)) else ((Iw s1 n1) (y4.1,s1.2.1)))
def Pn (p1 : Aa) (s1 : Ar × Ac × Int) (n1 : (Ar × Ac × Int) → Option (Ac × Ar)) : Option (Ac × Ar) := (if (decide (s1.2.2 > 0)) then (Option.bind (Mm s1.1 p1 false) fun r17 => (Option.bind (Tv p1 s1.2.1 r17.1) fun r18 => (Option.bind (Ez r17.2 2) fun r19 => (if r19.1 then (Option.bind (Gx r19.2 p1.tree) fun r21 => (Option.bind (Bs r21.2 3) fun r22 => (Option.bind (Wx p1 s1.2.1 r21.1 (decide (r22.1 > 0))) fun r23 => ((Fy s1 n1) (r22.2,r23.1,r23.2))))) else ((Fy s1 n1) (r19.2,r18.1,r18.2)))))) else (some (s1.2.1,s1.1)))
def Km (p0 : Ar) (p1 : Aa) (p2 : Int) : Option (Ac × Ar) := (Option.bind (Wo p1) fun r1 => (Option.bind (Bs p0 (w64 (p2 + 1))) fun r2 => (whileO (Pn p1) Dy (r2.2,r1,r2.1))))
def Mh (s1 : List Ai) (n1 : (List Ai) → Option (Ac × Int)) (y3 : Ai) : Option (Ac × Int) := (if s1.length + 1 ≤ 1073741824 then (n1 (s1 ++ [y3])) else none)
def Ub (p1 : Ac) (k1 : Nat) (x1 : An) (s1 : List Ai) (n1 : (List Ai) → Option (Ac × Int)) : Option (Ac × Int) := (Option.bind (Hl p1 x1.id) fun r39 => (if r39.want then ((Mh s1 n1) ({ group := r39.group,want := (x1.id != 1),frozen := r39.frozen,changes := (Mt (Vk r39.changes 0) 1099511627776) } : Ai)) else ((Mh s1 n1) ({ group := r39.group,want := false,frozen := r39.frozen,changes := (Mt (Vk r39.changes 0) 1099511627776) } : Ai))))
def Pv (p0 : Aa) (p1 : Ac) (s1 : List Ai) : Option (Ac × Int) := (Option.bind (Gj p1.stopped) fun r42 => (Option.bind (Hz r42) fun r43 => (if r42.length = r43.length then (Option.bind (Hr r43) fun r45 => (if r43.length = r45.2.length then (if r45.1 ≤ r45.2.length then (Option.bind (Gn ({ h := p0,f := ({ frosts := s1,stopped := (r45.2.take r45.1) } : Ac) } : freezer)) fun r48 => (if s1.length = r48.1.f.frosts.length then (if (r45.2.take r45.1).length = r48.1.f.stopped.length then (if r48.2 ≤ r48.1.f.stopped.length then (Option.bind (Dt ({ h := r48.1.h,f := ({ frosts := r48.1.f.frosts,stopped := (r48.1.f.stopped.take r48.2) } : Ac) } : freezer)) fun r52 => (if r48.1.f.frosts.length = r52.2.f.frosts.length then (if (r48.1.f.stopped.take r48.2).length = r52.2.f.stopped.length then (some (r52.2.f,0)) else none) else none)) else none) else none) else none)) else none) else none)) else none)))
def Mf (p0 : Aa) (p1 : Ac) : Option (Ac × Int) := (Option.bind (Ka p0) fun r1 => (if (!r1) then (some (({ frosts := [],stopped := [] } : Ac),1)) else (if p0.tree.nodes.length ≤ 9223372036854775807 then Bi (Ub p1) (Pv p0 p1) p0.tree.nodes 0 [] else none)))
def Iv (n1 : Unit → Option Bool) (y7 : Bool) : Option Bool := (if y7 then (some false) else (n1 ()))
def Pr (r6 : Ac × Ar) (y1 : Aa × Int) (r13 : Ac × Int) (k1 : Nat) (x1 : Aw) (s1 : Unit) (n1 : Unit → Option Bool) : Option Bool := (Option.bind (Gq r13.1 x1.id) fun r43 => (Option.bind (Gq r6.1 x1.id) fun r44 => (if r44 then (Option.bind (Oy y1.1.tree r13.1 x1.group) fun r46 => ((Iv n1) (r43 != r46))) else ((Iv n1) (r43 != false)))))
def Iu (y8 : Bool) : Option Bool := (some y8)
def Pq (r5 : Aa × Ar) (r6 : Ac × Ar) (s1 : Unit) : Option Bool := (Option.bind (Mf r5.1 r6.1) fun r48 => (if (r48.2 == 0) then (Option.bind (Ji r48.1 r6.1) fun r50 => (if r50 then (Option.bind Rm fun r52 => (Iu r52)) else (Iu false))) else (Iu false)))
def Hb (r5 : Aa × Ar) (r6 : Ac × Ar) (y1 : Aa × Int) (r13 : Ac × Int) (y2 : Bool) : Option Bool := (if y2 then (some false) else (if y1.1.tasks.length ≤ 9223372036854775807 then Bi (Pr r6 y1 r13) (Pq r5 r6) y1.1.tasks 0 () else none))
def Hd (r5 : Aa × Ar) (r6 : Ac × Ar) (y1 : Aa × Int) : Option Bool := (Option.bind (Mf y1.1 r6.1) fun r13 => (if (y1.2 != 0) then ((Hb r5 r6 y1 r13) true) else (if (r13.2 != 0) then ((Hb r5 r6 y1 r13) true) else (Option.bind (Lj y1.1 r13.1) fun r16 => ((Hb r5 r6 y1 r13) (!r16))))))
def Kq (p0 : List Int) : Option Bool := (Option.bind (Yj p0) fun r1 => (if (!r1) then (Option.bind Rm fun r3 => (some r3)) else (Option.bind (Ade p0) fun r4 => (Option.bind (Is r4 6 6) fun r5 => (Option.bind (Km r5.2 r5.1 6) fun r6 => (if (decide (((r5.1.tasks.length : Nat) : Int) > 0)) then (Option.bind (Bs r6.2 ((r5.1.tasks.length : Nat) : Int)) fun r8 => (if 0 ≤ r8.1 ∧ r8.1 < ((r5.1.tasks.length : Nat) : Int) then (Option.bind (Bs r8.2 ((r5.1.tree.nodes.length : Nat) : Int)) fun r10 => (if 0 ≤ r10.1 ∧ r10.1 < ((r5.1.tree.nodes.length : Nat) : Int) then (Option.bind (Rf r5.1 (r5.1.tasks.getD (Int.toNat r8.1) (default : Aw)).id (r5.1.tree.nodes.getD (Int.toNat r10.1) (default : An)).id) fun r12 => ((Hd r5 r6) (r12.1,r12.2))) else none)) else none)) else ((Hd r5 r6) (r5.1,0))))))))
end Go.Dm

/- Plain theory, part 1: models that return, loops. -/
namespace Go.Dm
def Ok {α : Type} (m : Option α) (Q : α → Prop) : Prop := ∃ a,m = some a ∧ Q a
section
variable {α β γ σ : Type} {Q : β → Prop}
theorem Ok.ret {b : β} (h : Q b) : Ok (some b) Q := ⟨b,rfl,h⟩
theorem Ok.bind {m : Option α} {f : α → Option β} {P : α → Prop} (h : Ok m P) (k : ∀ a,P a → Ok (f a) Q) : Ok (Option.bind m f) Q := by
 obtain ⟨a,rfl,ha⟩ := h
 exact k a ha
theorem Ok.step {m : Option α} {f : α → Option β} {a : α} (h : m = some a) (k : Ok (f a) Q) : Ok (Option.bind m f) Q := by
 subst h
 exact k
theorem Ok.eq {m : Option β} {b : β} (h : Ok m (· = b)) : m = some b := by
 obtain ⟨a,rfl,rfl⟩ := h
 rfl
theorem Ok.of_eq {m : Option β} {b : β} (h : m = some b) (hb : Q b) : Ok m Q := ⟨b,h,hb⟩
theorem Ok.mono {m : Option β} {P : β → Prop} (h : Ok m P) (k : ∀ b,P b → Q b) : Ok m Q := by
 obtain ⟨a,rfl,ha⟩ := h
 exact ⟨a,rfl,k a ha⟩
theorem Ok.guard {c : Prop} [Decidable c] {t : Option β} (hc : c) (h : Ok t Q) : Ok (if c then t else none) Q := by
 rw [if_pos hc]
 exact h
theorem Ok.ite {c : Bool} {t e : Option β} (ht : c = true → Ok t Q) (he : c = false → Ok e Q) : Ok (if c then t else e) Q := by
 cases c
 ·exact he rfl
 ·exact ht rfl
theorem Ok.range {body : Nat → α → σ → (σ → Option β) → Option β} {done : σ → Option β} {xs : List α} {s0 : σ} (I : List α → σ → Prop) (h0 : I [] s0)
  (step : ∀ pre x post s n,xs = pre ++ x :: post → I pre s → (∀ s',I (pre ++ [x]) s' → Ok (n s') Q) → Ok (body pre.length x s n) Q)
  (fin : ∀ s,I xs s → Ok (done s) Q) : Ok (Bi body done xs 0 s0) Q := by
 have key : ∀ (post pre : List α) (s : σ),xs = pre ++ post → I pre s → Ok (Bi body done post pre.length s) Q := by
  intro post
  induction post with
  | nil =>
   intro pre s he hi
   have : xs = pre := by simpa using he
   subst this
   exact fin s hi
  | cons x post ih =>
   intro pre s he hi
   refine step pre x post s _ he hi fun s' hi' => ?_
   have := ih (pre ++ [x]) s' (by simpa using he) hi'
   simpa using this
 exact key xs [] s0 rfl h0
theorem Ok.for {body : Int → σ → (σ → Option β) → Option β} {done : σ → Option β} {m : Nat} {a : Int} {s0 : σ} (I : Nat → σ → Prop) (h0 : I 0 s0)
  (step : ∀ (j : Nat) s n,j < m → I j s → (∀ s',I (j + 1) s' → Ok (n s') Q) → Ok (body (a + j) s n) Q)
  (fin : ∀ s,I m s → Ok (done s) Q) : Ok (forO body done m a s0) Q := by
 have key : ∀ (r j : Nat) (s : σ),j + r = m → I j s → Ok (forO body done r (a + j) s) Q := by
  intro r
  induction r with
  | zero =>
   intro j s he hi
   obtain rfl : j = m := by omega
   exact fin s hi
  | succ r ih =>
   intro j s he hi
   refine step j s _ (by omega) hi fun s' hi' => ?_
   have := ih (j + 1) s' (by omega) hi'
   have e : a + (j : Int) + 1 = a + ((j + 1 : Nat) : Int) := by omega
   rw [e]
   exact this
 have := key m 0 s0 (by omega) h0
 simpa using this
theorem Ok.while {body : σ → (σ → Option β) → Option β} {s0 : σ} (I : σ → Prop) (mu : σ → Nat) (h0 : I s0) (hf : mu s0 < Dy)
  (step : ∀ s n,I s → (∀ s',I s' → mu s' < mu s → Ok (n s') Q) → Ok (body s n) Q) : Ok (whileO body Dy s0) Q := by
 have key : ∀ (f : Nat) (s : σ),I s → mu s < f → Ok (whileO body f s) Q := by
  intro f
  induction f with
  | zero => intro s _ h; omega
  | succ f ih =>
   intro s hi hm
   exact step s _ hi fun s' hi' hm' => ih s' hi' (by omega)
 exact key Dy s0 h0 hf
end
theorem Dc : Dy = 1099511627776 := rfl
theorem Ax {n : Int} (h1 : -9223372036854775808 ≤ n) (h2 : n ≤ 9223372036854775807) : w64 n = n := Aaz h1 h2
theorem Gp {α : Type} {l : List α} {i : Nat} {d : α} (h : i < l.length) : l.getD i d = l[i] := by
 simp [List.getD_eq_getElem?_getD,h]
theorem Zy {α : Type} {l : List α} {i : Nat} {d : α} (h : i < l.length) : l.getD i d ∈ l := by
 rw [Gp h]
 exact List.getElem_mem h
theorem AbT {α : Type} {pre post : List α} {x d : α} : (pre ++ x :: post).getD pre.length d = x := by
 simp [List.getD_eq_getElem?_getD]
theorem So {α : Type} {pre post : List α} {x y d : α} : (pre ++ [y] ++ x :: post).getD pre.length d = y := by
 simp [List.getD_eq_getElem?_getD]
theorem Ia {α β : Type} {p : α → Bool} {f : α → β} {z : β} {xs : List α} {body : Nat → α → Unit → (Unit → Option β) → Option β} {done : Unit → Option β}
  (hb : ∀ k x n,body k x () n = if p x then some (f x) else n ()) (hd : done () = some z) : Bi body done xs 0 () = some ((xs.find? p).elim z f) := by
 have key : ∀ k,Bi body done xs k () = some ((xs.find? p).elim z f) := by
  induction xs with
  | nil => intro k; simp [Bi,hd]
  | cons x r ih =>
   intro k
   rw [Bi,hb,List.find?_cons]
   cases hp : p x
   ·simpa using ih (k + 1)
   ·simp
 exact key 0
theorem Hn {α β γ : Type} {p : α → Bool} {f : α → γ} {xs : List α} {s0 : List γ} {r : List γ → Option β} {body : Nat → α → List γ → (List γ → Option β) → Option β} {done : List γ → Option β}
  (hb : ∀ k x s n,s.length + 1 ≤ 1073741824 → body k x s n = if p x then n (s ++ [f x]) else n s) (hd : ∀ s,done s = r s) (hl : s0.length + xs.length ≤ 1073741824) : Bi body done xs 0 s0 = r (s0 ++ (xs.filter p).map f) := by
 have key : ∀ k s,s.length + xs.length ≤ 1073741824 → Bi body done xs k s = r (s ++ (xs.filter p).map f) := by
  clear hl
  induction xs with
  | nil => intro k s _; simp [Bi,hd]
  | cons x q ih =>
   intro k s hl
   simp only [List.length_cons] at hl
   rw [Bi,hb _ _ _ _ (by omega),List.filter_cons]
   cases hp : p x
   ·simpa using ih (k + 1) s (by omega)
   ·simp only [if_true]
    rw [ih (k + 1) (s ++ [f x]) (by simp; omega)]
    simp
 exact key 0 s0 hl
end Go.Dm

/- Plain theory, part 2: names, trees. -/
namespace Go.Dm
def Ns (c : Int) : Bool := (((((decide (c ≥ 97)) && (decide (c ≤ 122))) || ((decide (c ≥ 65)) && (decide (c ≤ 90)))) || ((decide (c ≥ 48)) && (decide (c ≤ 57)))) || (c == 95)) || (c == 45)
def El (s : ByteArray) : Bool := decide (0 < s.size) && decide (s.size ≤ 32) && (((Bp s 0 : Nat) : Int) != 45) && (Ie s).all Ns
theorem AcF (s : ByteArray) : Re s = some (El s) := by
 apply Ok.eq
 unfold Re
 refine Ok.ite (fun h => ?_) fun h => ?_
 ·refine Ok.ret ?_
  have : s.size = 0 := by simpa using h
  simp [El,this]
 have h0 : 0 < s.size := by
  have : ¬ ((s.size : Nat) : Int) = 0 := by simpa using h
  omega
 refine Ok.ite (fun h => ?_) fun h => ?_
 ·refine Ok.ret ?_
  have : ¬ s.size ≤ 32 := by
   have := of_decide_eq_true h
   omega
  simp [El,this]
 have h32 : s.size ≤ 32 := by
  have := of_decide_eq_false h
  omega
 refine Ok.guard h0 ?_
 unfold Nh
 refine Ok.ite (fun h => ?_) fun h => ?_
 ·refine Ok.ret ?_
  simp only [El,bne,h]
  simp
 refine Ok.guard (by omega) ?_
 refine Ok.for (fun j _ => ((Ie s).take j).all Ns = true) (by simp) ?_ ?_
 ·intro j _ n hj hi hn
  have hj' : j < s.size := by omega
  unfold Zk
  refine Ok.guard (by omega) ?_
  have e : Int.toNat (0 + (j : Int)) = j := by omega
  rw [e]
  have hb : (Ie s)[j]? = some ((Bp s j : Nat) : Int) := by simp [Ie,hj']
  refine Ok.ite (fun h => ?_) fun h => ?_
  ·refine Ok.ret ?_
   have hc : Ns ((Bp s j : Nat) : Int) = false := by simpa only [Ns,Bool.not_eq_true'] using h
   have : (Ie s).all Ns = false := by
    rw [List.all_eq_false]
    exact ⟨_,List.mem_of_getElem? hb,by simp [hc]⟩
   simp [El,this]
  ·refine hn () ?_
   have hc : Ns ((Bp s j : Nat) : Int) = true := by simpa only [Ns,Bool.not_eq_false'] using h
   rw [List.take_add_one,List.all_append,hi,hb]
   simp [hc]
 ·intro _ hi
  refine Ok.ret ?_
  have : (Ie s).length ≤ Int.toNat (((s.size : Nat) : Int) - 0) := by rw [Pa]; omega
  rw [List.take_of_length_le this] at hi
  simp only [El,bne,h,hi]
  simp [h0,h32]
theorem Ahh (a : ByteArray) : Dr a a = true := by simp [Dr]
def upR : List An → Int → List Int
 | [],_ => []
 | x :: r,id => if x.id == id then id :: upR r x.parent else upR r id
def upT (t : Ag) (id : Int) : List Int := upR t.nodes.reverse id
theorem Oh (l : List An) (id : Int) : (upR l id).length ≤ l.length := by
 induction l generalizing id with
 | nil => simp [upR]
 | cons x r ih =>
  rw [upR]
  split
  ·have := ih x.parent
   simp; omega
  ·have := ih id
   simp; omega
theorem Agd (t : Ag) (id : Int) (hl : t.nodes.length ≤ 1000000) : Ys t id = some (upT t id) := by
 apply Ok.eq
 unfold Ys
 rw [Ax (by omega) (by omega)]
 refine Ok.while (fun s => ∃ m : Nat,s.2.2 = (m : Int) - 1 ∧ m ≤ t.nodes.length ∧ s.1.length + m ≤ t.nodes.length ∧ s.1 ++ upR (t.nodes.take m).reverse s.2.1 = upT t id) (fun s => (s.2.2 + 1).toNat) ?_ ?_ ?_
 ·exact ⟨t.nodes.length,rfl,by omega,by simp,by simp [upT]⟩
 ·rw [Dc]; simp only []; omega
 rintro ⟨o,i,c⟩ n ⟨m,hc,hm,hlen,he⟩ hn
 simp only at hc hlen he hn
 unfold AcP
 simp only
 refine Ok.ite (fun h => ?_) fun h => ?_
 ·have hpos := of_decide_eq_true h
  obtain ⟨q,rfl⟩ : ∃ q,m = q + 1 := ⟨m - 1,by omega⟩
  have hcq : c = (q : Int) := by omega
  subst hcq
  have hq : q < t.nodes.length := by omega
  refine Ok.guard (by omega) ?_
  have et : t.nodes.take (q + 1) = t.nodes.take q ++ [t.nodes.getD q default] := by
   rw [List.take_add_one,Gp hq]
   simp [hq]
  rw [et,List.reverse_append,List.reverse_cons,List.reverse_nil,List.nil_append,List.singleton_append,upR] at he
  have eq : Int.toNat (q : Int) = q := by omega
  rw [eq]
  have hw : w64 ((q : Int) - 1) = (q : Int) - 1 := Ax (by omega) (by omega)
  refine Ok.ite (fun h => ?_) fun h => ?_
  ·refine Ok.guard (by omega) ?_
   refine Ok.guard (by omega) ?_
   unfold Tf
   simp only
   rw [hw]
   rw [if_pos h] at he
   refine hn _ ⟨q,rfl,by omega,by simp; omega,?_⟩ (by simp only; omega)
   simpa using he
  ·unfold Tf
   simp only
   rw [hw]
   rw [if_neg (by rw [h]; simp)] at he
   exact hn _ ⟨q,rfl,by omega,by simp only; omega,he⟩ (by simp only; omega)
 ·have := of_decide_eq_false h
  have : m = 0 := by omega
  subst this
  refine Ok.ret ?_
  simpa [upR] using he
def Kj (pre : List An) (x : An) : Bool :=
 (x.kind == 0 || x.kind == 1) && decide (0 ≤ x.control) && decide (x.control ≤ 31) && decide (0 ≤ x.owner) && decide (x.owner ≤ 1048576) &&
 match pre.getLast? with
 | none => x.id == 1 && x.parent == 0 && Dr x.name ByteArray.empty && x.kind == 0
 | some y => decide (y.id < x.id) && El x.name && pre.any (fun k => k.id == x.parent) && pre.all (fun k => !(k.parent == x.parent && Dr k.name x.name))
theorem Aic (t : Ag) (pre post : List An) (x : An) (he : t.nodes = pre ++ x :: post) (hl : t.nodes.length ≤ 1000000) : Ww t (pre.length : Int) = some (Kj pre x) := by
 have hlen : pre.length < t.nodes.length := by rw [he]; simp
 apply Ok.eq
 unfold Ww
 refine Ok.guard (by omega) ?_
 have ex : t.nodes.getD (Int.toNat (pre.length : Int)) default = x := by
  rw [he]
  have : Int.toNat (pre.length : Int) = pre.length := by omega
  rw [this]
  exact AbT
 rw [ex]
 refine Ok.ite (fun h => ?_) fun h => ?_
 ·refine Ok.ret ?_
  simp only [Kj]
  simp only [Bool.or_eq_true,Bool.and_eq_true,bne_iff_ne,decide_eq_true_eq] at h
  rcases h with (((⟨h1,h2⟩ | h) | h) | h) | h
  ·simp [h1,h2]
  ·have : ¬ 0 ≤ x.control := by omega
   simp [this]
  ·have : ¬ x.control ≤ 31 := by omega
   simp [this]
  ·have : ¬ 0 ≤ x.owner := by omega
   simp [this]
  ·have : ¬ x.owner ≤ 1048576 := by omega
   simp [this]
 simp only [Bool.or_eq_false_iff,Bool.and_eq_false_imp,bne_iff_ne,decide_eq_false_iff_not,bne_eq_false_iff_eq] at h
 obtain ⟨⟨⟨⟨hk,h2⟩,h3⟩,h4⟩,h5⟩ := h
 have hk' : (x.kind == 0 || x.kind == 1) = true := by
  by_cases q : x.kind = 0
  ·simp [q]
  ·simp [hk q]
 have a2 : 0 ≤ x.control := by omega
 have a3 : x.control ≤ 31 := by omega
 have a4 : 0 ≤ x.owner := by omega
 have a5 : x.owner ≤ 1048576 := by omega
 refine Ok.ite (fun h => ?_) fun h => ?_
 ·refine Ok.ret ?_
  have : pre = [] := by
   have : pre.length = 0 := by
    have : (pre.length : Int) = 0 := by simpa using h
    omega
   exact List.length_eq_zero_iff.mp this
  subst this
  simp [Kj,hk',a2,a3,a4,a5]
 have hp : 0 < pre.length := by
  have : ¬ (pre.length : Int) = 0 := by simpa using h
  omega
 obtain ⟨pr,y,rfl⟩ : ∃ pr y,pre = pr ++ [y] := by
  have hne : pre ≠ [] := by intro e; simp [e] at hp
  exact ⟨pre.dropLast,pre.getLast hne,(List.dropLast_concat_getLast hne).symm⟩
 have hw : w64 (((pr ++ [y]).length : Int) - 1) = (pr.length : Int) := by
  rw [Ax (by simp) (by simp; simp at hlen; omega)]
  simp
 rw [hw]
 refine Ok.guard (by simp at hlen; omega) ?_
 have ey : t.nodes.getD (Int.toNat (pr.length : Int)) default = y := by
  rw [he]
  have : Int.toNat (pr.length : Int) = pr.length := by omega
  rw [this]
  exact So
 rw [ey]
 have eB : Kj (pr ++ [y]) x = (decide (y.id < x.id) && El x.name && (pr ++ [y]).any (fun k => k.id == x.parent) && (pr ++ [y]).all (fun k => !(k.parent == x.parent && Dr k.name x.name))) := by
  simp [Kj,hk',a2,a3,a4,a5]
 refine Ok.ite (fun h => ?_) fun h => ?_
 ·refine Ok.ret ?_
  have : ¬ y.id < x.id := by
   have := of_decide_eq_true h
   omega
  rw [eB]
  simp [this]
 have hy : y.id < x.id := by
  have := of_decide_eq_false h
  omega
 refine Ok.step (AcF _) ?_
 unfold Sl
 refine Ok.ite (fun h => ?_) fun h => ?_
 ·refine Ok.ret ?_
  have : El x.name = false := by simpa using h
  rw [eB]
  simp [this]
 have hv : El x.name = true := by simpa using h
 have hr : Kj (pr ++ [y]) x = ((pr ++ [y]).any (fun k => k.id == x.parent) && (pr ++ [y]).all (fun k => !(k.parent == x.parent && Dr k.name x.name))) := by
  rw [eB]
  simp [hy,hv]
 rw [hr]
 generalize pr ++ [y] = P at *
 refine Ok.guard (by omega) ?_
 refine Ok.for (fun j s => s = (P.take j).any (fun k => k.id == x.parent) ∧ (P.take j).all (fun k => !(k.parent == x.parent && Dr k.name x.name)) = true) (by simp) ?_ ?_
 ·intro j s n hj hI hn
  have hj' : j < P.length := by omega
  have ej : Int.toNat (0 + (j : Int)) = j := by omega
  have ez : t.nodes.getD j default = P[j] := by
   rw [he]
   simp [List.getD_eq_getElem?_getD,List.getElem?_append,hj']
  have tk : P.take (j + 1) = P.take j ++ [P[j]] := by
   rw [List.take_add_one]; simp [hj']
  have hbad : (P[j].parent == x.parent && Dr P[j].name x.name) = true → (P.any (fun k => k.id == x.parent) && P.all (fun k => !(k.parent == x.parent && Dr k.name x.name))) = false := by
   intro hb
   have : P.all (fun k => !(k.parent == x.parent && Dr k.name x.name)) = false := by
    rw [List.all_eq_false]
    exact ⟨P[j],List.getElem_mem hj',by rw [hb]; simp⟩
   rw [this,Bool.and_false]
  have hJ : ∀ b : Bool,b = (P.take (j + 1)).any (fun k => k.id == x.parent) → Ok (Pm t (P.length : Int) (0 + (j : Int)) n b) (· = (P.any (fun k => k.id == x.parent) && P.all (fun k => !(k.parent == x.parent && Dr k.name x.name)))) := by
   intro b hb
   unfold Pm
   refine Ok.guard (by omega) ?_
   rw [ej,ez,ex]
   have good : (P[j].parent == x.parent && Dr P[j].name x.name) = false → Ok (n b) (· = (P.any (fun k => k.id == x.parent) && P.all (fun k => !(k.parent == x.parent && Dr k.name x.name)))) := by
    intro hb'
    refine hn _ ⟨hb,?_⟩
    rw [tk,List.all_append,hI.2]
    simp only [List.all_cons,List.all_nil,hb']
    rfl
   refine Ok.ite (fun h => ?_) fun h => ?_
   ·refine Ok.guard (by omega) ?_
    unfold Pl
    refine Ok.ite (fun h' => ?_) fun h' => ?_
    ·exact Ok.ret (hbad (by rw [h,h']; rfl)).symm
    ·exact good (by rw [h,h']; rfl)
   ·unfold Pl
    exact good (by rw [h]; rfl)
  unfold AaW
  have ea : (P.take (j + 1)).any (fun k => k.id == x.parent) = (s || (P[j].id == x.parent)) := by
   rw [tk,List.any_append,← hI.1]; simp
  refine Ok.ite (fun h => ?_) fun h => ?_
  ·refine hJ _ ?_
   rw [ea,h]
   rfl
  ·refine Ok.guard (by omega) ?_
   rw [ej,ez,ex]
   refine hJ _ ?_
   rw [ea,h]
   rfl
 ·intro s hI
  refine Ok.ret ?_
  have : P.take (Int.toNat ((P.length : Int) - 0)) = P := List.take_of_length_le (by omega)
  rw [this] at hI
  rw [hI.2,Bool.and_true]
  exact hI.1
end Go.Dm

/- Plain theory, part 3: trees that Check accepts. -/
namespace Go.Dm
structure WfT (t : Ag) : Prop where
 len1 : 1 ≤ t.nodes.length
 len2 : t.nodes.length ≤ 64
 node : ∀ pre x post,t.nodes = pre ++ x :: post → Kj pre x = true
 depth : ∀ x ∈ t.nodes,(upT t x.id).length ≤ 9
 last : (t.nodes.getD (t.nodes.length - 1) default).id < t.next
 nextLe : t.next ≤ 2147483648
theorem Xi (t : Ag) : Ok (Jq t) (fun b => b = true ↔ WfT t) := by
 unfold Jq
 refine Ok.ite (fun h => ?_) fun h => ?_
 ·refine Ok.ret ?_
  simp only [Bool.or_eq_true,decide_eq_true_eq] at h
  refine ⟨fun e => by simp at e,fun w => ?_⟩
  have := w.len1
  have := w.len2
  omega
 simp only [Bool.or_eq_false_iff,decide_eq_false_iff_not] at h
 have l1 : 1 ≤ t.nodes.length := by omega
 have l2 : t.nodes.length ≤ 64 := by omega
 refine Ok.guard (by omega) ?_
 refine Ok.range (fun pre _ => ∀ q x p,pre = q ++ x :: p → Kj q x = true) (by intro q x p e; simp at e) ?_ ?_
 ·intro pre x post s n he hI hn
  unfold Zm
  refine Ok.step (Aic t pre post x he (by omega)) ?_
  refine Ok.ite (fun h => ?_) fun h => ?_
  ·refine Ok.ret ⟨fun e => by simp at e,fun w => ?_⟩
   have := w.node pre x post he
   simp [this] at h
  ·refine hn () fun q y p e => ?_
   rcases List.eq_nil_or_concat p with rfl | ⟨p',z,rfl⟩
   ·have e2 : pre = q ∧ x = y := by
     have := List.append_inj' (s₁ := pre) (t₁ := [x]) (s₂ := q) (t₂ := [y]) (by simpa using e) rfl
     exact ⟨this.1,by simpa using this.2⟩
    rw [← e2.1,← e2.2]
    simpa using h
   ·have e2 : pre ++ [x] = (q ++ y :: p') ++ [z] := by simpa using e
    have := List.append_inj' e2 rfl
    exact hI q y p' this.1
 ·intro _ hI
  unfold Zc
  refine Ok.guard (by omega) ?_
  refine Ok.range (fun pre _ => ∀ x ∈ pre,(upT t x.id).length ≤ 9) (by simp) ?_ ?_
  ·intro pre x post s n he hJ hn
   unfold Zg
   refine Ok.step (Agd t x.id (by omega)) ?_
   refine Ok.ite (fun h => ?_) fun h => ?_
   ·refine Ok.ret ⟨fun e => by simp at e,fun w => ?_⟩
    have := w.depth x (by rw [he]; simp)
    have := of_decide_eq_true h
    omega
   ·refine hn () fun y hy => ?_
    have hd := of_decide_eq_false h
    rcases List.mem_append.mp hy with hy | hy
    ·exact hJ y hy
    ·obtain rfl : y = x := by simpa using hy
     omega
  ·intro _ hJ
   unfold Zs Qg
   have hw : w64 ((t.nodes.length : Int) - 1) = ((t.nodes.length - 1 : Nat) : Int) := by
    rw [Ax (by omega) (by omega)]
    omega
   rw [hw]
   refine Ok.guard (by omega) ?_
   have : Int.toNat ((t.nodes.length - 1 : Nat) : Int) = t.nodes.length - 1 := by omega
   rw [this]
   refine Ok.ite (fun h => ?_) fun h => ?_
   ·refine Ok.ret ⟨fun e => ?_,fun w => ?_⟩
    ·exact ⟨l1,l2,hI,hJ,by simpa using h,by simpa using e⟩
    ·simpa using w.nextLe
   ·refine Ok.ret ⟨fun e => by simp at e,fun w => ?_⟩
    have := w.last
    have := of_decide_eq_false h
    omega
theorem Zo {t : Ag} (h : WfT t) : Jq t = some true := by
 obtain ⟨b,hb,e⟩ := Xi t
 rw [hb,e.mpr h]
theorem Aip {t : Ag} (h : ¬ WfT t) : Jq t = some false := by
 obtain ⟨b,hb,e⟩ := Xi t
 cases b
 ·exact hb
 ·exact absurd (e.mp rfl) h
def zN : An := { id := 0,parent := 0,name := ByteArray.empty,control := 0,kind := 0,owner := 0 }
def Ul (t : Ag) (id : Int) : Option An := t.nodes.find? (fun x => x.id == id)
def Gu (t : Ag) (id : Int) : Bool := (Ul t id).isSome
theorem Pk {t : Ag} (h : WfT t) (id : Int) : Df t id = some ((Ul t id).elim (zN,false) (fun x => (x,true))) := by
 unfold Df
 rw [Zo h]
 have := h.len2
 simp only [Option.bind_some,Bool.not_true,Bool.false_eq_true,if_false]
 rw [if_pos (by omega)]
 exact Ia (fun k x n => rfl) rfl
theorem Aba {t : Ag} (h : ¬ WfT t) (id : Int) : Df t id = some (zN,false) := by
 unfold Df
 rw [Aip h]
 rfl
theorem Mp {t : Ag} (h : WfT t) (id : Int) : Fn t id = some (Gu t id) := by
 unfold Fn
 rw [Pk h,Option.bind_some]
 unfold Gu
 cases Ul t id <;> rfl
theorem Afz {t : Ag} (h : ¬ WfT t) (id : Int) : Fn t id = some false := by
 unfold Fn
 rw [Aba h]
 rfl
def ancN (t : Ag) (id : Int) : List Int := if Gu t id then upT t id else []
theorem Of {t : Ag} (h : WfT t) (id : Int) : Fu t id = some (ancN t id) := by
 unfold Fu ancN
 rw [Mp h]
 have := h.len2
 cases Gu t id
 ·rfl
 ·simp [Agd t id (by omega)]
def Jr (t : Ag) (id : Int) : List Int := (t.nodes.filter (fun x => x.parent == id)).map (·.id)
theorem AaI {t : Ag} (h : WfT t) (id : Int) : Hi t id = some (if Gu t id then Jr t id else []) := by
 unfold Hi
 rw [Mp h]
 have := h.len2
 cases Gu t id
 ·rfl
 ·simp only [Option.bind_some,Bool.not_true,Bool.false_eq_true,if_false,if_true]
  rw [if_pos (by omega)]
  refine (Hn (p := fun x : An => x.parent == id) (f := fun x : An => x.id) (r := some) ?_ (fun _ => rfl) (by simp; omega)).trans (by simp [Jr])
  intro k x s n hs
  unfold Up Ml
  rw [if_pos hs]
theorem Ain {t : Ag} (h : WfT t) (id : Int) : Ud t id = some (w64 (((ancN t id).length : Int) - 1)) := by
 unfold Ud
 rw [Of h]
 rfl
theorem Tx (t : Ag) (h : t.nodes.length ≤ 1073741824) : Oa t = some t := by
 unfold Oa
 simp
 omega
end Go.Dm

/- Plain theory, part 4: the nodes of a tree, one behind the other. -/
namespace Go.Dm
theorem Jp {α : Type} (L : List α) : L = [] ∨ ∃ P x,L = P ++ [x] := by
 rcases List.eq_nil_or_concat L with h | ⟨P,x,h⟩
 ·exact .inl h
 ·exact .inr ⟨P,x,by simpa using h⟩
structure Rg (x : An) : Prop where
 kind : x.kind = 0 ∨ x.kind = 1
 c1 : 0 ≤ x.control
 c2 : x.control ≤ 31
 o1 : 0 ≤ x.owner
 o2 : x.owner ≤ 1048576
structure Aan (x : An) : Prop where
 id : x.id = 1
 parent : x.parent = 0
 name : Dr x.name ByteArray.empty = true
 kind : x.kind = 0
structure NodeS (pre : List An) (x : An) : Prop where
 lt : ∀ y ∈ pre,y.id < x.id
 valid : El x.name = true
 parent : ∃ y ∈ pre,y.id = x.parent
 fresh : ∀ y ∈ pre,y.parent = x.parent → Dr y.name x.name = false
inductive WfP : List An → Prop
 | root (x : An) : Rg x → Aan x → WfP [x]
 | snoc (L : List An) (x : An) : WfP L → Rg x → NodeS L x → WfP (L ++ [x])
theorem nodeV_of {pre : List An} {x : An} (h : Kj pre x = true) : Rg x := by
 simp only [Kj,Bool.and_eq_true,Bool.or_eq_true,beq_iff_eq,decide_eq_true_eq] at h
 exact ⟨h.1.1.1.1.1,h.1.1.1.1.2,h.1.1.1.2,h.1.1.2,h.1.2⟩
theorem WfP.pos {L : List An} (h : WfP L) : 0 < L.length := by
 cases h <;> simp
theorem wfP_of {L : List An} (hn : 1 ≤ L.length) (h : ∀ pre x post,L = pre ++ x :: post → Kj pre x = true) : WfP L := by
 have key : ∀ (n : Nat) (M : List An),M.length = n → 1 ≤ M.length → (∀ pre x post,M = pre ++ x :: post → Kj pre x = true) → WfP M ∧ ∀ y,M.getLast? = some y → ∀ z ∈ M,z.id ≤ y.id := by
  intro n
  induction n with
  | zero => intro M hM h1; omega
  | succ n ih =>
   intro M hM h1 hB
   rcases Jp M with rfl | ⟨P,x,rfl⟩
   ·simp at hM
   have hx : Kj P x = true := hB P x [] (by simp)
   have hv := nodeV_of hx
   rcases Jp P with rfl | ⟨P',y,rfl⟩
   ·simp only [Kj,List.getLast?_nil,Bool.and_eq_true,beq_iff_eq] at hx
    refine ⟨.root x hv ⟨hx.2.1.1.1,hx.2.1.1.2,hx.2.1.2,hx.2.2⟩,?_⟩
    intro y hy z hz
    simp at hy hz
    subst hy hz
    exact Int.le_refl _
   ·obtain ⟨w,hl⟩ := ih (P' ++ [y]) (by simp at hM ⊢; omega) (by simp) (fun pre u post e => hB pre u (post ++ [x]) (by rw [e]; simp))
    have hl := hl y (by simp)
    simp only [Kj,List.getLast?_append,List.getLast?_singleton,Option.some_or,Bool.and_eq_true,decide_eq_true_eq,List.any_eq_true,List.all_eq_true,beq_iff_eq] at hx
    obtain ⟨_,⟨⟨hlt,hval⟩,hpar⟩,hfr⟩ := hx
    have hs : NodeS (P' ++ [y]) x := by
     refine ⟨fun z hz => ?_,hval,hpar,fun z hz hp => ?_⟩
     ·have := hl z hz
      omega
     ·have := hfr z hz
      simpa [hp] using this
    refine ⟨.snoc _ x w hv hs,?_⟩
    intro u hu z hz
    have hu : u = x := by simpa [eq_comm] using hu
    subst hu
    rcases List.mem_append.mp hz with hz | hz
    ·have := hs.lt z hz
     omega
    ·simp at hz
     subst hz
     exact Int.le_refl _
 exact (key _ L rfl hn h).1
theorem Ahv {x : An} (v : Rg x) (r : Aan x) : Kj [] x = true := by
 have := v.kind
 simp [Kj,v.c1,v.c2,v.o1,v.o2,r.id,r.parent,r.name,r.kind]
theorem Ahx {L : List An} {x : An} (hL : 0 < L.length) (v : Rg x) (r : NodeS L x) : Kj L x = true := by
 rcases Jp L with rfl | ⟨P,y,rfl⟩
 ·simp at hL
 simp only [Kj,List.getLast?_append,List.getLast?_singleton,Option.some_or,Bool.and_eq_true,decide_eq_true_eq,List.any_eq_true,List.all_eq_true,beq_iff_eq,Bool.or_eq_true]
 refine ⟨⟨⟨⟨⟨v.kind,v.c1⟩,v.c2⟩,v.o1⟩,v.o2⟩,⟨⟨r.lt y (by simp),r.valid⟩,r.parent⟩,fun z hz => ?_⟩
 by_cases hp : z.parent = x.parent
 ·simp [r.fresh z hz hp]
 ·simp [hp]
theorem WfP.split {L : List An} (h : WfP L) : ∀ pre x post,L = pre ++ x :: post → Kj pre x = true := by
 induction h with
 | root x v r =>
  intro pre y post e
  have : pre = [] ∧ y = x := by
   cases pre with
   | nil => simp at e; exact ⟨rfl,e.1.symm⟩
   | cons a q => simp at e
  rw [this.1,this.2]
  exact Ahv v r
 | snoc L x w v s ih =>
  intro pre y post e
  rcases Jp post with rfl | ⟨p',z,rfl⟩
  ·have := List.append_inj' (s₁ := L) (t₁ := [x]) (s₂ := pre) (t₂ := [y]) (by simpa using e) rfl
   have e2 : x = y := by simpa using this.2
   rw [← this.1,← e2]
   exact Ahx w.pos v s
  ·have e2 : L ++ [x] = (pre ++ y :: p') ++ [z] := by simpa using e
   have := List.append_inj' e2 rfl
   exact ih pre y p' this.1
theorem WfP.sorted {L : List An} (h : WfP L) : L.Pairwise (fun a b => a.id < b.id) := by
 induction h with
 | root x v r => simp
 | snoc L x w v s ih =>
  rw [List.pairwise_append]
  exact ⟨ih,by simp,fun a ha b hb => by simp at hb; subst hb; exact s.lt a ha⟩
theorem WfP.val {L : List An} (h : WfP L) : ∀ x ∈ L,Rg x := by
 induction h with
 | root x v r => intro y hy; simp at hy; subst hy; exact v
 | snoc L x w v s ih =>
  intro y hy
  rcases List.mem_append.mp hy with hy | hy
  ·exact ih y hy
  ·simp at hy; subst hy; exact v
theorem WfP.first {L : List An} (h : WfP L) : ∃ x r,L = x :: r ∧ Aan x := by
 induction h with
 | root x v r => exact ⟨x,[],rfl,r⟩
 | snoc L x w v s ih =>
  obtain ⟨y,r,rfl,hr⟩ := ih
  exact ⟨y,r ++ [x],rfl,hr⟩
theorem WfP.ge1 {L : List An} (h : WfP L) : ∀ x ∈ L,1 ≤ x.id := by
 induction h with
 | root x v r => intro y hy; simp at hy; subst hy; rw [r.id]; omega
 | snoc L x w v s ih =>
  intro y hy
  rcases List.mem_append.mp hy with hy | hy
  ·exact ih y hy
  ·simp at hy; subst hy
   obtain ⟨z,hz,_⟩ := s.parent
   have := ih z hz
   have := s.lt z hz
   omega
theorem WfP.par {L : List An} (h : WfP L) : ∀ x ∈ L,(x.id = 1 ∧ Aan x) ∨ (1 ≤ x.parent ∧ x.parent < x.id ∧ (∃ y ∈ L,y.id = x.parent) ∧ El x.name = true) := by
 induction h with
 | root x v r => intro y hy; simp at hy; subst hy; exact .inl ⟨r.id,r⟩
 | snoc L x w v s ih =>
  intro y hy
  rcases List.mem_append.mp hy with hy | hy
  ·rcases ih y hy with h | ⟨h1,h2,⟨z,hz,he⟩,h3⟩
   ·exact .inl h
   ·exact .inr ⟨h1,h2,⟨z,by simp [hz],he⟩,h3⟩
  ·simp at hy; subst hy
   obtain ⟨z,hz,he⟩ := s.parent
   refine .inr ⟨?_,?_,⟨z,by simp [hz],he⟩,s.valid⟩
   ·have := w.ge1 z hz
    omega
   ·have := s.lt z hz
    omega
theorem Afw {L : List An} (h : L.Pairwise (fun a b => a.id < b.id)) {x y : An} (hx : x ∈ L) (hy : y ∈ L) (e : x.id = y.id) : x = y := by
 induction L with
 | nil => simp at hx
 | cons a r ih =>
  rw [List.pairwise_cons] at h
  rcases List.mem_cons.mp hx with ex | hx' <;> rcases List.mem_cons.mp hy with ey | hy'
  ·rw [ex,ey]
  ·have := h.1 y hy'; rw [ex] at e; omega
  ·have := h.1 x hx'; rw [ey] at e; omega
  ·exact ih h.2 hx' hy'
theorem Wl {t : Ag} {id : Int} {x : An} (h : Ul t id = some x) : x ∈ t.nodes ∧ x.id = id :=
 ⟨List.mem_of_find?_eq_some h,by have := List.find?_some h; simpa using this⟩
theorem hasN_iff {t : Ag} {id : Int} : Gu t id = true ↔ ∃ x ∈ t.nodes,x.id = id := by
 unfold Gu Ul
 rw [List.find?_isSome]
 simp
theorem Xl {A B : List An} {id : Int} (h : ∀ x ∈ A,x.id ≠ id) : upR (A ++ B) id = upR B id := by
 induction A with
 | nil => rfl
 | cons a r ih =>
  rw [List.cons_append,upR,if_neg (by simpa using h a (by simp))]
  exact ih fun x hx => h x (by simp [hx])
theorem Aff {A : List An} {id : Int} (h : ∀ x ∈ A,x.id ≠ id) : upR A id = [] := by
 have := Xl (B := []) h
 simpa [upR] using this
theorem WfP.up {L : List An} (h : WfP L) : ∀ x ∈ L,upR L.reverse x.id = x.id :: upR L.reverse x.parent := by
 induction h with
 | root x v r =>
  intro y hy
  simp at hy
  subst hy
  simp [upR,r.parent,r.id]
 | snoc L x w v s ih =>
  intro y hy
  rw [List.reverse_append,List.reverse_cons,List.reverse_nil,List.nil_append,List.singleton_append]
  rcases List.mem_append.mp hy with hy | hy
  ·have hlt := s.lt y hy
   have hp : y.parent < x.id := by
    rcases w.par y hy with ⟨h1,r⟩ | ⟨_,h2,_⟩
    ·rw [r.parent]; have := w.ge1 y hy; omega
    ·omega
   rw [upR,if_neg (by simp; omega),upR,if_neg (by simp; omega)]
   exact ih y hy
  ·simp at hy
   subst hy
   obtain ⟨z,hz,he⟩ := s.parent
   have := s.lt z hz
   rw [upR,if_pos (by simp),upR,if_neg (by simp; omega)]
theorem WfT.p {t : Ag} (h : WfT t) : WfP t.nodes := wfP_of h.len1 h.node
theorem WfT.sorted {t : Ag} (h : WfT t) : t.nodes.Pairwise (fun a b => a.id < b.id) := h.p.sorted
theorem WfT.up {t : Ag} (h : WfT t) {x : An} (hx : x ∈ t.nodes) : upT t x.id = x.id :: upT t x.parent := h.p.up x hx
theorem WfT.next {t : Ag} (h : WfT t) : ∀ x ∈ t.nodes,x.id < t.next := by
 have hl := h.last
 have h1 := h.len1
 have hs := h.sorted
 intro x hx
 obtain ⟨i,hi,rfl⟩ := List.getElem_of_mem hx
 rw [Gp (by omega)] at hl
 by_cases e : i = t.nodes.length - 1
 ·subst e; exact hl
 ·have := List.pairwise_iff_getElem.mp hs i (t.nodes.length - 1) hi (by omega) (by omega)
  omega
theorem WfT.root {t : Ag} (h : WfT t) : ∃ x r,t.nodes = x :: r ∧ Aan x := h.p.first
theorem WfT.mk' {t : Ag} (hp : WfP t.nodes) (h2 : t.nodes.length ≤ 64) (hd : ∀ x ∈ t.nodes,(upT t x.id).length ≤ 9) (hn : ∀ x ∈ t.nodes,x.id < t.next) (hl : t.next ≤ 2147483648) : WfT t := by
 refine ⟨hp.pos,h2,hp.split,hd,hn _ (Zy ?_),hl⟩
 have := hp.pos
 omega
end Go.Dm

/- Plain theory, part 5: dice; trees that grow and shrink. -/
namespace Go.Dm
structure Bx (d : Ar) : Prop where
 a0 : 0 ≤ d.atF
 a1 : d.atF ≤ (d.l.length : Int)
 l : d.l.length ≤ 600
theorem dice_roll {l : List Int} (h : l.length ≤ 600) : Bx { l := l,atF := 0 } := ⟨by simp,by simp,h⟩
theorem AbJ {d : Ar} (h : Bx d) (n : Int) (hn : n ≤ 1000000) : Ok (Bs d n) (fun r => Bx r.2 ∧ 0 ≤ r.1 ∧ (r.1 < n ∨ (n < 1 ∧ r.1 = 0))) := by
 have h0 := h.a0
 have h1 := h.a1
 have hl := h.l
 unfold Bs
 refine Ok.ite (fun c => ?_) fun c => ?_
 ·simp only [Bool.or_eq_true,decide_eq_true_eq] at c
  refine Ok.ret ⟨h,by simp,?_⟩
  show (0 : Int) < n ∨ (n < 1 ∧ (0 : Int) = 0)
  omega
 simp only [Bool.or_eq_false_iff,decide_eq_false_iff_not] at c
 have e1 : w64 (d.atF + 1) = d.atF + 1 := Ax (by omega) (by omega)
 have e2 : w64 (d.atF + 1 - 1) = d.atF := by
  rw [Ax (by omega) (by omega)]
  omega
 have hd : Bx { l := d.l,atF := d.atF + 1 } := ⟨by simp only; omega,by simp only; omega,hl⟩
 rw [e1,e2]
 refine Ok.guard (by omega) ?_
 refine Ok.guard (by omega) ?_
 generalize d.l.getD d.atF.toNat 0 = x
 have b1 : Int.tmod x n < n := Int.tmod_lt_of_pos x (by omega)
 have b2 : -n < Int.tmod x n := by
  have := Int.tmod_lt_of_pos (-x) (show 0 < n by omega)
  rw [Int.neg_tmod] at this
  omega
 unfold Lq
 rw [e1]
 refine Ok.ite (fun c2 => ?_) fun c2 => ?_
 ·have := of_decide_eq_true c2
  rw [Ax (by omega) (by omega)]
  refine Ok.ret ⟨hd,?_,?_⟩ <;> simp only <;> omega
 ·have := of_decide_eq_false c2
  refine Ok.ret ⟨hd,?_,?_⟩ <;> simp only <;> omega
theorem Eu {d : Ar} (h : Bx d) (n : Int) (h1 : 1 ≤ n) (hn : n ≤ 1000000) : Ok (Bs d n) (fun r => Bx r.2 ∧ 0 ≤ r.1 ∧ r.1 < n) :=
 (AbJ h n hn).mono fun r ⟨a,b,c⟩ => ⟨a,b,by omega⟩
theorem Vw {d : Ar} (h : Bx d) (n : Int) (hn : n ≤ 1000000) : Ok (Ez d n) (fun r => Bx r.2) := by
 unfold Ez
 exact Ok.bind (AbJ h n hn) fun r hr => Ok.ret hr.1
theorem Aiz : ∀ s ∈ [(bs [97]),(bs [98]),(bs [99]),(bs [119,101,98]),(bs [100,98,45,49]),(bs [88,95,57])],El s = true := by
 intro s hs
 have : ([(bs [97]),(bs [98]),(bs [99]),(bs [119,101,98]),(bs [100,98,45,49]),(bs [88,95,57])].all El) = true := by kernel_rfl
 exact List.all_eq_true.mp this s hs
theorem Name_ok {d : Ar} (h : Bx d) : Ok (Nd d) (fun r => Bx r.2 ∧ El r.1 = true) := by
 unfold Nd
 refine Ok.bind (Eu h 6 (by omega) (by omega)) fun r ⟨h1,h2,h3⟩ => ?_
 refine Ok.guard ⟨h2,h3⟩ ?_
 have hlt : r.1.toNat < [(bs [97]),(bs [98]),(bs [99]),(bs [119,101,98]),(bs [100,98,45,49]),(bs [88,95,57])].length := by simp only [List.length_cons,List.length_nil]; omega
 refine Ok.guard hlt (Ok.ret ⟨h1,Aiz _ (Zy hlt)⟩)
theorem Acb {d : Ar} (h : Bx d) (t : Ag) (ht : t.nodes.length ≤ 1000000) : Ok (Gx d t) (fun r => Bx r.2) := by
 unfold Gx
 refine Ok.bind (Vw h 15 (by omega)) fun r hr => ?_
 have hJ : ∀ b : Bool,(b = false → 0 < t.nodes.length) → Ok (Im t r b) (fun r => Bx r.2) := by
  intro b hb
  unfold Im
  refine Ok.ite (fun _ => ?_) fun c => ?_
  ·exact Ok.bind (AbJ hr 9 (by omega)) fun q hq => Ok.ret hq.1
  ·have := hb c
   refine Ok.bind (Eu hr _ (by omega) (by omega)) fun q hq => ?_
   exact Ok.guard ⟨hq.2.1,hq.2.2⟩ (Ok.ret hq.1)
 refine Ok.ite (fun _ => ?_) fun _ => ?_
 ·exact hJ true (by simp)
 ·refine hJ _ fun hb => ?_
  have : ¬ ((t.nodes.length : Nat) : Int) = 0 := by simpa using hb
  omega
theorem AgG {d : Ar} (h : Bx d) (t : Aa) (ht : t.tasks.length ≤ 1000000) : Ok (Jf d t) (fun r => Bx r.2) := by
 unfold Jf
 refine Ok.bind (Vw h 15 (by omega)) fun r hr => ?_
 have hJ : ∀ b : Bool,(b = false → 0 < t.tasks.length) → Ok (Jb t r b) (fun r => Bx r.2) := by
  intro b hb
  unfold Jb
  refine Ok.ite (fun _ => ?_) fun c => ?_
  ·exact Ok.bind (AbJ hr 9 (by omega)) fun q hq => Ok.ret hq.1
  ·have := hb c
   refine Ok.bind (Eu hr _ (by omega) (by omega)) fun q hq => ?_
   exact Ok.guard ⟨hq.2.1,hq.2.2⟩ (Ok.ret hq.1)
 refine Ok.ite (fun _ => ?_) fun _ => ?_
 ·exact hJ true (by simp)
 ·refine hJ _ fun hb => ?_
  have : ¬ ((t.tasks.length : Nat) : Int) = 0 := by simpa using hb
  omega
theorem AgR {d : Ar} (h : Bx d) : Ok (Hu d) (fun r => Bx r.2 ∧ -1 ≤ r.1 ∧ r.1 ≤ 32) := by
 unfold Hu
 refine Ok.bind (Eu h 9 (by omega) (by omega)) fun r ⟨h1,h2,h3⟩ => ?_
 refine Ok.guard ⟨h2,h3⟩ ?_
 have hlt : r.1.toNat < [(1 : Int),9,31,2,25,4,0,32,(-1)].length := by simp only [List.length_cons,List.length_nil]; omega
 refine Ok.guard hlt (Ok.ret ⟨h1,?_⟩)
 have hm := Zy (d := (0 : Int)) hlt
 have : ∀ x ∈ [(1 : Int),9,31,2,25,4,0,32,(-1)],-1 ≤ x ∧ x ≤ 32 := by decide
 exact this _ hm
def zT : Ag := { nodes := [],next := 0 }
def addT (t : Ag) (p : Int) (s : ByteArray) : Ag × Int × Int :=
 if !El s then (zT,0,1) else if !Gu t p then (zT,0,4) else if t.nodes.any (fun x => x.parent == p && Dr x.name s) then (zT,0,5)
 else if decide (9 ≤ (upT t p).length) || decide (64 ≤ t.nodes.length) || decide (2147483647 < t.next) then (zT,0,7)
 else ({ nodes := t.nodes ++ [{ id := t.next,parent := p,name := s,control := 0,kind := 0,owner := 0 }],next := t.next + 1 },t.next,0)
theorem Ajl {t : Ag} (h : WfT t) (p : Int) (s : ByteArray) : Aab t p s = some (addT t p s) := by
 apply Ok.eq
 have h2 := h.len2
 have hnx := h.nextLe
 unfold Aab
 refine Ok.step (Zo h) ?_
 simp only [Bool.not_true,Bool.false_eq_true,if_false]
 refine Ok.step (AcF s) ?_
 unfold Ur addT
 refine Ok.ite (fun c => ?_) fun c => ?_
 ·rw [if_pos c]; exact Ok.ret rfl
 rw [if_neg (c := (!El s) = true) (by rw [c]; simp)]
 refine Ok.step (Mp h p) ?_
 refine Ok.ite (fun c => ?_) fun c => ?_
 ·rw [if_pos c]; exact Ok.ret rfl
 rw [if_neg (c := (!Gu t p) = true) (by rw [c]; simp)]
 have hp : Gu t p = true := by simpa using c
 refine Ok.guard (by omega) ?_
 refine Ok.range (fun pre _ => pre.any (fun x => x.parent == p && Dr x.name s) = false) rfl ?_ ?_
 ·intro pre x post u n he hI hn
  unfold Ach
  refine Ok.ite (fun c => ?_) fun c => ?_
  ·refine Ok.ret ?_
   rw [if_pos]
   ·rfl
   ·rw [he,List.any_append,List.any_cons,c]
    simp
  ·refine hn () ?_
   rw [List.any_append,hI,List.any_cons,c]
   rfl
 ·intro _ hI
  rw [if_neg (by rw [hI]; simp)]
  unfold Acg
  refine Ok.step (Ain h p) ?_
  have ea : ancN t p = upT t p := by simp [ancN,hp]
  have hb : (upT t p).length ≤ 64 := by
   have := Oh t.nodes.reverse p
   simp at this
   unfold upT
   omega
  rw [ea,Ax (by omega) (by omega)]
  have hJ1 : ∀ c,(c = true → (decide (9 ≤ (upT t p).length) || decide (64 ≤ t.nodes.length) || decide (2147483647 < t.next)) = true) → (c = false → (decide (9 ≤ (upT t p).length) || decide (64 ≤ t.nodes.length) || decide (2147483647 < t.next)) = false) →
    Ok (Og t p s c) (· = if decide (9 ≤ (upT t p).length) || decide (64 ≤ t.nodes.length) || decide (2147483647 < t.next) then (zT,0,7)
 else ({ nodes := t.nodes ++ [{ id := t.next,parent := p,name := s,control := 0,kind := 0,owner := 0 }],next := t.next + 1 },t.next,0)) := by
   intro c ht hf
   unfold Og
   refine Ok.ite (fun c => ?_) fun c => ?_
   ·rw [if_pos (ht c)]; exact Ok.ret rfl
   ·rw [if_neg (by rw [hf c]; simp)]
    refine Ok.step (Tx t (by omega)) ?_
    refine Ok.guard (by omega) ?_
    have hn0 : 0 < t.next := by
     obtain ⟨x,r,e,hr⟩ := h.root
     have := h.next x (by rw [e]; simp)
     rw [hr.id] at this
     omega
    rw [Ax (by omega) (by omega)]
    exact Ok.ret rfl
  refine Ok.ite (fun c => ?_) fun c => ?_
  ·have := of_decide_eq_true c
   refine hJ1 true (fun _ => ?_) (by simp)
   have : 9 ≤ (upT t p).length := by omega
   simp [this]
  ·have h9 := of_decide_eq_false c
   refine Ok.ite (fun c => ?_) fun c => ?_
   ·have := of_decide_eq_true c
    refine hJ1 true (fun _ => ?_) (by simp)
    have : 64 ≤ t.nodes.length := by omega
    simp [this]
   ·have h64 := of_decide_eq_false c
    have a : ¬ 9 ≤ (upT t p).length := by omega
    have b : ¬ 64 ≤ t.nodes.length := by omega
    refine hJ1 _ (fun c => ?_) fun c => ?_
    ·have := of_decide_eq_true c
     have : 2147483647 < t.next := by omega
     simp [this]
    ·have := of_decide_eq_false c
     have : ¬ 2147483647 < t.next := by omega
     simp [this,a,b]
theorem Ado {L : List An} {x : An} {id : Int} (h : x.id ≠ id) : upR (L ++ [x]).reverse id = upR L.reverse id := by
 rw [List.reverse_append]
 exact Xl (A := [x].reverse) (by simpa using h)
theorem addT_wf {t : Ag} (h : WfT t) {p : Int} {s : ByteArray} {r : Ag × Int × Int} (e : addT t p s = r) (hr : r.2.2 = 0) : WfT r.1 := by
 have h2 := h.len2
 unfold addT at e
 split at e
 ·subst e; simp at hr
 split at e
 ·subst e; simp at hr
 split at e
 ·subst e; simp at hr
 split at e
 ·subst e; simp at hr
 rename_i hv hh ha hc
 subst e
 have hv' : El s = true := by simpa using hv
 have hh' : Gu t p = true := by simpa using hh
 obtain ⟨y,hy,hyp⟩ := hasN_iff.mp hh'
 simp only [Bool.or_eq_true,decide_eq_true_eq,not_or] at hc
 have ha' : ∀ x ∈ t.nodes,x.parent = p → Dr x.name s = false := by
  intro x hx hp
  cases hb : Dr x.name s
  ·rfl
  ·exact absurd (List.any_eq_true.mpr ⟨x,hx,by simp [hp,hb]⟩) ha
 have hnext := h.next
 refine WfT.mk' (.snoc _ _ h.p ⟨.inl rfl,by simp,by simp,by simp,by simp⟩ ⟨hnext,hv',⟨y,hy,hyp⟩,ha'⟩) (by simp; omega) ?_ ?_ (by simp only; omega)
 ·intro x hx
  rcases List.mem_append.mp hx with hx | hx
  ·have := h.depth x hx
   unfold upT at this ⊢
   simp only
   have hlt := hnext x hx
   rw [Ado (by simp only; omega)]
   exact this
  ·simp at hx
   subst hx
   unfold upT
   simp only [List.reverse_append,List.reverse_cons,List.reverse_nil,List.nil_append,List.singleton_append]
   rw [upR,if_pos (by simp)]
   have := hc.1.1
   unfold upT at this
   simp; omega
 ·intro x hx
  simp only
  rcases List.mem_append.mp hx with hx | hx
  ·have := hnext x hx
   omega
  ·simp at hx
   subst hx
   simp only
   omega
end Go.Dm

/- Plain theory, part 6: nodes that are removed or replaced; made trees. -/
namespace Go.Dm
def Ael (t : Ag) (id : Int) : Ag × Int :=
 if !Gu t id then (zT,4) else if id == 1 then (zT,9) else if decide (0 < (Jr t id).length) then (zT,6)
 else ({ nodes := t.nodes.filter (fun x => x.id != id),next := t.next },0)
theorem Aht {t : Ag} (h : WfT t) (id : Int) : Sa t id = some (Ael t id) := by
 apply Ok.eq
 have h2 := h.len2
 unfold Sa Ael
 refine Ok.step (Zo h) ?_
 simp only [Bool.not_true,Bool.false_eq_true,if_false]
 refine Ok.step (Mp h id) ?_
 refine Ok.ite (fun c => ?_) fun c => ?_
 ·rw [if_pos c]; exact Ok.ret rfl
 rw [if_neg (c := (!Gu t id) = true) (by rw [c]; simp)]
 have hp : Gu t id = true := by simpa using c
 refine Ok.ite (fun c => ?_) fun c => ?_
 ·rw [if_pos c]; exact Ok.ret rfl
 rw [if_neg (c := (id == 1) = true) (by rw [c]; simp)]
 refine Ok.step (AaI h id) ?_
 rw [if_pos hp]
 refine Ok.ite (fun c => ?_) fun c => ?_
 ·have := of_decide_eq_true c
  have : 0 < (Jr t id).length := by omega
  rw [if_pos (c := decide (0 < (Jr t id).length) = true) (by simp [this])]; exact Ok.ret rfl
 have := of_decide_eq_false c
 have : ¬ 0 < (Jr t id).length := by omega
 rw [if_neg (c := decide (0 < (Jr t id).length) = true) (by simp [this])]
 refine Ok.guard (by omega) ?_
 have e := Hn (p := fun x : An => x.id != id) (f := fun x : An => x) (xs := t.nodes) (s0 := []) (r := Ss t) (body := Sn id) (done := Ss t) (fun k x s n hs => by
  unfold Sn Ou
  rw [if_pos hs]) (fun _ => rfl) (by simp; omega)
 rw [e]
 refine Ok.ret ?_
 simp
theorem AiX {A : List An} {id k : Int} (hk : k ≠ id) (h : ∀ x ∈ A,x.parent ≠ id) : upR (A.filter (fun x => x.id != id)) k = upR A k := by
 induction A generalizing k with
 | nil => rfl
 | cons a r ih =>
  have hr : ∀ x ∈ r,x.parent ≠ id := fun x hx => h x (by simp [hx])
  rw [List.filter_cons]
  by_cases e : a.id = id
  ·rw [if_neg (by simp [e]),ih hk hr,upR,if_neg (by simp; omega)]
  ·rw [if_pos (by simp [e]),upR,upR]
   by_cases q : a.id = k
   ·rw [if_pos (by simp [q]),if_pos (by simp [q]),ih (h a (by simp)) hr]
   ·rw [if_neg (by simp [q]),if_neg (by simp [q]),ih hk hr]
theorem WfP.remove {L : List An} (h : WfP L) {id : Int} (h1 : id ≠ 1) (hk : ∀ x ∈ L,x.parent ≠ id) : WfP (L.filter (fun x => x.id != id)) := by
 induction h with
 | root x v r =>
  have : (x.id != id) = true := by simp [r.id]; omega
  simp only [List.filter_cons,this,if_true,List.filter_nil]
  exact .root x v r
 | snoc L x w v s ih =>
  have hw := ih fun y hy => hk y (by simp [hy])
  rw [List.filter_append]
  by_cases e : x.id = id
  ·have : [x].filter (fun x => x.id != id) = [] := by simp [e]
   rw [this,List.append_nil]
   exact hw
  ·have : [x].filter (fun x => x.id != id) = [x] := by simp [e]
   rw [this]
   refine .snoc _ x hw v ⟨fun y hy => s.lt y (List.mem_filter.mp hy).1,s.valid,?_,fun y hy => s.fresh y (List.mem_filter.mp hy).1⟩
   obtain ⟨y,hy,hyp⟩ := s.parent
   refine ⟨y,List.mem_filter.mpr ⟨hy,?_⟩,hyp⟩
   have := hk x (by simp)
   simp only [bne_iff_ne]
   omega
theorem Ajb {t : Ag} (h : WfT t) {id : Int} {r : Ag × Int} (e : Ael t id = r) (hr : r.2 = 0) : WfT r.1 := by
 have h2 := h.len2
 unfold Ael at e
 split at e
 ·subst e; simp at hr
 split at e
 ·subst e; simp at hr
 split at e
 ·subst e; simp at hr
 rename_i hh h1 hk
 subst e
 have h1' : id ≠ 1 := by simpa using h1
 have hk' : ∀ x ∈ t.nodes,x.parent ≠ id := by
  intro x hx hp
  have hk : ¬ 0 < (Jr t id).length := by simpa using hk
  have : x.id ∈ Jr t id := by
   unfold Jr
   exact List.mem_map.mpr ⟨x,List.mem_filter.mpr ⟨hx,by simp [hp]⟩,rfl⟩
  have := List.length_pos_of_mem this
  omega
 refine WfT.mk' (h.p.remove h1' hk') (Nat.le_trans (List.length_filter_le _ _) h2) ?_ (fun x hx => h.next x (List.mem_filter.mp hx).1) h.nextLe
 intro x hx
 have hx' := List.mem_filter.mp hx
 have := h.depth x hx'.1
 unfold upT at this ⊢
 simp only
 rw [← List.filter_reverse,AiX (by simpa using hx'.2) (fun y hy => hk' y (by simpa using hy))]
 exact this
def Xn (x y : An) : An := if y.id == x.id then x else y
def setT (t : Ag) (x : An) : Ag := { nodes := t.nodes.map (Xn x),next := t.next }
theorem AaT (t : Ag) (x : An) (hl : t.nodes.length ≤ 1000000) : Sy t x = some (setT t x) := by
 apply Ok.eq
 unfold Sy
 refine Ok.step (Tx t (by omega)) ?_
 refine Ok.while (fun s => ∃ m : Nat,s.2 = (m : Int) ∧ m ≤ t.nodes.length ∧ s.1 = (t.nodes.take m).map (Xn x) ++ t.nodes.drop m) (fun s => (((t.nodes.length : Nat) : Int) - s.2).toNat) ?_ ?_ ?_
 ·exact ⟨0,rfl,by omega,by simp⟩
 ·rw [Dc]; simp only; omega
 rintro ⟨L,c⟩ n ⟨m,hc,hm,he⟩ hn
 simp only at hc he hn
 subst hc
 have hlen : L.length = t.nodes.length := by
  rw [he]; simp; omega
 unfold AbU Uj
 simp only
 rw [hlen]
 refine Ok.ite (fun c => ?_) fun c => ?_
 ·have hlt := of_decide_eq_true c
  have hlt' : m < t.nodes.length := by omega
  have em : Int.toNat (m : Int) = m := by omega
  rw [em]
  refine Ok.guard (by omega) ?_
  refine Ok.guard hlt' ?_
  have hw : w64 ((m : Int) + 1) = ((m + 1 : Nat) : Int) := by
   rw [Ax (by omega) (by omega)]; omega
  have hd : t.nodes.drop m = t.nodes[m] :: t.nodes.drop (m + 1) := List.drop_eq_getElem_cons hlt'
  have hg : L.getD m default = t.nodes[m] := by
   rw [he,hd,List.getD_eq_getElem?_getD,List.getElem?_append_right (by simp; omega)]
   have : m - (List.map (Xn x) (List.take m t.nodes)).length = 0 := by simp; omega
   rw [this]
   rfl
  have ht : (t.nodes.take (m + 1)).map (Xn x) ++ t.nodes.drop (m + 1) = (t.nodes.take m).map (Xn x) ++ Xn x t.nodes[m] :: t.nodes.drop (m + 1) := by
   have : t.nodes.take (m + 1) = t.nodes.take m ++ [t.nodes[m]] := by
    rw [List.take_add_one]; simp [hlt']
   rw [this,List.map_append,List.append_assoc]
   rfl
  have hml : (List.map (Xn x) (List.take m t.nodes)).length = m := by
   rw [List.length_map,List.length_take]; omega
  rw [hg,hw]
  refine Ok.ite (fun c => ?_) fun c => ?_
  ·refine Ok.guard (by omega) ?_
   refine Ok.guard hlt' ?_
   refine hn _ ⟨m + 1,rfl,by omega,?_⟩ (by simp only; omega)
   simp only
   rw [ht,he,hd,List.set_append_right _ _ (by omega),hml,Nat.sub_self,List.set_cons_zero,Xn,if_pos c]
  ·refine hn _ ⟨m + 1,rfl,by omega,?_⟩ (by simp only; omega)
   simp only
   rw [ht,he,hd]
   simp [Xn,c]
 ·have := of_decide_eq_false c
  obtain rfl : m = t.nodes.length := by omega
  refine Ok.ret ?_
  simp [he,setT]
theorem upR_map {A : List An} {f : An → An} {k : Int} (h : ∀ y ∈ A,(f y).id = y.id ∧ (f y).parent = y.parent) : upR (A.map f) k = upR A k := by
 induction A generalizing k with
 | nil => rfl
 | cons a r ih =>
  have h1 := h a (by simp)
  rw [List.map_cons,upR,upR,h1.1,h1.2,ih fun y hy => h y (by simp [hy]),ih fun y hy => h y (by simp [hy])]
theorem WfP.map {L : List An} (h : WfP L) {f : An → An} (hf : ∀ y ∈ L,(f y).id = y.id ∧ (f y).parent = y.parent ∧ (f y).name = y.name ∧ Rg (f y) ∧ (y.id = 1 → (f y).kind = 0)) : WfP (L.map f) := by
 induction h with
 | root x v r =>
  obtain ⟨h1,h2,h3,h4,h5⟩ := hf x (by simp)
  exact .root _ h4 ⟨by rw [h1,r.id],by rw [h2,r.parent],by rw [h3,r.name],h5 r.id⟩
 | snoc L x w v s ih =>
  have hw := ih fun y hy => hf y (by simp [hy])
  obtain ⟨h1,h2,h3,h4,h5⟩ := hf x (by simp)
  have hL : ∀ y ∈ L,(f y).id = y.id ∧ (f y).parent = y.parent ∧ (f y).name = y.name := fun y hy => by
   obtain ⟨a,b,c,_⟩ := hf y (by simp [hy])
   exact ⟨a,b,c⟩
  rw [List.map_append,List.map_cons,List.map_nil]
  refine .snoc _ _ hw h4 ⟨?_,by rw [h3]; exact s.valid,?_,?_⟩
  ·intro y hy
   obtain ⟨z,hz,rfl⟩ := List.mem_map.mp hy
   rw [(hL z hz).1,h1]
   exact s.lt z hz
  ·obtain ⟨z,hz,hzp⟩ := s.parent
   exact ⟨f z,List.mem_map.mpr ⟨z,hz,rfl⟩,by rw [(hL z hz).1,h2,hzp]⟩
  ·intro y hy
   obtain ⟨z,hz,rfl⟩ := List.mem_map.mp hy
   rw [(hL z hz).2.1,(hL z hz).2.2,h2,h3]
   exact s.fresh z hz
theorem WfT.map {t : Ag} (h : WfT t) {f : An → An} (hf : ∀ y ∈ t.nodes,(f y).id = y.id ∧ (f y).parent = y.parent ∧ (f y).name = y.name ∧ Rg (f y) ∧ (y.id = 1 → (f y).kind = 0)) : WfT { nodes := t.nodes.map f,next := t.next } := by
 refine WfT.mk' (h.p.map hf) (by simp; exact h.len2) ?_ ?_ h.nextLe
 ·intro x hx
  obtain ⟨z,hz,rfl⟩ := List.mem_map.mp hx
  have := h.depth z hz
  unfold upT at this ⊢
  simp only
  rw [← List.map_reverse,upR_map (fun y hy => ⟨(hf y (by simpa using hy)).1,(hf y (by simpa using hy)).2.1⟩),(hf z hz).1]
  exact this
 ·intro x hx
  obtain ⟨z,hz,rfl⟩ := List.mem_map.mp hx
  simp only
  rw [(hf z hz).1]
  exact h.next z hz
theorem setT_wf {t : Ag} (h : WfT t) {x y : An} (hy : y ∈ t.nodes) (h1 : x.id = y.id) (h2 : x.parent = y.parent) (h3 : x.name = y.name) (h4 : Rg x) (h5 : y.id = 1 → x.kind = 0) : WfT (setT t x) := by
 refine h.map fun z hz => ?_
 unfold Xn
 by_cases e : z.id = x.id
 ·obtain rfl : z = y := Afw h.sorted hz hy (by omega)
  rw [if_pos (by simp [e])]
  exact ⟨h1,h2,h3,h4,h5⟩
 ·rw [if_neg (by simpa using e)]
  refine ⟨rfl,rfl,rfl,h.p.val z hz,fun q => ?_⟩
  rcases h.p.par z hz with ⟨_,r⟩ | ⟨a,b,_⟩
  ·exact r.kind
  ·omega
def newT : Ag := { nodes := [{ id := 1,parent := 0,name := ByteArray.empty,control := 0,kind := 0,owner := 0 }],next := 2 }
theorem AiM : Ze = some newT := rfl
theorem newT_wf : WfT newT := by
 refine WfT.mk' (.root _ ⟨.inl rfl,by simp,by simp,by simp,by simp⟩ ⟨rfl,rfl,Ahh _,rfl⟩) (by simp [newT]) ?_ ?_ (by simp [newT])
 ·intro x hx
  have := Oh newT.nodes.reverse x.id
  simp [newT] at this
  simp [upT,newT]
  omega
 ·intro x hx
  simp [newT] at hx
  subst hx
  simp [newT]
theorem Tree_ok {d : Ar} (h : Bx d) (n : Int) (h0 : 0 ≤ n) (h1 : n ≤ 1000) : Ok (Mx d n) (fun r => WfT r.1 ∧ Bx r.2) := by
 unfold Mx
 refine Ok.step AiM ?_
 rw [Ax (by omega) (by omega)]
 refine Ok.bind (Eu h (n + 1) (by omega) (by omega)) fun r ⟨a1,a2,a3⟩ => ?_
 refine Ok.while (fun s => Bx s.1 ∧ WfT s.2.1 ∧ s.2.2 ≤ 2000) (fun s => s.2.2.toNat) ⟨a1,newT_wf,by simp only; omega⟩ (by rw [Dc]; simp only; omega) ?_
 rintro ⟨d,t,c⟩ k ⟨b1,b2,b3⟩ hk
 simp only at b1 b2 b3 hk
 unfold Ta
 simp only
 refine Ok.ite (fun c1 => ?_) fun c1 => ?_
 ·have hc := of_decide_eq_true c1
  have l1 := b2.len1
  have l2 := b2.len2
  refine Ok.bind (Eu b1 _ (by omega) (by omega)) fun r2 ⟨q1,q2,q3⟩ => ?_
  refine Ok.guard ⟨q2,q3⟩ ?_
  refine Ok.bind (Name_ok q1) fun r3 ⟨u1,u2⟩ => ?_
  refine Ok.step (Ajl b2 _ _) ?_
  have hw : w64 (c - 1) = c - 1 := Ax (by omega) (by omega)
  have hJ3 : ∀ y : Ar × Ag,Bx y.1 → WfT y.2 → Ok (Hq (d,t,c) k y) (fun r => WfT r.1 ∧ Bx r.2) := by
   intro y hy1 hy2
   unfold Hq
   simp only
   rw [hw]
   exact hk _ ⟨hy1,hy2,by simp only; omega⟩ (by simp only; omega)
  have hJ4 : ∀ y : Ag,WfT y → Ok (Jd (d,t,c) k r3 y) (fun r => WfT r.1 ∧ Bx r.2) := by
   intro y hy
   unfold Jd
   refine Ok.bind (Vw u1 6 (by omega)) fun r4 hr4 => ?_
   refine Ok.ite (fun _ => ?_) fun _ => ?_
   ·have y1 := hy.len1
    have y2 := hy.len2
    refine Ok.bind (Eu hr4 _ (by omega) (by omega)) fun r5 ⟨v1,v2,v3⟩ => ?_
    refine Ok.guard ⟨v2,v3⟩ ?_
    refine Ok.step (Aht hy _) ?_
    refine Ok.ite (fun c2 => ?_) fun _ => ?_
    ·exact hJ3 _ v1 (Ajb hy rfl (by simpa using c2))
    ·exact hJ3 _ v1 hy
   ·exact hJ3 _ hr4 hy
  refine Ok.ite (fun c2 => ?_) fun _ => ?_
  ·exact hJ4 _ (addT_wf b2 rfl (by simpa using c2))
  ·exact hJ4 _ b2
 ·exact Ok.ret ⟨b2,b1⟩
end Go.Dm

/- Plain theory, part 7: hierarchies that Check accepts. -/
namespace Go.Dm
def zK : Aw := { id := 0,process := 0,group := 0,user := 0 }
def Er (L : List Aw) (id : Int) : Option Aw := L.find? (fun x => x.id == id)
theorem AgQ (L : List Aw) (p : Int) (hl : L.length ≤ 1000000) : Sh L p = some ((Er L p).elim (zK,false) (fun x => (x,x.process == p))) := by
 unfold Sh
 rw [if_pos (by omega)]
 exact Ia (fun k x n => rfl) rfl
structure TaskV (h : Aa) (x : Aw) : Prop where
 pos : 1 ≤ x.id
 grp : Gu h.tree x.group = true
 u1 : 0 ≤ x.user
 u2 : x.user ≤ 1048576
 ldr : ∃ p,Er h.tasks x.process = some p ∧ p.process = x.process ∧ p.user = x.user
structure WfH (h : Aa) : Prop where
 tree : WfT h.tree
 len : h.tasks.length ≤ 128
 n1 : 1 ≤ h.next
 n2 : h.next ≤ 2147483648
 sorted : h.tasks.Pairwise (fun a b => a.id < b.id)
 lt : ∀ x ∈ h.tasks,x.id < h.next
 val : ∀ x ∈ h.tasks,TaskV h x
theorem Acs (h : Aa) : Ok (Fo h) (fun b => b = true ↔ WfH h) := by
 have bad : ¬ WfH h → Ok (some false) (fun b => b = true ↔ WfH h) := fun hn => Ok.ret ⟨fun e => by simp at e,fun w => absurd w hn⟩
 unfold Fo
 refine Ok.bind (Xi h.tree) fun b hb => ?_
 unfold Il
 refine Ok.ite (fun c => ?_) fun c => ?_
 ·have : ¬ WfT h.tree := fun w => by have := hb.mpr w; simp [this] at c
  exact bad fun w => this w.tree
 have wt : WfT h.tree := hb.mp (by simpa using c)
 refine Ok.ite (fun c => ?_) fun c => ?_
 ·have := of_decide_eq_true c
  exact bad fun w => by have := w.len; omega
 have hl : h.tasks.length ≤ 128 := by
  have := of_decide_eq_false c
  omega
 refine Ok.ite (fun c => ?_) fun c => ?_
 ·have := of_decide_eq_true c
  exact bad fun w => by have := w.n1; omega
 have hn1 := of_decide_eq_false c
 refine Ok.ite (fun c => ?_) fun c => ?_
 ·have := of_decide_eq_true c
  exact bad fun w => by have := w.n2; omega
 have hn2 := of_decide_eq_false c
 have loop : (∀ x ∈ h.tasks.getLast?,x.id < h.next) → Ok (if h.tasks.length ≤ 9223372036854775807 then Bi (To h) Zz h.tasks 0 () else none) (fun b => b = true ↔ WfH h) := by
  intro hlast
  refine Ok.guard (by omega) ?_
  refine Ok.range (fun pre _ => pre.Pairwise (fun a b => a.id < b.id) ∧ ∀ x ∈ pre,TaskV h x) (by simp) ?_ ?_
  ·intro pre x post s n he hI hn
   have hx : x ∈ h.tasks := by rw [he]; simp
   unfold To
   refine Ok.step (AgQ h.tasks x.process (by omega)) ?_
   have hJt : ¬ WfH h → Ok (Ch n true) (fun b => b = true ↔ WfH h) := bad
   refine Ok.ite (fun c => ?_) fun c => ?_
   ·have := of_decide_eq_true c
    exact hJt fun w => by have := (w.val x hx).pos; omega
   have hpos := of_decide_eq_false c
   have tail : (∀ y ∈ pre,y.id < x.id) → Ok (Option.bind (Fn h.tree x.group) fun r51 => (if (!r51) then ((Ch n) true) else (if (decide (x.user < 0)) then ((Ch n) true) else (if (decide (x.user > 1048576)) then ((Ch n) true) else (if (!((Er h.tasks x.process).elim (zK,false) (fun y => (y,y.process == x.process))).2) then ((Ch n) true) else ((Ch n) (((Er h.tasks x.process).elim (zK,false) (fun y => (y,y.process == x.process))).1.user != x.user))))))) (fun b => b = true ↔ WfH h) := by
    intro hlt
    refine Ok.step (Mp wt x.group) ?_
    refine Ok.ite (fun c => ?_) fun c => ?_
    ·exact hJt fun w => by have := (w.val x hx).grp; simp [this] at c
    have hg : Gu h.tree x.group = true := by simpa using c
    refine Ok.ite (fun c => ?_) fun c => ?_
    ·have := of_decide_eq_true c
     exact hJt fun w => by have := (w.val x hx).u1; omega
    have hu1 := of_decide_eq_false c
    refine Ok.ite (fun c => ?_) fun c => ?_
    ·have := of_decide_eq_true c
     exact hJt fun w => by have := (w.val x hx).u2; omega
    have hu2 := of_decide_eq_false c
    cases hk : Er h.tasks x.process with
    | none =>
     simp only [Option.elim_none]
     exact hJt fun w => by
      obtain ⟨p,hp,_⟩ := (w.val x hx).ldr
      rw [hk] at hp
      simp at hp
    | some p =>
     simp only [Option.elim_some]
     refine Ok.ite (fun c => ?_) fun c => ?_
     ·exact hJt fun w => by
       obtain ⟨q,hq,hq2,_⟩ := (w.val x hx).ldr
       rw [hk] at hq
       obtain rfl : p = q := by simpa using hq
       simp [hq2] at c
     have hp2 : p.process = x.process := by simpa using c
     unfold Ch
     refine Ok.ite (fun c => ?_) fun c => ?_
     ·refine bad fun w => ?_
      obtain ⟨q,hq,_,hq3⟩ := (w.val x hx).ldr
      rw [hk] at hq
      obtain rfl : p = q := by simpa using hq
      simp [hq3] at c
     have hp3 : p.user = x.user := by simpa using c
     refine hn () ⟨?_,?_⟩
     ·rw [List.pairwise_append]
      exact ⟨hI.1,by simp,fun a ha b hb => by simp at hb; subst hb; exact hlt a ha⟩
     ·intro y hy
      rcases List.mem_append.mp hy with hy | hy
      ·exact hI.2 y hy
      ·obtain rfl : y = x := by simpa using hy
       exact ⟨by omega,hg,by omega,by omega,p,hk,hp2,hp3⟩
   refine Ok.ite (fun c => ?_) fun c => ?_
   ·have hk := of_decide_eq_true c
    rcases Jp pre with rfl | ⟨pr,y,rfl⟩
    ·simp at hk
    have hw : w64 (((pr ++ [y]).length : Int) - 1) = (pr.length : Int) := by
     have : (pr ++ [y]).length ≤ h.tasks.length := by rw [he]; simp
     rw [Ax (by omega) (by omega)]
     simp
    have hle : pr.length < h.tasks.length := by rw [he]; simp
    have ey : h.tasks.getD (Int.toNat (pr.length : Int)) default = y := by
     rw [he,show Int.toNat (pr.length : Int) = pr.length by omega]
     exact So
    rw [hw,ey]
    refine Ok.guard (by omega) ?_
    refine Ok.ite (fun c => ?_) fun c => ?_
    ·have := of_decide_eq_true c
     refine hJt fun w => ?_
     have hs := w.sorted
     rw [he,List.pairwise_append] at hs
     have := hs.2.2 y (by simp) x (by simp)
     omega
    ·have hyx := of_decide_eq_false c
     refine tail fun z hz => ?_
     rcases List.mem_append.mp hz with hz | hz
     ·have := hI.1
      rw [List.pairwise_append] at this
      have := this.2.2 z hz y (by simp)
      omega
     ·obtain rfl : z = y := by simpa using hz
      omega
   ·have hk := of_decide_eq_false c
    have : pre = [] := List.length_eq_zero_iff.mp (by omega)
    subst this
    exact tail (by simp)
  ·intro _ hI
   refine Ok.ret ⟨fun _ => ⟨wt,hl,by omega,by omega,hI.1,?_,hI.2⟩,fun _ => rfl⟩
   intro x hx
   rcases Jp h.tasks with e | ⟨P,y,e⟩
   ·rw [e] at hx; simp at hx
   ·have hy := hlast y (by rw [e]; simp)
    have hp := hI.1
    rw [e] at hp hx
    rw [List.pairwise_append] at hp
    rcases List.mem_append.mp hx with hx | hx
    ·have := hp.2.2 x hx y (by simp)
     omega
    ·obtain rfl : x = y := by simpa using hx
     exact hy
 refine Ok.ite (fun c => ?_) fun c => ?_
 ·have hpos := of_decide_eq_true c
  have hw : w64 ((h.tasks.length : Int) - 1) = ((h.tasks.length - 1 : Nat) : Int) := by
   rw [Ax (by omega) (by omega)]
   omega
  rw [hw]
  refine Ok.guard (by omega) ?_
  have : Int.toNat ((h.tasks.length - 1 : Nat) : Int) = h.tasks.length - 1 := by omega
  rw [this,Gp (by omega)]
  refine Ok.ite (fun c => ?_) fun c => ?_
  ·have := of_decide_eq_true c
   exact bad fun w => by have := w.lt _ (List.getElem_mem (show h.tasks.length - 1 < h.tasks.length by omega)); omega
  ·have := of_decide_eq_false c
   refine loop fun x hx => ?_
   rw [List.getLast?_eq_getElem?] at hx
   have e : h.tasks[h.tasks.length - 1]? = some h.tasks[h.tasks.length - 1] := List.getElem?_eq_getElem (by omega)
   rw [e] at hx
   obtain rfl : h.tasks[h.tasks.length - 1] = x := by simpa using hx
   omega
 ·have := of_decide_eq_false c
  have e : h.tasks = [] := List.length_eq_zero_iff.mp (by omega)
  exact loop (by rw [e]; simp)
theorem Ij {h : Aa} (w : WfH h) : Fo h = some true := by
 obtain ⟨b,hb,e⟩ := Acs h
 rw [hb,e.mpr w]
theorem Zb {h : Aa} (w : ¬ WfH h) : Fo h = some false := by
 obtain ⟨b,hb,e⟩ := Acs h
 cases b
 ·exact hb
 ·exact absurd (e.mp rfl) w
theorem Sb {h : Aa} (w : WfH h) (id : Int) : Ha h id = some ((Er h.tasks id).elim (zK,false) (fun x => (x,true))) := by
 unfold Ha
 rw [Ij w]
 have := w.len
 simp only [Option.bind_some,Bool.not_true,Bool.false_eq_true,if_false]
 rw [if_pos (by omega)]
 exact Ia (fun k x n => rfl) rfl
theorem Aiy {h : Aa} (w : ¬ WfH h) (id : Int) : Ha h id = some (zK,false) := by
 unfold Ha
 rw [Zb w]
 rfl
def tasksK (h : Aa) (g : Int) : List Int := (h.tasks.filter (fun x => x.group == g)).map (·.id)
theorem AhZ {h : Aa} (w : WfH h) (g : Int) : Ig h g = some (tasksK h g) := by
 unfold Ig
 rw [Ij w]
 have := w.len
 simp only [Option.bind_some,Bool.not_true,Bool.false_eq_true,if_false]
 rw [if_pos (by omega)]
 refine (Hn (p := fun x : Aw => x.group == g) (f := fun x : Aw => x.id) (r := some) ?_ (fun _ => rfl) (by simp; omega)).trans (by simp [tasksK])
 intro k x s n hs
 unfold Yy Qn
 rw [if_pos hs]
theorem Ait {h : Aa} (w : ¬ WfH h) (g : Int) : Ig h g = some [] := by
 unfold Ig
 rw [Zb w]
 rfl
theorem AiK {L : List Aw} (h : L.Pairwise (fun a b => a.id < b.id)) {x y : Aw} (hx : x ∈ L) (hy : y ∈ L) (e : x.id = y.id) : x = y := by
 induction L with
 | nil => simp at hx
 | cons a r ih =>
  rw [List.pairwise_cons] at h
  rcases List.mem_cons.mp hx with ex | hx' <;> rcases List.mem_cons.mp hy with ey | hy'
  ·rw [ex,ey]
  ·have := h.1 y hy'; rw [ex] at e; omega
  ·have := h.1 x hx'; rw [ey] at e; omega
  ·exact ih h.2 hx' hy'
theorem Th {L : List Aw} {id : Int} {x : Aw} (h : Er L id = some x) : x ∈ L ∧ x.id = id :=
 ⟨List.mem_of_find?_eq_some h,by have := List.find?_some h; simpa using this⟩
theorem Abq {L : List Aw} (hs : L.Pairwise (fun a b => a.id < b.id)) {x : Aw} (h : x ∈ L) : Er L x.id = some x := by
 unfold Er
 cases hf : L.find? (fun y => y.id == x.id) with
 | none =>
  rw [List.find?_eq_none] at hf
  have := hf x h
  simp at this
 | some y =>
  have h1 := List.mem_of_find?_eq_some hf
  have h2 := List.find?_some hf
  rw [AiK hs h1 h (by simpa using h2)]
theorem getK_iff {L : List Aw} (hs : L.Pairwise (fun a b => a.id < b.id)) {id : Int} {x : Aw} : Er L id = some x ↔ x ∈ L ∧ x.id = id :=
 ⟨Th,fun ⟨h1,h2⟩ => by rw [← h2]; exact Abq hs h1⟩
end Go.Dm

/- Plain theory, part 8: tasks that come, go and move. -/
namespace Go.Dm
theorem Afk {α : Type} {M : List α} {m : Nat} {d : α} (h : m < M.length) : M.set m (M.getD m d) = M := by
 rw [Gp h]
 exact List.set_getElem_self h
theorem Aha {α R : Type} {f : α → α} {L : List α} {d : α} {body : List α × Int → (List α × Int → Option R) → Option R} {ret : List α → Option R} (hl : L.length ≤ 1000000)
  (hb : ∀ (M : List α) (m : Nat) n,M.length = L.length → m < L.length → body (M,(m : Int)) n = n (M.set m (f (M.getD m d)),((m + 1 : Nat) : Int)))
  (hr : ∀ (M : List α) n,M.length = L.length → body (M,(L.length : Int)) n = ret M) : whileO body Dy (L,0) = ret (L.map f) := by
 have key : ∀ (r m F : Nat),m + r = L.length → r < F → whileO body F ((L.take m).map f ++ L.drop m,(m : Int)) = ret (L.map f) := by
  intro r
  induction r with
  | zero =>
   intro m F hm hF
   obtain ⟨F,rfl⟩ : ∃ G,F = G + 1 := ⟨F - 1,by omega⟩
   obtain rfl : m = L.length := by omega
   rw [whileO,hr _ _ (by simp)]
   simp
  | succ r ih =>
   intro m F hm hF
   obtain ⟨F,rfl⟩ : ∃ G,F = G + 1 := ⟨F - 1,by omega⟩
   have hlt : m < L.length := by omega
   rw [whileO,hb _ _ _ (by simp; omega) hlt]
   have hd : L.drop m = L[m] :: L.drop (m + 1) := List.drop_eq_getElem_cons hlt
   have hml : (List.map f (List.take m L)).length = m := by
    rw [List.length_map,List.length_take]; omega
   have hg : ((L.take m).map f ++ L.drop m).getD m d = L[m] := by
    rw [hd,List.getD_eq_getElem?_getD,List.getElem?_append_right (by omega),hml,Nat.sub_self]
    rfl
   have ht : (L.take (m + 1)).map f ++ L.drop (m + 1) = (L.take m).map f ++ f L[m] :: L.drop (m + 1) := by
    have : L.take (m + 1) = L.take m ++ [L[m]] := by
     rw [List.take_add_one]; simp [hlt]
    rw [this,List.map_append,List.append_assoc]
    rfl
   rw [hg,hd,List.set_append_right _ _ (by omega),hml,Nat.sub_self,List.set_cons_zero,← ht]
   exact ih (m + 1) F (by omega) (by omega)
 have := key L.length 0 Dy (by omega) (by rw [Dc]; omega)
 simpa using this
def zH : Aa := { tree := zT,tasks := [],next := 0 }
theorem Uq (h : Aa) (h1 : h.tree.nodes.length ≤ 1000000) (h2 : h.tasks.length ≤ 1000000) : Oc h = some h := by
 unfold Oc
 rw [Tx _ (by omega),Option.bind_some,if_pos (by omega)]
def addK (h : Aa) (x : Aw) : Aa × Int × Int :=
 if decide (128 ≤ h.tasks.length) || decide (2147483647 < h.next) then (zH,0,7)
 else ({ tree := h.tree,tasks := h.tasks ++ [{ id := h.next,process := if x.process == 0 then h.next else x.process,group := x.group,user := x.user }],next := h.next + 1 },h.next,0)
theorem Agn {h : Aa} (w : WfH h) (x : Aw) : Vr h x = some (addK h x) := by
 have hl := w.len
 have h2 := w.tree.len2
 have hn := w.n1
 have hm := w.n2
 apply Ok.eq
 unfold Vr addK
 refine Ok.ite (fun c => ?_) fun c => ?_
 ·simp only [Bool.or_eq_true,decide_eq_true_eq] at c
  rw [if_pos]
  ·exact Ok.ret rfl
  ·simp only [Bool.or_eq_true,decide_eq_true_eq]
   omega
 ·simp only [Bool.or_eq_false_iff,decide_eq_false_iff_not] at c
  rw [if_neg]
  ·refine Ok.step (Uq h (by omega) (by omega)) ?_
   unfold Uv
   rw [Ax (by omega) (by omega)]
   refine Ok.ite (fun c => ?_) fun c => ?_
   ·rw [if_pos (c := (x.process == 0) = true) c]
    exact Ok.guard (by omega) (Ok.ret rfl)
   ·rw [if_neg (c := (x.process == 0) = true) (by rw [c]; simp)]
    exact Ok.guard (by omega) (Ok.ret rfl)
  ·simp only [Bool.or_eq_true,decide_eq_true_eq]
   omega
theorem Abe {L M : List Aw} {p : Int} : Er (L ++ M) p = (Er L p).or (Er M p) := by
 unfold Er
 rw [List.find?_append]
theorem addK_wf {h : Aa} (w : WfH h) {x : Aw} (hg : Gu h.tree x.group = true) (u1 : 0 ≤ x.user) (u2 : x.user ≤ 1048576) (hp : x.process = 0 ∨ x ∈ h.tasks) {r : Aa × Int × Int} (e : addK h x = r) (hr : r.2.2 = 0) : WfH r.1 := by
 have hl := w.len
 have hn := w.n1
 have hm := w.n2
 unfold addK at e
 split at e
 ·subst e; simp at hr
 rename_i hc
 simp only [Bool.or_eq_true,decide_eq_true_eq,not_or] at hc
 subst e
 have hlt := w.lt
 refine ⟨w.tree,by simp; omega,by simp only; omega,by simp only; omega,?_,?_,?_⟩
 ·rw [List.pairwise_append]
  exact ⟨w.sorted,by simp,fun a ha b hb => by simp at hb; subst hb; exact hlt a ha⟩
 ·intro y hy
  simp only
  rcases List.mem_append.mp hy with hy | hy
  ·have := hlt y hy
   omega
  ·simp at hy; subst hy; simp only; omega
 ·intro y hy
  rcases List.mem_append.mp hy with hy | hy
  ·have v := w.val y hy
   obtain ⟨p,q1,q2,q3⟩ := v.ldr
   exact ⟨v.pos,v.grp,v.u1,v.u2,p,by simp only; rw [Abe,q1]; rfl,q2,q3⟩
  ·rw [List.mem_singleton] at hy
   subst hy
   refine ⟨by simp only; omega,hg,u1,u2,?_⟩
   simp only
   have hq : (x.process = 0 ∧ (if (x.process == 0) = true then h.next else x.process) = h.next) ∨ (x.process ≠ 0 ∧ (if (x.process == 0) = true then h.next else x.process) = x.process) := by
    by_cases h0 : x.process = 0
    ·exact .inl ⟨h0,by rw [if_pos (by simp [h0])]⟩
    ·exact .inr ⟨h0,by rw [if_neg (by simpa using h0)]⟩
   generalize (if (x.process == 0) = true then h.next else x.process) = q at hq
   rcases hq with ⟨h0,rfl⟩ | ⟨h0,rfl⟩
   ·refine ⟨{ id := h.next,process := h.next,group := x.group,user := x.user },?_,rfl,rfl⟩
    rw [Abe]
    have : Er h.tasks h.next = none := by
     unfold Er
     rw [List.find?_eq_none]
     intro z hz
     have := hlt z hz
     simp; omega
    rw [this]
    simp [Er]
   ·have v := w.val x (by rcases hp with h | h; exact absurd h h0; exact h)
    obtain ⟨p,q1,q2,q3⟩ := v.ldr
    exact ⟨p,by rw [Abe,q1]; rfl,q2,q3⟩
def AfS (h : Aa) (g u : Int) : Aa × Int × Int :=
 if decide (u < 0) || decide (1048576 < u) then (zH,0,1) else if !Gu h.tree g then (zH,0,4) else addK h { id := 0,process := 0,group := g,user := u }
theorem Aia {h : Aa} (w : WfH h) (g u : Int) : Ts h g u = some (AfS h g u) := by
 apply Ok.eq
 unfold Ts AfS
 refine Ok.step (Ij w) ?_
 simp only [Bool.not_true,Bool.false_eq_true,if_false]
 unfold Nk
 by_cases h1 : u < 0
 ·simp only [h1,decide_true,if_true,Bool.true_or]
  exact Ok.ret rfl
 by_cases h2 : u > 1048576
 ·have : 1048576 < u := by omega
  simp only [h2,decide_true,if_true,Bool.or_true,ite_self]
  exact Ok.ret rfl
 ·have h3 : ¬ 1048576 < u := by omega
  simp only [h1,h2,decide_false,Bool.or_self,Bool.false_eq_true,if_false]
  refine Ok.step (Mp w.tree g) ?_
  refine Ok.ite (fun c => ?_) fun c => ?_
  ·rw [if_pos c]; exact Ok.ret rfl
  ·rw [if_neg (c := (!Gu h.tree g) = true) (by rw [c]; simp)]
   refine Ok.step (Agn w _) (Ok.ret rfl)
theorem spawnK_wf {h : Aa} (w : WfH h) {g u : Int} {r : Aa × Int × Int} (e : AfS h g u = r) (hr : r.2.2 = 0) : WfH r.1 := by
 unfold AfS at e
 split at e
 ·subst e; simp at hr
 split at e
 ·subst e; simp at hr
 rename_i h1 h2
 simp only [Bool.or_eq_true,decide_eq_true_eq,not_or] at h1
 exact addK_wf w (by simpa using h2) (by simp only; omega) (by simp only; omega) (.inl rfl) e hr
def AfN (h : Aa) (k : Int) : Aa × Int × Int := (Er h.tasks k).elim (zH,0,4) (addK h)
theorem Aij {h : Aa} (w : WfH h) (k : Int) : Ut h k = some (AfN h k) := by
 apply Ok.eq
 unfold Ut AfN
 refine Ok.step (Ij w) ?_
 simp only [Bool.not_true,Bool.false_eq_true,if_false]
 refine Ok.step (Sb w k) ?_
 cases Er h.tasks k with
 | none => exact Ok.ret rfl
 | some x =>
  simp only [Option.elim_some,Bool.not_true,Bool.false_eq_true,if_false]
  exact Ok.step (Agn w _) (Ok.ret rfl)
theorem cloneK_wf {h : Aa} (w : WfH h) {k : Int} {r : Aa × Int × Int} (e : AfN h k = r) (hr : r.2.2 = 0) : WfH r.1 := by
 unfold AfN at e
 cases hk : Er h.tasks k with
 | none => rw [hk] at e; subst e; simp at hr
 | some x =>
  rw [hk] at e
  obtain ⟨hx,_⟩ := Th hk
  have v := w.val x hx
  exact addK_wf w v.grp v.u1 v.u2 (.inr hx) e hr
def exitK (h : Aa) (k : Int) : Aa × Int :=
 (Er h.tasks k).elim (zH,4) fun _ => ({ tree := h.tree,tasks := h.tasks.filter (fun x => x.id != k && x.process != k),next := h.next },0)
theorem AiI {h : Aa} (w : WfH h) (k : Int) : Wu h k = some (exitK h k) := by
 have hl := w.len
 have h2 := w.tree.len2
 apply Ok.eq
 unfold Wu exitK
 refine Ok.step (Ij w) ?_
 simp only [Bool.not_true,Bool.false_eq_true,if_false]
 refine Ok.step (Sb w k) ?_
 cases Er h.tasks k with
 | none => exact Ok.ret rfl
 | some x =>
  simp only [Option.elim_some,Bool.not_true,Bool.false_eq_true,if_false]
  refine Ok.step (Tx _ (by omega)) ?_
  refine Ok.guard (by omega) ?_
  have e := Hn (p := fun x : Aw => x.id != k && x.process != k) (f := fun x : Aw => x) (xs := h.tasks) (s0 := []) (r := Vy h h.tree) (body := Wg k) (done := Vy h h.tree) (fun k x s n hs => by
   unfold Wg Sj
   rw [if_pos hs]) (fun _ => rfl) (by simp; omega)
  rw [e]
  refine Ok.ret ?_
  simp
theorem exitK_wf {h : Aa} (w : WfH h) {k : Int} {r : Aa × Int} (e : exitK h k = r) (hr : r.2 = 0) : WfH r.1 := by
 unfold exitK at e
 cases hk : Er h.tasks k with
 | none => rw [hk] at e; subst e; simp at hr
 | some x =>
  rw [hk] at e
  subst e
  have hs : (h.tasks.filter (fun x => x.id != k && x.process != k)).Pairwise (fun a b => a.id < b.id) := w.sorted.sublist List.filter_sublist
  refine ⟨w.tree,Nat.le_trans (List.length_filter_le _ _) w.len,w.n1,w.n2,hs,fun y hy => w.lt y (List.mem_filter.mp hy).1,fun y hy => ?_⟩
  obtain ⟨hy,hc⟩ := List.mem_filter.mp hy
  have v := w.val y hy
  obtain ⟨p,q1,q2,q3⟩ := v.ldr
  obtain ⟨m1,m2⟩ := Th q1
  simp only [Bool.and_eq_true,bne_iff_ne] at hc
  refine ⟨v.pos,v.grp,v.u1,v.u2,p,?_,q2,q3⟩
  refine (getK_iff hs).mpr ⟨List.mem_filter.mpr ⟨m1,?_⟩,m2⟩
  simp only [Bool.and_eq_true,bne_iff_ne]
  omega
def putK (k g : Int) (y : Aw) : Aw := if y.id == k then { id := y.id,process := y.process,group := g,user := y.user } else y
def Aby (h : Aa) (k g : Int) : Aa × Int :=
 if (Er h.tasks k).isSome && Gu h.tree g then ({ tree := h.tree,tasks := h.tasks.map (putK k g),next := h.next },0) else (zH,4)
theorem Aeb {h : Aa} (w : WfH h) (k g : Int) : Rf h k g = some (Aby h k g) := by
 have hl := w.len
 have h2 := w.tree.len2
 apply Ok.eq
 unfold Rf Aby
 refine Ok.step (Ij w) ?_
 simp only [Bool.not_true,Bool.false_eq_true,if_false]
 refine Ok.step (Sb w k) ?_
 cases hk : Er h.tasks k with
 | none => exact Ok.ret rfl
 | some x =>
  simp only [Option.elim_some,Bool.not_true,Bool.false_eq_true,if_false,Option.isSome_some,Bool.true_and]
  refine Ok.step (Mp w.tree g) ?_
  unfold Qk
  refine Ok.ite (fun c => ?_) fun c => ?_
  ·rw [if_neg (by simpa using c)]; exact Ok.ret rfl
  ·rw [if_pos (c := Gu h.tree g = true) (by simpa using c)]
   refine Ok.step (Uq h (by omega) (by omega)) ?_
   have e := Aha (f := putK k g) (L := h.tasks) (d := default) (body := Qp k g h) (ret := fun M => some (({ tree := h.tree,tasks := M,next := h.next } : Aa),0)) (by omega) (fun M m n hM hm => by
    unfold Qp Qo
    simp only
    have em : Int.toNat (m : Int) = m := by omega
    rw [em,if_pos (by simp; omega),if_pos (by omega),if_pos (by omega),Ax (by omega) (by omega)]
    have ew : (m : Int) + 1 = ((m + 1 : Nat) : Int) := by omega
    rw [ew]
    by_cases hc : (M.getD m default).id = k
    ·rw [if_pos (by rw [hc]; simp),if_pos (by omega),if_pos (by omega),putK,if_pos (by rw [hc]; simp)]
    ·have hc' : ((M.getD m default).id == k) = false := by simpa using hc
     rw [if_neg (by rw [hc']; simp),putK,if_neg (by rw [hc']; simp),Afk (by omega)]) (fun M n hM => by
    unfold Qp
    simp only
    rw [hM,if_neg (by simp)])
   rw [e]
   exact Ok.ret rfl
theorem Me (k g : Int) (y : Aw) : (putK k g y).id = y.id ∧ (putK k g y).process = y.process ∧ (putK k g y).user = y.user := by
 unfold putK
 split <;> exact ⟨rfl,rfl,rfl⟩
theorem getK_map {L : List Aw} {f : Aw → Aw} (hf : ∀ y ∈ L,(f y).id = y.id) {p : Int} : Er (L.map f) p = (Er L p).map f := by
 induction L with
 | nil => rfl
 | cons a r ih =>
  unfold Er at *
  rw [List.map_cons,List.find?_cons,List.find?_cons,hf a (by simp)]
  cases (a.id == p)
  ·exact ih fun y hy => hf y (by simp [hy])
  ·rfl
theorem AgW {h : Aa} (w : WfH h) {k g : Int} {r : Aa × Int} (e : Aby h k g = r) (hr : r.2 = 0) : WfH r.1 := by
 unfold Aby at e
 split at e
 case isFalse => subst e; simp at hr
 rename_i hc
 subst e
 simp only [Bool.and_eq_true] at hc
 refine ⟨w.tree,by simp; exact w.len,w.n1,w.n2,?_,?_,?_⟩
 ·rw [List.pairwise_map]
  refine w.sorted.imp fun h => ?_
  rw [(Me k g _).1,(Me k g _).1]
  exact h
 ·intro y hy
  obtain ⟨z,hz,rfl⟩ := List.mem_map.mp hy
  rw [(Me k g _).1]
  exact w.lt z hz
 ·intro y hy
  obtain ⟨z,hz,rfl⟩ := List.mem_map.mp hy
  have v := w.val z hz
  obtain ⟨p,q1,q2,q3⟩ := v.ldr
  refine ⟨by rw [(Me k g _).1]; exact v.pos,?_,by rw [(Me k g _).2.2]; exact v.u1,by rw [(Me k g _).2.2]; exact v.u2,putK k g p,?_,?_,?_⟩
  ·unfold putK
   split
   ·exact hc.2
   ·exact v.grp
  ·simp only
   rw [getK_map (fun y _ => (Me k g y).1),(Me k g _).2.1,q1]
   rfl
  ·rw [(Me k g _).2.1,(Me k g _).2.1,q2]
  ·rw [(Me k g _).2.2,(Me k g _).2.2,q3]
end Go.Dm

/- Plain theory, part 9: made hierarchies. -/
namespace Go.Dm
abbrev Tot {α : Type} (m : Option α) : Prop := Ok m (fun _ => True)
theorem Ev (t : Ag) (id : Int) : Tot (Df t id) := by
 by_cases h : WfT t
 ·exact Ok.of_eq (Pk h id) trivial
 ·exact Ok.of_eq (Aba h id) trivial
theorem AhY (t : Ag) (id : Int) : Tot (Fn t id) := by
 unfold Fn
 exact Ok.bind (Ev t id) fun _ _ => Ok.ret trivial
theorem AdI (t : Ag) (id : Int) : (Jr t id).length ≤ t.nodes.length := by
 unfold Jr
 rw [List.length_map]
 exact List.length_filter_le _ _
theorem Xw (t : Ag) (id : Int) : Ok (Hi t id) (fun l => l.length ≤ 64) := by
 by_cases h : WfT t
 ·refine Ok.of_eq (AaI h id) ?_
  have := AdI t id
  have := h.len2
  split
  ·omega
  ·simp
 ·unfold Hi
  refine Ok.step (Afz h id) ?_
  exact Ok.ret (by simp)
theorem AiL (t : Ag) (id : Int) : (ancN t id).length ≤ t.nodes.length := by
 unfold ancN
 have := Oh t.nodes.reverse id
 simp at this
 split
 ·exact this
 ·simp
theorem AcM (t : Ag) (id : Int) : Ok (Fu t id) (fun l => l.length ≤ 64) := by
 by_cases h : WfT t
 ·refine Ok.of_eq (Of h id) ?_
  have := AiL t id
  have := h.len2
  omega
 ·unfold Fu
  refine Ok.step (Afz h id) ?_
  exact Ok.ret (by simp)
theorem Acn (h : Aa) (id : Int) : Tot (Ha h id) := by
 by_cases w : WfH h
 ·exact Ok.of_eq (Sb w id) trivial
 ·exact Ok.of_eq (Aiy w id) trivial
theorem Rn (h : Aa) (id : Int) : Tot (Ig h id) := by
 by_cases w : WfH h
 ·exact Ok.of_eq (AhZ w id) trivial
 ·exact Ok.of_eq (Ait w id) trivial
theorem Tj {α β : Type} {body : Nat → α → Unit → (Unit → Option β) → Option β} {done : Unit → Option β} {xs : List α} (hb : ∀ k x n,Tot (n ()) → Tot (body k x () n)) (hd : Tot (done ())) : Tot (Bi body done xs 0 ()) :=
 Ok.range (fun _ _ => True) trivial (fun _ _ _ _ _ _ _ hn => hb _ _ _ (hn () trivial)) (fun _ _ => hd)
theorem Agb (t : Ag) (id : Int) : Tot (Rz t id) := by
 unfold Rz
 refine Ok.bind (Ev _ _) fun _ _ => Ok.ite (fun _ => Ok.ret trivial) fun _ => ?_
 exact Ok.bind (Ev _ _) fun _ _ => Ok.ite (fun _ => Ok.ret trivial) fun _ => Ok.ret trivial
theorem Wq (t : Ag) (id : Int) : Tot (Lh t id) := by
 unfold Lh
 have hJ : ∀ r y,Tot (Jj r y) := fun r y => by
  unfold Jj Lm
  exact Ok.ite (fun _ => Ok.ret trivial) fun _ => Ok.ret trivial
 refine Ok.bind (Ev _ _) fun _ _ => Ok.ite (fun _ => Ok.ret trivial) fun _ => Ok.ite (fun _ => ?_) fun _ => hJ _ _
 exact Ok.bind (Agb _ _) fun _ _ => hJ _ _
theorem Acu (h : Aa) : Ok (Rj h) (fun b => b = true → WfH h) := by
 unfold Rj
 by_cases w : WfH h
 ·have := w.tree.len2
  refine Ok.step (Ij w) (Ok.guard (by omega) ?_)
  refine Ok.mono (P := fun _ => True) ?_ fun _ _ _ => w
  refine Tj (fun k x n hn => ?_) (Ok.ret trivial)
  unfold Aad
  have hJ : ∀ b,Tot (Jy n b) := fun b => by
   unfold Jy
   exact Ok.ite (fun _ => Ok.ret trivial) fun _ => hn
  refine Ok.bind (Wq _ _) fun _ _ => Ok.ite (fun _ => hJ _) fun _ => Ok.ite (fun _ => Ok.ite (fun _ => ?_) fun _ => hJ _) fun _ => hJ _
  exact Ok.bind (Rn _ _) fun _ _ => hJ _
 ·exact Ok.step (Zb w) (Ok.ret fun e => by simp at e)
theorem Qa (t : Ag) (id : Int) : Tot (Kz t id) := by
 unfold Kz
 refine Ok.bind (AcM _ _) fun l hl => Ok.guard (by omega) ?_
 refine Tj (fun k x n hn => ?_) (Ok.ret trivial)
 unfold Xm
 exact Ok.bind (Ev _ _) fun _ _ => Ok.ite (fun _ => Ok.ret trivial) fun _ => hn
theorem Uc (t : Ag) (id : Int) (b : Bool) : Tot (Ms t id b) := by
 unfold Ms
 refine Ok.ite (fun _ => Ok.ret trivial) fun _ => ?_
 refine Ok.bind (Xw _ _) fun l hl => Ok.guard (by omega) ?_
 refine Tj (fun k x n hn => ?_) (Ok.ret trivial)
 unfold Abf
 exact Ok.bind (Ev _ _) fun _ _ => Ok.ite (fun _ => Ok.ret trivial) fun _ => hn
theorem Agr {t : Ag} (w : WfT t) : ∀ (n : Nat) (id : Int),id.toNat < n → Tot (Kx n t id) := by
 intro n
 induction n with
 | zero => intro id h; omega
 | succ n ih =>
  intro id hlt
  unfold Kx Rb
  refine Ok.step (Pk w id) ?_
  cases hg : Ul t id with
  | none => exact Ok.ret trivial
  | some x =>
   obtain ⟨hx,hxi⟩ := Wl hg
   simp only [Option.elim_some,Bool.not_true,Bool.false_eq_true,if_false]
   refine Ok.ite (fun _ => Ok.ret trivial) fun _ => ?_
   refine Ok.step (Pk w x.parent) ?_
   cases hp : Ul t x.parent with
   | none => exact Uc t id false
   | some p =>
    obtain ⟨hpm,hpi⟩ := Wl hp
    simp only [Option.elim_some,if_true]
    refine Ok.ite (fun _ => Uc _ _ _) fun _ => ?_
    refine Ok.bind (ih p.id ?_) fun _ _ => Uc _ _ _
    have g1 := w.p.ge1 p hpm
    rcases w.p.par x hx with ⟨_,r⟩ | ⟨a,b,_⟩
    ·have := r.parent; omega
    ·omega
theorem Pb (t : Ag) (id : Int) : Tot (Mn t id) := by
 by_cases w : WfT t
 ·by_cases hid : id.toNat < Dy
  ·exact Agr w Dy id hid
  ·unfold Mn
   rw [Dc] at *
   unfold Kx Rb
   refine Ok.step (Pk w id) ?_
   cases hg : Ul t id with
   | none => exact Ok.ret trivial
   | some x =>
    obtain ⟨hx,hxi⟩ := Wl hg
    have := w.next x hx
    have := w.nextLe
    omega
 ·unfold Mn
  rw [Dc]
  unfold Kx Rb
  exact Ok.step (Aba w id) (Ok.ret trivial)
theorem Nv (h : Aa) : Ok (Ky h) (fun b => b = true → WfH h) := by
 unfold Ky
 refine Ok.bind (Acu h) fun b hb => ?_
 refine Ok.ite (fun _ => Ok.ret fun e => by simp at e) fun c => ?_
 have w : WfH h := hb (by simpa using c)
 have := w.len
 have := w.tree.len2
 refine Ok.mono (P := fun _ => True) ?_ fun _ _ _ => w
 refine Ok.guard (by omega) (Tj (fun k x n hn => ?_) ?_)
 ·unfold AaZ
  refine Ok.bind (Acn _ _) fun _ _ => Ok.bind (Qa _ _) fun _ _ => Ok.bind (Qa _ _) fun _ _ => ?_
  exact Ok.ite (fun _ => Ok.ret trivial) fun _ => hn
 ·unfold AaQ
  refine Ok.guard (by omega) (Tj (fun k x n hn => ?_) (Ok.ret trivial))
  have h18 : ∀ b,Tot (Ju n b) := fun b => by
   unfold Ju
   exact Ok.ite (fun _ => Ok.ret trivial) fun _ => hn
  have h17 : ∀ r b,Tot (Lr h x n r b) := fun r b => by
   unfold Lr
   refine Ok.ite (fun _ => Ok.ret trivial) fun _ => Ok.ite (fun _ => Ok.ite (fun _ => Ok.ite (fun _ => h18 _) fun _ => ?_) fun _ => ?_) fun _ => h18 _
   ·exact Ok.bind (Pb _ _) fun _ _ => h18 _
   ·exact Ok.bind (Pb _ _) fun _ _ => h18 _
  unfold AaS
  refine Ok.bind (Ev _ _) fun _ _ => Ok.bind (Pb _ _) fun _ _ => ?_
  refine Ok.ite (fun _ => Ok.ite (fun _ => h17 _ _) fun _ => ?_) fun _ => h17 _ _
  exact Ok.bind (Rn _ _) fun _ _ => h17 _ _
theorem AgK (h : Aa) (id a d : Int) : Tot (Ua h id a d) := by
 unfold Ua
 refine Ok.bind (Acu h) fun b hb => ?_
 have hf : Tot (Ih h id a d true) := Ok.ret trivial
 refine Ok.ite (fun _ => hf) fun c => ?_
 have w : WfH h := hb (by simpa using c)
 have := w.len
 have := w.tree.len2
 have hJ4 : ∀ r b,Tot (Ls h a d r b) := fun r b => by
  unfold Ls
  refine Ok.ite (fun _ => Ok.ret trivial) fun _ => ?_
  refine Ok.step (Uq h (by omega) (by omega)) ?_
  exact Ok.step (AaT h.tree _ (by omega)) (Ok.ret trivial)
 have hJ : ∀ b,Tot (Ih h id a d b) := fun b => by
  unfold Ih
  refine Ok.ite (fun _ => Ok.ret trivial) fun _ => ?_
  refine Ok.bind (Ev _ _) fun r _ => Ok.ite (fun _ => Ok.ret trivial) fun _ => ?_
  refine Ok.bind (Wq _ _) fun _ _ => Ok.ite (fun _ => Ok.ret trivial) fun _ => ?_
  refine Ok.bind (Xw _ _) fun l hl => Ok.guard (by omega) (Tj (fun k x n hn => ?_) ?_)
  ·unfold Zj
   exact Ok.bind (Ev _ _) fun _ _ => Ok.ite (fun _ => Ok.ret trivial) fun _ => hn
  ·unfold Aaf
   refine Ok.ite (fun _ => Ok.ite (fun _ => ?_) fun _ => hJ4 _ _) fun _ => hJ4 _ _
   exact Ok.bind (Rn _ _) fun _ _ => hJ4 _ _
 unfold Zv
 refine Ok.step rfl (Ok.ite (fun _ => hf) fun _ => Ok.step rfl (Ok.ite (fun _ => hf) fun _ => hJ _))
theorem Agz (h : Aa) (id a d : Int) : Ok (Rw h id a d) (fun r => r.2 = 0 → WfH r.1) := by
 unfold Rw
 have bad : ∀ (x : Aa) (n : Int),n ≠ 0 → Ok (some (x,n)) (fun r : Aa × Int => r.2 = 0 → WfH r.1) := fun x n hn => Ok.ret fun e => absurd e hn
 refine Ok.bind (Nv h) fun _ _ => Ok.ite (fun _ => bad _ _ (by decide)) fun _ => ?_
 refine Ok.bind (AgK _ _ _ _) fun r _ => Ok.ite (fun c => bad _ _ (by simpa using c)) fun _ => ?_
 refine Ok.bind (Nv r.1) fun b hb => Ok.ite (fun _ => bad _ _ (by decide)) fun c => ?_
 exact Ok.ret fun _ => hb (by simpa using c)
theorem AfY (h : Aa) (id : Int) : Ok (Qy h id) (fun r => r.2 = 0 → WfH r.1) := by
 unfold Qy
 have bad : ∀ (x : Aa) (n : Int),n ≠ 0 → Ok (some (x,n)) (fun r : Aa × Int => r.2 = 0 → WfH r.1) := fun x n hn => Ok.ret fun e => absurd e hn
 refine Ok.bind (Nv h) fun b hb => Ok.ite (fun _ => bad _ _ (by decide)) fun c => ?_
 have w : WfH h := hb (by simpa using c)
 have := w.len
 have := w.tree.len2
 have hJ : ∀ r b,Ok (Jh h id r b) (fun r => r.2 = 0 → WfH r.1) := fun r b => by
  unfold Jh
  refine Ok.ite (fun _ => bad _ _ (by decide)) fun _ => Ok.ite (fun _ => bad _ _ (by decide)) fun _ => ?_
  refine Ok.step (Uq h (by omega) (by omega)) (Ok.step (AaT h.tree _ (by omega)) ?_)
  refine Ok.bind (Rn _ _) fun _ _ => ?_
  unfold Nr
  refine Ok.ite (fun _ => bad _ _ (by decide)) fun _ => ?_
  refine Ok.bind (Nv _) fun b hb => Ok.ite (fun _ => bad _ _ (by decide)) fun c => ?_
  exact Ok.ret fun _ => hb (by simpa using c)
 refine Ok.bind (Ev _ _) fun _ _ => Ok.ite (fun _ => bad _ _ (by decide)) fun _ => Ok.ite (fun _ => bad _ _ (by decide)) fun _ => ?_
 refine Ok.bind (Ev _ _) fun _ _ => Ok.bind (Pb _ _) fun _ _ => Ok.ite (fun _ => hJ _ _) fun _ => Ok.ite (fun _ => hJ _ _) fun _ => hJ _ _
theorem AaD (h : Aa) (g : Int) : Tot (Ph h g) := by
 unfold Ph
 refine Ok.bind (Nv h) fun b hb => Ok.ite (fun _ => Ok.ret trivial) fun c => ?_
 refine Ok.bind (Ev _ _) fun _ _ => Ok.ite (fun _ => Ok.ret trivial) fun _ => ?_
 refine Ok.bind (Pb _ _) fun _ _ => Ok.ite (fun _ => Ok.ret trivial) fun _ => Ok.ite (fun _ => Ok.ret trivial) fun _ => Ok.ret trivial
theorem AbV (h : Aa) (k g : Int) : Ok (Kp h k g) (fun r => r.2 = 0 → WfH r.1) := by
 unfold Kp
 have bad : ∀ (x : Aa) (n : Int),n ≠ 0 → Ok (some (x,n)) (fun r : Aa × Int => r.2 = 0 → WfH r.1) := fun x n hn => Ok.ret fun e => absurd e hn
 refine Ok.bind (Nv h) fun b hb => Ok.ite (fun _ => bad _ _ (by decide)) fun c => ?_
 have w : WfH h := hb (by simpa using c)
 have hJ : ∀ r b,Ok (Hc h k g r b) (fun r => r.2 = 0 → WfH r.1) := fun r b => by
  unfold Hc
  refine Ok.ite (fun _ => bad _ _ (by decide)) fun _ => ?_
  refine Ok.bind (AaD _ _) fun _ _ => Ok.ite (fun c => bad _ _ (by simpa using c)) fun _ => ?_
  refine Ok.bind (Qa _ _) fun _ _ => Ok.bind (Qa _ _) fun _ _ => Ok.ite (fun _ => bad _ _ (by decide)) fun _ => ?_
  exact Ok.step (Aeb w k g) (Ok.ret fun e => AgW w rfl e)
 refine Ok.bind (Acn _ _) fun _ _ => Ok.ite (fun _ => hJ _ _) fun _ => Ok.bind (AhY _ _) fun _ _ => hJ _ _
theorem step_ok {d : Ar} (hd : Bx d) {h : Aa} (w : WfH h) : Ok (Np d h) (fun r => WfH r.1 ∧ Bx r.2) := by
 have l1 := w.len
 have l2 := w.tree.len2
 unfold Np
 refine Ok.bind (Acb hd h.tree (by omega)) fun r1 h1 => Ok.bind (AbJ h1 5 (by omega)) fun r2 h2 => ?_
 have hJ1 : ∀ y : Ar × Aa,Bx y.1 → WfH y.2 → Ok (Gi y) (fun r => WfH r.1 ∧ Bx r.2) := fun y a b => Ok.ret ⟨b,a⟩
 have hJ : ∀ b,Ok (Ix h r1 r2 b) (fun r => WfH r.1 ∧ Bx r.2) := fun b => by
  unfold Ix
  refine Ok.ite (fun _ => ?_) fun _ => Ok.ite (fun _ => ?_) fun _ => Ok.ite (fun _ => ?_) fun _ => hJ1 _ h2.1 w
  ·refine Ok.bind (AgR h2.1) fun r3 h3 => Ok.bind (Agz _ _ _ _) fun r4 h4 => Ok.ite (fun c => ?_) fun _ => hJ1 _ h3.1 w
   exact Ok.ret ⟨h4 (by simpa using c),h3.1⟩
  ·refine Ok.bind (AfY _ _) fun r4 h4 => Ok.ite (fun c => ?_) fun _ => hJ1 _ h2.1 w
   exact Ok.ret ⟨h4 (by simpa using c),h2.1⟩
  ·refine Ok.step (Pk w.tree _) (Ok.ite (fun c => ?_) fun _ => hJ1 _ h2.1 w)
   cases hg : Ul h.tree r1.1 with
   | none => rw [hg] at c; simp at c
   | some x =>
    obtain ⟨hx,hxi⟩ := Wl hg
    simp only [Option.elim_some]
    refine Ok.bind (Eu h2.1 3 (by omega) (by omega)) fun r3 h3 => ?_
    refine Ok.step (AaT _ _ (by omega)) (hJ1 _ h3.1 ?_)
    have v := w.tree.p.val x hx
    have wt := setT_wf w.tree (x := { id := x.id,parent := x.parent,name := x.name,control := x.control,kind := x.kind,owner := r3.1 }) hx rfl rfl rfl ⟨v.kind,v.c1,v.c2,h3.2.1,by simp only; omega⟩ (fun e => by
     rcases w.tree.p.par x hx with ⟨_,r⟩ | ⟨a,b,_⟩
     ·exact r.kind
     ·omega)
    refine ⟨wt,w.len,w.n1,w.n2,w.sorted,w.lt,fun y hy => ?_⟩
    have u := w.val y hy
    refine ⟨u.pos,?_,u.u1,u.u2,u.ldr⟩
    obtain ⟨z,hz,hzi⟩ := hasN_iff.mp u.grp
    refine hasN_iff.mpr ⟨Xn _ z,List.mem_map.mpr ⟨z,hz,rfl⟩,?_⟩
    unfold Xn
    split
    ·rename_i q
     have q : z.id = x.id := by simpa using q
     simp only
     omega
    ·exact hzi
 exact Ok.ite (fun _ => hJ _) fun _ => hJ _
theorem Ais {d : Ar} (hd : Bx d) (n m : Int) (n0 : 0 ≤ n) (n1 : n ≤ 100) (m0 : 0 ≤ m) (m1 : m ≤ 100) : Ok (Is d n m) (fun r => WfH r.1 ∧ Bx r.2) := by
 unfold Is
 refine Ok.step (a := { tree := newT,tasks := [],next := 1 }) rfl ?_
 refine Ok.bind (Tree_ok hd n n0 (by omega)) fun r1 ⟨w1,h1⟩ => ?_
 rw [Ax (by omega) (by omega)]
 refine Ok.bind (Eu h1 (n + 3) (by omega) (by omega)) fun r2 ⟨h2,a1,a2⟩ => ?_
 refine Ok.while (fun s => Bx s.1 ∧ WfH s.2.1 ∧ s.2.2 ≤ 2000) (fun s => s.2.2.toNat) ⟨h2,?_,by simp only; omega⟩ (by rw [Dc]; simp only; omega) ?_
 ·exact ⟨w1,by simp,by simp,by simp,by simp,by simp,by simp⟩
 rintro ⟨d,h,c⟩ k ⟨b1,b2,b3⟩ hk
 simp only at b1 b2 b3 hk
 unfold Nn
 simp only
 refine Ok.ite (fun c1 => ?_) fun _ => ?_
 ·have hc := of_decide_eq_true c1
  refine Ok.bind (step_ok b1 b2) fun r3 h3 => ?_
  rw [Ax (by omega) (by omega)]
  exact hk _ ⟨h3.2,h3.1,by simp only; omega⟩ (by simp only; omega)
 rw [Ax (by omega) (by omega)]
 refine Ok.bind (Eu b1 (m + 1) (by omega) (by omega)) fun r3 ⟨h3,a3,a4⟩ => ?_
 clear hk
 refine Ok.while (fun s => Bx s.1 ∧ WfH s.2.1 ∧ s.2.2 ≤ 2000) (fun s => s.2.2.toNat) ⟨h3,b2,by simp only; omega⟩ (by rw [Dc]; simp only; omega) ?_
 clear b1 b2 b3
 rintro ⟨d,h,c⟩ k ⟨b1,b2,b3⟩ hk
 simp only at b1 b2 b3 hk
 unfold Nj
 simp only
 refine Ok.ite (fun c1 => ?_) fun _ => Ok.ret ⟨b2,b1⟩
 have hc := of_decide_eq_true c1
 have l1 := b2.len
 have l2 := b2.tree.len2
 have hw : w64 (c - 1) = c - 1 := Ax (by omega) (by omega)
 have hJ13 : ∀ y : Ar × Aa,Bx y.1 → WfH y.2 → Ok (Dh (d,h,c) k y) (fun r => WfH r.1 ∧ Bx r.2) := fun y y1 y2 => by
  unfold Dh
  simp only
  rw [hw]
  exact hk _ ⟨y1,y2,by simp only; omega⟩ (by simp only; omega)
 have hJ16 : ∀ y : Ar × Aa,Bx y.1 → WfH y.2 → Ok (Eo (d,h,c) k y) (fun r => WfH r.1 ∧ Bx r.2) := fun y y1 y2 => by
  unfold Eo
  refine Ok.bind (Vw y1 8 (by omega)) fun r4 h4 => Ok.ite (fun _ => ?_) fun _ => hJ13 _ h4 y2
  have := y2.len
  refine Ok.bind (AgG h4 _ (by omega)) fun r5 h5 => Ok.step (AiI y2 _) (Ok.ite (fun c => ?_) fun _ => hJ13 _ h5 y2)
  exact hJ13 _ h5 (exitK_wf y2 rfl (by simpa using c))
 have hJ15 : ∀ y : Ar × Aa,Bx y.1 → WfH y.2 → Ok (En (d,h,c) k y) (fun r => WfH r.1 ∧ Bx r.2) := fun y y1 y2 => by
  unfold En
  refine Ok.bind (Vw y1 4 (by omega)) fun r4 h4 => Ok.ite (fun _ => ?_) fun _ => hJ16 _ h4 y2
  have := y2.len
  have := y2.tree.len2
  refine Ok.bind (AgG h4 _ (by omega)) fun r5 h5 => Ok.bind (Acb h5 _ (by omega)) fun r6 h6 => Ok.bind (AbV _ _ _) fun r7 h7 => Ok.ite (fun c => ?_) fun _ => hJ16 _ h6 y2
  exact hJ16 _ h6 (h7 (by simpa using c))
 have hJ14 : ∀ (r : Int × Ar) (y : Aa),Bx r.2 → WfH y → Ok (Fv (d,h,c) k r y) (fun r => WfH r.1 ∧ Bx r.2) := fun r y y1 y2 => by
  unfold Fv
  refine Ok.bind (Vw y1 3 (by omega)) fun r4 h4 => Ok.ite (fun _ => ?_) fun _ => hJ15 _ h4 y2
  have := y2.len
  refine Ok.bind (AgG h4 _ (by omega)) fun r5 h5 => Ok.step (Aij y2 _) (Ok.ite (fun c => ?_) fun _ => hJ15 _ h5 y2)
  exact hJ15 _ h5 (cloneK_wf y2 rfl (by simpa using c))
 refine Ok.bind (Acb b1 _ (by omega)) fun r4 h4 => Ok.bind (AaD _ _) fun _ _ => Ok.ite (fun _ => hJ13 _ h4 b2) fun _ => ?_
 refine Ok.bind (Eu h4 3 (by omega) (by omega)) fun r5 h5 => Ok.step (Aia b2 _ _) (Ok.ite (fun c => ?_) fun _ => hJ14 _ _ h5.1 b2)
 exact hJ14 _ _ h5.1 (spawnK_wf b2 rfl (by simpa using c))
end Go.Dm

/- Plain theory, part 10: the program's own Check of trees. -/
namespace Go.Dm
theorem AeY (bs : ByteArray) (i : Nat) (r : List UInt8) : ByteArray.toList.loop bs i r = r.reverse ++ bs.data.toList.drop i := by
 by_cases h : i < bs.size
 ·rw [ByteArray.toList.loop,if_pos h,AeY bs (i + 1)]
  have hd : bs.data.toList.drop i = bs.get! i :: bs.data.toList.drop (i + 1) := by
   rw [List.drop_eq_getElem_cons (show i < bs.data.toList.length from h)]
   congr 1
   have : bs.get! i = bs.data[i]! := rfl
   rw [this,getElem!_pos bs.data i h]
   simp
  rw [hd]
  simp
 ·rw [ByteArray.toList.loop,if_neg h,List.drop_of_length_le (by simpa using h)]
  simp
termination_by bs.size - i
theorem AiC (bs : ByteArray) : bs.toList = bs.data.toList := by
 unfold ByteArray.toList
 rw [AeY]
 simp
theorem beqS_eq {a b : ByteArray} (h : Dr a b = true) : a = b := by
 simp only [Dr,beq_iff_eq,AiC] at h
 exact ByteArray.ext (Array.toList_inj.mp h)
theorem AhS {c : Int} (h0 : 0 ≤ c) (h : c ≤ 31) : Eb .i64 c 31 = 0 := by
 have : ∀ n : Fin 32,Eb .i64 ((n.val : Nat) : Int) 31 = 0 := by decide
 have := this ⟨c.toNat,by omega⟩
 simpa [Int.toNat_of_nonneg h0] using this
theorem AhF {c : Int} (h : 31 < c) (hc : c < 9223372036854775808) : Eb .i64 c 31 ≠ 0 := by
 obtain ⟨n,rfl⟩ : ∃ n : Nat,c = (n : Int) := ⟨c.toNat,by omega⟩
 intro e
 unfold Eb at e
 have hb : IntKind.i64.bits = 64 := rfl
 rw [hb] at e
 generalize hx : (BitVec.ofInt 64 (n : Int) &&& ~~~(BitVec.ofInt 64 31)) = x at e
 have hn : ∀ i,5 ≤ i → n.testBit i = false := by
  intro i hi
  by_cases h63 : i < 63
  ·have h0 : x.toNat < 2 ^ 64 := x.isLt
   have hle : x.toNat ≤ n := by
    rw [← hx,BitVec.toNat_and]
    refine Nat.le_trans Nat.and_le_left ?_
    rw [BitVec.ofInt_natCast,BitVec.toNat_ofNat]
    exact Nat.mod_le _ _
   have hw : IntKind.i64.wrap ((x.toNat : Nat) : Int) = ((x.toNat : Nat) : Int) := Aaz (by omega) (by omega)
   rw [hw] at e
   have hx0 : x = 0#64 := by
    apply BitVec.eq_of_toNat_eq
    simp
    omega
   have : x.getLsbD i = false := by rw [hx0]; simp
   rw [← hx,BitVec.getLsbD_and,BitVec.getLsbD_not] at this
   have h31 : (BitVec.ofInt 64 31).getLsbD i = false := by
    have : (BitVec.ofInt 64 31) = BitVec.ofNat 64 31 := rfl
    rw [this,BitVec.getLsbD_ofNat]
    have : Nat.testBit 31 i = false := Nat.testBit_lt_two_pow (Nat.lt_of_lt_of_le (by decide : 31 < 2 ^ 5) (Nat.pow_le_pow_right (by decide) hi))
    simp [this]
   rw [h31] at this
   have e2 : (BitVec.ofInt 64 (n : Int)).getLsbD i = n.testBit i := by
    rw [BitVec.ofInt_natCast,BitVec.getLsbD_ofNat]
    simp
    omega
   rw [e2] at this
   have h64 : i < 64 := by omega
   simpa [h64] using this
  ·exact Nat.testBit_lt_two_pow (Nat.lt_of_lt_of_le (show n < 2 ^ 63 by omega) (Nat.pow_le_pow_right (by decide) (by omega)))
 have : n < 2 ^ 5 := Nat.lt_pow_two_of_testBit n hn
 omega
theorem Ahn (s : ByteArray) (h : s.size ≤ 9223372036854775807) : Tz s = some (El s) := by
 apply Ok.eq
 unfold Tz
 refine Ok.guard (by rw [Pa]; exact h) ?_
 refine Ok.range (fun pre _ => pre.all Ns = true) rfl ?_ ?_
 ·intro pre x post _ n e hI hn
  unfold Aag Yc
  refine Ok.step rfl ?_
  refine Ok.ite (fun c => ?_) fun c => ?_
  ·refine Ok.ret ?_
   have : (Ie s).all Ns = false := by
    rw [e,List.all_append,List.all_cons]
    have : Ns x = false := by simpa only [Ns,Bool.not_eq_true'] using c
    simp [this]
   simp [El,this]
  ·refine hn () ?_
   have : Ns x = true := by simpa only [Ns,Bool.not_eq_false'] using c
   rw [List.all_append,hI]
   simp [this]
 ·intro _ hI
  unfold Zl Nl
  refine Ok.ite (fun c => ?_) fun c => ?_
  ·have hs : 0 < s.size := by
    rcases Nat.eq_zero_or_pos s.size with h0 | h0
    ·exfalso
     have : s = ByteArray.empty := by
      apply ByteArray.ext
      apply Array.ext
      ·exact h0
      ·intro i h1 h2
       simp at h2
     rw [this] at c
     simp [Ahh] at c
    ·exact h0
   refine Ok.ite (fun c2 => ?_) fun c2 => ?_
   ·have := of_decide_eq_true c2
    refine Ok.guard hs (Ok.ret ?_)
    have h32 : s.size ≤ 32 := by omega
    simp [El,hs,h32,hI]
   ·have := of_decide_eq_false c2
    refine Ok.ret ?_
    have h32 : ¬ s.size ≤ 32 := by omega
    simp [El,h32]
  ·refine Ok.ret ?_
   have : s.size = 0 := by
    rw [beqS_eq (a := s) (b := ByteArray.empty) (by simpa using c)]
    rfl
   simp [El,this]
end Go.Dm

/- Plain theory, part 11: the program's Check of trees is the document's. -/
namespace Go.Dm
def NodeM (x : An) : Prop := x.name.size ≤ 9223372036854775807 ∧ x.control < 9223372036854775808
theorem AhC {pre : List An} {y x : An} (hl : pre.length ≤ 1000000) (hx : NodeM x) :
  Wv (pre ++ [y]) x = some (decide (y.id < x.id) && El x.name && (x.kind == 0 || x.kind == 1) && (pre ++ [y]).any (fun k => k.id == x.parent) && (pre ++ [y]).all (fun k => !(k.parent == x.parent && Dr k.name x.name))) := by
 apply Ok.eq
 unfold Wv
 have hw : w64 (((pre ++ [y]).length : Int) - 1) = (pre.length : Int) := by
  rw [Ax (by simp) (by simp; omega)]
  simp
 have ey : (pre ++ [y]).getD (Int.toNat (pre.length : Int)) default = y := by
  rw [show Int.toNat (pre.length : Int) = pre.length by omega]
  exact AbT (post := [])
 rw [hw,ey]
 refine Ok.guard (by simp; omega) ?_
 refine Ok.ite (fun c => ?_) fun c => ?_
 ·have := of_decide_eq_true c
  have : ¬ y.id < x.id := by omega
  refine Ok.ret ?_
  simp [this]
 have hlt : y.id < x.id := by
  have := of_decide_eq_false c
  omega
 refine Ok.step (Ahn _ hx.1) ?_
 refine Ok.ite (fun c => ?_) fun c => ?_
 ·refine Ok.ret ?_
  have : El x.name = false := by simpa using c
  simp [this]
 have hv : El x.name = true := by simpa using c
 have hloop : (x.kind == 0 || x.kind == 1) = true → Ok (Jo (pre ++ [y]) x false) (· = (decide (y.id < x.id) && El x.name && (x.kind == 0 || x.kind == 1) && (pre ++ [y]).any (fun k => k.id == x.parent) && (pre ++ [y]).all (fun k => !(k.parent == x.parent && Dr k.name x.name)))) := by
  intro hk
  rw [hk,hv]
  simp only [hlt,decide_true,Bool.and_self,Bool.true_and]
  have hlp : (pre ++ [y]).length ≤ 9223372036854775807 := by simp; omega
  generalize pre ++ [y] = P at *
  unfold Jo
  refine Ok.guard hlp ?_
  refine Ok.range (fun pre s => s = pre.any (fun k => k.id == x.parent) ∧ pre.all (fun k => !(k.parent == x.parent && Dr k.name x.name)) = true) ⟨rfl,rfl⟩ ?_ ?_
  ·intro q z post s n e hI hn
   unfold Abg
   refine Ok.ite (fun c => ?_) fun c => ?_
   ·refine Ok.ret ?_
    have : P.all (fun k => !(k.parent == x.parent && Dr k.name x.name)) = false := by
     rw [e,List.all_append,List.all_cons,c]
     simp
    rw [this,Bool.and_false]
   ·refine hn _ ⟨?_,?_⟩
    ·rw [List.any_append,← hI.1]
     simp
    ·rw [List.all_append,hI.2,List.all_cons,c]
     rfl
  ·intro s hI
   refine Ok.ret ?_
   rw [hI.2,Bool.and_true]
   exact hI.1
 have hbad : (x.kind == 0 || x.kind == 1) = false → Ok (Jo (pre ++ [y]) x true) (· = (decide (y.id < x.id) && El x.name && (x.kind == 0 || x.kind == 1) && (pre ++ [y]).any (fun k => k.id == x.parent) && (pre ++ [y]).all (fun k => !(k.parent == x.parent && Dr k.name x.name)))) := by
  intro hk
  refine Ok.ret ?_
  rw [hk]
  simp
 refine Ok.ite (fun c => ?_) fun c => ?_
 ·have h0 : ¬ x.kind = 0 := by simpa using c
  by_cases h1 : x.kind = 1
  ·have : (x.kind != 1) = false := by simp [h1]
   rw [this]
   exact hloop (by simp [h1])
  ·have : (x.kind != 1) = true := by simpa using h1
   rw [this]
   exact hbad (by simp [h0,h1])
 ·exact hloop (by
   have : x.kind = 0 := by simpa using c
   simp [this])
theorem nodes_pre {L pre post : List An} {x : An} (h : WfP L) (e : L = pre ++ x :: post) (hp : pre ≠ []) : WfP pre ∧ Rg x ∧ NodeS pre x := by
 induction h generalizing post with
 | root z v r =>
  exfalso
  have : (pre ++ x :: post).length = 1 := by rw [← e]; rfl
  simp at this
  have := List.length_pos_iff.mpr hp
  omega
 | snoc L z w v s ih =>
  rcases Jp post with rfl | ⟨p',u,rfl⟩
  ·have := List.append_inj' (s₁ := L) (t₁ := [z]) (s₂ := pre) (t₂ := [x]) (by simpa using e) rfl
   obtain ⟨rfl,e2⟩ := this
   obtain rfl : z = x := by simpa using e2
   exact ⟨w,v,s⟩
  ·have e2 : L ++ [z] = (pre ++ x :: p') ++ [u] := by simpa using e
   have := List.append_inj' e2 rfl
   exact ih this.1
theorem up_pre {L pre post : List An} (h : WfP L) (e : L = pre ++ post) (hp : WfP pre) {x : An} (hx : x ∈ pre) : upR L.reverse x.id = upR pre.reverse x.id := by
 rw [e,List.reverse_append]
 refine Xl fun y hy => ?_
 have hs := h.sorted
 rw [e,List.pairwise_append] at hs
 have := hs.2.2 x hx y (by simpa using hy)
 omega
theorem AcH (t : Ag) (hm : ∀ x ∈ t.nodes,NodeM x) : Ok (Oi t) (fun b => b = true ↔ WfT t) := by
 have bad : ¬ WfT t → Ok (some false) (fun b => b = true ↔ WfT t) := fun hn => Ok.ret ⟨fun e => by simp at e,fun w => absurd w hn⟩
 unfold Oi
 refine Ok.ite (fun c => ?_) fun c => ?_
 ·have := of_decide_eq_true c
  exact bad fun w => by have := w.len1; omega
 have l1 := of_decide_eq_false c
 refine Ok.ite (fun c => ?_) fun c => ?_
 ·have := of_decide_eq_true c
  exact bad fun w => by have := w.len2; omega
 have l2 := of_decide_eq_false c
 refine Ok.guard (by omega) ?_
 unfold Aav
 refine Ok.step rfl ?_
 unfold Nq
 have hroot0 : WfT t → ((((t.nodes.getD 0 default).id == 1 && (t.nodes.getD 0 default).parent == 0) && Dr (t.nodes.getD 0 default).name ByteArray.empty) && (t.nodes.getD 0 default).kind == 0) = true := by
  intro w
  obtain ⟨x,r,e,hr⟩ := w.root
  rw [e]
  simp [hr.id,hr.parent,hr.name,hr.kind]
 refine Ok.ite (fun c => ?_) fun c => ?_
 ·exact bad fun w => by rw [hroot0 w] at c; simp at c
 have hR : Aan (t.nodes.getD 0 default) := by
  simp only [Bool.not_eq_false',Bool.and_eq_true,beq_iff_eq] at c
  exact ⟨c.1.1.1,c.1.1.2,c.1.2,c.2⟩
 refine Ok.guard (by omega) ?_
 refine Ok.range (fun pre s => (pre = [] ∧ ∀ i,s.get i = 0) ∨ (WfP pre ∧ (∀ y ∈ pre,s.get y.id = ((upR pre.reverse y.id).length : Int) - 1 ∧ (upR pre.reverse y.id).length ≤ 9) ∧ ∀ i,(∀ y ∈ pre,y.id ≠ i) → s.get i = 0)) (.inl ⟨rfl,fun i => rfl⟩) ?_ ?_
 ·intro pre x post s n he hI hn
  have hxm : x ∈ t.nodes := by rw [he]; simp
  have hJ : ∀ b,(b = true → ¬ WfT t) → (b = false → Rg x ∧ (pre ≠ [] → NodeS pre x)) → (Rg x → pre = [] → Aan x) → Ok (Gf pre.length x s n b) (fun b => b = true ↔ WfT t) := by
   intro b hbt hbf hroot
   unfold Gf
   refine Ok.ite (fun c => bad (hbt c)) fun c => ?_
   obtain ⟨hv,hs⟩ := hbf c
   unfold Qr
   rcases hI with ⟨rfl,hz⟩ | ⟨hw,hd,hz⟩
   ·simp only [List.length_nil,Int.ofNat_eq_natCast,Int.cast_ofNat_Int,gt_iff_lt,Int.lt_irrefl,decide_false,Bool.false_eq_true,if_false]
    rw [hz]
    simp only [Int.reduceLT,decide_false,Bool.false_eq_true,if_false]
    have hr := hroot hv rfl
    refine hn _ (.inr ⟨.root x hv hr,?_,fun i _ => hz i⟩)
    intro y hy
    obtain rfl : y = x := by simpa using hy
    rw [hz]
    simp [upR,hr.parent]
   ·have hne : pre ≠ [] := by
     intro e
     have := hw.pos
     simp [e] at this
    have hs := hs hne
    have hpos := hw.pos
    have hgt : decide (((pre.length : Nat) : Int) > 0) = true := by simp; omega
    rw [hgt]
    simp only [if_true]
    obtain ⟨p,hp,hpp⟩ := hs.parent
    have hdp := hd p hp
    rw [hpp] at hdp
    have hup : upR (pre ++ [x]).reverse x.id = x.id :: upR pre.reverse x.parent := by
     rw [List.reverse_append,List.reverse_cons,List.reverse_nil,List.nil_append,List.singleton_append,upR,if_pos (by simp)]
    have hgx : (s.set x.id (w64 (s.get x.parent + 1))).get x.id = ((upR pre.reverse x.parent).length : Int) := by
     rw [Abj,if_pos rfl,hdp.1,Ax (by omega) (by omega)]
     omega
    have hwx : WfP (pre ++ [x]) := .snoc pre x hw hv hs
    refine Ok.ite (fun c => ?_) fun c => ?_
    ·refine bad fun w => ?_
     have := of_decide_eq_true c
     rw [hgx] at this
     have hdx := w.depth x hxm
     unfold upT at hdx
     rw [up_pre w.p (show t.nodes = (pre ++ [x]) ++ post by rw [he]; simp) hwx (by simp),hup] at hdx
     simp at hdx
     omega
    ·have hle := of_decide_eq_false c
     rw [hgx] at hle
     refine hn _ (.inr ⟨hwx,?_,?_⟩)
     ·intro y hy
      rcases List.mem_append.mp hy with hy | hy
      ·have hlt := hs.lt y hy
       rw [Abj,if_neg (by omega),Ado (by omega)]
       exact hd y hy
      ·obtain rfl : y = x := by simpa using hy
       rw [hgx,hup]
       simp
       omega
     ·intro i hi
      have := hi x (by simp)
      rw [Abj,if_neg (by omega)]
      exact hz i fun y hy => hi y (by simp [hy])
  have hroot : Rg x → pre = [] → Aan x := by
   intro _ e
   subst e
   rw [he] at hR
   exact hR
  unfold Zn
  have hbad : ∀ P : Prop,(WfT t → P) → ¬ P → Ok (Gf pre.length x s n true) (fun b => b = true ↔ WfT t) := fun P h1 h2 => hJ true (fun _ w => h2 (h1 w)) (by simp) hroot
  refine Ok.ite (fun c => ?_) fun c => ?_
  ·have := of_decide_eq_true c
   exact hbad (0 ≤ x.control) (fun w => (w.p.val x hxm).c1) (by omega)
  have c1 := of_decide_eq_false c
  refine Ok.ite (fun c => ?_) fun c => ?_
  ·refine hbad (x.control ≤ 31) (fun w => (w.p.val x hxm).c2) fun h => ?_
   rw [AhS (by omega) h] at c
   simp at c
  have c2 : x.control ≤ 31 := by
   by_cases h : x.control ≤ 31
   ·exact h
   ·have := AhF (c := x.control) (by omega) (hm x hxm).2
    have c' : Eb .i64 x.control 31 = 0 := by simpa using c
    exact absurd c' this
  refine Ok.ite (fun c => ?_) fun c => ?_
  ·have := of_decide_eq_true c
   exact hbad (0 ≤ x.owner) (fun w => (w.p.val x hxm).o1) (by omega)
  have o1 := of_decide_eq_false c
  refine Ok.ite (fun c => ?_) fun c => ?_
  ·have := of_decide_eq_true c
   exact hbad (x.owner ≤ 1048576) (fun w => (w.p.val x hxm).o2) (by omega)
  have o2 := of_decide_eq_false c
  refine Ok.ite (fun c => ?_) fun c => ?_
  ·have hk := of_decide_eq_true c
   have hle : pre.length ≤ t.nodes.length := by rw [he]; simp
   refine Ok.guard (by omega) ?_
   have ht : t.nodes.take pre.length = pre := by rw [he]; simp
   rw [ht]
   rcases Jp pre with rfl | ⟨pr,y,rfl⟩
   ·simp at hk
   have hw : WfP (pr ++ [y]) := by
    rcases hI with ⟨e,_⟩ | ⟨h,_⟩
    ·simp at e
    ·exact h
   refine Ok.step (AhC (by simp at hle; omega) (hm x hxm)) ?_
   refine hJ _ ?_ ?_ hroot
   ·intro hb w
    obtain ⟨_,v,s⟩ := nodes_pre w.p he (by simp)
    have a1 := s.lt y (by simp)
    have a2 := s.valid
    have a3 : (x.kind == 0 || x.kind == 1) = true := by
     rcases v.kind with h | h <;> simp [h]
    have a4 : (pr ++ [y]).any (fun k => k.id == x.parent) = true := by
     obtain ⟨p,hp,hpp⟩ := s.parent
     exact List.any_eq_true.mpr ⟨p,hp,by simp [hpp]⟩
    have a5 : (pr ++ [y]).all (fun k => !(k.parent == x.parent && Dr k.name x.name)) = true := by
     rw [List.all_eq_true]
     intro k hk
     by_cases q : k.parent = x.parent
     ·simp [s.fresh k hk q]
     ·simp [q]
    simp only [a1,a2,a3,a4,a5,decide_true] at hb
    simp at hb
   ·intro hb
    simp only [Bool.not_eq_false',Bool.and_eq_true,decide_eq_true_eq,List.any_eq_true,List.all_eq_true,beq_iff_eq,Bool.or_eq_true] at hb
    obtain ⟨⟨⟨⟨a1,a2⟩,a3⟩,a4⟩,a5⟩ := hb
    refine ⟨⟨a3,by omega,c2,by omega,by omega⟩,fun _ => ⟨?_,a2,a4,?_⟩⟩
    ·intro z hz
     have hs := hw.sorted
     rw [List.pairwise_append] at hs
     rcases List.mem_append.mp hz with hz | hz
     ·have := hs.2.2 z hz y (by simp)
      omega
     ·obtain rfl : z = y := by simpa using hz
      exact a1
    ·intro z hz hp
     have := a5 z hz
     simpa [hp] using this
  ·have hk := of_decide_eq_false c
   have e : pre = [] := List.length_eq_zero_iff.mp (by omega)
   refine hJ false (by simp) (fun _ => ⟨?_,fun h => absurd e h⟩) hroot
   subst e
   rw [he] at hR
   exact ⟨.inl hR.kind,by omega,c2,by omega,by omega⟩
 ·intro s hI
  unfold Zh Ot
  have hw : w64 ((t.nodes.length : Int) - 1) = ((t.nodes.length - 1 : Nat) : Int) := by
   rw [Ax (by omega) (by omega)]
   omega
  rw [hw]
  refine Ok.guard (by omega) ?_
  have : Int.toNat ((t.nodes.length - 1 : Nat) : Int) = t.nodes.length - 1 := by omega
  rw [this]
  rcases hI with ⟨e,_⟩ | ⟨hp,hd,_⟩
  ·rw [e] at l1; simp at l1
  refine Ok.ite (fun c => ?_) fun c => ?_
  ·have hc := of_decide_eq_true c
   refine Ok.ret ⟨fun e => ?_,fun w => ?_⟩
   ·exact ⟨by omega,by omega,hp.split,fun x hx => (hd x hx).2,hc,by simpa using e⟩
   ·simpa using w.nextLe
  ·have := of_decide_eq_false c
   exact bad fun w => by have := w.last; omega
theorem WfP.names {L : List An} (h : WfP L) : ∀ x ∈ L,NodeM x := by
 intro x hx
 have v := h.val x hx
 refine ⟨?_,by have := v.c2; omega⟩
 rcases h.par x hx with ⟨_,r⟩ | ⟨_,_,_,hv⟩
 ·rw [beqS_eq r.name]
  decide
 ·simp only [El,Bool.and_eq_true,decide_eq_true_eq] at hv
  omega
theorem AhU {t : Ag} (w : WfT t) : Oi t = some true := by
 obtain ⟨b,hb,e⟩ := AcH t w.p.names
 rw [hb,e.mpr w]
end Go.Dm

/- Plain theory, part 12: subtrees. -/
namespace Go.Dm
theorem Vz {α : Type} {p : α → Bool} {xs : List α} {body : Nat → α → Unit → (Unit → Option Int) → Option Int} {done : Unit → Option Int}
  (hb : ∀ k x n,body k x () n = if p x then some ((k : Nat) : Int) else n ()) (hd : done () = some (-1)) : Bi body done xs 0 () = some ((xs.findIdx? p).elim (-1) (fun i => (i : Int))) := by
 have key : ∀ (ys : List α) (k : Nat),Bi body done ys k () = some ((ys.findIdx? p).elim (-1) (fun i => ((i + k : Nat) : Int))) := by
  intro ys
  induction ys with
  | nil => intro k; simp [Bi,hd]
  | cons x r ih =>
   intro k
   rw [Bi,hb,List.findIdx?_cons]
   cases hp : p x
   ·simp only [Bool.false_eq_true,if_false]
    rw [ih (k + 1)]
    cases r.findIdx? p with
    | none => rfl
    | some i =>
     simp only [Option.map_some,Option.elim_some]
     congr 2
     omega
   ·simp
 have := key xs 0
 simpa using this
theorem Ws {α : Type} (p : α → Bool) (xs : List α) (d : α) :
  (∃ i,i < xs.length ∧ xs.findIdx? p = some i ∧ xs.find? p = some (xs.getD i d)) ∨ (xs.findIdx? p = none ∧ xs.find? p = none) := by
 induction xs with
 | nil => exact .inr ⟨rfl,rfl⟩
 | cons x r ih =>
  rw [List.findIdx?_cons,List.find?_cons]
  cases hp : p x
  ·rcases ih with ⟨i,h1,h2,h3⟩ | ⟨h1,h2⟩
   ·refine .inl ⟨i + 1,by simp; omega,?_,?_⟩
    ·simp [h2]
    ·simpa using h3
   ·refine .inr ⟨?_,?_⟩
    ·simp [h1]
    ·simpa using h2
  ·exact .inl ⟨0,by simp,by simp,by simp⟩
theorem Ajk (h : Aa) (id : Int) (hl : h.tasks.length ≤ 1000000) : Abo h id = some ((h.tasks.findIdx? (fun x => x.id == id)).elim (-1) (fun i => (i : Int))) := by
 unfold Abo Fs
 rw [if_pos (by omega),Vz (p := fun x : Aw => x.id == id) (fun k x n => rfl) rfl]
 rfl
theorem AdT (h : Aa) (id : Int) (hl : h.tasks.length ≤ 1000000) : Qz h id = some ((Er h.tasks id).elim (zK,false) (fun x => (x,true))) := by
 unfold Qz Er
 rw [Ajk h id hl,Option.bind_some]
 rcases Ws (fun x : Aw => x.id == id) h.tasks default with ⟨i,h1,h2,h3⟩ | ⟨h1,h2⟩
 ·rw [h2,h3,Option.elim_some,Option.elim_some,if_neg (by simp),if_pos (by omega),show Int.toNat (i : Int) = i by omega]
 ·rw [h1,h2]
  rfl
theorem Ady (t : Ag) (id : Int) (hl : t.nodes.length ≤ 1000000) : Ob t id = some ((t.nodes.findIdx? (fun x => x.id == id)).elim (-1) (fun i => (i : Int))) := by
 unfold Ob Fe
 rw [if_pos (by omega),Vz (p := fun x : An => x.id == id) (fun k x n => rfl) rfl]
 rfl
theorem AgP (t : Ag) (id : Int) (hl : t.nodes.length ≤ 1000000) : Sm t id = some ((Ul t id).elim (zN,false) (fun x => (x,true))) := by
 unfold Sm Ul
 rw [Ady t id hl,Option.bind_some]
 rcases Ws (fun x : An => x.id == id) t.nodes default with ⟨i,h1,h2,h3⟩ | ⟨h1,h2⟩
 ·rw [h2,h3,Option.elim_some,Option.elim_some,if_neg (by simp),if_pos (by omega),show Int.toNat (i : Int) = i by omega]
 ·rw [h1,h2]
  rfl
theorem Acp (t : Ag) (id : Int) (hl : t.nodes.length ≤ 1000000) : Ok (Ob t id) (fun i => decide (i < 0) = !Gu t id ∧ decide (i ≥ 0) = Gu t id) := by
 refine Ok.of_eq (Ady t id hl) ?_
 unfold Gu Ul
 rcases Ws (fun x : An => x.id == id) t.nodes default with ⟨i,h1,h2,h3⟩ | ⟨h1,h2⟩
 ·rw [h2,h3]
  have : ¬ (i : Int) < 0 := by omega
  simp [this]
 ·rw [h1,h2]
  simp
theorem AdU (t : Ag) (id : Int) (hl : t.nodes.length ≤ 1000000) : Mj t id = some (Jr t id) := by
 unfold Mj
 rw [if_pos (by omega)]
 refine (Hn (p := fun x : An => x.parent == id) (f := fun x : An => x.id) (r := some) ?_ (fun _ => rfl) (by simp; omega)).trans (by simp [Jr])
 intro k x s n hs
 unfold Rs Ks
 rw [if_pos hs]
theorem Afq {α : Type} [DecidableEq α] : ∀ {l m : List α},l.Nodup → (∀ x ∈ l,x ∈ m) → l.length ≤ m.length
 | [],_,_,_ => by simp
 | a :: r,m,hn,hs => by
  rw [List.nodup_cons] at hn
  have ha := hs a (by simp)
  have := Afq (l := r) (m := m.erase a) hn.2 fun x hx => by
   have hne : x ≠ a := fun e => hn.1 (by rw [← e]; exact hx)
   rw [List.mem_erase_of_ne hne]
   exact hs x (by simp [hx])
  rw [List.length_erase_of_mem ha] at this
  have := List.length_pos_of_mem ha
  simp
  omega
theorem WfT.id_pos {t : Ag} (w : WfT t) {x : An} (h : x ∈ t.nodes) : 1 ≤ x.id := w.p.ge1 x h
theorem WfT.par_lt {t : Ag} (w : WfT t) {x : An} (h : x ∈ t.nodes) : x.parent < x.id := by
 rcases w.p.par x h with ⟨h1,r⟩ | ⟨_,h2,_⟩
 ·rw [r.parent]; omega
 ·exact h2
theorem Ri {t : Ag} {x k : Int} (h : k ∈ upT t x) : ∃ n ∈ t.nodes,n.id = x := by
 by_cases e : ∃ n ∈ t.nodes,n.id = x
 ·exact e
 ·have : upT t x = [] := Aff fun n hn hx => e ⟨n,by simpa using hn,hx⟩
  rw [this] at h
  simp at h
theorem WfT.induct {t : Ag} (w : WfT t) {P : An → Prop} (step : ∀ x ∈ t.nodes,(∀ y ∈ t.nodes,y.id = x.parent → P y) → P x) : ∀ x ∈ t.nodes,P x := by
 have key : ∀ (n : Nat),∀ x ∈ t.nodes,x.id.toNat < n → P x := by
  intro n
  induction n with
  | zero => intro x _ h; omega
  | succ n ih =>
   intro x hx h
   refine step x hx fun y hy e => ih y hy ?_
   have := w.par_lt hx
   have := w.id_pos hx
   omega
 intro x hx
 exact key _ x hx (Nat.lt_succ_self _)
theorem up_le {t : Ag} (w : WfT t) : ∀ x ∈ t.nodes,∀ k ∈ upT t x.id,k ≤ x.id := by
 refine w.induct fun x hx ih k hk => ?_
 rw [w.up hx] at hk
 rcases List.mem_cons.mp hk with rfl | hk
 ·exact Int.le_refl _
 ·obtain ⟨y,hy,e⟩ := Ri hk
  rw [← e] at hk
  have := ih y hy e k hk
  have := w.par_lt hx
  omega
theorem Ags {t : Ag} (w : WfT t) {x : An} (hx : x ∈ t.nodes) : x.id ∈ upT t x.id := by
 rw [w.up hx]
 simp
theorem up_mem {t : Ag} (w : WfT t) : ∀ x ∈ t.nodes,∀ k ∈ upT t x.id,∃ n ∈ t.nodes,n.id = k := by
 refine w.induct fun x hx ih k hk => ?_
 rw [w.up hx] at hk
 rcases List.mem_cons.mp hk with rfl | hk
 ·exact ⟨x,hx,rfl⟩
 ·obtain ⟨y,hy,e⟩ := Ri hk
  rw [← e] at hk
  exact ih y hy e k hk
theorem up_trans {t : Ag} (w : WfT t) {k y : Int} (h2 : k ∈ upT t y) : ∀ x ∈ t.nodes,y ∈ upT t x.id → k ∈ upT t x.id := by
 refine w.induct fun x hx ih h1 => ?_
 have e := w.up hx
 rw [e] at h1
 rcases List.mem_cons.mp h1 with rfl | h1
 ·exact h2
 ·rw [e]
  obtain ⟨z,hz,ez⟩ := Ri h1
  rw [← ez] at h1
  have := ih z hz ez h1
  rw [ez] at this
  exact List.mem_cons_of_mem _ this
theorem up_child {t : Ag} (w : WfT t) {y : Int} : ∀ x ∈ t.nodes,y ∈ upT t x.id → x.id = y ∨ ∃ c ∈ Jr t y,c ∈ upT t x.id := by
 refine w.induct fun x hx ih h1 => ?_
 have e := w.up hx
 rw [e] at h1
 rcases List.mem_cons.mp h1 with rfl | h1
 ·exact .inl rfl
 ·obtain ⟨z,hz,ez⟩ := Ri h1
  rw [← ez] at h1
  refine .inr ?_
  rcases ih z hz ez h1 with h | ⟨c,hc,hcu⟩
  ·refine ⟨x.id,?_,Ags w hx⟩
   unfold Jr
   exact List.mem_map.mpr ⟨x,List.mem_filter.mpr ⟨hx,by simp; omega⟩,rfl⟩
  ·refine ⟨c,hc,?_⟩
   rw [e]
   rw [ez] at hcu
   exact List.mem_cons_of_mem _ hcu
theorem kids_iff {t : Ag} {y c : Int} : c ∈ Jr t y ↔ ∃ x ∈ t.nodes,x.parent = y ∧ x.id = c := by
 unfold Jr
 constructor
 ·intro h
  obtain ⟨x,hx,e⟩ := List.mem_map.mp h
  obtain ⟨h1,h2⟩ := List.mem_filter.mp hx
  exact ⟨x,h1,by simpa using h2,e⟩
 ·rintro ⟨x,h1,h2,h3⟩
  exact List.mem_map.mpr ⟨x,List.mem_filter.mpr ⟨h1,by simp [h2]⟩,h3⟩
theorem Ahc {t : Ag} (w : WfT t) : (t.nodes.map (·.id)).Nodup := by
 have := w.sorted
 unfold List.Nodup
 rw [List.pairwise_map]
 exact this.imp fun h => by omega
theorem Ajg {t : Ag} (w : WfT t) (y : Int) : (Jr t y).Nodup := by
 unfold Jr List.Nodup
 rw [List.pairwise_map]
 exact (w.sorted.sublist List.filter_sublist).imp fun h => by omega
theorem AeA {t : Ag} (w : WfT t) (k : Int) : Ok (Ni t k) (fun l => l.Nodup ∧ l.length ≤ t.nodes.length ∧ ∀ x,x ∈ l ↔ k ∈ upT t x) := by
 have l2 := w.len2
 unfold Ni
 refine Ok.bind (Acp t k (by omega)) fun i hi => ?_
 refine Ok.ite (fun c => ?_) fun c => ?_
 ·refine Ok.ret ⟨List.nodup_nil,by simp,fun x => ⟨fun h => by simp at h,fun h => ?_⟩⟩
  exfalso
  have hno : Gu t k = false := by
   rw [hi.1] at c
   simpa using c
  obtain ⟨n,hn,e⟩ := Ri h
  rw [← e] at h
  obtain ⟨m,hm,em⟩ := up_mem w n hn k h
  have := hasN_iff.mpr ⟨m,hm,em⟩
  rw [this] at hno
  simp at hno
 have hk : Gu t k = true := by
  rw [hi.1] at c
  simpa using c
 obtain ⟨kn,hkn,hke⟩ := hasN_iff.mp hk
 let I : List Int × List Int → Prop := fun s => (s.1 ++ s.2).Nodup ∧ (∀ z ∈ s.1 ++ s.2,k ∈ upT t z) ∧ (∀ z ∈ s.1 ++ s.2,z = k ∨ ∃ n ∈ t.nodes,n.id = z ∧ n.parent ∈ s.1) ∧ (∀ x,k ∈ upT t x → x ∈ s.1 ∨ ∃ y ∈ s.2,y ∈ upT t x)
 have hbound : ∀ s,I s → s.1.length + s.2.length ≤ t.nodes.length := by
  intro s hs
  have := Afq hs.1 (m := t.nodes.map (·.id)) fun z hz => by
   obtain ⟨n,hn,e⟩ := Ri (hs.2.1 z hz)
   exact List.mem_map.mpr ⟨n,hn,e⟩
  simpa using this
 refine Ok.while I (fun s => t.nodes.length - s.1.length) ?_ (by rw [Dc]; simp only [List.length_nil]; omega) ?_
 ·refine ⟨by simp,?_,?_,?_⟩
  ·intro z hz
   obtain rfl : z = k := by simpa using hz
   rw [← hke]
   exact Ags w hkn
  ·intro z hz
   exact .inl (by simpa using hz)
  ·intro x hx
   exact .inr ⟨k,by simp,hx⟩
 rintro ⟨out,todo⟩ n hI hn
 have hb := hbound _ hI
 obtain ⟨i1,i2,i3,i4⟩ := hI
 simp only at hb i1 i2 i3 i4 hn
 unfold Te
 simp only
 cases todo with
 | nil =>
  simp only [List.length_nil,gt_iff_lt,Int.cast_ofNat_Int,Int.lt_irrefl,decide_false,Bool.false_and,Bool.false_eq_true,if_false]
  refine Ok.ret ⟨by simpa using i1,by simpa using hb,fun x => ⟨fun h => i2 x (by simpa using h),fun h => ?_⟩⟩
  rcases i4 x h with h | ⟨y,hy,_⟩
  ·exact h
  ·simp at hy
 | cons y rest =>
  simp only [List.length_cons] at hb
  have hc : (decide (((((y :: rest).length : Nat) : Int)) > 0) && decide (((out.length : Nat) : Int) < ((t.nodes.length : Nat) : Int))) = true := by
   simp only [List.length_cons,Bool.and_eq_true,decide_eq_true_eq]
   omega
  rw [if_pos hc]
  refine Ok.guard (by simp) (Ok.guard (by omega) (Ok.guard (by simp) ?_))
  have ey : (y :: rest).getD 0 0 = y := rfl
  rw [ey]
  refine Ok.step (AdU t y (by omega)) (Ok.guard (by simp) ?_)
  have hsub : Fp (y :: rest).length 1 = rest.length := rfl
  rw [hsub]
  have hkl := AdI t y
  refine Ok.guard (by omega) ?_
  have ed : (y :: rest).drop 1 = rest := rfl
  rw [ed]
  have hyk := i2 y (by simp)
  have hyn : y ∉ out := by
   rw [List.nodup_append] at i1
   intro h
   exact i1.2.2 y h y (by simp) rfl
  have hyr : y ∉ rest := by
   rw [List.nodup_append,List.nodup_cons] at i1
   exact i1.2.1.1
  have hnew : ∀ c ∈ Jr t y,c ∉ out ∧ c ∉ rest ∧ c ≠ y := by
   intro c hc
   obtain ⟨cn,hcn,hcp,hce⟩ := kids_iff.mp hc
   have hlt := w.par_lt hcn
   have hck : c ≠ k := by
    rintro rfl
    obtain ⟨yn,hyn2,hye⟩ := Ri hyk
    rw [← hye] at hyk
    have := up_le w yn hyn2 _ hyk
    omega
   have hno : c ∉ out ++ (y :: rest) := by
    intro hm
    rcases i3 c hm with h | ⟨m,hm1,hm2,hm3⟩
    ·exact hck h
    ·obtain rfl : m = cn := Afw w.sorted hm1 hcn (by omega)
     rw [hcp] at hm3
     exact hyn hm3
   exact ⟨fun h => hno (by simp [h]),fun h => hno (by simp [h]),by omega⟩
  refine hn _ ⟨?_,?_,?_,?_⟩ (by simp only [List.length_append,List.length_cons,List.length_nil]; omega)
  ·simp only
   rw [List.nodup_append] at i1 ⊢
   obtain ⟨n1,n2,n3⟩ := i1
   rw [List.nodup_cons] at n2
   refine ⟨?_,?_,?_⟩
   ·rw [List.nodup_append]
    exact ⟨n1,by simp,fun a ha b hb => by
     obtain rfl : b = y := by simpa using hb
     exact fun e => hyn (e ▸ ha)⟩
   ·rw [List.nodup_append]
    exact ⟨Ajg w y,n2.2,fun a ha b hb e => (hnew a ha).2.1 (e ▸ hb)⟩
   ·intro a ha b hb e
    subst e
    rcases List.mem_append.mp ha with ha | ha
    ·rcases List.mem_append.mp hb with hb | hb
     ·exact (hnew a hb).1 ha
     ·exact n3 a ha a (by simp [hb]) rfl
    ·obtain rfl : a = y := by simpa using ha
     rcases List.mem_append.mp hb with hb | hb
     ·exact (hnew a hb).2.2 rfl
     ·exact hyr hb
  ·intro z hz
   simp only [List.mem_append,List.mem_cons,List.not_mem_nil,or_false] at hz
   rcases hz with (hz | rfl) | hz | hz
   ·exact i2 z (by simp [hz])
   ·exact hyk
   ·obtain ⟨cn,hcn,hcp,hce⟩ := kids_iff.mp hz
    rw [← hce]
    refine up_trans w hyk cn hcn ?_
    rw [w.up hcn,hcp]
    obtain ⟨yn,hyn2,hye⟩ := Ri hyk
    rw [← hye]
    exact List.mem_cons_of_mem _ (Ags w hyn2)
   ·exact i2 z (by simp [hz])
  ·intro z hz
   simp only [List.mem_append,List.mem_cons,List.not_mem_nil,or_false] at hz
   have lift : (z = k ∨ ∃ n ∈ t.nodes,n.id = z ∧ n.parent ∈ out) → (z = k ∨ ∃ n ∈ t.nodes,n.id = z ∧ n.parent ∈ out ++ [y]) := by
    rintro (h | ⟨n,h1,h2,h3⟩)
    ·exact .inl h
    ·exact .inr ⟨n,h1,h2,by simp [h3]⟩
   rcases hz with (hz | rfl) | hz | hz
   ·exact lift (i3 z (by simp [hz]))
   ·exact lift (i3 z (by simp))
   ·obtain ⟨cn,hcn,hcp,hce⟩ := kids_iff.mp hz
    exact .inr ⟨cn,hcn,hce,by simp [hcp]⟩
   ·exact lift (i3 z (by simp [hz]))
  ·intro x hx
   rcases i4 x hx with h | ⟨z,hz,hzx⟩
   ·exact .inl (by simp [h])
   ·rcases List.mem_cons.mp hz with rfl | hz
    ·obtain ⟨xn,hxn,hxe⟩ := Ri hzx
     rw [← hxe] at hzx ⊢
     rcases up_child w xn hxn hzx with h | ⟨c,hc,hcx⟩
     ·exact .inl (by simp [h])
     ·exact .inr ⟨c,by simp [hc],hcx⟩
    ·exact .inr ⟨z,by simp [hz],hzx⟩
end Go.Dm

/- Plain theory, part 13: the program's Check of hierarchies; counts; moves. -/
namespace Go.Dm
theorem AgJ (h : Aa) (x : Aw) (l1 : h.tasks.length ≤ 1000000) (l2 : h.tree.nodes.length ≤ 1000000) :
  Ok (Se h x) (fun b => b = true ↔ (0 ≤ x.user ∧ x.user ≤ 1048576 ∧ Gu h.tree x.group = true ∧ ∃ p,Er h.tasks x.process = some p ∧ p.process = x.process ∧ p.user = x.user)) := by
 unfold Se Hm
 refine Ok.step (AdT h x.process l1) ?_
 have no : ∀ {P : Prop},¬ P → Ok (some false) (fun b => b = true ↔ P) := fun hn => Ok.ret ⟨fun e => by simp at e,fun w => absurd w hn⟩
 refine Ok.ite (fun c => ?_) fun c => ?_
 rotate_left
 ·have := of_decide_eq_false c
  exact no fun w => by omega
 have u1 := of_decide_eq_true c
 refine Ok.ite (fun c => ?_) fun c => ?_
 rotate_left
 ·have := of_decide_eq_false c
  exact no fun w => by omega
 have u2 := of_decide_eq_true c
 cases hk : Er h.tasks x.process with
 | none =>
  exact no fun w => by
   obtain ⟨_,_,_,p,hp,_⟩ := w
   simp at hp
 | some p =>
  obtain ⟨hp1,hp2⟩ := Th hk
  simp only [Option.elim_some,if_true]
  refine Ok.ite (fun c => ?_) fun c => ?_
  rotate_left
  ·exact no fun w => by
    obtain ⟨_,_,_,q,hq,hq2,_⟩ := w
    obtain rfl : p = q := by simpa using hq
    have : ¬ p.process = p.id := by simpa using c
    omega
  have c1 : p.process = p.id := by simpa using c
  refine Ok.ite (fun c => ?_) fun c => ?_
  rotate_left
  ·exact no fun w => by
    obtain ⟨_,_,_,q,hq,_,hq3⟩ := w
    obtain rfl : p = q := by simpa using hq
    have : ¬ p.user = x.user := by simpa using c
    omega
  have c2 : p.user = x.user := by simpa using c
  refine Ok.bind (Acp h.tree x.group l2) fun i hi => Ok.ret ?_
  rw [hi.2]
  constructor
  ·intro hh
   exact ⟨u1,u2,hh,p,rfl,by omega,c2⟩
  ·intro w
   exact w.2.2.1
theorem AfO (h : Aa) (hm : ∀ x ∈ h.tree.nodes,NodeM x) : Ok (Ka h) (fun b => b = true ↔ WfH h) := by
 have bad : ¬ WfH h → Ok (some false) (fun b => b = true ↔ WfH h) := fun hn => Ok.ret ⟨fun e => by simp at e,fun w => absurd w hn⟩
 unfold Ka
 refine Ok.ite (fun c => ?_) fun c => ?_
 ·have := of_decide_eq_true c
  exact bad fun w => by have := w.len; omega
 have l1 := of_decide_eq_false c
 refine Ok.ite (fun c => ?_) fun c => ?_
 ·have := of_decide_eq_true c
  exact bad fun w => by have := w.n2; omega
 have n2 := of_decide_eq_false c
 refine Ok.bind (AcH h.tree hm) fun b hb => ?_
 unfold Le
 refine Ok.ite (fun c => ?_) fun c => ?_
 ·refine bad fun w => ?_
  have := hb.mpr w.tree
  rw [this] at c
  simp at c
 have wt : WfT h.tree := hb.mp (by simpa using c)
 have l2 := wt.len2
 refine Ok.guard (by omega) ?_
 refine Ok.range (fun pre s => 0 ≤ s ∧ (∀ y ∈ pre,y.id ≤ s) ∧ (s = 0 ∨ ∃ y ∈ pre,y.id = s) ∧ pre.Pairwise (fun a b => a.id < b.id) ∧ ∀ x ∈ pre,TaskV h x) (by simp) ?_ ?_
 ·rintro pre x post s n he ⟨i0,i1,i2,i3,i4⟩ hn
  have hx : x ∈ h.tasks := by rw [he]; simp
  unfold Va Ny
  refine Ok.ite (fun c => ?_) fun c => ?_
  ·have hle := of_decide_eq_true c
   refine bad fun w => ?_
   rcases i2 with rfl | ⟨y,hy,e⟩
   ·have := (w.val x hx).pos
    omega
   ·have hs := w.sorted
    rw [he,List.pairwise_append] at hs
    have := hs.2.2 y hy x (by simp)
    omega
  have hgt := of_decide_eq_false c
  refine Ok.bind (AgJ h x (by omega) (by omega)) fun b hb => ?_
  refine Ok.ite (fun c => ?_) fun c => ?_
  ·refine bad fun w => ?_
   have v := w.val x hx
   have := hb.mpr ⟨v.u1,v.u2,v.grp,v.ldr⟩
   rw [this] at c
   simp at c
  ·obtain ⟨a1,a2,a3,a4⟩ := hb.mp (by simpa using c)
   refine hn _ ⟨by omega,?_,.inr ⟨x,by simp,rfl⟩,?_,?_⟩
   ·intro y hy
    rcases List.mem_append.mp hy with hy | hy
    ·have := i1 y hy
     omega
    ·obtain rfl : y = x := by simpa using hy
     exact Int.le_refl _
   ·rw [List.pairwise_append]
    refine ⟨i3,by simp,fun a ha b hb => ?_⟩
    obtain rfl : b = x := by simpa using hb
    have := i1 a ha
    omega
   ·intro y hy
    rcases List.mem_append.mp hy with hy | hy
    ·exact i4 y hy
    ·obtain rfl : y = x := by simpa using hy
     exact ⟨by omega,a3,a1,a2,a4⟩
 ·rintro s ⟨i0,i1,i2,i3,i4⟩
  refine Ok.ret ⟨fun e => ?_,fun w => ?_⟩
  ·have hlt : s < h.next := by
    have := of_decide_eq_true e
    omega
   exact ⟨wt,by omega,by omega,by omega,i3,fun x hx => by have := i1 x hx; omega,i4⟩
  ·rcases i2 with rfl | ⟨y,hy,e⟩
   ·have := w.n1
    simp; omega
   ·have := w.lt y hy
    simp; omega
theorem AbF {h : Aa} (w : WfH h) : Ka h = some true := by
 obtain ⟨b,hb,e⟩ := AfO h w.tree.p.names
 rw [hb,e.mpr w]
theorem AeO (l : List Int) (x : Int) (hl : l.length ≤ 1000000) : Fz l x = some (l.contains x) := by
 unfold Fz Oe
 rw [if_pos (by omega),Vz (p := fun y : Int => x == y) (fun k y n => rfl) rfl,Option.bind_some]
 rcases Ws (fun y : Int => x == y) l 0 with ⟨i,h1,h2,h3⟩ | ⟨h1,h2⟩
 ·rw [h2]
  have hm := List.mem_of_find?_eq_some h3
  have he := List.find?_some h3
  have : l.contains x = true := by
   rw [List.contains_iff_mem]
   have : x = l.getD i 0 := by simpa using he
   rw [this]
   exact hm
  rw [this]
  simp
 ·rw [h1]
  have : l.contains x = false := by
   rw [List.find?_eq_none] at h2
   cases hc : l.contains x
   ·rfl
   ·rw [List.contains_iff_mem] at hc
    have := h2 x hc
    simp at this
  rw [this]
  simp
theorem AeE (l : List Int) (x : Int) (hl : l.length ≤ 1000000) : On l x = some (l.contains x) := by
 unfold On
 rw [if_pos (by omega),Ia (p := fun y : Int => y == x) (f := fun _ => true) (z := false) (fun k y n => rfl) rfl]
 congr 1
 cases hf : l.find? (fun y => y == x) with
 | none =>
  rw [List.find?_eq_none] at hf
  cases hc : l.contains x
  ·rfl
  ·rw [List.contains_iff_mem] at hc
   have := hf x hc
   simp at this
 | some y =>
  have hm := List.mem_of_find?_eq_some hf
  have he := List.find?_some hf
  have : y = x := by simpa using he
  rw [this] at hm
  simp [hm]
end Go.Dm

/- Plain theory, part 14: the document's subtrees and counts; ancestors. -/
namespace Go.Dm
end Go.Dm

/- Plain theory, part 20: the library's sort leaves an ascending list as it is. -/
namespace Go.Dm
theorem Kh (a b : Int) : Cv a b = some (decide (a < b)) := by
 unfold Cv Ox Lf
 simp
theorem lens_pos : (List.range 1001).all (fun n => (Tc (IntKind.u64.wrap (n : Int))).any (fun k => n == 0 || decide (1 ≤ k))) = true := by decide +kernel
theorem AhQ {n : Nat} (hn : n ≤ 1000) : Ok (Tc (IntKind.u64.wrap (n : Int))) (fun _ => True) := by
 have := List.all_eq_true.mp lens_pos n (by rw [List.mem_range]; omega)
 cases hb : Tc (IntKind.u64.wrap (n : Int)) with
 | none => rw [hb] at this; simp at this
 | some k => exact ⟨k,rfl,trivial⟩
theorem Agw {L : List Aw} (h : L.Pairwise (fun a b => a.id < b.id)) (p : Aw → Bool) : ((L.filter p).map (·.id)).Pairwise (· < ·) := by
 rw [List.pairwise_map]
 exact h.filter p
end Go.Dm

/- Plain theory, part 26: rows that are permuted within a range; insertion sort. -/
namespace Go.Dm
structure RP (a b : Nat) (L M : List Int) : Prop where
 len : M.length = L.length
 out : ∀ i,i < a ∨ b ≤ i → M.getD i 0 = L.getD i 0
 mem : ∀ i,a ≤ i → i < b → ∃ j,a ≤ j ∧ j < b ∧ M.getD i 0 = L.getD j 0
 perm : M.Perm L
theorem RP.refl (a b : Nat) (L : List Int) : RP a b L L := ⟨rfl,fun _ _ => rfl,fun i h1 h2 => ⟨i,h1,h2,rfl⟩,.refl _⟩
theorem RP.trans {a b : Nat} {L M N : List Int} (h : RP a b L M) (k : RP a b M N) : RP a b L N := by
 refine ⟨k.len.trans h.len,fun i hi => (k.out i hi).trans (h.out i hi),fun i h1 h2 => ?_,k.perm.trans h.perm⟩
 obtain ⟨j,j1,j2,e⟩ := k.mem i h1 h2
 obtain ⟨q,q1,q2,e2⟩ := h.mem j j1 j2
 exact ⟨q,q1,q2,e.trans e2⟩
theorem RP.widen {a b c d : Nat} {L M : List Int} (h : RP a b L M) (h1 : c ≤ a) (h2 : b ≤ d) : RP c d L M := by
 refine ⟨h.len,fun i hi => h.out i (by omega),fun i i1 i2 => ?_,h.perm⟩
 by_cases q : a ≤ i ∧ i < b
 ·obtain ⟨j,j1,j2,e⟩ := h.mem i q.1 q.2
  exact ⟨j,by omega,by omega,e⟩
 ·exact ⟨i,i1,i2,h.out i (by omega)⟩
theorem RP.all {a b : Nat} {L M : List Int} (h : RP a b L M) {P : Int → Prop} (hp : ∀ i,a ≤ i → i < b → P (L.getD i 0)) : ∀ i,a ≤ i → i < b → P (M.getD i 0) := by
 intro i h1 h2
 obtain ⟨j,j1,j2,e⟩ := h.mem i h1 h2
 rw [e]
 exact hp j j1 j2
theorem AgE {α : Type} {l : List α} {i : Nat} {a d : α} (h : i < l.length) : (l.set i a).getD i d = a := by
 simp [List.getD_eq_getElem?_getD,h]
def Dl (L : List Int) (i j : Nat) : List Int := (L.set i (L.getD j 0)).set j (L.getD i 0)
theorem AcQ (L : List Int) (i j : Nat) : (Dl L i j).length = L.length := by simp [Dl]
theorem AhJ {L : List Int} {i j : Nat} {x : Int} (hi : i < L.length) : (L.set i x).getD j 0 = if j = i then x else L.getD j 0 := by
 by_cases e : j = i
 ·subst e
  rw [if_pos rfl]
  exact AgE hi
 ·rw [if_neg e,List.getD_eq_getElem?_getD,List.getElem?_set_ne (fun h => e h.symm),← List.getD_eq_getElem?_getD]
theorem Ht {L : List Int} {i j k : Nat} (hi : i < L.length) (hj : j < L.length) : (Dl L i j).getD k 0 = if k = j then L.getD i 0 else if k = i then L.getD j 0 else L.getD k 0 := by
 unfold Dl
 rw [AhJ (by simpa using hj),AhJ hi]
theorem Ajn {L : List Int} {i j : Nat} (hi : i < L.length) (hj : j < L.length) : (Dl L i j).Perm L := by
 have h := Array.swap_perm (xs := L.toArray) (i := i) (j := j) (by simpa using hi) (by simpa using hj)
 have e : (L.toArray.swap i j (by simpa using hi) (by simpa using hj)).toList = Dl L i j := by
  unfold Dl
  rw [Gp hi,Gp hj]
  simp [Array.swap]
 have := Array.perm_iff_toList_perm.mp h
 rw [e] at this
 simpa using this
theorem RP.swap {a b : Nat} {L : List Int} {i j : Nat} (hb : b ≤ L.length) (i1 : a ≤ i) (i2 : i < b) (j1 : a ≤ j) (j2 : j < b) : RP a b L (Dl L i j) := by
 have hi : i < L.length := by omega
 have hj : j < L.length := by omega
 refine ⟨AcQ L i j,fun k hk => ?_,fun k k1 k2 => ?_,Ajn hi hj⟩
 ·rw [Ht hi hj,if_neg (by omega),if_neg (by omega)]
 ·rw [Ht hi hj]
  split
  ·exact ⟨i,i1,i2,rfl⟩
  ·split
   ·exact ⟨j,j1,j2,rfl⟩
   ·exact ⟨k,k1,k2,rfl⟩
def Ft (a b : Nat) (L : List Int) : Prop := ∀ p q,a ≤ p → p < q → q < b → L.getD p 0 ≤ L.getD q 0
theorem AhM {L : List Int} {a b : Nat} (hab : a ≤ b) (hb : b ≤ L.length) (hl : L.length ≤ 1000000) : Ok (Dw L (a : Int) (b : Int)) (fun M => RP a b L M ∧ Ft a b M) := by
 unfold Dw
 have e1 : w64 ((a : Int) + 1) = ((a + 1 : Nat) : Int) := by
  rw [Ax (by omega) (by omega)]
  omega
 rw [e1]
 refine Ok.guard (by omega) ?_
 have em : Int.toNat ((b : Int) - ((a + 1 : Nat) : Int)) = b - (a + 1) := by omega
 rw [em]
 refine Ok.for (fun j s => RP a b L s ∧ Ft a (a + 1 + j) s) ⟨.refl _ _ _,fun p q h1 h2 h3 => by omega⟩ ?_ ?_
 ·intro j s n hj ⟨i1,i2⟩ hn
  have hs := i1.len
  have ei : ((a + 1 : Nat) : Int) + (j : Int) = ((a + 1 + j : Nat) : Int) := by omega
  rw [ei]
  unfold Hh
  refine Ok.while (fun q => ∃ k : Nat,q.2 = (k : Int) ∧ a ≤ k ∧ k ≤ a + 1 + j ∧ RP a b L q.1 ∧ (∀ p r,a ≤ p → p < r → r ≤ a + 1 + j → p ≠ k → r ≠ k → q.1.getD p 0 ≤ q.1.getD r 0) ∧ (∀ r,k < r → r ≤ a + 1 + j → q.1.getD k 0 ≤ q.1.getD r 0)) (fun q => q.2.toNat) ?_ ?_ ?_
  ·refine ⟨a + 1 + j,rfl,by omega,by omega,i1,fun p r h1 h2 h3 h4 h5 => i2 p r h1 h2 (by omega),fun r h1 h2 => by omega⟩
  ·rw [Dc]
   simp only
   omega
  ·rintro ⟨M,x⟩ nn ⟨k,hx,k1,k2,rp,hA,hB⟩ hnn
   simp only at hx rp hA hB
   subst hx
   have hM := rp.len
   have ek : Int.toNat (k : Int) = k := by omega
   have fin : (k = a ∨ ¬ M.getD k 0 < M.getD (k - 1) 0) → Ok (n M) (fun M => RP a b L M ∧ Ft a b M) := by
    intro hstop
    refine hn M ⟨rp,fun p q h1 h2 h3 => ?_⟩
    by_cases hp : p = k
    ·subst hp
     exact hB q h2 (by omega)
    by_cases hq : q = k
    ·subst hq
     rcases hstop with h | h
     ·omega
     ·by_cases hp2 : p = q - 1
      ·subst hp2
       omega
      ·have := hA p (q - 1) h1 (by omega) (by omega) hp (by omega)
       omega
    exact hA p q h1 h2 (by omega) hp hq
   unfold He Dg
   simp only
   refine Ok.ite (fun c => ?_) fun c => ?_
   ·have c := of_decide_eq_true c
    have hw : w64 ((k : Int) - 1) = ((k - 1 : Nat) : Int) := by
     rw [Ax (by omega) (by omega)]
     omega
    have ek1 : Int.toNat ((k - 1 : Nat) : Int) = k - 1 := by omega
    rw [hw,ek,ek1,Kh]
    refine Ok.guard (by omega) (Ok.guard (by omega) (Ok.guard (by omega) (Ok.guard (by omega) ?_)))
    refine Ok.step rfl ?_
    refine Ok.ite (fun c2 => ?_) fun c2 => ?_
    ·have c2 := of_decide_eq_true c2
     refine Ok.guard (by omega) (Ok.guard (by omega) (Ok.guard (by omega) (Ok.guard (by omega) (Ok.guard (by omega) (Ok.guard (by omega) (Ok.guard (by omega) (Ok.guard (by omega) ?_)))))))
     have hkl : k < M.length := by omega
     have hk1 : k - 1 < M.length := by omega
     have hg : ∀ r,(Dl M k (k - 1)).getD r 0 = if r = k - 1 then M.getD k 0 else if r = k then M.getD (k - 1) 0 else M.getD r 0 := fun r => Ht hkl hk1
     refine hnn (Dl M k (k - 1),((k - 1 : Nat) : Int)) ⟨k - 1,rfl,by omega,by omega,rp.trans (RP.swap (by omega) (by omega) (by omega) (by omega) (by omega)),?_,?_⟩ (by simp only; omega)
     ·intro p r h1 h2 h3 h4 h5
      simp only
      rw [hg,hg,if_neg h4,if_neg h5]
      by_cases hp : p = k
      ·rw [if_pos hp,if_neg (by omega)]
       exact hA (k - 1) r (by omega) (by omega) h3 (by omega) (by omega)
      ·rw [if_neg hp]
       by_cases hr : r = k
       ·rw [if_pos hr]
        exact hA p (k - 1) h1 (by omega) (by omega) hp (by omega)
       ·rw [if_neg hr]
        exact hA p r h1 h2 h3 hp hr
     ·intro r h1 h2
      simp only
      rw [hg,hg,if_pos rfl,if_neg (by omega)]
      by_cases hr : r = k
      ·rw [if_pos hr]
       omega
      ·rw [if_neg hr]
       exact hB r (by omega) h2
    ·exact fin (.inr (of_decide_eq_false c2))
   ·have c := of_decide_eq_false c
    simp only [Bool.false_eq_true,if_false]
    exact fin (.inl (by omega))
 ·intro s ⟨i1,i2⟩
  refine Ok.ret ⟨i1,fun p q h1 h2 h3 => i2 p q h1 h2 (by omega)⟩
end Go.Dm
