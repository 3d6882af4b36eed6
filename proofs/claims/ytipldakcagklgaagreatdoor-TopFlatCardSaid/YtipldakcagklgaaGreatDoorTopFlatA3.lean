/- Texts of the proof of TopFlat: the data machine, the models of the Go functions, their contracts. -/
import Derived.Test.YtipldakcagklgaaGreatDoorTopFlatA2
set_option linter.unusedVariables false
set_option linter.unusedSimpArgs false
/- The data machine, closed runs: a function is run by the kernel on arguments that are known; what it gives is its contract. -/
namespace Go.Dm
inductive Tr (α:Type) where
 | lf
 | nd (x:Option α) (l r:Tr α)
noncomputable def Tr.get {α:Type} (t:Tr α):Nat→Option α :=
 Tr.rec (motive:=fun _=>Nat→Option α) (fun _=>none) (fun x _ _ gl gr n=>bif Nat.beq n 0 then x else bif Nat.beq (n % 2) 1 then gl (n / 2) else gr (n / 2-1)) t
def Tr.val {α:Type} : Tr α→Option α
 | .lf=>none
 | .nd x _ _=>x
def Tr.lft {α:Type} : Tr α→Tr α
 | .lf => .lf
 | .nd _ l _=>l
def Tr.rgt {α:Type} : Tr α→Tr α
 | .lf => .lf
 | .nd _ _ r=>r
noncomputable def Tr.put {α:Type} (d:Nat):Tr α→Nat→Option α→Tr α :=
 Nat.rec (motive:=fun _=>Tr α→Nat→Option α→Tr α) (fun t _ _=>t)
  (fun _ ih t n x=>bif Nat.beq n 0 then .nd x t.lft t.rgt else bif Nat.beq (n % 2) 1 then .nd t.val (ih t.lft (n / 2) x) t.rgt else .nd t.val t.lft (ih t.rgt (n / 2-1) x)) d
def Tr.map {α β:Type} (f:α→β):Tr α→Tr β
 | .lf => .lf
 | .nd x l r => .nd (x.map f) (l.map f) (r.map f)
abbrev TD : Nat:=20
noncomputable def putL {α:Type} : List (Nat×α)→Tr α→Tr α
 | [],t=>t
 | (k,x)::r,t=>putL r (t.put TD k (some x))
noncomputable def putR {α:Type} : List (Nat×α)→Tr α
 | [] => .lf
 | (k,x)::r=>(putR r).put TD k (some x)
def Dt {α:Type} : List (Nat×α)→Bool
 | []=>true
 | (k,_)::r=>Nat.blt k 1000000&&Dt r
structure CS where
 sl:Tr MV
 ob:Tr Obj
 ml:Tr (List Int)
noncomputable def CS.st (s:CS):St:=⟨fun t=>(s.sl.get t).getD .any,s.ob.get⟩
def ofL (L:List (List PV)) (i:Nat):List PV:=(L[i]?).getD []
def rowL (n:Nat) (f:Nat→List PV):List (List PV):=(upN n 0).map f
abbrev FE := Option (MV×List (Nat×Obj))
def okE : Option Eff→Bool→FE
 | some (y,wo,_),true=>some (y,wo)
 | _,_=>none
def f0 (g:Option Eff):List MV→FE
 | []=>okE g true
 | _=>none
def f1 (g:MV→Option Eff) (c:MV→Bool):List MV→FE
 | [x]=>okE (g x) (c x)
 | _=>none
def f2 (g:MV→MV→Option Eff) (c:MV→MV→Bool):List MV→FE
 | [x,y]=>okE (g x y) (c x y)
 | _=>none
def f3 (g:MV→MV→MV→Option Eff) (c:MV→MV→MV→Bool):List MV→FE
 | [x,y,z]=>okE (g x y z) (c x y z)
 | _=>none
def Wd (_:MV):Bool:=true
def yes2 (_ _:MV):Bool:=true
def yes3 (_ _ _:MV):Bool:=true
def AbS : MV→Option Bool
 | .p (.v (.bool b))=>some b
 | _=>none
def fPick : List MV→FE
 | [c,a,b]=>match AbS c with
  | some t=>some (bif t then a else b,[])
  | none=>none
 | _=>none
def chkE (ob:As):MV→Bool
 | .eref k g ix _=>match Gr ob k g with
  | some (_,n,_)=>Nat.blt ix n
  | none=>false
 | _=>true
def lenB : MV→Option Nat
 | .p (.sl _ _ n _)=>some n
 | .own _ _ _ len=>some len
 | .p (.v (.string s))=>some s.size
 | _=>none
def chkI (x y:MV):Bool:=match lenB x,Fb y with
 | some n,some z=>decide (0≤z)&&decide (z<(n:Int))
 | _,_=>false
def scalB (op:BinOp):Value→Value→Bool
 | .int _ _,.int _ b=>match op with
  | .shl=>decide (0≤b)
  | .shr=>decide (0≤b)
  | .quo => !decide (b=0)
  | .rem => !decide (b=0)
  | _=>true
 | .string a,.string b=>match op with
  | .add=>Nat.ble (a.size+b.size) 9223372036854775807
  | _=>true
 | _,_=>true
def chkB (op:BinOp):MV→MV→Bool
 | .p (.v a),.p (.v b)=>scalB op a b
 | _,_=>true
def chkS (lo hi:Option Int) (x:MV):Bool:=match lenB x with
 | some n=>decide (0≤lo.getD 0)&&decide (lo.getD 0≤hi.getD n)&&decide (hi.getD n≤(n:Int))
 | none=>false
def chkA (T:Ty) (t:Nat) (s x:MV):Bool:=match assoc T t with
 | some ⟨.slice e,_,_,_,_⟩=>match assoc T e with
  | some i=>match lenB s,lenB x with
   | some a,some b=>Nat.ble ((a+b)*i.bytes) 140737488355328
   | _,_=>false
  | none=>false
 | _=>false
def chkF (ob:As):MV→Bool
 | .own k g off len=>match Gr ob k g with
  | some (_,n,_)=>Nat.ble (off+len) n
  | none=>false
 | _=>false
def eqPV : PV→PV→Bool
 | .v (.int k x),.v (.int k' y)=>decide (k=k')&&decide (x=y)
 | .v (.bool x),.v (.bool y)=>x==y
 | .sl .nil 0 0 _,.sl .nil 0 0 _=>true
 | _,_=>false
def chkM (T:Ty) (t:Nat) (x y:MV):Bool:=match assoc T t with
 | some ⟨.slice e,_,_,_,_⟩=>match assoc T e with
  | some i=>match Fb x,Fb y with
   | some z,some c=>decide (0≤z)&&decide (z=c)&&decide (z≤9223372036854775807)&&decide (z*i.bytes≤140737488355328)
   | _,_=>false
  | none=>false
 | _=>false
def mapZ (ob:As):MV→Option PV
 | .mref k g=>match Ka ob k g with
  | some (z,_,_)=>some z
  | none=>match getPm ob k g with
   | some (z,_,_)=>some z
   | none=>none
 | .p (.mp z _ _)=>some z
 | _=>none
def chkZ (T:Ty) (t:Nat) (ob:As) (x:MV):Bool:=match assoc T t with
 | some ⟨.map _ e,_,_,_,_⟩=>match Uo T e,mapZ ob x with
  | some a,some b=>eqPV a b
  | _,_=>false
 | _=>false
def fSl1 (T:Ty) (t:Nat) (ob:As):List MV→FE
 | [x,l]=>match Fb l with
  | some zl=>okE (Ju T t ob x (some zl) none) (chkS (some zl) none x)
  | none=>none
 | _=>none
def fSl2 (T:Ty) (t:Nat) (ob:As):List MV→FE
 | [x,h]=>match Fb h with
  | some zh=>okE (Ju T t ob x none (some zh)) (chkS none (some zh) x)
  | none=>none
 | _=>none
def fSl3 (T:Ty) (t:Nat) (ob:As):List MV→FE
 | [x,l,h]=>match Fb l,Fb h with
  | some zl,some zh=>okE (Ju T t ob x (some zl) (some zh)) (chkS (some zl) (some zh) x)
  | _,_=>none
 | _=>none
def fSl (T:Ty) (t:Nat) (ob:As) (l h m:Option Operand) (xs:List MV):FE :=
 match l,h,m with
 | none,none,none=>f1 (fun x=>Ju T t ob x none none) (chkS none none) xs
 | some _,none,none=>fSl1 T t ob xs
 | none,some _,none=>fSl2 T t ob xs
 | some _,some _,none=>fSl3 T t ob xs
 | none,some h,some m=>bif Pn h&&Pn m then (match xs with
  | [x,_,_]=>okE (Oh T t x) true
  | _=>none) else none
 | _,_,_=>none
def fConv (T:Ty) (s d:Nat) (x:MV):Option Eff:=bif (assoc T s).isSome then (match Sb T d x with
 | some e=>some e
 | none=>Wf T d x) else none
def fApp (T:Ty) (ts:List Nat) (dst:Nat) (ob:As) (xs:List MV):FE :=
 match ts with
 | [t,t2]=>f2 (Tm T t t2 dst ob) (chkA T t) xs
 | _=>none
def fBlt (T:Ty) (b:Builtin) (ts:List Nat) (dst:Nat) (ob:As) (xs:List MV):FE :=
 match b with
 | .len=>match ts with
  | [t]=>f1 (AbG T t) Wd xs
  | _=>none
 | .append=>fApp T ts dst ob xs
 | .clear=>match ts with
  | [t]=>f1 (Wi T t ob) (chkF ob) xs
  | _=>none
 | .copy=>match ts with
  | [t,_]=>f2 (Zb T t ob) (fun x _=>chkF ob x) xs
  | _=>none
 | .delete=>match ts with
  | [t,_]=>f2 (Tn T t ob) yes2 xs
  | _=>none
 | .min=>f2 (Xd false) yes2 xs
 | .max=>f2 (Xd true) yes2 xs
 | _=>none
def fCall (T:Ty) (c:Call) (dst:Nat) (ob:As) (xs:List MV):FE :=
 match c.callee with
 | .builtin b=>fBlt T b c.argTypes.toList dst ob xs
 | _=>none
def fFun (fn:Fn) (first cap:Array Operand) (xs:List MV):FE :=
 match fn with
 | .func f=>bif first.isEmpty then okE (Zf f xs) true else bif cap.isEmpty then okE (Wh f xs) true else none
 | _=>none
def fop (T:Ty) (op:Op) (dst:Nat) (ob:As) (xs:List MV):FE :=
 match op with
 | .move _=>f1 Tp Wd xs
 | .assign _=>f1 Tp Wd xs
 | .pick _ _ _=>fPick xs
 | .alloc t=>f0 (Wj T t dst ob) xs
 | .box _ _=>f1 (AbP dst ob) Wd xs
 | .build t ps=>okE (Tj T t ((ps.toList.map (·.1)).zip xs)) true
 | .buildSlice t len ps=>okE (Jt T t len dst ob ((ps.toList.map (·.1)).zip xs)) true
 | .load t _=>f1 (Rw T t ob) (chkE ob) xs
 | .store t _ _=>f2 (Vw T t ob) (fun x _=>chkE ob x) xs
 | .nilCheck _=>f1 AbL Wd xs
 | .binOp op t _ _ _=>f2 (Ze T op t) (chkB op) xs
 | .unOp op _ _=>f1 (Aem op) Wd xs
 | .convert s d _=>f1 (fConv T s d) Wd xs
 | .slice t _ l h m=>fSl T t ob l h m xs
 | .makeFunc fn first cap=>fFun fn first cap xs
 | .fieldAddr t _ f=>f1 (Nr T t f) Wd xs
 | .field t _ f=>f1 (Wk T t f) Wd xs
 | .indexAddr t _ _=>f2 (Oa T t ob) chkI xs
 | .index t _ _=>f2 (Vs T t) chkI xs
 | .extract _ i=>f1 (Sa i) Wd xs
 | .makeSlice t _ _=>f2 (Za T t dst ob) (chkM T t) xs
 | .makeMap t none=>f0 (orE (Ml T t dst ob) (Kn T t dst ob)) xs
 | .lookup t _ _ ok=>f2 (fun x y=>orE (To T t ob ok x y) (Rn T t ob ok x y)) (fun x _=>chkZ T t ob x) xs
 | .mapUpdate t _ _ _=>f3 (fun x y z=>orE (Ku T t ob x y z) (Is T t ob x y z)) yes3 xs
 | .insert t _ _ _=>f3 (fun x y z=>orE (Ku T t ob x y z) (Is T t ob x y z)) yes3 xs
 | .range t _=>f1 (fun x=>orE (Qp T t dst ob x) (Oi T t dst ob x)) Wd xs
 | .entry _=>f1 (Vp ob) Wd xs
 | .next _ b=>bif b then f1 (Vm ob) Wd xs else none
 | .call c=>fCall T c dst ob xs
 | _=>none
def owns1 : MV→List Nat
 | .own k _ _ _ => [k]
 | .mref k _ => [k]
 | _ => []
def refs1 : MV→List Nat
 | .ref k _ _ => [k]
 | .eref k _ _ _ => [k]
 | _ => []
def Ym (g:MV→List Nat):Nat→MV→List Nat
 | 0,x=>g x
 | d+1,.agg cs=>cs.flatMap (Ym g d)
 | d+1,.tup cs=>cs.flatMap (Ym g d)
 | d+1,.fn _ cs=>cs.flatMap (Ym g d)
 | _+1,x=>g x
def both1 (x:MV):List Nat:=owns1 x++refs1 x
def boxKeys (ob:As) (k:Nat):List Nat:=match ob k with
 | some ⟨_,.box cs⟩=>cs.flatMap (Ym both1 2)
 | _ => []
def reach (ob:As):Nat→List Nat→List Nat→List Nat
 | 0,acc,_=>acc
 | _+1,acc,[]=>acc
 | n+1,acc,k::r=>bif elem k acc then reach ob n acc r else reach ob n (acc ++ [k]) (r++boxKeys ob k)
inductive NatK where
 | idx
def idxB (s:ByteArray) (b:Int):Value:=match (List.range s.size).find? (fun i=>s[i]! == b.toNat.toUInt8) with
 | some i => .int .i64 i
 | none => .int .i64 (-1)
def natV : NatK→List Value→Option Value
 | .idx,[.string s,.int .u8 b]=>some (idxB s b)
 | _,_=>none
structure Tc where
 own:List (Nat×List Nat)
 frz:List (Nat×List (Nat×List Nat))
 new:List (Nat×List Nat)
 res:List (Nat×List Nat)
 nat:List (Nat×NatK) := []
 lend:List (Nat×List Nat) := []
 known:List (Nat×List MV×MV) := []
 weak:List Nat := []
def eqV : Value→Value→Bool
 | .int k n,.int k' n'=>decide (k=k')&&decide (n=n')
 | .bool a,.bool b=>a==b
 | .string a,.string b=>decide (a.data.toList=b.data.toList)
 | .pointer none,.pointer none=>true
 | .map none,.map none=>true
 | .nilFunc,.nilFunc=>true
 | .nilIface,.nilIface=>true
 | _,_=>false
def Vi {α:Type} (g:α→α→Bool):List α→List α→Bool
 | [],[]=>true
 | x::l,y::m=>g x y&&Vi g l m
 | _,_=>false
def eqP : Nat→PV→PV→Bool
 | d,.v a,y=>match y with
  | .v b=>eqV a b
  | _=>false
 | d+1,.sl fl W n f,y=>match y with
  | .sl fl' W' n' f'=>decide (fl=fl')&&Nat.beq W W'&&Nat.beq n n'&&(upN n 0).all fun i=>Vi (eqP d) (f i) (f' i)
  | _=>false
 | d+1,.agg l,y=>match y with
  | .agg m=>Vi (eqP d) l m
  | _=>false
 | d+1,.tup l,y=>match y with
  | .tup m=>Vi (eqP d) l m
  | _=>false
 | _,_,_=>false
def eqM : Nat→MV→MV→Bool
 | _,.p x,y=>match y with
  | .p z=>eqP 6 x z
  | _=>false
 | d+1,.agg l,y=>match y with
  | .agg m=>Vi (eqM d) l m
  | _=>false
 | d+1,.tup l,y=>match y with
  | .tup m=>Vi (eqM d) l m
  | _=>false
 | _,.any,y=>match y with
  | .any=>true
  | _=>false
 | _,_,_=>false
def kn : List (Nat×List MV×MV)→Nat→List MV→Option MV
 | [],_,_=>none
 | (g,key,r)::t,f,asx=>bif Nat.beq g f&&Vi (eqM 4) asx key then some r else kn t f asx
def sameB : Body→Body→Bool
 | _,.dead=>true
 | .box _,.box _=>true
 | .row W n _,.row W' n' _=>Nat.beq W W'&&Nat.beq n n'
 | .mp _ _ _,.mp _ _ _=>true
 | .mq _,.mp _ _ _=>true
 | .mp _ _ _,.mq _=>true
 | .mq _,.mq _=>true
 | _,_=>false
def AcT : List Body→List Body→Bool
 | b::r,c::s=>sameB b c&&AcT r s
 | _,_=>true
def Adi (ks:List Nat):List Nat:=bif ks.all (fun k=>Nat.blt k 1000000) then ks else []
noncomputable def frzT (s:CS):List Nat→CS
 | []=>s
 | k::r=>frzT ⟨s.sl.map (frzN s.ob.get k 2),(s.ob.put TD k none).map fun o=>⟨o.gen,Xw s.ob.get k o.body⟩,s.ml⟩ r
noncomputable def normT (s:CS):List Nat→CS
 | []=>s
 | k::r=>normT (match s.ob.get k with
  | some ⟨g,.row W n f⟩=>⟨s.sl,s.ob.put TD k (some ⟨g,.row W n (ofL (rowL n f))⟩),s.ml⟩
  | _=>s) r
def nnP : Nat→PV→PV
 | d,.sl .unk W n f=>bif Nat.beq n 0 then .sl .unk W n f else .sl .nn W n f
 | d+1,.agg cs => .agg (cs.map (nnP d))
 | d+1,.tup cs => .tup (cs.map (nnP d))
 | _,x=>x
def nnM : Nat→MV→MV
 | _,.p (.ptr cs) => .fptr cs
 | d,.p x => .p (nnP d x)
 | d+1,.agg cs => .agg (cs.map (nnM d))
 | d+1,.tup cs => .tup (cs.map (nnM d))
 | _,x=>x
inductive Todo where
 | code (c nt:Nat) (cd:Code) (s:CS)
 | fn (f:Nat) (fz:Bool) (args:List MV) (outs:List Body)
inductive Ans where
 | code (e:Exit) (s:CS)
 | fn (res:MV) (outs' news:List Body)
 | err (l:List Nat)
section
variable (P : Program) (T:Ty) (H:Tc) (self:Todo→Ans)
noncomputable def AfS (c nt:Nat) (x y:Code) (s:CS):Option Bool→Ans
 | some b=>self (.code c nt (bif b then x else y) s)
 | none => .err [c,2]
noncomputable def Ace (c nt:Nat) (y:Code):Ans→Ans
 | .code .normal s=>self (.code c nt y s)
 | r=>r
def Rj (id:Nat):Ans→Ans
 | .code (.exit id') s=>bif Nat.beq id' id then .code .normal s else .code (.exit id') s
 | r=>r
noncomputable def Aag (c nt:Nat) (x:Code):Ans→Ans
 | .code .normal s=>self (.code c nt (.loop x) s)
 | r=>r
def AbE (gs:List (Option Nat)) (σ:St):Option (Nat×Bool)→Option (List Nat×Bool)
 | none=>some ([],true)
 | some (j,want)=>match gs[j]? with
  | some (some t)=>match σ.slots t with
   | .p (.v (.bool b))=>some ([t],bif want then b else !b)
   | .und=>some ([t],false)
   | _=>none
  | _=>none
def refsI (skip:List Nat):Nat→List MV→List Nat
 | _,[] => []
 | i,x::r=>(bif elem i skip then [] else Ym refs1 1 x)++refsI skip (i+1) r
def lendK (f:Nat) (ob:As) (xs:List MV):List Nat :=
 reach ob 200 [] ((((assoc H.own f).getD []).flatMap fun i=>Ym owns1 1 (xs.getD i .any))++refsI ((assoc H.lend f).getD []) 0 xs)
def oneRec (gt:List Nat) (o:Oper) (ro:List Nat) (y:MV) (wo:List (Nat×Obj)):Rec :=
 ⟨gt++Lo o.op,ro,o.dst.toList.map fun t=>(t,y),wo⟩
def flatN : Body→Bool
 | .row _ n f=>(upN n 0).all fun i=>(f i).all PV.flat
 | _=>true
noncomputable def Abz (gt:List Nat) (o:Oper) (dst f:Nat) (ks:List Nat) (xs:List MV) (σ:St):Ans→Except (List Nat) (Orc×Rec)
 | .fn res outs' news =>
  let bs:=dedup (xs.flatMap (bor ks)) []
  let keep:=bs.isEmpty||(news.isEmpty&&outs'.all Body.flatB&&res.scalar)||((outs'++news).all Body.flatR&&(outs'++news).all flatN&&res.scalR)
  let ro:=ks++xs.flatMap (bor ks)++Zh dst news.length 0
  match Ts (only ro σ.objs) dst ks xs keep res outs' news with
  | some (_,os,y,wo,_)=>bif AcT os outs' then .ok (.call f ks keep res outs' news [],oneRec gt o ro y wo) else .error [f,21]
  | none => .error [f,9]
 | .err l => .error l
 | _ => .error [f,16]
noncomputable def doCall2 (gt:List Nat) (c:Nat) (o:Oper) (dst f:Nat) (xs:List MV) (σ:St) (ks:List Nat):Except (List Nat) (Orc×Rec) :=
 match Rb (toC σ.objs ks) xs,Ns σ.objs ks with
 | some asx,some os=>Abz gt o dst f ks xs σ (self (.fn f (!elem dst ((assoc H.res c).getD [])) asx (os.map (·.2))))
 | none,_ => .error [f,9]
 | _,none => .error [f,10]
def doNat (gt:List Nat) (o:Oper) (k:NatK) (f:Nat):List MV→Option (List Value)→Except (List Nat) (Orc×Rec)
 | [],some vs=>match natV k vs with
  | some z => .ok (.nat z,oneRec gt o [] (.p (.v z)) [])
  | none => .error [f,23]
 | _,_ => .error [f,24]
def doNat0 (gt:List Nat) (o:Oper) (k:NatK) (vs:Option (List Value)):Option (Nat×List MV)→Except (List Nat) (Orc×Rec)
 | some (f,caps)=>doNat gt o k f caps vs
 | none => .error [25]
noncomputable def doCall (gt:List Nat) (c:Nat) (o:Oper) (dst:Nat) (args:Array Operand) (σ:St) (g:MV):Option (Nat×List MV)→Except (List Nat) (Orc×Rec)
 | some (f,xs)=>match assoc H.nat f with
  | some k=>doNat0 gt o k (Wv (args.toList.map (ev σ))) (fnOf g)
  | none=>doCall2 H self gt c o dst f xs σ (lendK H f σ.objs xs)
 | none => .error [8]
def doPk : Op→List MV→Orc
 | .pick _ _ _,c::_=>match AbS c with
  | some b => .pk b
  | none => .no
 | _,_ => .no
def doFrz (gt:List Nat) (o:Oper) (xs:List MV) (ro:List Nat):MV×List (Nat×Obj)→Option Nat→Except (List Nat) (Orc×Rec)
 | (.own k g 0 len,[(k',⟨g',.row W m f⟩)]),some t=>bif Nat.beq k k'&&Nat.beq g g'&&Nat.beq len m&&(doPk o.op xs).bit then
  .ok (.frz m (ofL (rowL m f)),⟨gt++Lo o.op,ro,[(t,.p (.sl .unk W m (ofL (rowL m f))))],[(k',⟨g'+1,.dead⟩)]⟩) else .error [22]
 | _,_ => .error [22]
noncomputable def Aew (gt:List Nat) (c:Nat) (o:Oper) (dst:Nat) (σ:St) (xs:List MV) (ro:List Nat):Except (List Nat) (Orc×Rec) :=
 match fop T o.op dst (only ro σ.objs) xs with
 | some q=>bif elem dst ((assoc H.new c).getD []) then doFrz gt o xs ro q o.dst else .ok (doPk o.op xs,oneRec gt o ro q.1 q.2)
 | none => .error [5]
noncomputable def doOp2 (gt:List Nat) (c:Nat) (o:Oper) (dst:Nat) (σ:St):Op→Except (List Nat) (Orc×Rec)
 | .call ⟨.value fop,args,_⟩=>doCall H self gt c o dst args σ (ev σ fop) (AbO (ev σ fop) (args.toList.map (ev σ)))
 | op=>Aew T H gt c o dst σ (op.operands.toList.map (ev σ)) (Kh op dst (op.operands.toList.map (ev σ)))
noncomputable def doOp (c nt:Nat) (gs:List (Option Nat)) (o:Oper) (σ:St):Except (List Nat) (Orc×Rec) :=
 bif (match o.dst with|some t=>Nat.blt t nt|none=>true)&&Gu o.op then
  match AbE gs σ o.guard with
  | some (gt,true)=>doOp2 T H self gt c o (o.dst.getD 0) σ o.op
  | some (gt,false) => .ok (.skip,⟨gt,[],o.dst.toList.map fun t=>(t,MV.und),[]⟩)
  | none => .error [7]
 else .error [17]
noncomputable def Xm:Tr (List Int)→List (Nat×Obj)→Tr (List Int)
 | .lf,_ => .lf
 | t,[]=>t
 | t,(k,_)::r=>Xm (t.put TD k none) r
noncomputable def Vl (op:Op) (xs:List MV) (ml:Tr (List Int)) (wo:List (Nat×Obj)):Option (Nat×List Int) :=
 match op with
 | .makeMap _ none=>match wo with
  | [(k,⟨_,.mp _ _ _⟩)]=>some (k,[])
  | _=>none
 | .mapUpdate _ _ _ _=>match xs,wo with
  | [.mref k _,.p (.v (.int .i64 n)),_],[(k',⟨_,.mp _ _ _⟩)]=>(ml.get k).map fun L=>(k',n::L)
  | _,_=>none
 | .insert _ _ _ _=>match xs,wo with
  | [.mref k _,.p (.v (.int .i64 n)),_],[(k',⟨_,.mp _ _ _⟩)]=>(ml.get k).map fun L=>(k',n::L)
  | _,_=>none
 | .range _ _=>match xs,wo with
  | [.mref k _],[_,(d,⟨_,.mq (.it _ _ _)⟩)]=>(ml.get k).map fun L=>(d,L)
  | _,_=>none
 | _=>none
noncomputable def mlPut (ml:Tr (List Int)) (wo:List (Nat×Obj)):Option (Nat×List Int)→Tr (List Int)
 | some (k,L)=>(Xm ml wo).put TD k (some L)
 | none=>Xm ml wo
noncomputable def AdD (o:Oper) (s:CS) (q:Rec):Tr (List Int) :=
 match q.wo with
 | []=>s.ml
 | wo=>mlPut s.ml wo (Vl o.op (o.op.operands.toList.map (ev s.st)) s.ml wo)
noncomputable def updC (s:CS) (r:Rec) (ml:Tr (List Int)):CS:=⟨putL r.ws s.sl,putL r.wo s.ob,ml⟩
noncomputable def AaU (c nt id:Nat) (gs:List (Option Nat)):List Oper→Nat→CS→List Rec→Except (List Nat) (List Rec×CS)
 | [],_,s,acc => .ok (acc.reverse,s)
 | o::r,i,s,acc=>match doOp T H self c nt gs o s.st with
  | .ok (_,q)=>bif Dt q.ws&&Dt q.wo then AaU c nt id gs r (i+1) (updC s q (AdD o s q)) (q::acc) else .error [c,id,i,18]
  | .error e => .error (e ++ [c,id,i])
def Afu (ops:List Oper) (recs:List Rec):Bool:=indep [] recs (masks (ops.map Ij) [])&&backs (ops.map Ij) 0
def fin2 (c id:Nat) (draw:Bool) (ops:List Oper):Except (List Nat) (List Rec×CS)→Ans
 | .ok (recs,s)=>bif !draw||Afu ops recs then .code .normal s else .err [c,id,3]
 | .error e => .err e
noncomputable def Aef (c id:Nat) (s:CS):CS :=
 match assoc ((assoc H.frz c).getD []) id with
 | some ts=>frzT s (Adi (dedup (ts.flatMap fun t=>Ym owns1 3 ((s.sl.get t).getD .any)) []))
 | none=>s
noncomputable def Yz (c:Nat) (s:CS) (d d2 k g:Nat) (f:Int→PV) (rem:Int→Bool):List Int→Ans
 | [] => .code .normal ⟨(s.sl.put TD d none).put TD d2 (some (pB false)),s.ob,s.ml⟩
 | [n] => .code .normal ⟨(s.sl.put TD d none).put TD d2 (some (pB true)),s.ob.put TD k (some ⟨g,.mq (.it f (Cc rem n false) (some n))⟩),s.ml⟩
 | _ => .err [c,31]
def Acd : List Int→List Int
 | [] => []
 | n::r=>n::(Acd r).filter fun m => !decide (m=n)
noncomputable def doNext1 (c:Nat) (s:CS) (d d2 k g:Nat):Option Obj→Option (List Int)→Ans
 | some ⟨g',.mq (.it f rem _)⟩,some L=>bif Nat.beq g' g&&Nat.blt k 1000000 then Yz c s d d2 k g f rem ((Acd L).filter rem) else .err [c,32]
 | _,_ => .err [c,33]
noncomputable def Age (c nt:Nat) (s:CS):Nat×Nat×Nat→Ans
 | (t,d,d2)=>bif Nat.blt d nt&&Nat.blt d2 nt&&Nat.blt d 1000000&&Nat.blt d2 1000000 then (match s.st.slots t with
  | .ref k g 0=>doNext1 c s d d2 k g (s.ob.get k) (s.ml.get k)
  | _ => .err [c,34]) else .err [c,35]
noncomputable def Zo (c nt id:Nat) (ops:List Oper) (draw:Bool) (s:CS):Ans :=
 match AdK ops with
 | some q=>bif draw then .err [c,36] else Age c nt s q
 | none=>fin2 c id draw ops (AaU T H self c nt id (ops.map (·.dst)) ops 0 (Aef H c id s) [])
noncomputable def Fr (c nt:Nat) (cd:Code) (s:CS):Ans :=
 match cd with
 | .skip => .code .normal s
 | .ret => .code .ret s
 | .exit id => .code (.exit id) s
 | .seq x y=>Ace self c nt y (self (.code c nt x s))
 | .cond q x y=>AfS self c nt x y s (bif Aq q then AbS (ev s.st q) else none)
 | .block id x=>Rj id (self (.code c nt x s))
 | .loop x=>Aag self c nt x (self (.code c nt x s))
 | .region id ops draw=>Zo T H self c nt id ops.toList draw s
 | _ => .err [c,4]
noncomputable def doEnd3 (f m:Nat):Option (MV×List Body)→Ans
 | some (res,bs)=>bif Nat.ble m bs.length then .fn (nnM 3 res) (bs.take m) (bs.drop m) else .err [f,20]
 | none => .err [f,14]
noncomputable def Adz (fn:Func) (fz:Bool) (m:Nat) (s:CS):CS :=
 bif fz then (match rvs T ⟨s.st.slots,Sy m s.ob.get⟩ fn.results.toList with
  | some ys=>frzT s (Adi (((reach s.ob.get 200 [] (ys.flatMap (Ym both1 3))).filter fun k=>Nat.ble m k).reverse))
  | none=>s) else s
noncomputable def doEnd2 (f:Nat) (fn:Func) (m:Nat) (s:CS):Option (List MV)→Ans
 | some ys =>
  let ob:=Sy m s.ob.get
  let ex:=(reach ob 200 [] (ys.flatMap (Ym both1 3)++(upN m 0).flatMap (boxKeys ob))).filter fun k=>Nat.ble m k
  doEnd3 f m (fin T fn.results.toList m ex (normT s (Adi (upN m 0++ex))).st)
 | none => .err [f,13]
noncomputable def AfE (f:Nat) (fn:Func) (m:Nat) (s:CS):Ans:=doEnd2 T f fn m s (rvs T ⟨s.st.slots,Sy m s.ob.get⟩ fn.results.toList)
noncomputable def doEnd (f:Nat) (fn:Func) (fz:Bool) (m:Nat):Ans→Ans
 | .code .ret s=>AfE T f fn m (Adz T fn fz m s)
 | .code .normal s=>AfE T f fn m (Adz T fn fz m s)
 | .err l => .err l
 | _ => .err [f,15]
noncomputable def AdU (sl:List (Nat×MV)) (ob:List (Nat×Obj)):CS:=⟨putR sl,putR ob,.lf⟩
noncomputable def doFn3 (f:Nat) (fn:Func) (fz:Bool) (n m:Nat) (cd:Code) (sl:List (Nat×MV)) (ob:List (Nat×Obj)):Ans :=
 bif Nat.ble n fn.ntmps&&Nat.ble m 1000&&Dt sl&&Dt ob then doEnd T f fn fz m (self (.code f fn.ntmps cd (AdU sl ob))) else .err [f,19]
noncomputable def doFn2 (f:Nat) (fn:Func) (fz:Bool) (args:List MV) (outs:List Body):Option Code→Ans
 | some cd=>doFn3 T self f fn fz args.length outs.length cd (Sn (upN args.length 0) (upN outs.length 0) ⟨fun t=>(args[t]?).getD .any,Bn outs⟩) (Po (upN outs.length 0) ⟨fun t=>(args[t]?).getD .any,Bn outs⟩)
 | none => .err [f,12]
noncomputable def doFn (f:Nat) (fz:Bool) (args:List MV) (outs:List Body):Option Func→Ans
 | some fn=>doFn2 T self f fn fz args outs fn.body
 | none => .err [f,11]
def AcU : List MV→List Body→Bool
 | [.own 0 0 0 1,.p (.v (.int .i64 0)),.own 1 0 0 1],[.row 3 1 _,.row 3 1 _]=>true
 | _,_=>false
def doWk : Bool→Ans→Ans
 | true,_ => .fn .any [.dead,.dead] []
 | false,a=>a
def doKn : Option MV→Ans→Ans
 | some r,_ => .fn r [] []
 | none,a=>a
noncomputable def doTask:Todo→Ans
 | .code c nt cd s=>Fr T H self c nt cd s
 | .fn f fz args outs=>doWk (elem f H.weak&&AcU (args.map (nnM 3)) outs) (doKn (bif outs.isEmpty then kn H.known f (args.map (nnM 3)) else none) (doFn T self f fz (args.map (nnM 3)) outs P.funcs[f]?))
end
noncomputable def Hn (P:Program) (T:Ty) (H:Tc) (n:Nat):Todo→Ans :=
 Nat.rec (motive:=fun _=>Todo→Ans) (fun _ => .err [0]) (fun _ ih=>doTask P T H ih) n
def Acs (R:MV):Ans→Bool
 | .fn r [] []=>eqM 4 r R
 | _=>false
end Go.Dm

/- The data machine, closed runs are sound. -/
namespace Go.Dm
section
variable {α β:Type}
theorem Tr.get_lf (n:Nat):(Tr.lf:Tr α).get n=none:=rfl
theorem Tr.get_nd (x:Option α) (l r:Tr α) (n:Nat):(Tr.nd x l r).get n=bif Nat.beq n 0 then x else bif Nat.beq (n % 2) 1 then l.get (n / 2) else r.get (n / 2-1):=rfl
theorem Tr.get_eta (t:Tr α) (n:Nat):t.get n=bif Nat.beq n 0 then t.val else bif Nat.beq (n % 2) 1 then t.lft.get (n / 2) else t.rgt.get (n / 2-1):=by
 cases t with
 | lf=>cases Nat.beq n 0 <;> cases Nat.beq (n % 2) 1 <;> rfl
 | nd x l r=>rfl
theorem Tr.put_succ (d:Nat) (t:Tr α) (n:Nat) (x:Option α):t.put (d+1) n x=bif Nat.beq n 0 then .nd x t.lft t.rgt else bif Nat.beq (n % 2) 1 then .nd t.val (t.lft.put d (n / 2) x) t.rgt else .nd t.val t.lft (t.rgt.put d (n / 2-1) x):=rfl
theorem Tr.get_put : ∀ (d:Nat) (t:Tr α) (n:Nat) (x:Option α) (m:Nat),n+1<2 ^ d→(t.put d n x).get m=bif Nat.beq m n then x else t.get m:=by
 intro d
 induction d with
 | zero=>intro t n x m h; simp at h
 | succ d ih =>
  intro t n x m h
  have hp:2 ^ (d+1)=2*2 ^ d:=by rw [Nat.pow_succ]; omega
  rw [Tr.put_succ]
  by_cases h0:n=0
  ·subst h0
   rw [Nat.beq_refl,cond_true,Tr.get_nd]
   by_cases hm:m=0
   ·subst hm; simp [Nat.beq_refl]
   ·rw [Df hm,cond_false,cond_false,Tr.get_eta t m,Df hm,cond_false]
  ·rw [Df h0,cond_false]
   by_cases h1:n % 2=1
   ·rw [h1,Nat.beq_refl,cond_true,Tr.get_nd,Tr.get_eta t m]
    by_cases hm:m=0
    ·subst hm
     rw [Nat.beq_refl,cond_true,cond_true,Df (Ne.symm h0),cond_false]
    ·rw [Df hm,cond_false,cond_false]
     by_cases hm1:m % 2=1
     ·rw [hm1,Nat.beq_refl,cond_true,cond_true,ih _ _ _ _ (by omega)]
      by_cases e:m=n
      ·subst e; rw [Nat.beq_refl,Nat.beq_refl]
      ·rw [Df e,Df (by omega)]
     ·rw [Df hm1,cond_false,cond_false,Df (by omega:m≠n),cond_false]
   ·rw [Df h1,cond_false,Tr.get_nd,Tr.get_eta t m]
    by_cases hm:m=0
    ·subst hm
     rw [Nat.beq_refl,cond_true,cond_true,Df (Ne.symm h0),cond_false]
    ·rw [Df hm,cond_false,cond_false]
     by_cases hm1:m % 2=1
     ·rw [hm1,Nat.beq_refl,cond_true,cond_true,Df (by omega:m≠n),cond_false]
     ·rw [Df hm1,cond_false,cond_false,ih _ _ _ _ (by omega)]
      by_cases e:m=n
      ·subst e; rw [Nat.beq_refl,Nat.beq_refl]
      ·rw [Df e,Df (by omega)]
theorem Tr.get_put' {t:Tr α} {n:Nat} {x:Option α} (h:Nat.blt n 1000000=true) (m:Nat):(t.put TD n x).get m=bif Nat.beq m n then x else t.get m:=by
 have:=Nat.le_of_ble_eq_true h
 exact Tr.get_put TD t n x m (by show n+1<2 ^ 20; omega)
theorem Tr.get_map (f:α→β):∀ (t:Tr α) (n:Nat),(t.map f).get n=(t.get n).map f
 | .lf,n=>rfl
 | .nd x l r,n=>by
  rw [Tr.map,Tr.get_nd,Tr.get_nd,Tr.get_map f l,Tr.get_map f r]
  cases Nat.beq n 0 <;> cases Nat.beq (n % 2) 1 <;> rfl
end
theorem putL_sl : ∀ (ws:List (Nat×MV)) (t:Tr MV),Dt ws=true→(fun n=>((putL ws t).get n).getD .any)=Nf (fun n=>(t.get n).getD .any) ws
 | [],t,_=>rfl
 | (k,x)::r,t,h=>by
  simp only [Dt,Bool.and_eq_true] at h
  rw [putL,putL_sl r _ h.2,Nf]
  congr 1
  funext n
  rw [Tr.get_put' h.1]
  simp only [Az]
  cases Nat.beq n k <;> rfl
theorem AgC : ∀ (wo:List (Nat×Obj)) (t:Tr Obj),Dt wo=true→(putL wo t).get=Br t.get wo
 | [],t,_=>rfl
 | (k,x)::r,t,h=>by
  simp only [Dt,Bool.and_eq_true] at h
  rw [putL,AgC r _ h.2,Br]
  congr 1
  funext n
  rw [Tr.get_put' h.1]
  rfl
theorem updC_st (s:CS) (r:Rec) (ml:Tr (List Int)) (h:(Dt r.ws&&Dt r.wo)=true):(updC s r ml).st=Eg s.st r:=by
 simp only [Bool.and_eq_true] at h
 unfold CS.st updC Eg
 simp only
 rw [putL_sl _ _ h.1,AgC _ _ h.2]
theorem Afe {α:Type} : ∀ (l:List (Nat×α)),Dt l=true→∀ n,(putR l).get n=assoc l n
 | [],_,n=>rfl
 | (k,x)::r,h,n=>by
  simp only [Dt,Bool.and_eq_true] at h
  rw [putR,Tr.get_put' h.1,Afe r h.2,assoc]
theorem Jr {e:Option Eff} {b:Bool} {y:MV} {wo:List (Nat×Obj)} (h:okE e b=some (y,wo)):∃ obl,e=some (y,wo,obl)∧b=true:=by
 unfold okE at h
 split at h
 ·rename_i y' wo' obl
  simp only [Option.some.injEq,Prod.mk.injEq] at h
  obtain ⟨rfl,rfl⟩:=h
  exact ⟨obl,rfl,rfl⟩
 ·simp at h
theorem Ags {g:Option Eff} {xs:List MV} {y:MV} {wo:List (Nat×Obj)} (h:f0 g xs=some (y,wo)):xs = []∧∃ obl,g=some (y,wo,obl):=by
 unfold f0 at h
 split at h
 ·obtain ⟨obl,h1,_⟩:=Jr h
  exact ⟨rfl,obl,h1⟩
 ·simp at h
theorem Gq {g:MV→Option Eff} {c:MV→Bool} {xs:List MV} {y:MV} {wo:List (Nat×Obj)} (h:f1 g c xs=some (y,wo)):∃ x,xs = [x]∧∃ obl,g x=some (y,wo,obl)∧c x=true:=by
 unfold f1 at h
 split at h
 ·rename_i x
  obtain ⟨obl,h1,h2⟩:=Jr h
  exact ⟨x,rfl,obl,h1,h2⟩
 ·simp at h
theorem Nt {g:MV→MV→Option Eff} {c:MV→MV→Bool} {xs:List MV} {y:MV} {wo:List (Nat×Obj)} (h:f2 g c xs=some (y,wo)):∃ x z,xs = [x,z]∧∃ obl,g x z=some (y,wo,obl)∧c x z=true:=by
 unfold f2 at h
 split at h
 ·rename_i x z
  obtain ⟨obl,h1,h2⟩:=Jr h
  exact ⟨x,z,rfl,obl,h1,h2⟩
 ·simp at h
theorem Aet {g:MV→MV→MV→Option Eff} {c:MV→MV→MV→Bool} {xs:List MV} {y:MV} {wo:List (Nat×Obj)} (h:f3 g c xs=some (y,wo)):∃ x z u,xs = [x,z,u]∧∃ obl,g x z u=some (y,wo,obl)∧c x z u=true:=by
 unfold f3 at h
 split at h
 ·rename_i x z u
  obtain ⟨obl,h1,h2⟩:=Jr h
  exact ⟨x,z,u,rfl,obl,h1,h2⟩
 ·simp at h
section
variable {T : Ty} {t dst:Nat} {ob:As} {x z u y:MV} {wo:List (Nat×Obj)} {obl:List Prop}
theorem Ahp (h:Tp x=some (y,wo,obl)):All obl:=by
 simp only [Tp,Option.some.injEq,Prod.mk.injEq] at h
 obtain ⟨_,_,rfl⟩:=h
 trivial
theorem all_alloc (h:Wj T t dst ob=some (y,wo,obl)):All obl:=by
 unfold Wj Ww at h
 (repeat' split at h) <;> simp at h <;> (obtain ⟨_,_,rfl⟩:=h; trivial)
theorem all_box (h:AbP dst ob x=some (y,wo,obl)):All obl:=by
 unfold AbP Ww at h
 (repeat' split at h) <;> simp at h <;> (obtain ⟨_,_,rfl⟩:=h; trivial)
theorem all_build {ps:List (Nat×MV)} (h:Tj T t ps=some (y,wo,obl)):All obl:=by
 unfold Tj at h
 (repeat' split at h) <;> simp at h <;> (obtain ⟨_,_,rfl⟩:=h; trivial)
theorem Agp {len:Nat} {ps:List (Nat×MV)} (h:Jt T t len dst ob ps=some (y,wo,obl)):All obl:=by
 unfold Jt Nx at h
 simp only [Bool.cond_eq_ite] at h
 (repeat' split at h) <;> simp at h <;> (obtain ⟨_,_,rfl⟩:=h; trivial)
theorem all_nil (h:AbL x=some (y,wo,obl)):All obl:=by
 unfold AbL at h
 (repeat' split at h) <;> simp at h <;> (obtain ⟨_,_,rfl⟩:=h; trivial)
theorem all_un {op:UnOp} (h:Aem op x=some (y,wo,obl)):All obl:=by
 unfold Aem at h
 (repeat' split at h) <;> simp at h <;> (obtain ⟨_,_,rfl⟩:=h; trivial)
theorem all_conv1 {d:Nat} (h:Sb T d x=some (y,wo,obl)):All obl:=by
 unfold Sb at h
 (repeat' split at h) <;> simp at h <;> (obtain ⟨_,_,rfl⟩:=h; trivial)
theorem all_conv2 {d:Nat} (h:Wf T d x=some (y,wo,obl)):All obl:=by
 unfold Wf at h
 (repeat' split at h) <;> simp at h <;> (obtain ⟨_,_,rfl⟩:=h; trivial)
theorem all_conv {s d:Nat} (h:fConv T s d x=some (y,wo,obl)):All obl:=by
 unfold fConv at h
 cases hb:(assoc T s).isSome with
 | false=>simp [hb] at h
 | true =>
  simp only [hb,cond_true] at h
  split at h
  ·rename_i e he
   rw [h] at he
   exact all_conv1 he
  ·exact all_conv2 h
theorem all_bound {f:Nat} {xs:List MV} (h:Wh f xs=some (y,wo,obl)):All obl:=by
 simp only [Wh,Option.some.injEq,Prod.mk.injEq] at h
 obtain ⟨-,-,rfl⟩:=h
 trivial
theorem all_func {f:Nat} {xs:List MV} (h:Zf f xs=some (y,wo,obl)):All obl:=by
 unfold Zf at h
 cases hb:Nat.blt f BND <;> rw [hb] at h <;> (split at h <;> simp at h <;> (obtain ⟨_,_,rfl⟩:=h; trivial))
theorem Ahc {f:Nat} (h:Nr T t f x=some (y,wo,obl)):All obl:=by
 unfold Nr at h
 simp only [Bool.cond_eq_ite] at h
 (repeat' split at h) <;> simp at h <;> (obtain ⟨_,_,rfl⟩:=h; trivial)
theorem all_field {f:Nat} (h:Wk T t f x=some (y,wo,obl)):All obl:=by
 unfold Wk at h
 (repeat' split at h) <;> simp at h <;> (obtain ⟨_,_,rfl⟩:=h; trivial)
theorem AhT {i:Nat} (h:Sa i x=some (y,wo,obl)):All obl:=by
 unfold Sa at h
 (repeat' split at h) <;> simp at h <;> (obtain ⟨_,_,rfl⟩:=h; trivial)
theorem all_len (h:AbG T t x=some (y,wo,obl)):All obl:=by
 unfold AbG at h
 (repeat' split at h) <;> simp at h <;> (obtain ⟨_,_,rfl⟩:=h; trivial)
theorem all_min {b:Bool} (h:Xd b x z=some (y,wo,obl)):All obl:=by
 unfold Xd at h
 (repeat' split at h) <;> simp at h <;> (obtain ⟨_,_,rfl⟩:=h; trivial)
theorem all_del (h:Tn T t ob x z=some (y,wo,obl)):All obl:=by
 unfold Tn at h
 (repeat' split at h) <;> simp at h <;> (obtain ⟨_,_,rfl⟩:=h; trivial)
theorem AiQ (h:Oh T t x=some (y,wo,obl)):All obl:=by
 unfold Oh at h
 simp only [Bool.cond_eq_ite] at h
 (repeat' split at h) <;> simp at h <;> (obtain ⟨_,_,rfl⟩:=h; trivial)
theorem all_mkmap (h:orE (Ml T t dst ob) (Kn T t dst ob)=some (y,wo,obl)):All obl:=by
 rcases Ox h with h|h
 ·unfold Ml at h
  (repeat' split at h) <;> simp at h <;> (obtain ⟨_,_,rfl⟩:=h; trivial)
 ·unfold Kn at h
  (repeat' split at h) <;> simp at h <;> (obtain ⟨_,_,rfl⟩:=h; trivial)
theorem Afz (h:orE (Ku T t ob x z u) (Is T t ob x z u)=some (y,wo,obl)):All obl:=by
 rcases Ox h with h|h
 ·unfold Ku at h
  (repeat' split at h) <;> simp at h <;> (obtain ⟨_,_,rfl⟩:=h; trivial)
 ·unfold Is at h
  (repeat' split at h) <;> simp at h <;> (obtain ⟨_,_,rfl⟩:=h; trivial)
theorem all_make (h:Za T t dst ob x z=some (y,wo,obl)) (hc:chkM T t x z=true):All obl:=by
 unfold Za Nx at h
 simp only [Bool.cond_eq_ite] at h
 split at h
 case h_2=>simp at h
 rename_i e s1 s2 s3 s4 k1 p k2 c hi
 split at h
 case h_2=>simp at h
 rename_i i hi2
 split at h
 case isFalse=>simp at h
 split at h
 case h_2=>simp at h
 simp only [Option.some.injEq,Prod.mk.injEq] at h
 obtain ⟨_,_,rfl⟩:=h
 simp only [chkM,hi,hi2,Fb,Bool.and_eq_true,decide_eq_true_eq] at hc
 exact ⟨hc.1.1.1,hc.1.1.2,hc.1.2,hc.2,trivial⟩
theorem Aip (h:Oi T t dst ob x=some (y,wo,obl)):All obl:=by
 unfold Oi at h
 (repeat' split at h) <;> simp at h <;> (obtain ⟨_,_,rfl⟩:=h; trivial)
theorem all_nextS (h:Vm ob x=some (y,wo,obl)):All obl:=by
 unfold Vm at h
 simp only [Bool.cond_eq_ite] at h
 (repeat' split at h) <;> simp at h <;> (obtain ⟨_,_,rfl⟩:=h; trivial)
theorem all_range (h:Qp T t dst ob x=some (y,wo,obl)):All obl:=by
 unfold Qp at h
 split at h
 ·simp only [Option.some.injEq,Prod.mk.injEq] at h; obtain ⟨-,-,rfl⟩:=h; trivial
 ·rename_i q2 g3 hmt
  split at h
  ·cases hb:Nat.beq q2 (key dst 0) with
   | true=>simp [hb] at h
   | false=>simp only [hb,cond_false,Option.some.injEq,Prod.mk.injEq] at h; obtain ⟨-,-,rfl⟩:=h; trivial
  ·simp at h
 ·simp at h
theorem all_rng (h:orE (Qp T t dst ob x) (Oi T t dst ob x)=some (y,wo,obl)):All obl:=by
 unfold orE at h
 split at h
 ·rename_i e he
  injection h with h
  subst h
  exact all_range he
 ·exact Aip h
theorem all_entry (h:Vp ob x=some (y,wo,obl)):All obl:=by
 unfold Vp at h
 repeat' split at h
 all_goals first
  | (simp only [Option.some.injEq,Prod.mk.injEq] at h; obtain ⟨-,-,rfl⟩:=h; trivial)
  | simp at h
theorem all_load (h:Rw T t ob x=some (y,wo,obl)) (hc:chkE ob x=true):All obl:=by
 unfold Rw at h
 split at h
 ·simp at h
 ·cases x with
  | eref k g ix off =>
   simp only [chkE] at hc
   simp only at h
   split at h
   ·rename_i W n f hr
    rw [hr] at hc
    simp only at hc
    split at h
    ·simp only [Option.some.injEq,Prod.mk.injEq] at h
     obtain ⟨_,_,rfl⟩:=h
     exact ⟨Nat.le_of_ble_eq_true hc,trivial⟩
    ·simp at h
   ·simp at h
  | _ =>
   simp only at h
   (repeat' split at h) <;> simp at h <;> (obtain ⟨_,_,rfl⟩:=h; trivial)
theorem all_store (h:Vw T t ob x z=some (y,wo,obl)) (hc:chkE ob x=true):All obl:=by
 unfold Vw at h
 simp only [Bool.cond_eq_ite] at h
 split at h
 ·split at h
  ·cases x with
   | eref k g ix off =>
    simp only [chkE] at hc
    simp only at h
    split at h
    ·rename_i hr _
     rw [hr] at hc
     simp only at hc
     split at h
     ·simp only [Option.some.injEq,Prod.mk.injEq] at h
      obtain ⟨_,_,rfl⟩:=h
      exact ⟨Nat.le_of_ble_eq_true hc,trivial⟩
     ·simp at h
    ·simp at h
   | _ =>
    simp only at h
    (repeat' split at h) <;> simp at h <;> (obtain ⟨_,_,rfl⟩:=h; trivial)
  ·simp at h
 ·simp at h
theorem Ahe (h:Oa T t ob x z=some (y,wo,obl)) (hc:chkI x z=true):All obl:=by
 unfold Oa at h
 simp only [Bool.cond_eq_ite] at h
 (repeat' split at h) <;> simp at h
 all_goals
  obtain ⟨_,_,rfl⟩:=h
  simp only [chkI,lenB,Fb,Bool.and_eq_true,decide_eq_true_eq] at hc
  exact ⟨hc.1,hc.2,trivial⟩
theorem all_index (h:Vs T t x z=some (y,wo,obl)) (hc:chkI x z=true):All obl:=by
 unfold Vs at h
 (repeat' split at h) <;> simp at h
 all_goals
  obtain ⟨_,_,rfl⟩:=h
  simp only [chkI,lenB,Fb,Bool.and_eq_true,decide_eq_true_eq] at hc
  exact ⟨hc.1,hc.2,trivial⟩
theorem AaI {lo hi:Option Int} (h:Ju T t ob x lo hi=some (y,wo,obl)) (hc:chkS lo hi x=true):All obl:=by
 unfold Ju at h
 simp only [Bool.cond_eq_ite] at h
 (repeat' split at h) <;> simp at h
 all_goals
  obtain ⟨_,_,rfl⟩:=h
  simp only [chkS,lenB,Bool.and_eq_true,decide_eq_true_eq] at hc
  exact ⟨hc.1.1,hc.1.2,hc.2,trivial⟩
theorem AiC {t2:Nat} (h:Tm T t t2 dst ob x z=some (y,wo,obl)) (hc:chkA T t x z=true):All obl:=by
 unfold Tm Nx at h
 simp only [Bool.cond_eq_ite] at h
 split at h
 case h_2=>simp at h
 rename_i e s1 s2 s3 s4 hi
 split at h
 case h_2=>simp at h
 rename_i i hi2
 simp only [chkA,hi,hi2] at hc
 split at h
 case isFalse=>simp at h
 split at h
 case h_2=>simp at h
 rename_i n2 f2 k2 hs
 have hl:lenB z=some n2:=by
  unfold AaD at hs
  simp only [Bool.cond_eq_ite] at hs
  (repeat' split at hs) <;> simp at hs
  all_goals
   obtain ⟨rfl,_⟩:=hs
   rfl
 rw [hl] at hc
 split at h
 ·simp only [Option.some.injEq,Prod.mk.injEq] at h
  obtain ⟨_,_,rfl⟩:=h
  simp only [lenB,Nat.zero_add] at hc
  exact ⟨Nat.le_of_ble_eq_true hc,trivial⟩
 ·simp only [Option.some.injEq,Prod.mk.injEq] at h
  obtain ⟨_,_,rfl⟩:=h
  simp only [lenB,Nat.zero_add] at hc
  exact ⟨Nat.le_of_ble_eq_true hc,trivial⟩
 ·split at h
  ·split at h
   ·simp only [Option.some.injEq,Prod.mk.injEq] at h
    obtain ⟨_,_,rfl⟩:=h
    simp only [lenB] at hc
    exact ⟨Nat.le_of_ble_eq_true hc,trivial⟩
   ·simp at h
  ·simp at h
 ·simp at h
theorem all_clear (h:Wi T t ob x=some (y,wo,obl)) (hc:chkF ob x=true):All obl:=by
 unfold Wi at h
 simp only [Bool.cond_eq_ite] at h
 split at h
 case h_2=>simp at h
 split at h
 case h_2=>simp at h
 rename_i i W n f _ hr
 split at h
 case isFalse=>simp at h
 split at h
 case h_2=>simp at h
 simp only [Option.some.injEq,Prod.mk.injEq] at h
 obtain ⟨_,_,rfl⟩:=h
 simp only [chkF,hr] at hc
 exact ⟨Nat.le_of_ble_eq_true hc,trivial⟩
theorem all_copy (h:Zb T t ob x z=some (y,wo,obl)) (hc:chkF ob x=true):All obl:=by
 unfold Zb at h
 simp only [Bool.cond_eq_ite] at h
 split at h
 case h_2=>simp at h
 split at h
 case h_2=>simp at h
 rename_i i W n f _ hr
 split at h
 case isFalse=>simp at h
 split at h
 case h_2=>simp at h
 simp only [Option.some.injEq,Prod.mk.injEq] at h
 obtain ⟨_,_,rfl⟩:=h
 simp only [chkF,hr] at hc
 exact ⟨Nat.le_of_ble_eq_true hc,trivial⟩
theorem eqPV_le {a b:PV} (h:eqPV a b=true):PLe a b:=by
 unfold eqPV at h
 split at h
 ·simp only [Bool.and_eq_true,decide_eq_true_eq] at h
  obtain ⟨rfl,rfl⟩:=h
  exact fun _ _ _ h=>h
 ·simp only [beq_iff_eq] at h
  subst h
  exact fun _ _ _ h=>h
 ·intro S w v h
  cases h with
  | slnil fl W f h=>exact .slnil _ _ _ (by simp)
  | sl _ _ _ _ _ _ _ _ hfl=>exact absurd rfl hfl.1
 ·simp at h
theorem Aiv {ok:Bool} (h:orE (To T t ob ok x z) (Rn T t ob ok x z)=some (y,wo,obl)) (hc:chkZ T t ob x=true):All obl:=by
 have hz:∀ (e:Nat) (a b:PV),(∃ k s1 s2 s3 s4,assoc T t=some ⟨.map k e,s1,s2,s3,s4⟩)→Uo T e=some a→mapZ ob x=some b→PLe a b:=by
  rintro e a b ⟨k,s1,s2,s3,s4,he⟩ ha hb
  simp only [chkZ,he,ha,hb] at hc
  exact eqPV_le hc
 rcases Ox h with h|h
 ·unfold To at h
  split at h
  case h_2=>simp at h
  rename_i e n hmt _
  split at h
  case h_2=>simp at h
  rename_i z0 zz has f hz0 hm
  simp only [Option.some.injEq,Prod.mk.injEq] at h
  obtain ⟨_,_,rfl⟩:=h
  refine ⟨hz e z0 zz ?_ hz0 ?_,trivial⟩
  ·unfold Yv at hmt
   split at hmt
   ·rename_i k e' s1 s2 s3 s4 hi
    split at hmt
    ·simp at hmt; subst hmt; exact ⟨k,s1,s2,s3,s4,hi⟩
    ·simp at hmt
   ·simp at hmt
  ·split at hm
   ·simp only [mapZ,hm]
   ·simp at hm; simp [mapZ,hm.1]
   ·simp at hm
 ·unfold Rn at h
  split at h
  case h_2=>simp at h
  rename_i k e a c p q k1 g hmt _ _
  split at h
  case h_2=>simp at h
  rename_i z0 zz has f hz0 hm
  simp only [Option.some.injEq,Prod.mk.injEq] at h
  obtain ⟨_,_,rfl⟩:=h
  refine ⟨hz e z0 zz ?_ hz0 ?_,trivial⟩
  ·unfold Abx at hmt
   split at hmt
   ·rename_i k' e' s1 s2 s3 s4 hi
    (repeat' split at hmt) <;> simp at hmt
    obtain ⟨_,rfl,_⟩:=hmt
    exact ⟨k',s1,s2,s3,s4,hi⟩
   ·simp at hmt
  ·have hn:Ka ob k1 g=none:=by
    have hp:=Acn hm
    unfold Ka
    rw [hp]
   simp only [mapZ,hn,hm]
theorem all_bin {op:BinOp} (h:Ze T op t x z=some (y,wo,obl)) (hc:chkB op x z=true):All obl:=by
 unfold Ze at h
 split at h
 ·rename_i e he
  simp only [Option.some.injEq] at h
  subst h
  unfold Afs at he
  split at he
  case h_2=>simp at he
  rename_i a b
  split at he
  case h_2=>simp at he
  rename_i c ob' hs
  simp only [Option.some.injEq,Prod.mk.injEq] at he
  obtain ⟨_,_,rfl⟩:=he
  simp only [chkB] at hc
  unfold scal at hs
  split at hs
  ·rename_i k p k' q
   simp only [scalB] at hc
   split at hs
   ·simp at hs; obtain ⟨_,rfl⟩:=hs; exact ⟨by simpa using hc,trivial⟩
   ·simp at hs; obtain ⟨_,rfl⟩:=hs; exact ⟨by simpa using hc,trivial⟩
   ·split at hs
    ·(repeat' split at hs) <;> simp at hs
     all_goals
      obtain ⟨_,rfl⟩:=hs
      first|trivial|exact ⟨by simpa using hc,trivial⟩
    ·simp at hs
  ·(repeat' split at hs) <;> simp at hs
   all_goals
    obtain ⟨_,rfl⟩:=hs
    first|trivial|exact ⟨Nat.le_of_ble_eq_true (by simpa [scalB] using hc),trivial⟩
  ·simp at hs
 ·split at h
  ·rename_i e he
   simp only [Option.some.injEq] at h
   subst h
   unfold effEq at he
   (repeat' split at he) <;> simp at he <;> (obtain ⟨_,_,rfl⟩:=he; trivial)
  ·split at h
   ·rename_i e he
    simp only [Option.some.injEq] at h
    subst h
    unfold Aas at he
    (repeat' split at he) <;> simp at he <;> (obtain ⟨_,_,rfl⟩:=he; trivial)
   ·unfold Acv at h
    (repeat' split at h) <;> simp at h <;> (obtain ⟨_,_,rfl⟩:=h; trivial)
end
theorem fop_sound {T:Ty} {op:Op} {dst:Nat} {ob:As} {xs:List MV} {y:MV} {wo:List (Nat×Obj)} (h:fop T op dst ob xs=some (y,wo)) :
  ∃ obl,Bp T op dst (doPk op xs).bit ob xs=some (y,wo,obl)∧All obl:=by
 cases op with
 | move q=>obtain ⟨x,rfl,obl,h1,_⟩:=Gq h; exact ⟨obl,h1,Ahp h1⟩
 | assign q=>obtain ⟨x,rfl,obl,h1,_⟩:=Gq h; exact ⟨obl,h1,Ahp h1⟩
 | pick c a b =>
  simp only [fop,fPick] at h
  split at h
  ·rename_i c a b
   split at h
   ·rename_i t ht
    simp only [Option.some.injEq,Prod.mk.injEq] at h
    obtain ⟨rfl,rfl⟩:=h
    unfold AbS at ht
    split at ht
    ·simp only [Option.some.injEq] at ht
     subst ht
     exact ⟨_,rfl,rfl,trivial⟩
    ·simp at ht
   ·simp at h
  ·simp at h
 | alloc t=>obtain ⟨rfl,obl,h1⟩:=Ags h; exact ⟨obl,h1,all_alloc h1⟩
 | box t q=>obtain ⟨x,rfl,obl,h1,_⟩:=Gq h; exact ⟨obl,h1,all_box h1⟩
 | build t ps=>obtain ⟨obl,h1,_⟩:=Jr h; exact ⟨obl,h1,all_build h1⟩
 | buildSlice t len ps=>obtain ⟨obl,h1,_⟩:=Jr h; exact ⟨obl,h1,Agp h1⟩
 | load t q=>obtain ⟨x,rfl,obl,h1,h2⟩:=Gq h; exact ⟨obl,h1,all_load h1 h2⟩
 | store t q r=>obtain ⟨x,z,rfl,obl,h1,h2⟩:=Nt h; exact ⟨obl,h1,all_store h1 h2⟩
 | nilCheck q=>obtain ⟨x,rfl,obl,h1,_⟩:=Gq h; exact ⟨obl,h1,all_nil h1⟩
 | binOp o t p q r=>obtain ⟨x,z,rfl,obl,h1,h2⟩:=Nt h; exact ⟨obl,h1,all_bin h1 h2⟩
 | unOp o t q=>obtain ⟨x,rfl,obl,h1,_⟩:=Gq h; exact ⟨obl,h1,all_un h1⟩
 | convert s d q=>obtain ⟨x,rfl,obl,h1,_⟩:=Gq h; exact ⟨obl,h1,all_conv h1⟩
 | slice t q l hh m =>
  simp only [fop,fSl] at h
  split at h
  ·obtain ⟨x,rfl,obl,h1,h2⟩:=Gq h; exact ⟨obl,h1,AaI h1 h2⟩
  ·unfold fSl1 at h
   split at h
   ·split at h
    ·rename_i zl hz
     obtain ⟨obl,h1,h2⟩:=Jr h
     exact ⟨obl,by simp only [Bp,hz]; exact h1,AaI h1 h2⟩
    ·simp at h
   ·simp at h
  ·unfold fSl2 at h
   split at h
   ·split at h
    ·rename_i zl hz
     obtain ⟨obl,h1,h2⟩:=Jr h
     exact ⟨obl,by simp only [Bp,hz]; exact h1,AaI h1 h2⟩
    ·simp at h
   ·simp at h
  ·unfold fSl3 at h
   split at h
   ·split at h
    ·rename_i zl zh hz hz2
     obtain ⟨obl,h1,h2⟩:=Jr h
     exact ⟨obl,by simp only [Bp,hz,hz2]; exact h1,AaI h1 h2⟩
    ·simp at h
   ·simp at h
  ·rename_i q1 q2
   cases hb:(Pn q1&&Pn q2) with
   | false=>simp [hb] at h
   | true =>
    simp only [hb,cond_true] at h
    split at h
    ·obtain ⟨obl,h1,h2⟩:=Jr h
     exact ⟨obl,by simp only [Bp,hb,cond_true]; exact h1,AiQ h1⟩
    ·simp at h
  ·simp at h
 | makeFunc fn first cap =>
  simp only [fop,fFun] at h
  split at h
  ·rename_i f
   cases hb:first.isEmpty with
   | false =>
    cases hc:cap.isEmpty with
    | false=>simp [hb,hc] at h
    | true =>
    simp only [hb,hc,cond_true,cond_false] at h
    obtain ⟨obl,h1,h2⟩:=Jr h
    exact ⟨obl,by simp only [Bp,hb,hc,cond_true,cond_false]; exact h1,all_bound h1⟩
   | true =>
    simp only [hb,cond_true] at h
    obtain ⟨obl,h1,h2⟩:=Jr h
    exact ⟨obl,by simp only [Bp,hb,cond_true]; exact h1,all_func h1⟩
  ·simp at h
 | fieldAddr t q f=>obtain ⟨x,rfl,obl,h1,_⟩:=Gq h; exact ⟨obl,h1,Ahc h1⟩
 | field t q f=>obtain ⟨x,rfl,obl,h1,_⟩:=Gq h; exact ⟨obl,h1,all_field h1⟩
 | indexAddr t p q=>obtain ⟨x,z,rfl,obl,h1,h2⟩:=Nt h; exact ⟨obl,h1,Ahe h1 h2⟩
 | index t p q=>obtain ⟨x,z,rfl,obl,h1,h2⟩:=Nt h; exact ⟨obl,h1,all_index h1 h2⟩
 | extract q i=>obtain ⟨x,rfl,obl,h1,_⟩:=Gq h; exact ⟨obl,h1,AhT h1⟩
 | makeSlice t q r=>obtain ⟨x,z,rfl,obl,h1,h2⟩:=Nt h; exact ⟨obl,h1,all_make h1 h2⟩
 | makeMap t r =>
  cases r with
  | none=>obtain ⟨rfl,obl,h1⟩:=Ags h; exact ⟨obl,h1,all_mkmap h1⟩
  | some r=>simp [fop] at h
 | lookup t p q ok=>obtain ⟨x,z,rfl,obl,h1,h2⟩:=Nt h; exact ⟨obl,h1,Aiv h1 h2⟩
 | range t q=>obtain ⟨x,rfl,obl,h1,_⟩:=Gq h; exact ⟨obl,h1,all_rng h1⟩
 | entry q=>obtain ⟨x,rfl,obl,h1,_⟩:=Gq h; exact ⟨obl,h1,all_entry h1⟩
 | next q b =>
  cases b with
  | true=>obtain ⟨x,rfl,obl,h1,_⟩:=Gq h; exact ⟨obl,h1,all_nextS h1⟩
  | false=>simp [fop] at h
 | mapUpdate t p q r=>obtain ⟨x,z,u,rfl,obl,h1,_⟩:=Aet h; exact ⟨obl,h1,Afz h1⟩
 | insert t p q r=>obtain ⟨x,z,u,rfl,obl,h1,_⟩:=Aet h; exact ⟨obl,h1,Afz h1⟩
 | call c =>
  obtain ⟨callee,args,ts⟩:=c
  cases callee with
  | builtin b =>
   simp only [fop,fCall,fBlt] at h
   cases b with
   | len =>
    simp only at h
    split at h
    ·rename_i t hts
     obtain ⟨x,rfl,obl,h1,_⟩:=Gq h
     exact ⟨obl,by simp only [Bp,hts]; exact h1,all_len h1⟩
    ·simp at h
   | append =>
    simp only [fApp] at h
    split at h
    ·rename_i t t2 hts
     obtain ⟨x,z,rfl,obl,h1,h2⟩:=Nt h
     exact ⟨obl,by simp only [Bp,hts,h1],AiC h1 h2⟩
    ·simp at h
   | clear =>
    simp only at h
    split at h
    ·rename_i t hts
     obtain ⟨x,rfl,obl,h1,h2⟩:=Gq h
     exact ⟨obl,by simp only [Bp,hts]; exact h1,all_clear h1 h2⟩
    ·simp at h
   | copy =>
    simp only at h
    split at h
    ·rename_i t t2 hts
     obtain ⟨x,z,rfl,obl,h1,h2⟩:=Nt h
     exact ⟨obl,by simp only [Bp,hts]; exact h1,all_copy h1 h2⟩
    ·simp at h
   | delete =>
    simp only at h
    split at h
    ·rename_i t t2 hts
     obtain ⟨x,z,rfl,obl,h1,h2⟩:=Nt h
     exact ⟨obl,by simp only [Bp,hts]; exact h1,all_del h1⟩
    ·simp at h
   | min=>obtain ⟨x,z,rfl,obl,h1,h2⟩:=Nt h; exact ⟨obl,h1,all_min h1⟩
   | max=>obtain ⟨x,z,rfl,obl,h1,h2⟩:=Nt h; exact ⟨obl,h1,all_min h1⟩
   | _=>simp at h
  | _=>simp [fop,fCall] at h
 | _=>simp [fop] at h
theorem Vo {ks:List Nat} {ob:As} {k:Nat} (h:k∈ks):only ks ob k=ob k:=by
 unfold only
 rw [(Pd k ks).2 h]
 rfl
theorem Rg {k:Nat} : ∀ {l:List Nat} {i j:Nat},Ih k l i=some j→k∈l
 | [],i,j,h=>by simp [Ih] at h
 | x::r,i,j,h=>by
  simp only [Ih] at h
  cases hb:Nat.beq k x with
  | true=>simp [Nat.eq_of_beq_eq_true hb]
  | false=>simp [hb] at h; exact List.mem_cons_of_mem _ (Rg h)
theorem Jd {ob:As} {ks ro:List Nat} (hk:∀ k∈ks,k∈ro) {x y:MV} (hb:∀ k∈Qx ks x,k∈ro) (h:Tg ob ks x=some y):Tg (only ro ob) ks x=some y:=by
 cases x with
 | own k g off len =>
  have hin:k∈ro:=by
   cases hi:Ih k ks 0 with
   | some i=>exact hk k (Rg hi)
   | none=>exact hb k (by simp [Qx,hi])
  simp only [Tg,Gr,Vo hin] at h ⊢
  exact h
 | ref k g off =>
  have hin:k∈ro:=by
   cases hi:Ih k ks 0 with
   | some i=>exact hk k (Rg hi)
   | none=>exact hb k (by simp [Qx,hi])
  simp only [Tg,Uy,Vo hin] at h ⊢
  exact h
 | mref k g =>
  have hin:k∈ro:=by
   cases hi:Ih k ks 0 with
   | some i=>exact hk k (Rg hi)
   | none=>exact hb k (by simp [Qx,hi])
  simp only [Tg,Ka,Vo hin] at h ⊢
  exact h
 | _=>exact h
theorem Rx {α:Type} {f g:α→Option α} : ∀ {l m:List α},(∀ x∈l,∀ y,f x=some y→g x=some y)→Rb f l=some m→Rb g l=some m
 | [],m,_,h=>h
 | x::r,m,hfg,h=>by
  simp only [Rb] at h ⊢
  split at h
  ·rename_i y s h1 h2
   rw [hfg x (by simp) y h1,Rx (fun z hz=>hfg z (by simp [hz])) h2]
   exact h
  ·simp at h
theorem toC_only {ob:As} {ks ro:List Nat} (hk:∀ k∈ks,k∈ro) {x y:MV} (hb:∀ k∈bor ks x,k∈ro) (h:toC ob ks x=some y):toC (only ro ob) ks x=some y:=by
 cases x with
 | agg cs =>
  simp only [toC] at h ⊢
  split at h
  ·rename_i ds hd
   rw [Rx (fun c hc y hy=>Jd hk (fun k hk'=>hb k (by simp only [bor,List.mem_flatMap]; exact ⟨c,hc,hk'⟩)) hy) hd]
   exact h
  ·simp at h
 | fn f cs =>
  simp only [toC] at h ⊢
  split at h
  ·rename_i ds hd
   rw [Rx (fun c hc y hy=>Jd hk (fun k hk'=>hb k (by simp only [bor,List.mem_flatMap]; exact ⟨c,hc,hk'⟩)) hy) hd]
   exact h
  ·simp at h
 | p q=>exact Jd (ob:=ob) (ro:=ro) (x := .p q) hk hb h
 | own a b c d=>exact Jd (ob:=ob) (ro:=ro) (x := .own a b c d) hk hb h
 | ref a b c=>exact Jd (ob:=ob) (ro:=ro) (x := .ref a b c) hk hb h
 | eref a b c d=>exact Jd (ob:=ob) (ro:=ro) (x := .eref a b c d) hk hb h
 | fptr a=>exact Jd (ob:=ob) (ro:=ro) (x := .fptr a) hk hb h
 | tup a=>exact Jd (ob:=ob) (ro:=ro) (x := .tup a) hk hb h
 | mref a b=>exact Jd (ob:=ob) (ro:=ro) (x := .mref a b) hk hb h
 | und=>exact Jd (ob:=ob) (ro:=ro) (x := .und) hk hb h
 | any=>exact Jd (ob:=ob) (ro:=ro) (x := .any) hk hb h
theorem Hh {ob:As} {ks ro:List Nat} (hk:∀ k∈ks,k∈ro) {x y:MV} (h:Rr ob ks x=some y):Rr (only ro ob) ks x=some y:=by
 cases x with
 | own k g off len =>
  simp only [Rr] at h
  split at h
  ·rename_i q i hq hi
   simp only [Rr,Gr,Vo (hk k (Rg hi))] at hq ⊢
   rw [hi,hq]
   exact h
  ·simp at h
 | ref k g off =>
  simp only [Rr] at h
  split at h
  ·rename_i q i hq hi
   simp only [Rr,Uy,Vo (hk k (Rg hi))] at hq ⊢
   rw [hi,hq]
   exact h
  ·simp at h
 | mref k g =>
  simp only [Rr] at h
  split at h
  ·rename_i q i hq hi
   simp only [Rr,Ka,Vo (hk k (Rg hi))] at hq ⊢
   rw [hi,hq]
   exact h
  ·simp at h
 | _=>exact h
theorem toC2_only {ob:As} {ks ro:List Nat} (hk:∀ k∈ks,k∈ro) {x y:MV} (h:toC2 ob ks x=some y):toC2 (only ro ob) ks x=some y:=by
 cases x with
 | fn f cs =>
  simp only [toC2] at h ⊢
  split at h
  ·rename_i ds hd
   rw [Rx (fun c hc y hy=>Hh hk hy) hd]
   exact h
  ·simp at h
 | p q=>exact Hh (ob:=ob) (ro:=ro) (x := .p q) hk h
 | own a b c d=>exact Hh (ob:=ob) (ro:=ro) (x := .own a b c d) hk h
 | ref a b c=>exact Hh (ob:=ob) (ro:=ro) (x := .ref a b c) hk h
 | eref a b c d=>exact Hh (ob:=ob) (ro:=ro) (x := .eref a b c d) hk h
 | fptr a=>exact Hh (ob:=ob) (ro:=ro) (x := .fptr a) hk h
 | agg a=>exact Hh (ob:=ob) (ro:=ro) (x := .agg a) hk h
 | tup a=>exact Hh (ob:=ob) (ro:=ro) (x := .tup a) hk h
 | mref a b=>exact Hh (ob:=ob) (ro:=ro) (x := .mref a b) hk h
 | und=>exact Hh (ob:=ob) (ro:=ro) (x := .und) hk h
 | any=>exact Hh (ob:=ob) (ro:=ro) (x := .any) hk h
theorem toB_only {ob:As} {ks ro:List Nat} (hk:∀ k∈ks,k∈ro) {b c:Body} (h:toB ob ks b=some c):toB (only ro ob) ks b=some c:=by
 cases b with
 | box cs =>
  simp only [toB] at h ⊢
  split at h
  ·rename_i ds hd
   rw [Rx (fun c hc y hy=>toC2_only hk hy) hd]
   exact h
  ·simp at h
 | _=>exact h
theorem AfV {ob:As} {kall ro:List Nat} (hk:∀ k∈kall,k∈ro):∀ {l:List Nat} {os:List (Nat×Body)},(∀ k∈l,k∈ro)→Aax ob kall l=some os→Aax (only ro ob) kall l=some os
 | [],os,_,h=>h
 | k::r,os,hl,h=>by
  simp only [Aax] at h ⊢
  rw [Vo (hl k (by simp))]
  split at h
  ·rename_i o s h1 h2
   rw [h1,AfV hk (fun j hj=>hl j (by simp [hj])) h2]
   split at h
   ·rename_i b hb
    simp only [toB_only hk hb]
    exact h
   ·simp at h
  ·simp at h
theorem sameB_D {b c:Body} (h:sameB b c=true):sameD b c:=by
 cases b <;> cases c <;> simp_all [sameB,sameD,Body.same]
theorem AhH : ∀ {l m:List Body},AcT l m=true→All (AcA l m)
 | [],_,_=>trivial
 | _::_,[],_=>trivial
 | b::r,c::s,h=>by
  simp only [AcT,Bool.and_eq_true] at h
  exact ⟨sameB_D h.1,AhH h.2⟩
theorem AgP : ∀ (l:List (Nat×Obj)),Ta [] l=l
 | []=>rfl
 | (k,o)::r=>by simp [Ta,elem,AgP r]
theorem AgN (ob:As):∀ (l:List (Nat×Obj)),Wo [] ob l = []
 | []=>rfl
 | (k,o)::r=>by simp [Wo,elem,AgN ob r]
theorem Oq {o:Oper} {nt:Nat} {α:Type} {x y:α} (hc:((match o.dst with|some t=>Nat.blt t nt|none=>true)&&Gu o.op)=true):(bif (match o.dst with|some t=>Nat.blt t nt|none=>true)&&Gu o.op then x else y)=x:=by
 rw [hc]
 rfl
theorem AfQ {o:Oper} {nt:Nat} {α:Type} {x y:α} (hc:¬ ((match o.dst with|some t=>Nat.blt t nt|none=>true)&&Gu o.op)=true):(bif (match o.dst with|some t=>Nat.blt t nt|none=>true)&&Gu o.op then x else y)=y:=by
 simp only [Bool.not_eq_true] at hc
 rw [hc]
 rfl
theorem nnP_rep {S:Nat→Prop} {w:World} : ∀ (d:Nat) (x:PV) (v:Value),Rep S w v x→Rep S w v (nnP d x):=by
 have sl:∀ (d:Nat) (fl:Fl) (W n:Nat) (f:Nat→List PV) (v:Value),Rep S w v (.sl fl W n f)→Rep S w v (nnP d (.sl fl W n f)):=by
  intro d fl W n f v h
  cases fl with
  | unk =>
   have e:nnP d (.sl .unk W n f)=bif Nat.beq n 0 then .sl .unk W n f else .sl .nn W n f:=by cases d <;> rfl
   rw [e]
   by_cases h0:n=0
   ·subst h0; exact h
   ·rw [Df h0]
    cases h with
    | slnil=>exact absurd rfl h0
    | sl _ _ _ cap b o _ c hfl hcap hs hlen hc h1 hr=>exact .sl _ _ _ _ _ _ _ c (by simp) hcap hs hlen hc h1 hr
  | _=>cases d <;> exact h
 intro d
 induction d with
 | zero =>
  intro x v h
  cases x with
  | sl fl W n f=>exact sl 0 fl W n f v h
  | _=>exact h
 | succ d ih =>
  intro x v h
  cases x with
  | sl fl W n f=>exact sl (d+1) fl W n f v h
  | agg cs =>
   cases h with
   | agg _ vs hl hr h1 =>
    refine .agg _ _ (by simpa using hl) (fun i y hy => ?_) (fun i y hy => ?_)
    ·rw [List.getElem?_map] at hy
     cases hq:cs[i]? with
     | none=>simp [hq] at hy
     | some q=>simp [hq] at hy; subst hy; exact ih _ _ (hr i q hq)
    ·rw [List.getElem?_map] at hy
     cases hq:cs[i]? with
     | none=>simp [hq] at hy
     | some q=>exact h1 i q hq
  | tup cs =>
   cases h with
   | tup _ vs hl hr =>
    refine .tup _ _ (by simpa using hl) (fun i y hy => ?_)
    rw [List.getElem?_map] at hy
    cases hq:cs[i]? with
    | none=>simp [hq] at hy
    | some q=>simp [hq] at hy; subst hy; exact ih _ _ (hr i q hq)
  | _=>exact h
theorem nnM_rel {β:Bi} {objs:As} {S:Nat→Prop} {w:World} : ∀ (d:Nat) (x:MV) (v:Value),RelV β objs S w v x→RelV β objs S w v (nnM d x):=by
 have nnP1:∀ (d:Nat) (q:PV) (v:Value),Rep S w v q→RelV β objs S w v (nnM d (.p q)):=by
  intro d q v h
  cases q with
  | ptr cs =>
   have e:nnM d (.p (.ptr cs)) = .fptr cs:=by cases d <;> rfl
   rw [e]
   cases h with
   | ptr _ b o hs c hc h1 hr=>exact .fptr _ _ _ hs c hc h1 hr
  | _=>cases d <;> exact .p _ _ (nnP_rep _ _ _ h)
 intro d
 induction d with
 | zero =>
  intro x v h
  cases x with
  | p q=>exact nnP1 0 q v h.inv_p
  | _=>exact h
 | succ d ih =>
  intro x v h
  cases x with
  | p q=>exact nnP1 (d+1) q v h.inv_p
  | agg cs =>
   cases h with
   | agg _ vs hl hr h1 =>
    refine .agg _ _ (by simpa using hl) (fun i y hy => ?_) (fun i y hy => ?_)
    ·rw [List.getElem?_map] at hy
     cases hq:cs[i]? with
     | none=>simp [hq] at hy
     | some q=>simp [hq] at hy; subst hy; exact ih _ _ (hr i q hq)
    ·rw [List.getElem?_map] at hy
     cases hq:cs[i]? with
     | none=>simp [hq] at hy
     | some q=>exact h1 i q hq
  | tup cs =>
   cases h with
   | tup _ vs hl hr =>
    refine .tup _ _ (by simpa using hl) (fun i y hy => ?_)
    rw [List.getElem?_map] at hy
    cases hq:cs[i]? with
    | none=>simp [hq] at hy
    | some q=>simp [hq] at hy; subst hy; exact ih _ _ (hr i q hq)
  | _=>exact h
theorem Spec.nnArgs {P:Program} {f:FuncId} {args:List MV} {outs outs' news:List Body} {res:MV} {d:Nat} (h:Spec P f (args.map (nnM d)) outs res outs' news):Spec P f args outs res outs' news:=by
 refine ⟨h.1,fun w Av β vs hp=>h.2 w Av β vs ⟨hp.av,by simpa using hp.len,fun i x hx => ?_,hp.ob,hp.blk,hp.inj⟩⟩
 rw [List.getElem?_map] at hx
 cases hq:args[i]? with
 | none=>simp [hq] at hx
 | some q=>simp [hq] at hx; subst hx; exact nnM_rel d _ _ (hp.args i q hq)
theorem Spec.nnRes {P:Program} {f:FuncId} {args:List MV} {outs outs' news:List Body} {res:MV} {d:Nat} (h:Spec P f args outs res outs' news):Spec P f args outs (nnM d res) outs' news:=by
 refine ⟨h.1,fun w Av β vs hp=>(h.2 w Av β vs hp).mono fun e w' ⟨v,β',he,hq⟩=>⟨v,β',he,⟨hq.kept,hq.loc,hq.len,nnM_rel d _ _ hq.res,hq.ob,hq.blk,hq.inj⟩⟩⟩
theorem eqV_eq {a b:Value} (h:eqV a b=true):a=b:=by
 unfold eqV at h
 split at h
 ·simp only [Bool.and_eq_true,decide_eq_true_eq] at h
  rw [h.1,h.2]
 ·rw [eq_of_beq h]
 ·rename_i x y
  have h:=of_decide_eq_true h
  have:x=y:=by
   cases x; cases y
   simp only [ByteArray.mk.injEq]
   exact Array.toList_inj.1 h
  rw [this]
 ·rfl
 ·rfl
 ·rfl
 ·rfl
 ·simp at h
theorem Gp {α:Type} {g:α→α→Bool} : ∀ {l m:List α},Vi g l m=true→l.length=m.length∧∀ (i:Nat) y,m[i]? = some y→∃ x,l[i]? = some x∧g x y=true
 | [],[],_=>⟨rfl,fun i y h=>by simp at h⟩
 | x::l,y::m,h=>by
  simp only [Vi,Bool.and_eq_true] at h
  obtain ⟨a,b⟩:=Gp h.2
  refine ⟨by simp [a],fun i z hz => ?_⟩
  cases i with
  | zero=>simp only [List.getElem?_cons_zero,Option.some.injEq] at hz; subst hz; exact ⟨x,rfl,h.1⟩
  | succ i=>exact b i z hz
 | [],_::_,h=>by simp [Vi] at h
 | _::_,[],h=>by simp [Vi] at h
theorem AgF {q:Nat→Bool} {n:Nat} (h:(upN n 0).all q=true) (i:Nat) (hi:i<n):q i=true:=by
 rw [List.all_eq_true] at h
 exact h i (List.mem_of_getElem? (by rw [AgB n 0 i hi,Nat.zero_add]))
theorem eqP_rep {S:Nat→Prop} {w:World} : ∀ (d:Nat) (x y:PV) (v:Value),eqP d x y=true→Rep S w v x→Rep S w v y:=by
 have base:∀ (d:Nat) (a:Value) (y:PV) (v:Value),eqP d (.v a) y=true→Rep S w v (.v a)→Rep S w v y:=by
  intro d a y v h hr
  unfold eqP at h
  split at h
  ·rw [← eqV_eq h]; exact hr
  ·simp at h
 intro d
 induction d with
 | zero =>
  intro x y v h hr
  cases x with
  | v a=>exact base 0 a y v h hr
  | _=>simp [eqP] at h
 | succ d ih =>
  intro x y v h hr
  cases x with
  | v a=>exact base (d+1) a y v h hr
  | sl fl W n f =>
   unfold eqP at h
   split at h
   case h_2=>simp at h
   rename_i fl' W' n' f'
   simp only [Bool.and_eq_true,decide_eq_true_eq] at h
   obtain ⟨⟨⟨rfl,hW⟩,hn⟩,ha⟩:=h
   have hW:=Nat.eq_of_beq_eq_true hW
   have hn:=Nat.eq_of_beq_eq_true hn
   subst hW hn
   cases hr with
   | slnil _ _ _ h=>exact .slnil _ _ _ h
   | sl _ _ _ cap b o _ c hfl hcap hs hlen hc h1 hr =>
    refine .sl _ _ _ cap b o _ c hfl hcap hs (fun i hi => ?_) hc h1 (fun i j z hi hz => ?_)
    ·rw [← (Gp (AgF ha i hi)).1]; exact hlen i hi
    ·obtain ⟨q,hq,e⟩:=(Gp (AgF ha i hi)).2 j z hz
     exact ih _ _ _ e (hr i j q hi hq)
  | agg l =>
   unfold eqP at h
   split at h
   case h_2=>simp at h
   rename_i m
   cases hr with
   | agg _ vs hl hr h1 =>
    refine .agg _ _ (by rw [hl,(Gp h).1]) (fun i z hz => ?_) (fun i z hz => ?_)
    ·obtain ⟨q,hq,e⟩:=(Gp h).2 i z hz
     exact ih _ _ _ e (hr i q hq)
    ·obtain ⟨q,hq,e⟩:=(Gp h).2 i z hz
     exact h1 i q hq
  | tup l =>
   unfold eqP at h
   split at h
   case h_2=>simp at h
   rename_i m
   cases hr with
   | tup _ vs hl hr =>
    refine .tup _ _ (by rw [hl,(Gp h).1]) (fun i z hz => ?_)
    obtain ⟨q,hq,e⟩:=(Gp h).2 i z hz
    exact ih _ _ _ e (hr i q hq)
  | _=>simp [eqP] at h
theorem eqM_rel {β:Bi} {objs:As} {S:Nat→Prop} {w:World} : ∀ (d:Nat) (x y:MV) (v:Value),eqM d x y=true→RelV β objs S w v x→RelV β objs S w v y:=by
 have base:∀ (d:Nat) (a:PV) (y:MV) (v:Value),eqM d (.p a) y=true→RelV β objs S w v (.p a)→RelV β objs S w v y:=by
  intro d a y v h hr
  unfold eqM at h
  split at h
  ·exact .p _ _ (eqP_rep _ _ _ _ h hr.inv_p)
  ·simp at h
 have any:∀ (d:Nat) (y:MV) (v:Value),eqM d .any y=true→RelV β objs S w v y:=by
  intro d y v h
  cases d with
  | zero =>
   unfold eqM at h
   split at h
   ·exact .any _
   ·simp at h
  | succ d =>
   unfold eqM at h
   split at h
   ·exact .any _
   ·simp at h
 intro d
 induction d with
 | zero =>
  intro x y v h hr
  cases x with
  | p a=>exact base 0 a y v h hr
  | any=>exact any 0 y v h
  | _=>simp [eqM] at h
 | succ d ih =>
  intro x y v h hr
  cases x with
  | p a=>exact base (d+1) a y v h hr
  | agg l =>
   unfold eqM at h
   split at h
   case h_2=>simp at h
   rename_i m
   cases hr with
   | agg _ vs hl hr h1 =>
    refine .agg _ _ (by rw [hl,(Gp h).1]) (fun i z hz => ?_) (fun i z hz => ?_)
    ·obtain ⟨q,hq,e⟩:=(Gp h).2 i z hz
     exact ih _ _ _ e (hr i q hq)
    ·obtain ⟨q,hq,e⟩:=(Gp h).2 i z hz
     exact h1 i q hq
  | tup l =>
   unfold eqM at h
   split at h
   case h_2=>simp at h
   rename_i m
   cases hr with
   | tup _ vs hl hr =>
    refine .tup _ _ (by rw [hl,(Gp h).1]) (fun i z hz => ?_)
    obtain ⟨q,hq,e⟩:=(Gp h).2 i z hz
    exact ih _ _ _ e (hr i q hq)
  | any=>exact any (d+1) y v h
  | _=>simp [eqM] at h
theorem Spec.eqRes {P:Program} {f:FuncId} {args:List MV} {outs outs' news:List Body} {res r:MV} {d:Nat} (hk:eqM d r res=true) (h:Spec P f args outs r outs' news):Spec P f args outs res outs' news :=
 ⟨h.1,fun w Av β vs hp=>(h.2 w Av β vs hp).mono fun e w' ⟨v,β',he,hq⟩=>⟨v,β',he,⟨hq.kept,hq.loc,hq.len,eqM_rel d _ _ _ hk hq.res,hq.ob,hq.blk,hq.inj⟩⟩⟩
theorem Spec.eqArgs {P:Program} {f:FuncId} {args key:List MV} {outs outs' news:List Body} {res:MV} {d:Nat} (hk:Vi (eqM d) args key=true) (h:Spec P f key outs res outs' news):Spec P f args outs res outs' news:=by
 refine ⟨h.1,fun w Av β vs hp=>h.2 w Av β vs ⟨hp.av,by rw [hp.len,(Gp hk).1],fun i x hx => ?_,hp.ob,hp.blk,hp.inj⟩⟩
 obtain ⟨q,hq,e⟩:=(Gp hk).2 i x hx
 exact eqM_rel d _ _ _ e (hp.args i q hq)
def AbA (P:Program):List (Nat×List MV×MV)→Prop
 | []=>True
 | (f,key,r)::l=>Spec P f key [] r [] []∧AbA P l
theorem kn_ok {P:Program} : ∀ {l:List (Nat×List MV×MV)} {f:Nat} {asx:List MV} {r:MV},AbA P l→kn l f asx=some r→Spec P f asx [] r [] []
 | [],_,_,_,_,h=>by simp [kn] at h
 | (g,key,q)::l,f,asx,r,hk,h=>by
  unfold kn at h
  cases hc:(Nat.beq g f&&Vi (eqM 4) asx key) with
  | true =>
   rw [hc] at h
   simp only [cond_true,Option.some.injEq] at h
   subst h
   simp only [Bool.and_eq_true] at hc
   have hg:=Nat.eq_of_beq_eq_true hc.1
   subst hg
   exact Spec.eqArgs hc.2 hk.1
  | false =>
   rw [hc] at h
   exact kn_ok hk.2 h
def Afy (P:Program) (l:List Nat):Prop:=∀ f,elem f l=true→∀ g1 g2,Spec P f [.own 0 0 0 1,.p (.v (.int .i64 0)),.own 1 0 0 1] [.row 3 1 g1,.row 3 1 g2] .any [.dead,.dead] []
theorem wkArgs_of {asx:List MV} {os:List Body} (h:AcU asx os=true):∃ g1 g2,asx = [.own 0 0 0 1,.p (.v (.int .i64 0)),.own 1 0 0 1]∧os = [.row 3 1 g1,.row 3 1 g2]:=by
 unfold AcU at h
 split at h
 ·exact ⟨_,_,rfl,rfl⟩
 ·simp at h
def FnsOK (P:Program) (self:Todo→Ans):Prop:=∀ f fz args outs res o n,self (.fn f fz args outs) = .fn res o n→Spec P f args outs res o n
section
variable {P : Program} {T:Ty} {H:Tc} {self:Todo→Ans}
def Xc (P:Program) (l:List (Nat×NatK)):Prop:=∀ f k vs z,assoc l f=some k→natV k vs=some z→NatRun P f vs.toArray z
structure OpGo (P:Program) (T:Ty) (gt:List Nat) (o:Oper) (σ:St) (x:Orc) (r:Rec):Prop where
 sk:x.isSkip=false
 go:∀ nt gs gobl,Rf gs o.guard false σ=some (gt,gobl)→((match o.dst with|some t=>Nat.blt t nt|none=>true)&&Gu o.op)=true→All gobl→∃ obl,dstep P T nt gs o x σ=some (r,obl)∧All obl
theorem AgK : ∀ {l:List Body},l.all flatN=true→All (Zd l)
 | [],_=>trivial
 | b::r,h=>by
  rw [List.all_cons,Bool.and_eq_true] at h
  have ih:=AgK h.2
  cases b with
  | row W n f=>exact ⟨fun i hi=>AgF h.1 i hi,ih⟩
  | _=>exact ih
theorem Aix (hs:FnsOK P self) {gt:List Nat} {o:Oper} {fop:Operand} {args:Array Operand} {ts:Array TypeId} (ho:o.op = .call ⟨.value fop,args,ts⟩) {dst f:Nat} (hdst:dst=o.dst.getD 0) {xs:List MV} {σ:St}
  (hf:AbO (ev σ fop) (args.toList.map (ev σ))=some (f,xs)) {ks:List Nat} {asx:List MV} {os:List (Nat×Body)} (h1:Rb (toC σ.objs ks) xs=some asx) (h2:Ns σ.objs ks=some os) {fz:Bool} {x:Orc} {r:Rec}
  (h:Abz gt o dst f ks xs σ (self (.fn f fz asx (os.map (·.2)))) = .ok (x,r)):OpGo P T gt o σ x r:=by
 generalize hans:self (.fn f fz asx (os.map (·.2)))=ans at h
 cases ans with
 | err l=>simp [Abz] at h
 | code e s=>simp [Abz] at h
 | fn res outs' news =>
  have hsp:=hs _ _ _ _ _ _ _ hans
  simp only [Abz] at h
  generalize hbs:dedup (xs.flatMap (bor ks)) []=bs at h
  generalize hkeep:(bs.isEmpty||(news.isEmpty&&outs'.all Body.flatB&&res.scalar)||((outs'++news).all Body.flatR&&(outs'++news).all flatN&&res.scalR))=keep at h
  generalize hro:ks++xs.flatMap (bor ks)++Zh dst news.length 0=ro at h
  split at h
  case h_2=>simp at h
  rename_i as' os' y wo obl hce
  cases hb:AcT os' outs' with
  | false=>simp [hb] at h
  | true =>
  simp only [hb,cond_true,Except.ok.injEq,Prod.mk.injEq] at h
  obtain ⟨rfl,rfl⟩:=h
  have hks:∀ k∈ks,k∈ro:=fun k hk=>by rw [← hro]; simp [hk]
  have hA:Rb (toC (only ro σ.objs) ks) xs=some asx:=Rx (fun c hc y hy=>toC_only hks (fun k hk=>by
   rw [← hro]
   simp only [List.mem_append,List.mem_flatMap]
   exact .inl (.inr ⟨c,hc,hk⟩)) hy) h1
  have hO:Ns (only ro σ.objs) ks=some os:=AfV hks hks h2
  have hce0:=hce
  unfold Ts at hce
  rw [hA,hO] at hce
  simp only [hbs] at hce
  rw [Bool.cond_eq_ite] at hce
  split at hce
  case isFalse=>simp at hce
  simp only [Option.some.injEq,Prod.mk.injEq] at hce
  obtain ⟨e1,e2,e3,e4,e5⟩:=hce
  have hobl:All obl:=by
   rw [← e5]
   cases ho:(!keep||bs.isEmpty||(news.isEmpty&&outs'.all Body.flatB&&res.scalar)) with
   | true=>trivial
   | false =>
    have hf:(outs'++news).all flatN=true:=by
     simp only [Bool.or_eq_false_iff,Bool.not_eq_false'] at ho
     rw [ho.1.1,ho.1.2,ho.2] at hkeep
     simp only [Bool.false_or,Bool.and_eq_true] at hkeep
     exact hkeep.1.2
    exact AgK hf
  refine ⟨rfl,fun nt gs gobl hg hc hgo => ?_⟩
  have hd:dcall P o.op dst f ks keep res outs' news [] σ=some (ro,y,wo,Spec P f as' os' res outs' news::(AcA os' outs'++(Wo [] (only ro σ.objs) wo++obl))):=by
   unfold dcall
   rw [ho]
   simp only [hf,Nat.beq_refl,cond_true,hro,hce0,AgP]
  refine ⟨gobl++(Spec P f as' os' res outs' news::(AcA os' outs'++(Wo [] (only ro σ.objs) wo++obl))),?_,?_⟩
  ·unfold dstep
   simp only [Orc.isSkip,hg]
   refine (Oq hc).trans ?_
   rw [← hdst,hd]
   rfl
  ·rw [All_append]
   refine ⟨hgo,?_⟩
   rw [← e1,← e2]
   refine ⟨hsp,?_⟩
   rw [All_append,All_append,AgN]
   exact ⟨AhH (by rw [e2]; exact hb),trivial,hobl⟩
theorem Ahs (n:Nat) (f:Nat→List PV) (i:Nat) (hi:i<n):ofL (rowL n f) i=f i:=by
 unfold ofL rowL
 rw [List.getElem?_map,AgB n 0 i hi]
 simp
theorem AiP {gt:List Nat} {c:Nat} {o:Oper} {σ:St} {x:Orc} {r:Rec}
  (h:Aew T H gt c o (o.dst.getD 0) σ (o.op.operands.toList.map (ev σ)) (Kh o.op (o.dst.getD 0) (o.op.operands.toList.map (ev σ))) = .ok (x,r)):OpGo P T gt o σ x r:=by
 unfold Aew at h
 split at h
 case h_2=>simp at h
 rename_i q hf
 obtain ⟨y,wo⟩:=q
 obtain ⟨obl,h1,h2⟩:=fop_sound hf
 cases hn:elem (o.dst.getD 0) ((assoc H.new c).getD []) with
 | false =>
  simp only [hn,cond_false,Except.ok.injEq,Prod.mk.injEq] at h
  obtain ⟨rfl,rfl⟩:=h
  have hpk:doPk o.op (o.op.operands.toList.map (ev σ)) = .no∨∃ b,doPk o.op (o.op.operands.toList.map (ev σ)) = .pk b:=by
   unfold doPk
   split
   ·split
    ·exact .inr ⟨_,rfl⟩
    ·exact .inl rfl
   ·exact .inl rfl
  refine ⟨by rcases hpk with e|⟨b,e⟩ <;> rw [e] <;> rfl,fun nt gs gobl hg hc hgo => ?_⟩
  refine ⟨gobl++obl,?_,by rw [All_append]; exact ⟨hgo,h2⟩⟩
  unfold dstep
  rcases hpk with e|⟨b,e⟩
  ·rw [e] at h1 ⊢
   simp only [Orc.isSkip,hg]
   refine (Oq hc).trans ?_
   simp only [h1]
   rfl
  ·rw [e] at h1 ⊢
   simp only [Orc.isSkip,hg]
   refine (Oq hc).trans ?_
   simp only [h1]
   rfl
 | true =>
  simp only [hn,cond_true] at h
  unfold doFrz at h
  split at h
  ·rename_i k g len k' g' W m f t hq hd
   simp only [Prod.mk.injEq] at hq
   obtain ⟨rfl,rfl⟩:=hq
   cases hb:(Nat.beq k k'&&Nat.beq g g'&&Nat.beq len m&&(doPk o.op (o.op.operands.toList.map (ev σ))).bit) with
   | false=>simp [hb] at h
   | true =>
   simp only [hb,cond_true,Except.ok.injEq,Prod.mk.injEq] at h
   obtain ⟨rfl,rfl⟩:=h
   simp only [Bool.and_eq_true] at hb
   rw [hb.2] at h1
   refine ⟨rfl,fun nt gs gobl hg hc hgo=>⟨gobl++(obl ++ [m=m∧∀ i,i<m→f i=ofL (rowL m f) i]),?_,?_⟩⟩
   ·unfold dstep
    simp only [Orc.isSkip,hg]
    refine (Oq hc).trans ?_
    simp only [hd] at h1 ⊢
    simp only [h1,hb.1.1.1,hb.1.1.2,hb.1.2,Bool.and_self,cond_true]
   ·rw [All_append,All_append]
    exact ⟨hgo,h2,⟨rfl,fun i hi=>(Ahs m f i hi).symm⟩,trivial⟩
  ·simp at h
theorem doNat_go (hX:Xc P H.nat) {gt:List Nat} {o:Oper} {fop:Operand} {args:Array Operand} {ts:Array TypeId} (ho:o.op = .call ⟨.value fop,args,ts⟩) {f:Nat} {caps:List MV} {k:NatK} {σ:St} (hf:fnOf (ev σ fop)=some (f,caps)) (hk:assoc H.nat f=some k)
  {x:Orc} {r:Rec} (h:doNat gt o k f caps (Wv (args.toList.map (ev σ))) = .ok (x,r)):OpGo P T gt o σ x r:=by
 generalize hvs:Wv (args.toList.map (ev σ))=ovs at h
 unfold doNat at h
 split at h
 ·rename_i vs
  split at h
  ·rename_i z hz
   simp only [Except.ok.injEq,Prod.mk.injEq] at h
   obtain ⟨rfl,rfl⟩:=h
   refine ⟨rfl,fun nt gs gobl hg hc hgo=>⟨gobl ++ [NatRun P f vs.toArray z],?_,?_⟩⟩
   ·unfold dstep
    simp only [Orc.isSkip,hg]
    refine (Oq hc).trans ?_
    simp only [ho,hf,hvs]
    rw [← ho]
    rfl
   ·rw [All_append]
    exact ⟨hgo,hX f k vs z hk hz,trivial⟩
  ·simp at h
 ·simp at h
theorem Aig {g:MV} {f f2:Nat} {xs caps asx:List MV} (h2:fnOf g=some (f2,caps)) (h:AbO g asx=some (f,xs)):f2=f:=by
 unfold fnOf at h2
 unfold AbO at h
 split at h2
 ·simp only [Option.some.injEq,Prod.mk.injEq] at h h2
  exact h2.1.symm.trans h.1
 ·rename_i f3 caps3
  cases hb:Nat.blt f3 BND with
  | false=>simp [hb] at h2
  | true =>
   simp only [hb,cond_true,Option.some.injEq,Prod.mk.injEq] at h h2
   exact h2.1.symm.trans h.1
 ·simp at h2
theorem AiE (hX:Xc P H.nat) (hs:FnsOK P self) {c nt:Nat} {gs:List (Option Nat)} {o:Oper} {σ:St} {x:Orc} {r:Rec} (h:doOp T H self c nt gs o σ = .ok (x,r)):∃ obl,dstep P T nt gs o x σ=some (r,obl)∧All obl:=by
 unfold doOp at h
 by_cases hc:((match o.dst with|some t=>Nat.blt t nt|none=>true)&&Gu o.op)=true
 case neg =>
  have h:=(AfQ hc).symm.trans h
  simp at h
 have h:=(Oq hc).symm.trans h
 split at h
 ·-- it goes
  rename_i gt hg
  have hgE:∃ gobl,Rf gs o.guard false σ=some (gt,gobl)∧All gobl:=by
   unfold Rf
   cases hgd:o.guard with
   | none =>
    rw [hgd] at hg
    simp only [AbE,Option.some.injEq,Prod.mk.injEq,and_true] at hg
    subst hg
    exact ⟨[],rfl,trivial⟩
   | some q =>
    obtain ⟨j,want⟩:=q
    rw [hgd] at hg
    simp only [AbE] at hg
    split at hg
    ·rename_i t ht
     split at hg
     ·rename_i b hb
      simp only [Option.some.injEq,Prod.mk.injEq] at hg
      obtain ⟨rfl,hw⟩:=hg
      refine ⟨[b=want],by simp only [ht,hb,cond_false],?_,trivial⟩
      cases want <;> cases b <;> simp_all
     ·simp at hg
     ·simp at hg
    ·simp at hg
  obtain ⟨gobl,hg1,hg2⟩:=hgE
  have go:OpGo P T gt o σ x r:=by
   unfold doOp2 at h
   split at h
   ·rename_i fop args ts hop
    unfold doCall at h
    split at h
    case h_2=>simp at h
    rename_i f xs hf
    split at h
    ·rename_i k hk
     unfold doNat0 at h
     split at h
     case h_2=>simp at h
     rename_i f2 caps hf2
     have:f2=f:=Aig hf2 hf
     subst this
     exact doNat_go hX hop hf2 hk h
    unfold doCall2 at h
    split at h
    ·rename_i asx os h1 h2
     exact Aix hs hop rfl hf h1 h2 h
    ·simp at h
    ·simp at h
   ·rename_i op _ hop
    exact AiP h
  exact go.go nt gs gobl hg1 hc hg2
 ·-- it does not
  rename_i gt hg
  simp only [Except.ok.injEq,Prod.mk.injEq] at h
  obtain ⟨rfl,rfl⟩:=h
  cases hgd:o.guard with
  | none =>
   rw [hgd] at hg
   simp [AbE] at hg
  | some q =>
   obtain ⟨j,want⟩:=q
   rw [hgd] at hg
   simp only [AbE] at hg
   split at hg
   ·rename_i t ht
    split at hg
    ·rename_i b hb
     simp only [Option.some.injEq,Prod.mk.injEq] at hg
     obtain ⟨rfl,hw⟩:=hg
     refine ⟨[b = !want],?_,?_,trivial⟩
     ·unfold dstep Rf
      simp only [hgd,ht,hb,Orc.isSkip,cond_true]
      exact Oq hc
     ·cases want <;> cases b <;> simp_all
    ·rename_i hb
     simp only [Option.some.injEq,Prod.mk.injEq,and_true] at hg
     subst hg
     refine ⟨[],?_,trivial⟩
     unfold dstep Rf
     simp only [hgd,ht,hb,Orc.isSkip,cond_true]
     exact Oq hc
    ·simp at hg
   ·simp at hg
 ·simp at h
theorem AeG (hX:Xc P H.nat) (hs:FnsOK P self) {c nt id:Nat} {gs:List (Option Nat)} : ∀ (os:List Oper) (i:Nat) (s:CS) (acc R:List Rec) (s':CS),AaU T H self c nt id gs os i s acc = .ok (R,s') →
  ∃ recs xs obl,R=acc.reverse++recs∧drun P T nt gs os xs s.st=some (recs,obl,s'.st)∧All obl
 | [],i,s,acc,R,s',h=>by
  simp only [AaU,Except.ok.injEq,Prod.mk.injEq] at h
  obtain ⟨rfl,rfl⟩:=h
  exact ⟨[],[],[],by simp,rfl,trivial⟩
 | o::os,i,s,acc,R,s',h=>by
  simp only [AaU] at h
  split at h
  ·rename_i x q hq
   cases hb:(Dt q.ws&&Dt q.wo) with
   | false=>simp [hb] at h
   | true =>
   simp only [hb,cond_true] at h
   obtain ⟨obl1,h1,h2⟩:=AiE hX hs hq
   obtain ⟨recs,xs,obl,h3,h4,h5⟩:=AeG hX hs os (i+1) _ _ R s' h
   refine ⟨q::recs,x::xs,obl1++obl,by rw [h3]; simp,?_,by rw [All_append]; exact ⟨h2,h5⟩⟩
   rw [updC_st _ _ _ hb] at h4
   simp only [drun,h1,h4]
  ·simp at h
end
def ObOK (L:List Int):Option Obj→Prop
 | some ⟨_,.mp _ has _⟩=>∀ n,has n=true→n∈L
 | some ⟨_,.mq (.it _ rem _)⟩=>∀ n,rem n=true→n∈L
 | _=>True
def Lm (s:CS):Prop:=∀ k L,s.ml.get k=some L→ObOK L (s.ob.get k)
theorem Acy : ∀ (wo:List (Nat×Obj)) (ml:Tr (List Int)) (k:Nat) (L:List Int),Dt wo=true→(Xm ml wo).get k=some L→(∀ o,(k,o)∉wo)∧ml.get k=some L
 | [],ml,k,L,_,h=>by
  cases ml with
  | lf=>simp only [Xm,Tr.get_lf] at h; simp at h
  | nd x l r=>exact ⟨by simp,by simpa only [Xm] using h⟩
 | (j,o)::r,ml,k,L,hb,h=>by
  simp only [Dt,Bool.and_eq_true] at hb
  cases ml with
  | lf=>simp only [Xm,Tr.get_lf] at h; simp at h
  | nd x l rr =>
   simp only [Xm] at h
   obtain ⟨h1,h2⟩:=Acy r _ k L hb.2 h
   rw [Tr.get_put' hb.1] at h2
   cases e:Nat.beq k j with
   | true=>rw [e] at h2; simp at h2
   | false =>
    rw [e] at h2
    refine ⟨fun o' hm => ?_,h2⟩
    rcases List.mem_cons.1 hm with q|q
    ·injection q with q1 q2
     subst q1
     rw [Nat.beq_refl] at e
     simp at e
    ·exact h1 o' q
theorem AdR : ∀ (wo:List (Nat×Obj)) (ob:As) (k:Nat),(∀ o,(k,o)∉wo)→Br ob wo k=ob k
 | [],_,_,_=>rfl
 | (j,o)::r,ob,k,h=>by
  rw [Br,AdR r _ k (fun o' hm=>h o' (by simp [hm]))]
  have:k≠j:=fun e=>h o (by simp [e])
  simp only [Bj,Df this,cond_false]
theorem CSok_upd {s:CS} {o:Oper} {q:Rec} (hs:Lm s) (hb:(Dt q.ws&&Dt q.wo)=true)
  (h:∀ k L,Vl o.op (o.op.operands.toList.map (ev s.st)) s.ml q.wo=some (k,L)→Nat.blt k 1000000=true∧ObOK L (Br s.ob.get q.wo k)):Lm (updC s q (AdD o s q)):=by
 simp only [Bool.and_eq_true] at hb
 intro k L hk
 show ObOK L ((putL q.wo s.ob).get k)
 rw [AgC _ _ hb.2]
 change (AdD o s q).get k=some L at hk
 unfold AdD at hk
 split at hk
 ·rename_i e
  rw [e]
  exact hs k L hk
 ·rename_i e
  generalize hm:Vl o.op (o.op.operands.toList.map (ev s.st)) s.ml q.wo=m at hk h
  cases m with
  | none =>
   obtain ⟨h1,h2⟩:=Acy _ _ _ _ hb.2 hk
   rw [AdR _ _ _ h1]
   exact hs k L h2
  | some p =>
   obtain ⟨k0,L0⟩:=p
   obtain ⟨b1,b2⟩:=h k0 L0 rfl
   simp only [mlPut] at hk
   rw [Tr.get_put' b1] at hk
   cases e1:Nat.beq k k0 with
   | true =>
    rw [e1] at hk
    simp only [cond_true,Option.some.injEq] at hk
    subst hk
    have:=Nat.eq_of_beq_eq_true e1
    subst this
    exact b2
   | false =>
    rw [e1] at hk
    obtain ⟨h1,h2⟩:=Acy _ _ _ _ hb.2 hk
    rw [AdR _ _ _ h1]
    exact hs k L h2
theorem AgL {ob:As} {k g:Nat} {z:PV} {has:Int→Bool} {f:Int→PV} (h:Ka ob k g=some (z,has,f)):ob k=some ⟨g,.mp z has f⟩:=by
 unfold Ka at h
 split at h
 ·rename_i g' z' has' f' ho
  cases hb:Nat.beq g' g with
  | false=>simp [hb] at h
  | true =>
   simp [hb] at h
   rw [ho,Nat.eq_of_beq_eq_true hb,h.1,h.2.1,h.2.2]
 ·simp at h
theorem AgQ {T:Ty} {t dst:Nat} {ro:List Nat} {s:CS} (hs:Lm s) {q q' g':Nat} {n:Int} {u y:MV} {wo:List (Nat×Obj)} {obl:List Prop} {g:Nat} {k':Nat} {z:PV} {has:Int→Bool} {f:Int→PV} {L:List Int}
  (h:orE (Ku T t (only ro s.ob.get) (.mref q g') (.p (.v (.int .i64 n))) u) (Is T t (only ro s.ob.get) (.mref q g') (.p (.v (.int .i64 n))) u)=some (y,wo,obl)) (hwo:wo = [(k',⟨g,.mp z has f⟩)]) (hL:s.ml.get q=some L) :
  ∀ m,has m=true→m∈n::L:=by
 unfold orE at h
 split at h
 ·rename_i e he
  injection h with h
  subst h
  unfold Ku at he
  split at he
  ·rename_i q1 g1 n1 x1 hmt hm hk hv
   simp only [MV.mref.injEq] at hm
   obtain ⟨rfl,rfl⟩:=hm
   simp only [MV.p.injEq,PV.v.injEq,Value.int.injEq,true_and] at hk
   subst hk
   split at he
   ·rename_i z1 has1 f1 hg
    simp only [Option.some.injEq,Prod.mk.injEq] at he
    obtain ⟨-,rfl,-⟩:=he
    simp only [List.cons.injEq,Prod.mk.injEq,Obj.mk.injEq,Body.mp.injEq,and_true] at hwo
    obtain ⟨-,-,-,rfl,-⟩:=hwo
    have ho:=Cg (AgL hg)
    have:=hs q L hL
    rw [ho] at this
    intro m hm
    simp only [Cc] at hm
    split at hm
    ·rename_i e; subst e; simp
    ·exact List.mem_cons_of_mem _ (this m hm)
   ·simp at he
  ·simp at he
 ·unfold Is at h
  split at h
  ·split at h
   ·simp only [Option.some.injEq,Prod.mk.injEq] at h
    obtain ⟨-,rfl,-⟩:=h
    simp at hwo
   ·simp at h
  ·simp at h
theorem fop_ml {T:Ty} {op:Op} {dst:Nat} {ro:List Nat} {s:CS} (hs:Lm s) {xs:List MV} {y:MV} {wo:List (Nat×Obj)} (h:fop T op dst (only ro s.ob.get) xs=some (y,wo)) {k:Nat} {L:List Int}
  (hm:Vl op xs s.ml wo=some (k,L)):ObOK L (Br s.ob.get wo k):=by
 cases op with
 | makeMap t r =>
  cases r with
  | some r=>simp [fop] at h
  | none =>
   simp only [Vl] at hm
   split at hm
   ·rename_i k1 g1 z1 has1 f1
    simp only [Option.some.injEq,Prod.mk.injEq] at hm
    obtain ⟨rfl,rfl⟩:=hm
    obtain ⟨rfl,obl,h1⟩:=Ags h
    simp only [Br,Bj,Ct,cond_true]
    unfold orE at h1
    split at h1
    ·rename_i e he
     injection h1 with h1
     subst h1
     unfold Ml at he
     split at he
     ·split at he
      ·simp only [Option.some.injEq,Prod.mk.injEq,List.cons.injEq,Obj.mk.injEq,Body.mp.injEq,and_true] at he
       obtain ⟨-,⟨-,-,-,rfl,-⟩,-⟩:=he
       intro n hn
       simp at hn
      ·simp at he
     ·simp at he
    ·unfold Kn at h1
     split at h1
     ·split at h1
      ·simp at h1
      ·simp at h1
     ·simp at h1
   ·simp at hm
 | mapUpdate t p q r =>
  obtain ⟨x,z,u,rfl,obl,h1,_⟩:=Aet h
  simp only [Vl] at hm
  split at hm
  ·rename_i q1 g1 n u1 k1 g2 z1 has1 f1 hx
   simp only [List.cons.injEq,and_true] at hx
   obtain ⟨rfl,rfl,rfl⟩:=hx
   simp only [Option.map_eq_some_iff,Prod.mk.injEq] at hm
   obtain ⟨L0,hL,rfl,rfl⟩:=hm
   simp only [Br,Bj,Ct,cond_true]
   exact AgQ hs (dst:=dst) (q':=0) h1 rfl hL
  ·simp at hm
 | insert t p q r =>
  obtain ⟨x,z,u,rfl,obl,h1,_⟩:=Aet h
  simp only [Vl] at hm
  split at hm
  ·rename_i q1 g1 n u1 k1 g2 z1 has1 f1 hx
   simp only [List.cons.injEq,and_true] at hx
   obtain ⟨rfl,rfl,rfl⟩:=hx
   simp only [Option.map_eq_some_iff,Prod.mk.injEq] at hm
   obtain ⟨L0,hL,rfl,rfl⟩:=hm
   simp only [Br,Bj,Ct,cond_true]
   exact AgQ hs (dst:=dst) (q':=0) h1 rfl hL
  ·simp at hm
 | range t q =>
  obtain ⟨x,rfl,obl,h1,_⟩:=Gq h
  simp only [Vl] at hm
  split at hm
  ·rename_i q1 g1 o1 d1 g2 f1 rem1 cur1 hx
   simp only [List.cons.injEq,and_true] at hx
   subst hx
   simp only [Option.map_eq_some_iff,Prod.mk.injEq] at hm
   obtain ⟨L0,hL,rfl,rfl⟩:=hm
   unfold orE at h1
   split at h1
   ·rename_i e he
    injection h1 with h1
    subst h1
    unfold Qp at he
    split at he
    ·rename_i hh; simp at hh
    ·rename_i q2 g3 hmt hx2
     simp only [MV.mref.injEq] at hx2
     obtain ⟨rfl,rfl⟩:=hx2
     split at he
     ·rename_i z3 has3 f3 hg
      cases hb:Nat.beq q1 (key dst 0) with
      | true=>simp [hb] at he
      | false =>
       simp only [hb,cond_false,Option.some.injEq,Prod.mk.injEq,List.cons.injEq,Obj.mk.injEq,Body.mq.injEq,MQ.it.injEq,and_true] at he
       obtain ⟨-,⟨rfl,rfl,-,-,rfl,-⟩,-⟩:=he
       have ho:=Cg (AgL hg)
       have hq:=hs q1 L0 hL
       rw [ho] at hq
       simp only [Br,Bj,Ct,cond_true]
       exact hq
     ·simp at he
    ·simp at he
   ·unfold Oi at h1
    repeat' split at h1
    all_goals simp at h1
  ·simp at hm
 | _=>simp [Vl] at hm
theorem doOp_wo {P:Program} {T:Ty} {H:Tc} {self:Todo→Ans} {c nt:Nat} {gs:List (Option Nat)} {o:Oper} {σ:St} {x:Orc} {q:Rec} (h:doOp T H self c nt gs o σ = .ok (x,q)) :
  (∃ y ro,fop T o.op (o.dst.getD 0) (only ro σ.objs) (o.op.operands.toList.map (ev σ))=some (y,q.wo))∨q.wo = []∨(∃ k g,q.wo = [(k,⟨g,.dead⟩)])∨∃ c,o.op = .call c:=by
 unfold doOp at h
 by_cases hc:((match o.dst with|some t=>Nat.blt t nt|none=>true)&&Gu o.op)=true
 case neg =>
  have h:=(AfQ hc).symm.trans h
  simp at h
 have h:=(Oq hc).symm.trans h
 split at h
 ·unfold doOp2 at h
  split at h
  ·rename_i hop
   exact .inr (.inr (.inr ⟨_,hop⟩))
  ·unfold Aew at h
   split at h
   case h_2=>simp at h
   rename_i p hf
   obtain ⟨y,wo⟩:=p
   cases hn:elem (o.dst.getD 0) ((assoc H.new c).getD []) with
   | false =>
    simp only [hn,cond_false,Except.ok.injEq,Prod.mk.injEq] at h
    obtain ⟨rfl,rfl⟩:=h
    exact .inl ⟨y,_,hf⟩
   | true =>
    simp only [hn,cond_true] at h
    unfold doFrz at h
    split at h
    ·rename_i k g len k' g' W m f t hq hd
     cases hb:(Nat.beq k k'&&Nat.beq g g'&&Nat.beq len m&&(doPk o.op (o.op.operands.toList.map (ev σ))).bit) with
     | false=>simp [hb] at h
     | true =>
      simp only [hb,cond_true,Except.ok.injEq,Prod.mk.injEq] at h
      obtain ⟨-,rfl⟩:=h
      exact .inr (.inr (.inl ⟨_,_,rfl⟩))
    ·simp at h
 ·simp only [Except.ok.injEq,Prod.mk.injEq] at h
  obtain ⟨-,rfl⟩:=h
  exact .inr (.inl rfl)
 ·simp at h
theorem doOp_ml {T:Ty} {H:Tc} {self:Todo→Ans} {c nt:Nat} {gs:List (Option Nat)} {o:Oper} {s:CS} {x:Orc} {q:Rec} (h:doOp T H self c nt gs o s.st = .ok (x,q)) (hs:Lm s) (hb:(Dt q.ws&&Dt q.wo)=true) :
  Lm (updC s q (AdD o s q)):=by
 refine CSok_upd hs hb fun k L hm => ?_
 simp only [Bool.and_eq_true] at hb
 have hbk:Nat.blt k 1000000=true:=by
  have hb2:=hb.2
  revert hm
  unfold Vl
  repeat' split
  all_goals first
   | (intro hm; simp at hm; done)
   | (intro hm; simp only [Option.map_eq_some_iff,Option.some.injEq,Prod.mk.injEq] at hm; first|(obtain ⟨_,-,rfl,-⟩:=hm; simp_all [Dt]; done)|(obtain ⟨rfl,-⟩:=hm; simp_all [Dt]; done))
 refine ⟨hbk,?_⟩
 rcases doOp_wo (P:=default) h with ⟨y,ro,hf⟩|hw|⟨k1,g1,hw⟩|⟨c1,hop⟩
 ·exact fop_ml hs hf hm
 ·rw [hw] at hm
  revert hm
  unfold Vl
  repeat' split
  all_goals (intro hm; first|contradiction|(simp at hm; done))
 ·rw [hw] at hm
  revert hm
  unfold Vl
  repeat' split
  all_goals (intro hm; simp_all)
 ·rw [hop] at hm
  simp [Vl] at hm
theorem AhD {T:Ty} {H:Tc} {self:Todo→Ans} {c nt id:Nat} {gs:List (Option Nat)} : ∀ (os:List Oper) (i:Nat) (s:CS) (acc R:List Rec) (s':CS),AaU T H self c nt id gs os i s acc = .ok (R,s')→Lm s→Lm s'
 | [],i,s,acc,R,s',h,hs=>by
  simp only [AaU,Except.ok.injEq,Prod.mk.injEq] at h
  obtain ⟨rfl,rfl⟩:=h
  exact hs
 | o::os,i,s,acc,R,s',h,hs=>by
  simp only [AaU] at h
  split at h
  ·rename_i x q hq
   cases hb:(Dt q.ws&&Dt q.wo) with
   | false=>simp [hb] at h
   | true =>
   simp only [hb,cond_true] at h
   exact AhD os (i+1) _ _ R s' h (doOp_ml hq hs hb)
  ·simp at h
theorem frzT_ml : ∀ (ks:List Nat) (s:CS),(∀ k∈ks,Nat.blt k 1000000=true)→Lm s→Lm (frzT s ks)
 | [],s,_,h=>h
 | k::r,s,hk,h=>by
  rw [frzT]
  refine frzT_ml r _ (fun j hj=>hk j (by simp [hj])) fun j L hj => ?_
  have h1:=h j L hj
  show ObOK L (((s.ob.put TD k none).map fun o=>⟨o.gen,Xw s.ob.get k o.body⟩).get j)
  rw [Tr.get_map,Tr.get_put' (hk k (by simp))]
  cases Nat.beq j k with
  | true=>trivial
  | false =>
   simp only [cond_false]
   revert h1
   cases s.ob.get j with
   | none=>exact fun _=>trivial
   | some o =>
    obtain ⟨g,b⟩:=o
    cases b <;> exact fun h=>h
section
variable {P : Program} {T:Ty} {cx:Cx} {β:Bi} {a:Act} {w:World}
theorem AgR : ∀ (ks:List Nat) (s:CS),(∀ k∈ks,Nat.blt k 1000000=true)→Rel cx β s.st a w→Rel cx β (normT s ks).st a w
 | [],s,_,h=>h
 | k::r,s,hk,h=>by
  rw [normT]
  refine AgR r _ (fun j hj=>hk j (by simp [hj])) ?_
  split
  ·rename_i g W n f ho
   have:=h.rowAs (f':=ofL (rowL n f)) (show s.st.objs k=some ⟨g,.row W n f⟩ from ho) (fun i hi=>(Ahs n f i hi).symm)
   have e:(CS.mk s.sl (s.ob.put TD k (some ⟨g,.row W n (ofL (rowL n f))⟩)) s.ml).st=⟨s.st.slots,Bj s.st.objs k ⟨g,.row W n (ofL (rowL n f))⟩⟩:=by
    unfold CS.st
    congr 1
    funext j
    rw [Tr.get_put' (hk k (by simp))]
    rfl
   rw [e]
   exact this
  ·exact h
theorem Afo : ∀ (ks:List Nat) (s:CS),(∀ k∈ks,Nat.blt k 1000000=true)→Rel cx β s.st a w→Rel cx β (frzT s ks).st a w
 | [],s,_,h=>h
 | k::r,s,hk,h=>by
  rw [frzT]
  refine Afo r _ (fun j hj=>hk j (by simp [hj])) ?_
  refine Rel.freezeF k (fun t => ?_) (fun j => ?_) h
  ·show (((s.sl.map (frzN s.ob.get k 2)).get t).getD .any)=frzN s.ob.get k 2 ((s.sl.get t).getD .any)
   rw [Tr.get_map]
   cases s.sl.get t <;> rfl
  ·show (j=k∧((s.ob.put TD k none).map _).get j=none)∨(j≠k∧((s.ob.put TD k none).map _).get j=(s.ob.get j).map _)
   rw [Tr.get_map,Tr.get_put' (hk k (by simp))]
   by_cases e:j=k
   ·subst e
    rw [Nat.beq_refl]
    exact .inl ⟨rfl,rfl⟩
   ·rw [Df e]
    exact .inr ⟨e,rfl⟩
theorem AaP (ks:List Nat):∀ k∈Adi ks,Nat.blt k 1000000=true:=by
 intro k hk
 unfold Adi at hk
 cases hb:ks.all (fun k=>Nat.blt k 1000000) with
 | false=>simp [hb] at hk
 | true =>
  simp only [hb,cond_true] at hk
  exact List.all_eq_true.mp hb k hk
end
section
variable {P : Program} {T:Ty} {H:Tc}
abbrev endsQ (e:Exit) (s:CS):Exit→St→Prop:=fun e' σ=>e'=e∧σ=s.st
theorem doFrzR_ml {c id:Nat} {s:CS} (hs:Lm s):Lm (Aef H c id s):=by
 unfold Aef
 split
 ·exact frzT_ml _ _ (AaP _) hs
 ·exact hs
theorem AgS : ∀ (L:List Int) (n:Int),n∈L→n∈Acd L
 | [],n,h=>by simp at h
 | m::r,n,h=>by
  rw [Acd]
  by_cases e:n=m
  ·simp [e]
  ·rcases List.mem_cons.1 h with q|q
   ·exact absurd q e
   ·exact List.mem_cons_of_mem _ (List.mem_filter.2 ⟨AgS r n q,by simpa using e⟩)
theorem next_ml {c d d2 k g:Nat} {s s':CS} {e:Exit} {f:Int→PV} {rem:Int→Bool} {cur:Option Int} {L:List Int} (hs:Lm s) (hk:Nat.blt k 1000000=true) (ho:s.ob.get k=some ⟨g,.mq (.it f rem cur)⟩) {l:List Int}
  (h:Yz c s d d2 k g f rem l = .code e s'):Lm s':=by
 unfold Yz at h
 split at h
 ·simp only [Ans.code.injEq] at h
  obtain ⟨-,rfl⟩:=h
  exact hs
 ·rename_i n
  simp only [Ans.code.injEq] at h
  obtain ⟨-,rfl⟩:=h
  intro j L hj
  show ObOK L ((s.ob.put TD k _).get j)
  have h1:=hs j L hj
  rw [Tr.get_put' hk]
  cases e:Nat.beq j k with
  | false=>exact h1
  | true =>
   have:=Nat.eq_of_beq_eq_true e
   subst this
   rw [ho] at h1
   intro m hm
   simp only [Cc] at hm
   split at hm
   ·simp at hm
   ·exact h1 m hm
 ·simp at h
theorem AfT {c nt t d d2:Nat} {s s':CS} {e:Exit} (h:Age c nt s (t,d,d2) = .code e s'):(Nat.blt d nt&&Nat.blt d2 nt&&Nat.blt d 1000000&&Nat.blt d2 1000000)=true ∧
  ∃ k g f rem cur L,s.st.slots t = .ref k g 0∧s.ob.get k=some ⟨g,.mq (.it f rem cur)⟩∧s.ml.get k=some L∧Nat.blt k 1000000=true∧Yz c s d d2 k g f rem ((Acd L).filter rem) = .code e s':=by
 unfold Age at h
 cases hb:(Nat.blt d nt&&Nat.blt d2 nt&&Nat.blt d 1000000&&Nat.blt d2 1000000) with
 | false=>simp [hb] at h
 | true =>
 simp only [hb,cond_true] at h
 refine ⟨rfl,?_⟩
 split at h
 ·rename_i k g hsl
  unfold doNext1 at h
  split at h
  ·rename_i g' f rem cur L ho hL
   cases hb2:(Nat.beq g' g&&Nat.blt k 1000000) with
   | false=>simp [hb2] at h
   | true =>
    simp only [hb2,cond_true] at h
    simp only [Bool.and_eq_true] at hb2
    have:=Nat.eq_of_beq_eq_true hb2.1
    subst this
    exact ⟨k,g',f,rem,cur,L,hsl,ho,hL,hb2.2,h⟩
  ·simp at h
 ·simp at h
theorem region_ml {self:Todo→Ans} {c nt id:Nat} {ops:List Oper} {draw:Bool} {s s':CS} {e:Exit} (h:Zo T H self c nt id ops draw s = .code e s') (hs:Lm s):Lm s':=by
 unfold Zo at h
 split at h
 ·rename_i q hq
  obtain ⟨t,d,d2⟩:=q
  cases draw with
  | true=>simp at h
  | false =>
   simp only [cond_false] at h
   obtain ⟨_,k,g,f,rem,cur,L,_,h2,_,h4,h5⟩:=AfT h
   exact next_ml (L:=L) hs h4 h2 h5
 ·unfold fin2 at h
  split at h
  case h_2=>simp at h
  rename_i recs s2 hd
  cases hb:(!draw||Afu ops recs) with
  | false=>simp [hb] at h
  | true =>
  simp only [hb,cond_true,Ans.code.injEq] at h
  obtain ⟨-,rfl⟩:=h
  exact AhD _ _ _ _ _ _ hd (doFrzR_ml hs)
theorem Ait {c nt id:Nat} {ops:Array Oper} {s s':CS} {e:Exit} {t d d2:Nat} (hq:AdK ops.toList=some (t,d,d2)) (h:Age c nt s (t,d,d2) = .code e s') (hok:Lm s) {cx:Cx} (hnt:cx.nt=nt) :
  DWP P cx (.region id ops false) s.st (endsQ e s'):=by
 obtain ⟨hb,k,g,f,rem,cur,L,h1,h2,h3,h4,h5⟩:=AfT h
 simp only [Bool.and_eq_true] at hb
 obtain ⟨⟨⟨b1,b2⟩,b3⟩,b4⟩:=hb
 have hL:∀ n,rem n=true→n∈(Acd L).filter rem:=by
  intro n hn
  have:=hok k L h3
  rw [h2] at this
  exact List.mem_filter.2 ⟨AgS L n (this n hn),hn⟩
 have hst:∀ (v:Bool) (ob:Tr Obj),(CS.mk ((s.sl.put TD d none).put TD d2 (some (pB v))) ob s.ml).st=⟨Az (Az s.st.slots d .any) d2 (pB v),ob.get⟩:=by
  intro v ob
  unfold CS.st
  congr 1
  funext j
  rw [Tr.get_put' b4,Tr.get_put' b3]
  simp only [Az]
  cases Nat.beq j d2 with
  | true=>rfl
  | false=>cases Nat.beq j d <;> rfl
 refine DWP.next (by rw [hnt]; exact Nat.le_of_ble_eq_true b1) (by rw [hnt]; exact Nat.le_of_ble_eq_true b2) hq h1 h2 (fun n hn => ?_) (fun hn => ?_)
 ·have hmem:=hL n hn
  unfold Yz at h5
  split at h5
  ·rename_i hl; rw [hl] at hmem; simp at hmem
  ·rename_i m hl
   rw [hl] at hmem
   simp only [List.mem_singleton] at hmem
   subst hmem
   simp only [Ans.code.injEq] at h5
   obtain ⟨rfl,rfl⟩:=h5
   refine ⟨rfl,?_⟩
   rw [hst]
   congr 1
   funext j
   rw [Tr.get_put' h4]
   rfl
  ·simp at h5
 ·have hnil:(Acd L).filter rem = []:=by
   rw [List.filter_eq_nil_iff]
   intro n _
   simp [hn n]
  rw [hnil] at h5
  simp only [Yz,Ans.code.injEq] at h5
  obtain ⟨rfl,rfl⟩:=h5
  refine ⟨rfl,?_⟩
  rw [hst]
  rfl
theorem AhI (hT:Fs P T) (hm:P.follows .mixedOrders=true) (hX:Xc P H.nat) {self:Todo→Ans} (hs:FnsOK P self) {c nt id:Nat} {ops:Array Oper} {draw:Bool} {s s':CS} {e:Exit} (h:Zo T H self c nt id ops.toList draw s = .code e s')
  (hok:Lm s) {cx:Cx} (hnt:cx.nt=nt):DWP P cx (.region id ops draw) s.st (endsQ e s'):=by
 unfold Zo at h
 split at h
 ·rename_i q hq
  obtain ⟨t,d,d2⟩:=q
  cases draw with
  | true=>simp at h
  | false=>exact Ait hq (by simpa using h) hok hnt
 generalize hs1:Aef H c id s=s1 at h
 have hrel:∀ {β:Bi} {a:Act} {w:World},Rel cx β s.st a w→Rel cx β s1.st a w:=by
  intro β a w hr
  rw [← hs1]
  unfold Aef
  split
  ·exact Afo _ _ (AaP _) hr
  ·exact hr
 unfold fin2 at h
 split at h
 case h_2=>simp at h
 rename_i recs s2 hd
 cases hb:(!draw||Afu ops.toList recs) with
 | false=>simp [hb] at h
 | true =>
 simp only [hb,cond_true,Ans.code.injEq] at h
 obtain ⟨rfl,rfl⟩:=h
 obtain ⟨recs',xs,obl,h1,h2,h3⟩:=AeG hX hs _ _ _ _ _ _ hd
 simp only [List.reverse_nil,List.nil_append] at h1
 subst h1
 intro β a w hr
 have hfin:∀ β a w,Rel cx β s2.st a w→∃ β' σ',endsQ .normal s2 .normal σ'∧Rel cx β' σ' a w:=fun β a w hr=>⟨β,_,⟨rfl,rfl⟩,hr⟩
 cases draw with
 | false=>exact AeP hT h2 h3 hnt (hrel hr) hfin
 | true =>
  simp only [Bool.not_true,Bool.false_or,Afu,Bool.and_eq_true] at hb
  exact AeN hT hm h2 h3 hb.1 hb.2 hnt (hrel hr) hfin
theorem run_ml (P:Program) (T:Ty) (H:Tc):∀ (n:Nat) (c nt:Nat) (cd:Code) (s:CS) (e:Exit) (s':CS),Hn P T H n (.code c nt cd s) = .code e s'→Lm s→Lm s'
 | 0,_,_,_,_,_,_,h,_=>by simp [Hn] at h
 | n+1,c,nt,cd,s,e,s',h,hs=>by
  have ih:=run_ml P T H n
  change Fr T H (Hn P T H n) c nt cd s = .code e s' at h
  cases cd with
  | seq x y =>
   simp only [Fr] at h
   generalize hx:Hn P T H n (.code c nt x s)=ans at h
   cases ans with
   | err l=>simp [Ace] at h
   | fn r o q=>simp [Ace] at h
   | code e1 s1 =>
    have i1:=ih _ _ _ _ _ _ hx hs
    cases e1 with
    | normal=>exact ih _ _ _ _ _ _ h i1
    | _ =>
     simp only [Ace,Ans.code.injEq] at h
     obtain ⟨-,rfl⟩:=h
     exact i1
  | cond q x y =>
   simp only [Fr] at h
   generalize (bif Aq q then AbS (ev s.st q) else none)=ob at h
   cases ob with
   | none=>simp [AfS] at h
   | some b=>exact ih _ _ _ _ _ _ h hs
  | block id x =>
   simp only [Fr] at h
   generalize hx:Hn P T H n (.code c nt x s)=ans at h
   cases ans with
   | err l=>simp [Rj] at h
   | fn r o q=>simp [Rj] at h
   | code e1 s1 =>
    have i1:=ih _ _ _ _ _ _ hx hs
    cases e1 with
    | exit id' =>
     simp only [Rj] at h
     cases hb:Nat.beq id' id <;> simp only [hb,cond_true,cond_false,Ans.code.injEq] at h <;> (obtain ⟨-,rfl⟩:=h; exact i1)
    | _ =>
     simp only [Rj,Ans.code.injEq] at h
     obtain ⟨-,rfl⟩:=h
     exact i1
  | loop x =>
   simp only [Fr] at h
   generalize hx:Hn P T H n (.code c nt x s)=ans at h
   cases ans with
   | err l=>simp [Aag] at h
   | fn r o q=>simp [Aag] at h
   | code e1 s1 =>
    have i1:=ih _ _ _ _ _ _ hx hs
    cases e1 with
    | normal=>exact ih _ _ _ _ _ _ h i1
    | _ =>
     simp only [Aag,Ans.code.injEq] at h
     obtain ⟨-,rfl⟩:=h
     exact i1
  | region id ops draw=>exact region_ml (by simpa only [Fr] using h) hs
  | skip=>simp only [Fr,Ans.code.injEq] at h; obtain ⟨-,rfl⟩:=h; exact hs
  | ret=>simp only [Fr,Ans.code.injEq] at h; obtain ⟨-,rfl⟩:=h; exact hs
  | exit id=>simp only [Fr,Ans.code.injEq] at h; obtain ⟨-,rfl⟩:=h; exact hs
  | _=>simp [Fr] at h
structure Snd (P:Program) (T:Ty) (H:Tc) (n:Nat):Prop where
 code:∀ c nt cd s e s',Hn P T H n (.code c nt cd s) = .code e s'→Lm s→∀ cx:Cx,cx.nt=nt→DWP P cx cd s.st (endsQ e s')
 fn:FnsOK P (Hn P T H n)
theorem run_sound (hT:Fs P T) (hm:P.follows .mixedOrders=true) (hX:Xc P H.nat) (hK:AbA P H.known) (hW:Afy P H.weak) (hN:∀ (f:Nat) (fn:Func),P.funcs[f]? = some fn→fn.name ≠ "runtime.NumGoroutine"):∀ n,Snd P T H n:=by
 intro n
 induction n using Nat.strongRecOn with
 | _ n ih =>
 cases n with
 | zero=>exact ⟨fun c nt cd s e s' h=>by simp [Hn] at h,fun f fz args outs res o n h=>by simp [Hn] at h⟩
 | succ n =>
 have ihn:=ih n (by omega)
 refine ⟨?_,?_⟩
 ·intro c nt cd s e s' h hok cx hnt
  have h0:=h
  change Fr T H (Hn P T H n) c nt cd s = .code e s' at h
  cases cd with
  | skip =>
   simp only [Fr,Ans.code.injEq] at h
   obtain ⟨rfl,rfl⟩:=h
   exact DWP.skip ⟨rfl,rfl⟩
  | ret =>
   simp only [Fr,Ans.code.injEq] at h
   obtain ⟨rfl,rfl⟩:=h
   exact DWP.ret ⟨rfl,rfl⟩
  | exit id =>
   simp only [Fr,Ans.code.injEq] at h
   obtain ⟨rfl,rfl⟩:=h
   exact DWP.exit ⟨rfl,rfl⟩
  | seq x y =>
   simp only [Fr] at h
   generalize hx:Hn P T H n (.code c nt x s)=ans at h
   cases ans with
   | err l=>simp [Ace] at h
   | fn r o q=>simp [Ace] at h
   | code e1 s1 =>
    have i1:=ihn.code _ _ _ _ _ _ hx hok cx hnt
    have hok1:=run_ml P T H n _ _ _ _ _ _ hx hok
    refine DWP.seq (i1.mono ?_)
    rintro e' σ ⟨rfl,rfl⟩
    cases e' with
    | normal=>exact ihn.code _ _ _ _ _ _ h hok1 cx hnt
    | _ =>
     simp only [Ace,Ans.code.injEq] at h
     obtain ⟨rfl,rfl⟩:=h
     exact ⟨rfl,rfl⟩
  | cond q x y =>
   simp only [Fr] at h
   cases hk:Aq q with
   | false=>simp [hk,AfS] at h
   | true =>
   simp only [hk,cond_true] at h
   generalize hb:AbS (ev s.st q)=ob at h
   cases ob with
   | none=>simp [AfS] at h
   | some b =>
    have hev:ev s.st q = .p (.v (.bool b)):=by
     unfold AbS at hb
     split at hb
     ·rename_i b' he; simp only [Option.some.injEq] at hb; rw [he,hb]
     ·simp at hb
    refine DWP.cond hk hev (fun e1 => ?_) (fun e1 => ?_)
    ·subst e1; exact ihn.code _ _ _ _ _ _ h hok cx hnt
    ·subst e1; exact ihn.code _ _ _ _ _ _ h hok cx hnt
  | block id x =>
   simp only [Fr] at h
   generalize hx:Hn P T H n (.code c nt x s)=ans at h
   cases ans with
   | err l=>simp [Rj] at h
   | fn r o q=>simp [Rj] at h
   | code e1 s1 =>
    have i1:=ihn.code _ _ _ _ _ _ hx hok cx hnt
    refine DWP.block (i1.mono ?_)
    rintro e' σ ⟨rfl,rfl⟩
    cases e' with
    | exit id' =>
     simp only [Rj] at h
     simp only [Qv]
     by_cases hid:id'=id
     ·subst hid
      simp only [Nat.beq_refl,cond_true,Ans.code.injEq] at h
      obtain ⟨rfl,rfl⟩:=h
      rw [if_pos rfl]
      exact ⟨rfl,rfl⟩
     ·rw [Df hid] at h
      simp only [cond_false,Ans.code.injEq] at h
      obtain ⟨rfl,rfl⟩:=h
      rw [if_neg hid]
      exact ⟨rfl,rfl⟩
    | _ =>
     simp only [Rj,Ans.code.injEq] at h
     obtain ⟨rfl,rfl⟩:=h
     exact ⟨rfl,rfl⟩
  | loop x =>
   refine DWP.loop (ι:=Nat×CS) (fun i=>i.2.st) (fun i=>i.1≤n+1∧Lm i.2∧Hn P T H i.1 (.code c nt (.loop x) i.2) = .code e s') (fun i=>i.1) (n+1,s) ⟨Nat.le_refl _,hok,h0⟩ rfl ?_
   rintro ⟨m,s0⟩ ⟨hle,hok0,hm0⟩
   simp only at hle hok0 hm0 ⊢
   cases m with
   | zero=>simp [Hn] at hm0
   | succ m =>
   have ihm:=ih m (by omega)
   change Fr T H (Hn P T H m) c nt (.loop x) s0 = .code e s' at hm0
   simp only [Fr] at hm0
   generalize hx:Hn P T H m (.code c nt x s0)=ans at hm0
   cases ans with
   | err l=>simp [Aag] at hm0
   | fn r o q=>simp [Aag] at hm0
   | code e1 s1 =>
    have hok1:=run_ml P T H m _ _ _ _ _ _ hx hok0
    refine (ihm.code _ _ _ _ _ _ hx hok0 cx hnt).mono ?_
    rintro e' σ ⟨rfl,rfl⟩
    cases e' with
    | normal=>exact ⟨(m,s1),⟨by simp only; omega,hok1,hm0⟩,rfl,by simp only; omega⟩
    | _ =>
     simp only [Aag,Ans.code.injEq] at hm0
     obtain ⟨rfl,rfl⟩:=hm0
     exact ⟨rfl,rfl⟩
  | region id ops draw=>exact AhI hT hm hX ihn.fn (by simpa only [Fr] using h) hok hnt
  | _=>simp [Fr] at h
 ·intro f fz args outs res o q h
  change doWk (elem f H.weak&&AcU (args.map (nnM 3)) outs) (doKn (bif outs.isEmpty then kn H.known f (args.map (nnM 3)) else none) (doFn T (Hn P T H n) f fz (args.map (nnM 3)) outs P.funcs[f]?)) = .fn res o q at h
  refine Spec.nnArgs (d:=3) ?_
  generalize args.map (nnM 3)=args at h ⊢
  cases hwk:(elem f H.weak&&AcU args outs) with
  | true =>
   rw [hwk] at h
   simp only [doWk,Ans.fn.injEq] at h
   obtain ⟨rfl,rfl,rfl⟩:=h
   rw [Bool.and_eq_true] at hwk
   obtain ⟨g1,g2,rfl,rfl⟩:=wkArgs_of hwk.2
   exact hW f hwk.1 g1 g2
  | false =>
  rw [hwk] at h
  change doKn (bif outs.isEmpty then kn H.known f args else none) (doFn T (Hn P T H n) f fz args outs P.funcs[f]?) = .fn res o q at h
  generalize hkn:(bif outs.isEmpty then kn H.known f args else none)=kr at h
  cases kr with
  | some r =>
   simp only [doKn,Ans.fn.injEq] at h
   obtain ⟨rfl,rfl,rfl⟩:=h
   cases outs with
   | nil=>exact kn_ok hK hkn
   | cons=>simp at hkn
  | none =>
  change doFn T (Hn P T H n) f fz args outs P.funcs[f]? = .fn res o q at h
  unfold doFn at h
  split at h
  case h_2=>simp at h
  rename_i fn hf
  unfold doFn2 at h
  split at h
  case h_2=>simp at h
  rename_i cd hcd
  unfold doFn3 at h
  generalize hsl:Sn (upN args.length 0) (upN outs.length 0) ⟨fun t=>(args[t]?).getD .any,Bn outs⟩=sl at h
  generalize hob:Po (upN outs.length 0) ⟨fun t=>(args[t]?).getD .any,Bn outs⟩=ob at h
  cases hb:(Nat.ble args.length fn.ntmps&&Nat.ble outs.length 1000&&Dt sl&&Dt ob) with
  | false=>simp [hb] at h
  | true =>
  simp only [hb,cond_true] at h
  simp only [Bool.and_eq_true] at hb
  have hst:Af sl ob=(AdU sl ob).st:=by
   unfold Af CS.st AdU
   congr 1
   ·funext t; rw [Afe _ hb.1.2]
   ·funext t; rw [Afe _ hb.2]
  generalize hx:Hn P T H n (.code f fn.ntmps cd (AdU sl ob))=ans at h
  cases ans with
  | err l=>simp [doEnd] at h
  | fn r o q=>simp [doEnd] at h
  | code e1 s1 =>
   have main:(e1 = .ret∨e1 = .normal)→AfE T f fn outs.length (Adz T fn fz outs.length s1) = .fn res o q→Spec P f args outs res o q:=by
    intro he hh
    generalize hs2:Adz T fn fz outs.length s1=s2 at hh
    unfold AfE doEnd2 at hh
    split at hh
    case h_2=>simp at hh
    simp only at hh
    generalize (reach (Sy outs.length s2.ob.get) 200 [] _).filter _=ex at hh
    unfold doEnd3 at hh
    split at hh
    case h_2=>simp at hh
    rename_i res' bs hfin
    cases hle:Nat.ble outs.length bs.length with
    | false=>simp [hle] at hh
    | true =>
    simp only [hle,cond_true,Ans.fn.injEq] at hh
    obtain ⟨rfl,rfl,rfl⟩:=hh
    have hle:=Nat.le_of_ble_eq_true hle
    refine Spec.nnRes (spec_of hT hf (hN f fn hf) hcd (by simp; omega) (Nat.le_of_ble_eq_true hb.1.1.1) (Nat.le_of_ble_eq_true hb.1.1.2) hsl hob fun cx hnt => ?_)
    rw [hst]
    intro β a w hr
    refine wpIn_mono (ihn.code _ _ _ _ _ _ hx (fun k L hk=>by simp [AdU,Tr.get_lf] at hk) cx hnt β a w hr) ?_
    rintro e' a' w' ⟨β',σ',⟨rfl,rfl⟩,hr'⟩
    have hr2:Rel cx β' s2.st a' w':=by
     rw [← hs2]
     unfold Adz
     cases fz with
     | false=>exact hr'
     | true =>
      simp only [cond_true]
      split
      ·exact Afo _ _ (AaP _) hr'
      ·exact hr'
    refine ⟨β',_,?_,AgR _ _ (AaP (upN outs.length 0++ex)) hr2⟩
    rcases he with rfl|rfl
    ·exact ⟨ex,by rw [List.take_append_drop]; exact hfin⟩
    ·exact ⟨ex,by rw [List.take_append_drop]; exact hfin⟩
   cases e1 with
   | ret=>exact main (.inl rfl) h
   | normal=>exact main (.inr rfl) h
   | _=>simp [doEnd] at h
theorem Aho (hT:Fs P T) (hm:P.follows .mixedOrders=true) (hN:∀ (f:Nat) (fn:Func),P.funcs[f]? = some fn→fn.name ≠ "runtime.NumGoroutine") (H:Tc) (hX:Xc P H.nat) (hK:AbA P H.known) (hW:Afy P H.weak) (n:Nat) {f:Nat} {fz:Bool} {args:List MV} {outs:List Body} {res:MV} {o q:List Body}
  (h:Hn P T H n (.fn f fz args outs) = .fn res o q):Spec P f args outs res o q:=(run_sound hT hm hX hK hW hN n).fn _ _ _ _ _ _ _ h
theorem AbN (hT:Fs P T) (hm:P.follows .mixedOrders=true) (hN:∀ (f:Nat) (fn:Func),P.funcs[f]? = some fn→fn.name ≠ "runtime.NumGoroutine") (H:Tc) (hX:Xc P H.nat) (hK:AbA P H.known) (hW:Afy P H.weak) (n:Nat) {f:Nat} {fz:Bool} {args:List MV} {R:MV}
  (h:Acs R (Hn P T H n (.fn f fz args []))=true):Spec P f args [] R [] []:=by
 unfold Acs at h
 split at h
 ·rename_i r hr
  exact Spec.eqRes h (Aho hT hm hN H hX hK hW n hr)
 ·simp at h
end
end Go.Dm
