/- The data machine, closed runs are sound. -/
import Derived.Test.YtlgpejehffhplaaGreatDoorTopIsolatedA3
set_option linter.unusedVariables false
set_option linter.unusedSimpArgs false
namespace Go.Dm
section
variable {V U:Type}
theorem AxT(n:Nat):(Tr.lf:Tr V).get n=none:=rfl
theorem AxQ(x:Option V)(l r:Tr V)(n:Nat):(Tr.nd x l r).get n=bif Nat.beq n 0 then x else bif Nat.beq (n % 2) 1 then l.get (n / 2)else r.get (n / 2-1):=rfl
theorem AxK(t:Tr V)(n:Nat):t.get n=bif Nat.beq n 0 then t.val else bif Nat.beq (n % 2) 1 then t.lft.get (n / 2)else t.rgt.get (n / 2-1):=by
 cases t with
 |lf=>cases Nat.beq n 0<;>cases Nat.beq (n % 2) 1<;>rfl
 |nd x l r=>rfl
theorem AxE(d:Nat)(t:Tr V)(n:Nat)(x:Option V):t.put (d+1) n x=bif Nat.beq n 0 then .nd x t.lft t.rgt else bif Nat.beq (n % 2) 1 then .nd t.val (t.lft.put d (n / 2) x) t.rgt else .nd t.val t.lft (t.rgt.put d (n / 2-1) x):=rfl
theorem AxH:∀(d:Nat) (t:Tr V) (n:Nat) (x:Option V) (m:Nat),n+1<2 ^ d->(t.put d n x).get m=bif Nat.beq m n then x else t.get m:=by
 intro d
 induction d with
 |zero=>intro t n x m h;simp at h
 |succ d b=>
  intro t n x m h;have f:2 ^ (d+1)=2*2 ^ d:=by rw[Nat.pow_succ];omega
  rw[AxE]
  by_cases h0:n=0
  ·subst h0;rw[D4,cond_true,AxQ]
   by_cases hm:m=0
   ·subst hm;simp[D4]
   ·rw[Dt hm,cond_false,cond_false,AxK t m,Dt hm,cond_false]
  ·rw[Dt h0,cond_false]
   by_cases h1:n % 2=1
   ·rw[h1,D4,cond_true,AxQ,AxK t m]
    by_cases hm:m=0
    ·subst hm;rw[D4,cond_true,cond_true,Dt (Ne.symm h0),cond_false]
    ·rw[Dt hm,cond_false,cond_false]
     by_cases hm1:m % 2=1
     ·rw[hm1,D4,cond_true,cond_true,b _ _ _ _ (by omega)]
      by_cases e:m=n
      ·subst e;rw[D4,D4]
      ·rw[Dt e,Dt (by omega)]
     ·rw[Dt hm1,cond_false,cond_false,Dt (by omega:m≠n),cond_false]
   ·rw[Dt h1,cond_false,AxQ,AxK t m]
    by_cases hm:m=0
    ·subst hm;rw[D4,cond_true,cond_true,Dt (Ne.symm h0),cond_false]
    ·rw[Dt hm,cond_false,cond_false]
     by_cases hm1:m % 2=1
     ·rw[hm1,D4,cond_true,cond_true,Dt (by omega:m≠n),cond_false]
     ·rw[Dt hm1,cond_false,cond_false,b _ _ _ _ (by omega)]
      by_cases e:m=n
      ·subst e;rw[D4,D4]
      ·rw[Dt e,Dt (by omega)]
theorem AxC{t:Tr V}{n:Nat}{x:Option V}(h:Nat.blt n 1000000=true)(m:Nat):(t.put TD n x).get m=bif Nat.beq m n then x else t.get m:=by
 have:=A8 h;exact AxH TD t n x m (by show n+1<2 ^ 20;omega)
theorem AxF(f:V->U):∀(t:Tr V) (n:Nat),(t.map f).get n=(t.get n).map f
 | .lf,n=>rfl
 | .nd x l r,n=>by
  rw[Tr.map,AxQ,AxQ,AxF f l,AxF f r];cases Nat.beq n 0<;>cases Nat.beq (n % 2) 1<;>rfl
end
theorem putL_sl:∀(ws:List (Nat×MV)) (t:Tr MV),Fu ws=true->(fun n=>((putL ws t).get n).getD .any)=Rx (fun n=>(t.get n).getD .any) ws
 |[],t,_=>rfl
 |(k,x)::r,t,h=>by
  simp only[Fu,A6]at h;rw[putL,putL_sl r _ h.2,Rx];congr 1;funext n;rw[AxC h.1];simp only[Cg];cases Nat.beq n k<;>rfl
theorem AqS:∀(wo:List (Nat×Obj)) (t:Tr Obj),Fu wo=true->(putL wo t).get=Cf t.get wo
 |[],t,_=>rfl
 |(k,x)::r,t,h=>by
  simp only[Fu,A6]at h;rw[putL,AqS r _ h.2,Cf];congr 1;funext n;rw[AxC h.1];rfl
theorem updC_st(s:CS)(r:Rec)(ml:Tr (List Int))(h:(Fu r.ws&&Fu r.wo)=true):(updC s r ml).st=Hb s.st r:=by
 simp only[A6]at h;unfold CS.st updC Hb;simp only;rw[putL_sl _ _ h.1,AqS _ _ h.2]
theorem AoO{V:Type}:∀(l:List (Nat×V)),Fu l=true->∀n,(putR l).get n=assoc l n
 |[],_,n=>rfl
 |(k,x)::r,h,n=>by
  simp only[Fu,A6]at h;rw[putR,AxC h.1,AoO r h.2,assoc]
theorem Od{e:Option Eff}{b:Bool}{y:MV}{wo:List (Nat×Obj)}(h:okE e b=some (y,wo)):∃obl,e=some (y,wo,obl)/\b=true:=by
 unfold okE at h;split at h
 ·rename_i g f obl;simp only[A1,A4]at h;obtain⟨rfl,rfl⟩:=h;exact⟨obl,rfl,rfl⟩
 ·simp at h
theorem ArS{g:Option Eff}{xs:List MV}{y:MV}{wo:List (Nat×Obj)}(h:f0 g xs=some (y,wo)):xs=[]/\∃obl,g=some (y,wo,obl):=by
 unfold f0 at h;split at h
 ·obtain⟨obl,b,_⟩:=Od h;exact⟨rfl,obl,b⟩
 ·simp at h
theorem Jz{g:MV->Option Eff}{c:MV->Bool}{xs:List MV}{y:MV}{wo:List (Nat×Obj)}(h:f1 g c xs=some (y,wo)):∃x,xs=[x]/\∃obl,g x=some (y,wo,obl)/\c x=true:=by
 unfold f1 at h;split at h
 ·rename_i x;obtain⟨obl,f,b⟩:=Od h;exact⟨x,rfl,obl,f,b⟩
 ·simp at h
theorem Tg{g:MV->MV->Option Eff}{c:MV->MV->Bool}{xs:List MV}{y:MV}{wo:List (Nat×Obj)}(h:f2 g c xs=some (y,wo)):∃x z,xs=[x,z]/\∃obl,g x z=some (y,wo,obl)/\c x z=true:=by
 unfold f2 at h;split at h
 ·rename_i x z;obtain⟨obl,f,b⟩:=Od h;exact⟨x,z,rfl,obl,f,b⟩
 ·simp at h
theorem Anq{g:MV->MV->MV->Option Eff}{c:MV->MV->MV->Bool}{xs:List MV}{y:MV}{wo:List (Nat×Obj)}(h:f3 g c xs=some (y,wo)):∃x z u,xs=[x,z,u]/\∃obl,g x z u=some (y,wo,obl)/\c x z u=true:=by
 unfold f3 at h;split at h
 ·rename_i x z u;obtain⟨obl,f,b⟩:=Od h;exact⟨x,z,u,rfl,obl,f,b⟩
 ·simp at h
section
variable {T:Ty} {t dst:Nat} {ob:Ay} {x z u y:MV} {wo:List (Nat×Obj)} {obl:List Prop}
theorem AuN(h:AbN x=some (y,wo,obl)):All obl:=by
 simp only[AbN,A1,A4]at h;obtain⟨_,_,rfl⟩:=h;trivial
theorem all_alloc(h:AdJ T t dst ob=some (y,wo,obl)):All obl:=by
 unfold AdJ AeQ at h
 (repeat' split at h)<;>simp at h<;>(obtain⟨_,_,rfl⟩:=h;trivial)
theorem all_box(h:Ajf dst ob x=some (y,wo,obl)):All obl:=by
 unfold Ajf AeQ at h
 (repeat' split at h)<;>simp at h<;>(obtain⟨_,_,rfl⟩:=h;trivial)
theorem all_build{b:List (Nat×MV)}(h:Abw T t b=some (y,wo,obl)):All obl:=by
 unfold Abw at h
 (repeat' split at h)<;>simp at h<;>(obtain⟨_,_,rfl⟩:=h;trivial)
theorem Art{len:Nat}{b:List (Nat×MV)}(h:Ob T t len dst ob b=some (y,wo,obl)):All obl:=by
 unfold Ob Ta at h;simp only[E2]at h
 (repeat' split at h)<;>simp at h<;>(obtain⟨_,_,rfl⟩:=h;trivial)
theorem all_nil(h:Ajq x=some (y,wo,obl)):All obl:=by
 unfold Ajq at h
 (repeat' split at h)<;>simp at h<;>(obtain⟨_,_,rfl⟩:=h;trivial)
theorem all_un{op:UnOp}(h:AnC op x=some (y,wo,obl)):All obl:=by
 unfold AnC at h
 (repeat' split at h)<;>simp at h<;>(obtain⟨_,_,rfl⟩:=h;trivial)
theorem all_conv1{d:Nat}(h:Zx T d x=some (y,wo,obl)):All obl:=by
 unfold Zx at h
 (repeat' split at h)<;>simp at h<;>(obtain⟨_,_,rfl⟩:=h;trivial)
theorem all_conv2{d:Nat}(h:Adv T d x=some (y,wo,obl)):All obl:=by
 unfold Adv at h
 (repeat' split at h)<;>simp at h<;>(obtain⟨_,_,rfl⟩:=h;trivial)
theorem all_conv{s d:Nat}(h:fConv T s d x=some (y,wo,obl)):All obl:=by
 unfold fConv at h
 cases b:(assoc T s).isSome with
 |false=>simp[b]at h
 |true=>
  simp only[b,cond_true]at h;split at h
  ·rename_i e f;rw[h]at f;exact all_conv1 f
  ·exact all_conv2 h
theorem all_bound{f:Nat}{xs:List MV}(h:AdB f xs=some (y,wo,obl)):All obl:=by
 simp only[AdB,A1,A4]at h;obtain⟨-,-,rfl⟩:=h;trivial
theorem all_func{f:Nat}{xs:List MV}(h:Agq f xs=some (y,wo,obl)):All obl:=by
 unfold Agq at h;cases b:Nat.blt f BND<;>rw[b]at h<;>(split at h<;>simp at h<;>(obtain⟨_,_,rfl⟩:=h;trivial))
theorem Atd{f:Nat}(h:Tz T t f x=some (y,wo,obl)):All obl:=by
 unfold Tz at h;simp only[E2]at h
 (repeat' split at h)<;>simp at h<;>(obtain⟨_,_,rfl⟩:=h;trivial)
theorem all_field{f:Nat}(h:Ady T t f x=some (y,wo,obl)):All obl:=by
 unfold Ady at h
 (repeat' split at h)<;>simp at h<;>(obtain⟨_,_,rfl⟩:=h;trivial)
theorem AvT{i:Nat}(h:Zs i x=some (y,wo,obl)):All obl:=by
 unfold Zs at h
 (repeat' split at h)<;>simp at h<;>(obtain⟨_,_,rfl⟩:=h;trivial)
theorem all_len(h:AjN T t x=some (y,wo,obl)):All obl:=by
 unfold AjN at h
 (repeat' split at h)<;>simp at h<;>(obtain⟨_,_,rfl⟩:=h;trivial)
theorem all_min{b:Bool}(h:Aet b x z=some (y,wo,obl)):All obl:=by
 unfold Aet at h
 (repeat' split at h)<;>simp at h<;>(obtain⟨_,_,rfl⟩:=h;trivial)
theorem all_del(h:AbJ T t ob x z=some (y,wo,obl)):All obl:=by
 unfold AbJ at h
 (repeat' split at h)<;>simp at h<;>(obtain⟨_,_,rfl⟩:=h;trivial)
theorem AwY(h:Ul T t x=some (y,wo,obl)):All obl:=by
 unfold Ul at h;simp only[E2]at h
 (repeat' split at h)<;>simp at h<;>(obtain⟨_,_,rfl⟩:=h;trivial)
theorem all_mkmap(h:orE (Rs T t dst ob) (Ph T t dst ob)=some (y,wo,obl)):All obl:=by
 rcases Vg h with h|h
 ·unfold Rs at h
  (repeat' split at h)<;>simp at h<;>(obtain⟨_,_,rfl⟩:=h;trivial)
 ·unfold Ph at h
  (repeat' split at h)<;>simp at h<;>(obtain⟨_,_,rfl⟩:=h;trivial)
theorem ApL(h:orE (Pi T t ob x z u) (Mu T t ob x z u)=some (y,wo,obl)):All obl:=by
 rcases Vg h with h|h
 ·unfold Pi at h
  (repeat' split at h)<;>simp at h<;>(obtain⟨_,_,rfl⟩:=h;trivial)
 ·unfold Mu at h
  (repeat' split at h)<;>simp at h<;>(obtain⟨_,_,rfl⟩:=h;trivial)
theorem all_make(h:Agn T t dst ob x z=some (y,wo,obl))(b:chkM T t x z=true):All obl:=by
 unfold Agn Ta at h;simp only[E2]at h;split at h
 case h_2=>simp at h
 rename_i e l k g j k1 p k2 c hi;split at h
 case h_2=>simp at h
 rename_i i f;split at h
 case isFalse=>simp at h
 split at h
 case h_2=>simp at h
 simp only[A1,A4]at h;obtain⟨_,_,rfl⟩:=h;simp only[chkM,hi,f,Hq,A6,decide_eq_true_eq]at b;exact⟨b.1.1.1,b.1.1.2,b.1.2,b.2,trivial⟩
theorem AwZ(h:Um T t dst ob x=some (y,wo,obl)):All obl:=by
 unfold Um at h
 (repeat' split at h)<;>simp at h<;>(obtain⟨_,_,rfl⟩:=h;trivial)
theorem all_nextS(h:AdE (sitB ob x) ob x=some (y,wo,obl)):All obl:=by
 unfold AdE at h;split at h
 case h_2=>simp at h
 rename_i k g;split at h
 case h_2=>simp at h
 rename_i s pos i;have e:sitB ob (.ref k g 0)=Nat.blt pos s.size:=by simp[sitB,i]
 rw[e]at h
 cases b:Nat.blt pos s.size with
 |true=>
  simp only[b,cond_true,A1,A4]at h;obtain⟨-,-,rfl⟩:=h
  exact⟨A8 b,trivial⟩
 |false=>
  simp only[b,cond_false,A1,A4]at h;obtain⟨-,-,rfl⟩:=h;refine⟨fun j=>?_,trivial⟩;have f:Nat.blt pos s.size=true:=F1 j;rw[f]at b;simp at b
theorem all_range(h:Xx T t dst ob x=some (y,wo,obl)):All obl:=by
 unfold Xx at h;split at h
 ·simp only[A1,A4]at h;obtain⟨-,-,rfl⟩:=h;trivial
 ·rename_i g i f;split at h
  ·cases b:Nat.beq g (key dst 0)with
   |true=>simp[b]at h
   |false=>simp only[b,cond_false,A1,A4]at h;obtain⟨-,-,rfl⟩:=h;trivial
  ·simp at h
 ·simp at h
theorem all_rng(h:orE (Xx T t dst ob x) (Um T t dst ob x)=some (y,wo,obl)):All obl:=by
 unfold orE at h;split at h
 ·rename_i e b;injection h with h
  subst h;exact all_range b
 ·exact AwZ h
theorem all_entry(h:Adp ob x=some (y,wo,obl)):All obl:=by
 unfold Adp at h
 repeat' split at h
 all_goals first
  |(simp only[A1,A4]at h;obtain⟨-,-,rfl⟩:=h;trivial)
  |simp at h
theorem all_load(h:Zg T t ob x=some (y,wo,obl))(b:chkE ob x=true):All obl:=by
 unfold Zg at h;split at h
 ·simp at h
 ·cases x with
  |eref k g j off=>
   simp only[chkE]at b;simp only at h;split at h
   ·rename_i W n f i;rw[i]at b;simp only at b;split at h
    ·simp only[A1,A4]at h;obtain⟨_,_,rfl⟩:=h;exact⟨A8 b,trivial⟩
    ·simp at h
   ·simp at h
  |_=>
   simp only at h
   (repeat' split at h)<;>simp at h<;>(obtain⟨_,_,rfl⟩:=h;trivial)
theorem all_store(h:Ads T t ob x z=some (y,wo,obl))(b:chkE ob x=true):All obl:=by
 unfold Ads at h;simp only[E2]at h;split at h
 ·split at h
  ·cases x with
   |eref k g i off=>
    simp only[chkE]at b;simp only at h;split at h
    ·rename_i f _;rw[f]at b;simp only at b;split at h
     ·simp only[A1,A4]at h;obtain⟨_,_,rfl⟩:=h;exact⟨A8 b,trivial⟩
     ·simp at h
    ·simp at h
   |_=>
    simp only at h
    (repeat' split at h)<;>simp at h<;>(obtain⟨_,_,rfl⟩:=h;trivial)
  ·simp at h
 ·simp at h
theorem Atc(h:Ub T t ob x z=some (y,wo,obl))(b:chkI x z=true):All obl:=by
 unfold Ub at h;simp only[E2]at h
 (repeat' split at h)<;>simp at h
 all_goals
  obtain⟨_,_,rfl⟩:=h;simp only[chkI,lenB,Hq,A6,decide_eq_true_eq]at b;exact⟨b.1,b.2,trivial⟩
theorem all_index(h:Adi T t x z=some (y,wo,obl))(b:chkI x z=true):All obl:=by
 unfold Adi at h
 (repeat' split at h)<;>simp at h
 all_goals
  obtain⟨_,_,rfl⟩:=h;simp only[chkI,lenB,Hq,A6,decide_eq_true_eq]at b;exact⟨b.1,b.2,trivial⟩
theorem Aiu{lo hi:Option Int}(h:Of T t ob x lo hi=some (y,wo,obl))(b:chkS lo hi x=true):All obl:=by
 unfold Of at h;simp only[E2]at h
 (repeat' split at h)<;>simp at h
 all_goals
  obtain⟨_,_,rfl⟩:=h;simp only[chkS,lenB,A6,decide_eq_true_eq]at b;exact⟨b.1.1,b.1.2,b.2,trivial⟩
theorem all_append{t2:Nat}(h:AbF T t t2 dst ob x z=some (y,wo,obl))(b:chkA T t x z=true):All obl:=by
 unfold AbF Ta at h;simp only[E2]at h;split at h
 case h_2=>simp at h
 rename_i e n m k l hi;split at h
 case h_2=>simp at h
 rename_i i g;simp only[chkA,hi,g]at b;split at h
 case isFalse=>simp at h
 split at h
 case h_2=>simp at h
 rename_i n2 f2 k2 f
 have j:lenB z=some n2:=by
  unfold AhU at f;simp only[E2]at f
  (repeat' split at f)<;>simp at f
  all_goals
   obtain⟨rfl,_⟩:=f;rfl
 rw[j]at b;split at h
 ·simp only[A1,A4]at h;obtain⟨_,_,rfl⟩:=h;simp only[lenB,D5]at b;exact⟨A8 b,trivial⟩
 ·simp only[A1,A4]at h;obtain⟨_,_,rfl⟩:=h;simp only[lenB,D5]at b;exact⟨A8 b,trivial⟩
 ·split at h
  ·split at h
   ·simp only[A1,A4]at h;obtain⟨_,_,rfl⟩:=h;simp only[lenB]at b;exact⟨A8 b,trivial⟩
   ·simp at h
  ·simp at h
 ·simp at h
theorem all_clear(h:AdA T t ob x=some (y,wo,obl))(b:chkF ob x=true):All obl:=by
 unfold AdA at h;simp only[E2]at h;split at h
 case h_2=>simp at h
 split at h
 case h_2=>simp at h
 rename_i i W n f _ g;split at h
 case isFalse=>simp at h
 split at h
 case h_2=>simp at h
 simp only[A1,A4]at h;obtain⟨_,_,rfl⟩:=h;simp only[chkF,g]at b;exact⟨A8 b,trivial⟩
theorem all_copy(h:Agr T t ob x z=some (y,wo,obl))(b:chkF ob x=true):All obl:=by
 unfold Agr at h;simp only[E2]at h;split at h
 case h_2=>simp at h
 split at h
 case h_2=>simp at h
 rename_i i W n f _ g;split at h
 case isFalse=>simp at h
 split at h
 case h_2=>simp at h
 simp only[A1,A4]at h;obtain⟨_,_,rfl⟩:=h;simp only[chkF,g]at b;exact⟨A8 b,trivial⟩
theorem eqPV_le{a b:PV}(h:eqPV a b=true):PLe a b:=by
 unfold eqPV at h;split at h
 ·simp only[A6,decide_eq_true_eq]at h;obtain⟨rfl,rfl⟩:=h;exact fun _ _ _ h=>h
 ·simp only[beq_iff_eq]at h;subst h;exact fun _ _ _ h=>h
 ·intro S w v h
  cases h with
  |slnil fl W f h=>exact .slnil _ _ _ (by simp)
  |sl _ _ _ _ _ _ _ _ g=>exact absurd rfl g.1
 ·simp at h
theorem AwX{ok:Bool}(h:orE (AbK T t ob ok x z) (Yy T t ob ok x z)=some (y,wo,obl))(C:chkZ T t ob x=true):All obl:=by
 have B:∀(e:Nat) (a b:PV),(∃k r o s m,assoc T t=some ⟨.map k e,r,o,s,m⟩)->AcW T e=some a->mapZ ob x=some b->PLe a b:=by
  rintro e a b ⟨k,r,o,s,m,J⟩ K D;simp only[chkZ,J,K,D]at C;exact eqPV_le C
 rcases Vg h with h|h
 ·unfold AbK at h;split at h
  case h_2=>simp at h
  rename_i e n i _;split at h
  case h_2=>simp at h
  rename_i A v has f l j;simp only[A1,A4]at h;obtain⟨_,_,rfl⟩:=h;refine⟨B e A v ?_ l ?_,trivial⟩
  ·unfold AfS at i;split at i
   ·rename_i k E r o s m hi;split at i
    ·simp at i;subst i;exact⟨k,r,o,s,m,hi⟩
    ·simp at i
   ·simp at i
  ·split at j
   ·simp only[mapZ,j]
   ·simp at j;simp[mapZ,j.1]
   ·simp at j
 ·unfold Yy at h;split at h
  case h_2=>simp at h
  rename_i k e a c p q k1 g i _ _;split at h
  case h_2=>simp at h
  rename_i A v has f l j;simp only[A1,A4]at h;obtain⟨_,_,rfl⟩:=h;refine⟨B e A v ?_ l ?_,trivial⟩
  ·unfold AjT at i;split at i
   ·rename_i F E r o s m hi
    (repeat' split at i)<;>simp at i
    obtain⟨_,rfl,_⟩:=i;exact⟨F,r,o,s,m,hi⟩
   ·simp at i
  ·have I:Om ob k1 g=none:=by
    have G:=AkP j;unfold Om;rw[G]
   simp only[mapZ,I,j]
theorem all_bin{op:BinOp}(h:Agl T op t x z=some (y,wo,obl))(i:chkB op x z=true):All obl:=by
 unfold Agl at h;split at h
 ·rename_i e f;simp only[A1]at h;subst h;unfold Apu at f;split at f
  case h_2=>simp at f
  rename_i a b;split at f
  case h_2=>simp at f
  rename_i c j g;simp only[A1,A4]at f;obtain⟨_,_,rfl⟩:=f;simp only[chkB]at i;unfold scal at g;split at g
  ·rename_i k p l q;simp only[scalB]at i;split at g
   ·simp at g;obtain⟨_,rfl⟩:=g;exact⟨by simpa using i,trivial⟩
   ·simp at g;obtain⟨_,rfl⟩:=g;exact⟨by simpa using i,trivial⟩
   ·split at g
    ·(repeat' split at g)<;>simp at g
     all_goals
      obtain⟨_,rfl⟩:=g
      first|trivial|exact⟨by simpa using i,trivial⟩
    ·simp at g
  ·(repeat' split at g)<;>simp at g
   all_goals
    obtain⟨_,rfl⟩:=g
    first|trivial|exact⟨A8 (by simpa[scalB]using i),trivial⟩
  ·simp at g
 ·split at h
  ·rename_i e f;simp only[A1]at h;subst h;unfold effEq at f
   (repeat' split at f)<;>simp at f<;>(obtain⟨_,_,rfl⟩:=f;trivial)
  ·split at h
   ·rename_i e f;simp only[A1]at h;subst h;unfold AhK at f
    (repeat' split at f)<;>simp at f<;>(obtain⟨_,_,rfl⟩:=f;trivial)
   ·unfold Akj at h
    (repeat' split at h)<;>simp at h<;>(obtain⟨_,_,rfl⟩:=h;trivial)
end
theorem fop_sound{T:Ty}{op:Op}{dst:Nat}{ob:Ay}{xs:List MV}{y:MV}{wo:List (Nat×Obj)}(h:fop T op dst ob xs=some (y,wo)):
  ∃obl,Cd T op dst (doPk ob op xs).bit ob xs=some (y,wo,obl)/\All obl:=by
 cases op with
 |move q=>obtain⟨x,rfl,obl,g,_⟩:=Jz h;exact⟨obl,g,AuN g⟩
 |assign q=>obtain⟨x,rfl,obl,g,_⟩:=Jz h;exact⟨obl,g,AuN g⟩
 |pick c a b=>
  simp only[fop,fPick]at h;split at h
  ·rename_i c a b;split at h
   ·rename_i t A;simp only[A1,A4]at h;obtain⟨rfl,rfl⟩:=h;unfold Akn at A;split at A
    ·simp only[A1]at A;subst A;exact⟨_,rfl,rfl,trivial⟩
    ·simp at A
   ·simp at h
  ·simp at h
 |alloc t=>obtain⟨rfl,obl,g⟩:=ArS h;exact⟨obl,g,all_alloc g⟩
 |box t q=>obtain⟨x,rfl,obl,g,_⟩:=Jz h;exact⟨obl,g,all_box g⟩
 |build t F=>obtain⟨obl,g,_⟩:=Od h;exact⟨obl,g,all_build g⟩
 |buildSlice t len F=>obtain⟨obl,g,_⟩:=Od h;exact⟨obl,g,Art g⟩
 |load t q=>obtain⟨x,rfl,obl,g,j⟩:=Jz h;exact⟨obl,g,all_load g j⟩
 |store t q r=>obtain⟨x,z,rfl,obl,g,j⟩:=Tg h;exact⟨obl,g,all_store g j⟩
 |nilCheck q=>obtain⟨x,rfl,obl,g,_⟩:=Jz h;exact⟨obl,g,all_nil g⟩
 |binOp o t p q r=>obtain⟨x,z,rfl,obl,g,j⟩:=Tg h;exact⟨obl,g,all_bin g j⟩
 |unOp o t q=>obtain⟨x,rfl,obl,g,_⟩:=Jz h;exact⟨obl,g,all_un g⟩
 |convert s d q=>obtain⟨x,rfl,obl,g,_⟩:=Jz h;exact⟨obl,g,all_conv g⟩
 |slice t q l K m=>
  simp only[fop,fSl]at h;split at h
  ·obtain⟨x,rfl,obl,g,j⟩:=Jz h;exact⟨obl,g,Aiu g j⟩
  ·unfold fSl1 at h;split at h
   ·split at h
    ·rename_i E B;obtain⟨obl,g,j⟩:=Od h;exact⟨obl,by simp only[Cd,B];exact g,Aiu g j⟩
    ·simp at h
   ·simp at h
  ·unfold fSl2 at h;split at h
   ·split at h
    ·rename_i E B;obtain⟨obl,g,j⟩:=Od h;exact⟨obl,by simp only[Cd,B];exact g,Aiu g j⟩
    ·simp at h
   ·simp at h
  ·unfold fSl3 at h;split at h
   ·split at h
    ·rename_i E J B C;obtain⟨obl,g,j⟩:=Od h;exact⟨obl,by simp only[Cd,B,C];exact g,Aiu g j⟩
    ·simp at h
   ·simp at h
  ·rename_i G I
   cases n:(Vs G&&Vs I)with
   |false=>simp[n]at h
   |true=>
    simp only[n,cond_true]at h;split at h
    ·obtain⟨obl,g,j⟩:=Od h;exact⟨obl,by simp only[Cd,n,cond_true];exact g,AwY g⟩
    ·simp at h
  ·simp at h
 |makeFunc fn first cap=>
  simp only[fop,fFun]at h;split at h
  ·rename_i f
   cases n:first.isEmpty with
   |false=>
    cases D:cap.isEmpty with
    |false=>simp[n,D]at h
    |true=>
    simp only[n,D,cond_true,cond_false]at h;obtain⟨obl,g,j⟩:=Od h
    exact⟨obl,by simp only[Cd,n,D,cond_true,cond_false];exact g,all_bound g⟩
   |true=>
    simp only[n,cond_true]at h;obtain⟨obl,g,j⟩:=Od h;exact⟨obl,by simp only[Cd,n,cond_true];exact g,all_func g⟩
  ·simp at h
 |fieldAddr t q f=>obtain⟨x,rfl,obl,g,_⟩:=Jz h;exact⟨obl,g,Atd g⟩
 |field t q f=>obtain⟨x,rfl,obl,g,_⟩:=Jz h;exact⟨obl,g,all_field g⟩
 |indexAddr t p q=>obtain⟨x,z,rfl,obl,g,j⟩:=Tg h;exact⟨obl,g,Atc g j⟩
 |index t p q=>obtain⟨x,z,rfl,obl,g,j⟩:=Tg h;exact⟨obl,g,all_index g j⟩
 |extract q i=>obtain⟨x,rfl,obl,g,_⟩:=Jz h;exact⟨obl,g,AvT g⟩
 |makeSlice t q r=>obtain⟨x,z,rfl,obl,g,j⟩:=Tg h;exact⟨obl,g,all_make g j⟩
 |makeMap t r=>
  cases r with
  |none=>obtain⟨rfl,obl,g⟩:=ArS h;exact⟨obl,g,all_mkmap g⟩
  |some r=>simp[fop]at h
 |lookup t p q ok=>obtain⟨x,z,rfl,obl,g,j⟩:=Tg h;exact⟨obl,g,AwX g j⟩
 |range t q=>obtain⟨x,rfl,obl,g,_⟩:=Jz h;exact⟨obl,g,all_rng g⟩
 |entry q=>obtain⟨x,rfl,obl,g,_⟩:=Jz h;exact⟨obl,g,all_entry g⟩
 |next q b=>
  cases b with
  |true=>obtain⟨x,rfl,obl,g,_⟩:=Jz h;exact⟨obl,g,all_nextS g⟩
  |false=>simp[fop]at h
 |mapUpdate t p q r=>obtain⟨x,z,u,rfl,obl,g,_⟩:=Anq h;exact⟨obl,g,ApL g⟩
 |insert t p q r=>obtain⟨x,z,u,rfl,obl,g,_⟩:=Anq h;exact⟨obl,g,ApL g⟩
 |call c=>
  obtain⟨v,args,ts⟩:=c
  cases v with
  |builtin b=>
   simp only[fop,fCall,fBlt]at h
   cases b with
   |len=>
    simp only at h;split at h
    ·rename_i t k;obtain⟨x,rfl,obl,g,_⟩:=Jz h;exact⟨obl,by simp only[Cd,k];exact g,all_len g⟩
    ·simp at h
   |append=>
    simp only[fApp]at h;split at h
    ·rename_i t t2 k;obtain⟨x,z,rfl,obl,g,j⟩:=Tg h;exact⟨obl,by simp only[Cd,k,g],all_append g j⟩
    ·simp at h
   |clear=>
    simp only at h;split at h
    ·rename_i t k;obtain⟨x,rfl,obl,g,j⟩:=Jz h;exact⟨obl,by simp only[Cd,k];exact g,all_clear g j⟩
    ·simp at h
   |copy=>
    simp only at h;split at h
    ·rename_i t t2 k;obtain⟨x,z,rfl,obl,g,j⟩:=Tg h;exact⟨obl,by simp only[Cd,k];exact g,all_copy g j⟩
    ·simp at h
   |delete=>
    simp only at h;split at h
    ·rename_i t t2 k;obtain⟨x,z,rfl,obl,g,j⟩:=Tg h;exact⟨obl,by simp only[Cd,k];exact g,all_del g⟩
    ·simp at h
   |min=>obtain⟨x,z,rfl,obl,g,j⟩:=Tg h;exact⟨obl,g,all_min g⟩
   |max=>obtain⟨x,z,rfl,obl,g,j⟩:=Tg h;exact⟨obl,g,all_min g⟩
   |_=>simp at h
  |_=>simp[fop,fCall]at h
 |_=>simp[fop]at h
theorem Adt{ks:List Nat}{ob:Ay}{k:Nat}(h:k∈ks):only ks ob k=ob k:=by
 unfold only;rw[(Vh k ks).2 h];rfl
theorem Xu{k:Nat}:∀{l:List Nat} {i j:Nat},Ls k l i=some j->k∈l
 |[],i,j,h=>by simp[Ls]at h
 |x::r,i,j,h=>by
  simp only[Ls]at h
  cases b:Nat.beq k x with
  |true=>simp[A3 b]
  |false=>simp[b]at h;exact H5 _ (Xu h)
theorem Nl{ob:Ay}{ks ro:List Nat}(f:∀k∈ks,k∈ro){x y:MV}(j:∀k∈Ye ks x,k∈ro)(h:Aby ob ks x=some y):Aby (only ro ob) ks x=some y:=by
 cases x with
 |own k g off len=>
  have b:k∈ro:=by
   cases hi:Ls k ks 0 with
   |some i=>exact f k (Xu hi)
   |none=>exact j k (by simp[Ye,hi])
  simp only[Aby,Ka,Adt b]at h ⊢
  exact h
 |ref k g off=>
  have b:k∈ro:=by
   cases hi:Ls k ks 0 with
   |some i=>exact f k (Xu hi)
   |none=>exact j k (by simp[Ye,hi])
  simp only[Aby,Ace,Adt b]at h ⊢
  exact h
 |mref k g=>
  have b:k∈ro:=by
   cases hi:Ls k ks 0 with
   |some i=>exact f k (Xu hi)
   |none=>exact j k (by simp[Ye,hi])
  simp only[Aby,Om,Adt b]at h ⊢
  exact h
 |_=>exact h
theorem Zu{V:Type}{f g:V->Option V}:∀{l m:List V},(∀x∈l,∀y,f x=some y->g x=some y)->Yn f l=some m->Yn g l=some m
 |[],m,_,h=>h
 |x::r,m,hfg,h=>by
  simp only[Yn]at h ⊢;split at h
  ·rename_i y s i b;rw[hfg x (by simp) y i,Zu (fun z j=>hfg z (by simp[j])) b];exact h
  ·simp at h
theorem toC_only{ob:Ay}{ks ro:List Nat}(i:∀k∈ks,k∈ro){x y:MV}(g:∀k∈bor ks x,k∈ro)(h:toC ob ks x=some y):toC (only ro ob) ks x=some y:=by
 cases x with
 |agg cs=>
  simp only[toC]at h ⊢;split at h
  ·rename_i o l;rw[Zu (fun c n y m=>Nl i (fun k j=>g k (by simp only[bor,K2];exact⟨c,n,j⟩)) m) l];exact h
  ·simp at h
 |fn f cs=>
  simp only[toC]at h ⊢;split at h
  ·rename_i o l;rw[Zu (fun c n y m=>Nl i (fun k j=>g k (by simp only[bor,K2];exact⟨c,n,j⟩)) m) l];exact h
  ·simp at h
 |p q=>exact Nl (ob:=ob) (ro:=ro) (x:=.p q) i g h
 |own a b c d=>exact Nl (ob:=ob) (ro:=ro) (x:=.own a b c d) i g h
 |ref a b c=>exact Nl (ob:=ob) (ro:=ro) (x:=.ref a b c) i g h
 |eref a b c d=>exact Nl (ob:=ob) (ro:=ro) (x:=.eref a b c d) i g h
 |fptr a=>exact Nl (ob:=ob) (ro:=ro) (x:=.fptr a) i g h
 |tup a=>exact Nl (ob:=ob) (ro:=ro) (x:=.tup a) i g h
 |mref a b=>exact Nl (ob:=ob) (ro:=ro) (x:=.mref a b) i g h
 |und=>exact Nl (ob:=ob) (ro:=ro) (x:=.und) i g h
 |any=>exact Nl (ob:=ob) (ro:=ro) (x:=.any) i g h
theorem Ku{ob:Ay}{ks ro:List Nat}(f:∀k∈ks,k∈ro){x y:MV}(h:Zm ob ks x=some y):Zm (only ro ob) ks x=some y:=by
 cases x with
 |own k g off len=>
  simp only[Zm]at h;split at h
  ·rename_i q i b hi;simp only[Zm,Ka,Adt (f k (Xu hi))]at b ⊢;rw[hi,b];exact h
  ·simp at h
 |ref k g off=>
  simp only[Zm]at h;split at h
  ·rename_i q i b hi;simp only[Zm,Ace,Adt (f k (Xu hi))]at b ⊢;rw[hi,b];exact h
  ·simp at h
 |mref k g=>
  simp only[Zm]at h;split at h
  ·rename_i q i b hi;simp only[Zm,Om,Adt (f k (Xu hi))]at b ⊢;rw[hi,b];exact h
  ·simp at h
 |_=>exact h
theorem toC2_only{ob:Ay}{ks ro:List Nat}(g:∀k∈ks,k∈ro){x y:MV}(h:toC2 ob ks x=some y):toC2 (only ro ob) ks x=some y:=by
 cases x with
 |fn f cs=>
  simp only[toC2]at h ⊢;split at h
  ·rename_i l i;rw[Zu (fun c m y j=>Ku g j) i];exact h
  ·simp at h
 |p q=>exact Ku (ob:=ob) (ro:=ro) (x:=.p q) g h
 |own a b c d=>exact Ku (ob:=ob) (ro:=ro) (x:=.own a b c d) g h
 |ref a b c=>exact Ku (ob:=ob) (ro:=ro) (x:=.ref a b c) g h
 |eref a b c d=>exact Ku (ob:=ob) (ro:=ro) (x:=.eref a b c d) g h
 |fptr a=>exact Ku (ob:=ob) (ro:=ro) (x:=.fptr a) g h
 |agg a=>exact Ku (ob:=ob) (ro:=ro) (x:=.agg a) g h
 |tup a=>exact Ku (ob:=ob) (ro:=ro) (x:=.tup a) g h
 |mref a b=>exact Ku (ob:=ob) (ro:=ro) (x:=.mref a b) g h
 |und=>exact Ku (ob:=ob) (ro:=ro) (x:=.und) g h
 |any=>exact Ku (ob:=ob) (ro:=ro) (x:=.any) g h
theorem toB_only{ob:Ay}{ks ro:List Nat}(g:∀k∈ks,k∈ro){b c:Body}(h:toB ob ks b=some c):toB (only ro ob) ks b=some c:=by
 cases b with
 |box cs=>
  simp only[toB]at h ⊢;split at h
  ·rename_i j f;rw[Zu (fun c l y i=>toC2_only g i) f];exact h
  ·simp at h
 |_=>exact h
theorem AqQ{ob:Ay}{f ro:List Nat}(g:∀k∈f,k∈ro):∀{l:List Nat} {os:List (Nat×Body)},(∀k∈l,k∈ro)->AhD ob f l=some os->AhD (only ro ob) f l=some os
 |[],os,_,h=>h
 |k::r,os,hl,h=>by
  simp only[AhD]at h ⊢;rw[Adt (hl k (by simp))];split at h
  ·rename_i o s n m;rw[n,AqQ g (fun j i=>hl j (by simp[i])) m];split at h
   ·rename_i b q;simp only[toB_only g q];exact h
   ·simp at h
  ·simp at h
theorem sameB_D{b c:Body}(h:sameB b c=true):sameD b c:=by
 cases b<;>cases c<;>simp_all[sameB,sameD,Body.same]
theorem AuT:∀{l m:List Body},Ani l m=true->All (AfW l m)
 |[],_,_=>trivial
 |_::_,[],_=>trivial
 |b::r,c::s,h=>by
  simp only[Ani,A6]at h;exact⟨sameB_D h.1,AuT h.2⟩
theorem AsF:∀(l:List (Nat×Obj)),AaY [] l=l
 |[]=>rfl
 |(k,o)::r=>by simp[AaY,elem,AsF r]
theorem AsA(ob:Ay):∀(l:List (Nat×Obj)),Aeg [] ob l=[]
 |[]=>rfl
 |(k,o)::r=>by simp[Aeg,elem,AsA ob r]
theorem Uo{o:Oper}{nt:Nat}{V:Type}{x y:V}(b:((match o.dst with|some t=>Nat.blt t nt|none=>true)&&Jt o.op)=true):(bif (match o.dst with|some t=>Nat.blt t nt|none=>true)&&Jt o.op then x else y)=x:=by
 rw[b];rfl
theorem Aqd{o:Oper}{nt:Nat}{V:Type}{x y:V}(b:¬ ((match o.dst with|some t=>Nat.blt t nt|none=>true)&&Jt o.op)=true):(bif (match o.dst with|some t=>Nat.blt t nt|none=>true)&&Jt o.op then x else y)=y:=by
 simp only[Bool.not_eq_true]at b;rw[b];rfl
theorem nnP_rep{S:Nat->Prop}{w:World}:∀(d:Nat) (x:PV) (v:Value),Rep S w v x->Rep S w v (nnP d x):=by
 have sl:∀(d:Nat) (fl:Fl) (W n:Nat) (f:Nat->List PV) (v:Value),Rep S w v (.sl fl W n f)->Rep S w v (nnP d (.sl fl W n f)):=by
  intro d fl W n f v h
  cases fl with
  |unk=>
   have e:nnP d (.sl .unk W n f)=bif Nat.beq n 0 then .sl .unk W n f else .sl .nn W n f:=by cases d<;>rfl
   rw[e]
   by_cases h0:n=0
   ·subst h0;exact h
   ·rw[Dt h0]
    cases h with
    |slnil=>exact absurd rfl h0
    |sl _ _ _ cap b o _ c B m C l D s k=>exact .sl _ _ _ _ _ _ _ c (by simp) m C l D s k
  |_=>cases d<;>exact h
 intro d
 induction d with
 |zero=>
  intro x v h
  cases x with
  |sl fl W n f=>exact sl 0 fl W n f v h
  |_=>exact h
 |succ d A=>
  intro x v h
  cases x with
  |sl fl W n f=>exact sl (d+1) fl W n f v h
  |agg cs=>
   cases h with
   |agg _ vs r k s=>
    refine .agg _ _ (by simpa using r) (fun i y g=>?_) (fun i y g=>?_)
    ·rw[A7]at g
     cases j:cs[i]? with
     |none=>simp[j]at g
     |some q=>simp[j]at g;subst g;exact A _ _ (k i q j)
    ·rw[A7]at g
     cases j:cs[i]? with
     |none=>simp[j]at g
     |some q=>exact s i q j
  |tup cs=>
   cases h with
   |tup _ vs r k=>
    refine .tup _ _ (by simpa using r) (fun i y g=>?_);rw[A7]at g
    cases j:cs[i]? with
    |none=>simp[j]at g
    |some q=>simp[j]at g;subst g;exact A _ _ (k i q j)
  |_=>exact h
theorem nnM_rel{U:Bs}{objs:Ay}{S:Nat->Prop}{w:World}:∀(d:Nat) (x:MV) (v:Value),RelV U objs S w v x->RelV U objs S w v (nnM d x):=by
 have j:∀(d:Nat) (q:PV) (v:Value),Rep S w v q->RelV U objs S w v (nnM d (.p q)):=by
  intro d q v h
  cases q with
  |ptr cs=>
   have e:nnM d (.p (.ptr cs))=.fptr cs:=by cases d<;>rfl
   rw[e]
   cases h with
   |ptr _ b o r c s m k=>exact .fptr _ _ _ r c s m k
  |_=>cases d<;>exact .p _ _ (nnP_rep _ _ _ h)
 intro d
 induction d with
 |zero=>
  intro x v h
  cases x with
  |p q=>exact j 0 q v h.inv_p
  |_=>exact h
 |succ d n=>
  intro x v h
  cases x with
  |p q=>exact j (d+1) q v h.inv_p
  |agg cs=>
   cases h with
   |agg _ vs l k m=>
    refine .agg _ _ (by simpa using l) (fun i y f=>?_) (fun i y f=>?_)
    ·rw[A7]at f
     cases g:cs[i]? with
     |none=>simp[g]at f
     |some q=>simp[g]at f;subst f;exact n _ _ (k i q g)
    ·rw[A7]at f
     cases g:cs[i]? with
     |none=>simp[g]at f
     |some q=>exact m i q g
  |tup cs=>
   cases h with
   |tup _ vs l k=>
    refine .tup _ _ (by simpa using l) (fun i y f=>?_);rw[A7]at f
    cases g:cs[i]? with
    |none=>simp[g]at f
    |some q=>simp[g]at f;subst f;exact n _ _ (k i q g)
  |_=>exact h
theorem Axz{P:Program}{f:FuncId}{args:List MV}{b outs' news:List Body}{res:MV}{d:Nat}(h:Spec P f (args.map (nnM d)) b res outs' news):Spec P f args b res outs' news:=by
 refine⟨h.1,fun w Av U vs g=>h.2 w Av U vs ⟨g.gl,g.av,by simpa using g.len,fun i x j=>?_,g.ob,g.blk,g.inj⟩⟩;rw[A7]at j
 cases k:args[i]? with
 |none=>simp[k]at j
 |some q=>simp[k]at j;subst j;exact nnM_rel d _ _ (g.args i q k)
theorem AxI{P:Program}{f:FuncId}{args:List MV}{b outs' news:List Body}{res:MV}{d:Nat}(h:Spec P f args b res outs' news):Spec P f args b (nnM d res) outs' news:=by
 refine⟨h.1,fun w Av U vs j=>(h.2 w Av U vs j).mono fun e w' ⟨v,i,k,g⟩=>⟨v,i,k,⟨g.kept,g.loc,g.len,nnM_rel d _ _ g.res,g.ob,g.blk,g.inj⟩⟩⟩
theorem eqV_eq{a b:Value}(h:eqV a b=true):a=b:=by
 unfold eqV at h;split at h
 ·simp only[A6,decide_eq_true_eq]at h;rw[h.1,h.2]
 ·rw[eq_of_beq h]
 ·rename_i x y;have h:=of_decide_eq_true h
  have:x=y:=by
   cases x;cases y;simp only[ByteArray.mk.injEq];exact Array.toList_inj.1 h
  rw[this]
 ·rfl
 ·rfl
 ·rfl
 ·rfl
 ·simp at h
theorem Jm{V:Type}{g:V->V->Bool}:∀{l m:List V},Adl g l m=true->l.length=m.length/\∀(i:Nat) y,m[i]?=some y->∃x,l[i]?=some x/\g x y=true
 |[],[],_=>⟨rfl,fun i y h=>by simp at h⟩
 |x::l,y::m,h=>by
  simp only[Adl,A6]at h;obtain⟨a,b⟩:=Jm h.2;refine⟨by simp[a],fun i z f=>?_⟩
  cases i with
  |zero=>simp only[List.getElem?_cons_zero,A1]at f;subst f;exact⟨x,rfl,h.1⟩
  |succ i=>exact b i z f
 |[],_::_,h=>by simp[Adl]at h
 |_::_,[],h=>by simp[Adl]at h
theorem ArE{q:Nat->Bool}{n:Nat}(h:(upN n 0).all q=true)(i:Nat)(hi:i<n):q i=true:=by
 rw[B6]at h;exact h i (B3 (by rw[Anz n 0 i hi,D5]))
theorem eqP_rep{S:Nat->Prop}{w:World}:∀(d:Nat) (x y:PV) (v:Value),eqP d x y=true->Rep S w v x->Rep S w v y:=by
 have base:∀(d:Nat) (a:Value) (y:PV) (v:Value),eqP d (.v a) y=true->Rep S w v (.v a)->Rep S w v y:=by
  intro d a y v h g;unfold eqP at h;split at h
  ·rw[<-eqV_eq h];exact g
  ·simp at h
 intro d
 induction d with
 |zero=>
  intro x y v h g
  cases x with
  |v a=>exact base 0 a y v h g
  |_=>simp[eqP]at h
 |succ d G=>
  intro x y v h g
  cases x with
  |v a=>exact base (d+1) a y v h g
  |sl fl W n f=>
   unfold eqP at h;split at h
   case h_2=>simp at h
   rename_i L N M f';simp only[A6,decide_eq_true_eq]at h;obtain⟨⟨⟨rfl,B⟩,F⟩,I⟩:=h;have B:=A3 B;have F:=A3 F;subst B F
   cases g with
   |slnil _ _ _ h=>exact .slnil _ _ _ h
   |sl _ _ _ cap b o _ c E s K A J C g=>
    refine .sl _ _ _ cap b o _ c E s K (fun i hi=>?_) J C (fun i j z hi r=>?_)
    ·rw[<-(Jm (ArE I i hi)).1];exact A i hi
    ·obtain⟨q,k,e⟩:=(Jm (ArE I i hi)).2 j z r
     exact G _ _ _ e (g i j q hi k)
  |agg l=>
   unfold eqP at h;split at h
   case h_2=>simp at h
   rename_i m
   cases g with
   |agg _ vs D g C=>
    refine .agg _ _ (by rw[D,(Jm h).1]) (fun i z r=>?_) (fun i z r=>?_)
    ·obtain⟨q,k,e⟩:=(Jm h).2 i z r;exact G _ _ _ e (g i q k)
    ·obtain⟨q,k,e⟩:=(Jm h).2 i z r
     exact C i q k
  |tup l=>
   unfold eqP at h;split at h
   case h_2=>simp at h
   rename_i m
   cases g with
   |tup _ vs D g=>
    refine .tup _ _ (by rw[D,(Jm h).1]) (fun i z r=>?_);obtain⟨q,k,e⟩:=(Jm h).2 i z r
    exact G _ _ _ e (g i q k)
  |_=>simp[eqP]at h
theorem eqM_rel{U:Bs}{objs:Ay}{S:Nat->Prop}{w:World}:∀(d:Nat) (x y:MV) (v:Value),eqM d x y=true->RelV U objs S w v x->RelV U objs S w v y:=by
 have base:∀(d:Nat) (a:PV) (y:MV) (v:Value),eqM d (.p a) y=true->RelV U objs S w v (.p a)->RelV U objs S w v y:=by
  intro d a y v h b;unfold eqM at h;split at h
  ·exact .p _ _ (eqP_rep _ _ _ _ h b.inv_p)
  ·simp at h
 have any:∀(d:Nat) (y:MV) (v:Value),eqM d .any y=true->RelV U objs S w v y:=by
  intro d y v h
  cases d with
  |zero=>
   unfold eqM at h;split at h
   ·exact .any _
   ·simp at h
  |succ d=>
   unfold eqM at h;split at h
   ·exact .any _
   ·simp at h
 intro d
 induction d with
 |zero=>
  intro x y v h b
  cases x with
  |p a=>exact base 0 a y v h b
  |any=>exact any 0 y v h
  |_=>simp[eqM]at h
 |succ d k=>
  intro x y v h b
  cases x with
  |p a=>exact base (d+1) a y v h b
  |agg l=>
   unfold eqM at h;split at h
   case h_2=>simp at h
   rename_i m
   cases b with
   |agg _ vs j b n=>
    refine .agg _ _ (by rw[j,(Jm h).1]) (fun i z g=>?_) (fun i z g=>?_)
    ·obtain⟨q,f,e⟩:=(Jm h).2 i z g;exact k _ _ _ e (b i q f)
    ·obtain⟨q,f,e⟩:=(Jm h).2 i z g
     exact n i q f
  |tup l=>
   unfold eqM at h;split at h
   case h_2=>simp at h
   rename_i m
   cases b with
   |tup _ vs j b=>
    refine .tup _ _ (by rw[j,(Jm h).1]) (fun i z g=>?_);obtain⟨q,f,e⟩:=(Jm h).2 i z g
    exact k _ _ _ e (b i q f)
  |any=>exact any (d+1) y v h
  |_=>simp[eqM]at h
theorem AxG{P:Program}{f:FuncId}{args:List MV}{b outs' news:List Body}{res r:MV}{d:Nat}(k:eqM d r res=true)(h:Spec P f args b r outs' news):Spec P f args b res outs' news:=
 ⟨h.1,fun w Av U vs j=>(h.2 w Av U vs j).mono fun e w' ⟨v,i,l,g⟩=>⟨v,i,l,⟨g.kept,g.loc,g.len,eqM_rel d _ _ _ k g.res,g.ob,g.blk,g.inj⟩⟩⟩
theorem Axy{P:Program}{f:FuncId}{args key:List MV}{b outs' news:List Body}{res:MV}{d:Nat}(j:Adl (eqM d) args key=true)(h:Spec P f key b res outs' news):Spec P f args b res outs' news:=by
 refine⟨h.1,fun w Av U vs g=>h.2 w Av U vs ⟨g.gl,g.av,by rw[g.len,(Jm j).1],fun i x k=>?_,g.ob,g.blk,g.inj⟩⟩;obtain⟨q,l,e⟩:=(Jm j).2 i x k;exact eqM_rel d _ _ _ e (g.args i q l)
def Ajs(P:Program):List (Nat×List MV×MV)->Prop
 |[]=>True
 |(f,key,r)::l=>Spec P f key [] r [] []/\Ajs P l
theorem kn_ok{P:Program}:∀{l:List (Nat×List MV×MV)} {f:Nat} {b:List MV} {r:MV},Ajs P l->kn l f b=some r->Spec P f b [] r [] []
 |[],_,_,_,_,h=>by simp[kn]at h
 |(g,key,q)::l,f,b,r,hk,h=>by
  unfold kn at h
  cases i:(Nat.beq g f&&Adl (eqM 4) b key)with
  |true=>
   rw[i]at h;simp only[cond_true,A1]at h;subst h;simp only[A6]at i;have j:=A3 i.1;subst j
   exact Axy i.2 hk.1
  |false=>
   rw[i]at h;exact kn_ok hk.2 h
def AqA(P:Program)(l:List Nat):Prop:=∀f,elem f l=true->∀g b,Spec P f [.own 0 0 0 1,.p (.v (.int .i64 0)),.own 1 0 0 1] [.row 3 1 g,.row 3 1 b] .any [.dead,.dead] []
theorem wkArgs_of{b:List MV}{os:List Body}(h:Anm b os=true):∃g f,b=[.own 0 0 0 1,.p (.v (.int .i64 0)),.own 1 0 0 1]/\os=[.row 3 1 g,.row 3 1 f]:=by
 unfold Anm at h;split at h
 ·exact⟨_,_,rfl,rfl⟩
 ·simp at h
def FnsOK(P:Program)(self:Todo->Ans):Prop:=∀f g args b res o n,self (.fn f g args b)=.fn res o n->Spec P f args b res o n
section
variable {P:Program} {T:Ty} {H:Abn} {self:Todo->Ans}
def Aem(P:Program)(l:List (Nat×NatK)):Prop:=∀f k vs z,assoc l f=some k->natV k vs=some z->NatRun P f vs.toArray z
structure OpGo(P:Program)(T:Ty)(gt:List Nat)(o:Oper)(O:St)(x:Orc)(r:Rec):Prop where
 sk:x.isSkip=false
 go:∀nt gs gobl,Yv gs o.guard false O=some (gt,gobl)->((match o.dst with|some t=>Nat.blt t nt|none=>true)&&Jt o.op)=true->All gobl->∃obl,dstep P T nt gs o x O=some (r,obl)/\All obl
theorem Asb:∀{l:List Body},l.all flatN=true->All (Agj l)
 |[],_=>trivial
 |b::r,h=>by
  rw[L9,A6]at h;have g:=Asb h.2
  cases b with
  |row W n f=>exact⟨fun i hi=>ArE h.1 i hi,g⟩
  |_=>exact g
theorem AwR(hs:FnsOK P self){R:List Nat}{o:Oper}{fop:Operand}{args:Array Operand}{ts:Array TypeId}(q:o.op=.call ⟨.value fop,args,ts⟩){dst f:Nat}(A:dst=o.dst.getD 0){xs:List MV}{O:St}
  (K:Ajl (ev O fop) (args.toList.map (ev O))=some (f,xs)) {ks:List Nat} {j:List MV} {os:List (Nat×Body)} (h1:Yn (toC O.objs ks) xs=some j) (Y:Tj O.objs ks=some os) {Q:Bool} {x:Orc} {r:Rec}
  (h:AjY R o dst f ks xs O (self (.fn f Q j (os.map (·.2))))=.ok (x,r)):OpGo P T R o O x r:=by
 generalize B:self (.fn f Q j (os.map (·.2)))=G at h
 cases G with
 |err l=>simp[AjY]at h
 |code e s=>simp[AjY]at h
 |fn res outs' news=>
  have M:=hs _ _ _ _ _ _ _ B;simp only[AjY]at h;generalize F:dedup (xs.flatMap (bor ks)) []=bs at h;generalize g:(bs.isEmpty||(news.isEmpty&&outs'.all Body.flatB&&res.scalar)||((outs'++news).all Body.flatR&&(outs'++news).all flatN&&res.scalR))=keep at h;generalize m:ks++xs.flatMap (bor ks)++Ags dst news.length 0=ro at h;split at h
  case h_2=>simp at h
  rename_i v i y wo obl b
  cases I:Ani i outs' with
  |false=>simp[I]at h
  |true=>
  simp only[I,cond_true,Except.ok.injEq,A4]at h;obtain⟨rfl,rfl⟩:=h;have n:∀k∈ks,k∈ro:=fun k J=>by rw[<-m];simp[J]
  have hA:Yn (toC (only ro O.objs) ks) xs=some j:=Zu (fun c N y hy=>toC_only n (fun k J=>by
   rw[<-m];simp only[B1,K2]
   exact .inl (.inr ⟨c,N,J⟩)) hy) h1
  have hO:Tj (only ro O.objs) ks=some os:=AqQ n n Y;have E:=b;unfold Wl at b;rw[hA,hO]at b;simp only[F]at b;rw[E2]at b;split at b
  case isFalse=>simp at b
  simp only[A1,A4]at b;obtain⟨e1,e2,e3,e4,X⟩:=b
  have C:All obl:=by
   rw[<-X]
   cases q:(!keep||bs.isEmpty||(news.isEmpty&&outs'.all Body.flatB&&res.scalar))with
   |true=>trivial
   |false=>
    have K:(outs'++news).all flatN=true:=by
     simp only[E3,J4]at q;rw[q.1.1,q.1.2,q.2]at g;simp only[E8,A6]at g;exact g.1.2
    exact Asb K
  refine⟨rfl,fun nt gs D hg N L=>?_⟩
  have W:dcall P o.op dst f ks keep res outs' news [] O=some (ro,y,wo,Spec P f v i res outs' news::(AfW i outs'++(Aeg [] (only ro O.objs) wo++obl))):=by
   unfold dcall;rw[q];simp only[K,D4,cond_true,m,E,AsF]
  refine⟨D++(Spec P f v i res outs' news::(AfW i outs'++(Aeg [] (only ro O.objs) wo++obl))),?_,?_⟩
  ·unfold dstep;simp only[Orc.isSkip,hg];refine(Uo N).trans ?_;rw[<-A,W];rfl
  ·rw[All_append];refine⟨L,?_⟩;rw[<-e1,<-e2];refine⟨M,?_⟩;rw[All_append,All_append,AsA];exact⟨AuT (by rw[e2];exact I),trivial,C⟩
theorem Avf(n:Nat)(f:Nat->List PV)(i:Nat)(hi:i<n):ofL (rowL n f) i=f i:=by
 unfold ofL rowL;rw[A7,Anz n 0 i hi];simp
theorem Axi{E:List Nat}{c:Nat}{o:Oper}{O:St}{x:Orc}{r:Rec}
  (h:Anw T H E c o (o.dst.getD 0) O (o.op.operands.toList.map (ev O)) (Lo o.op (o.dst.getD 0) (o.op.operands.toList.map (ev O)))=.ok (x,r)):OpGo P T E o O x r:=by
 unfold Anw at h;split at h
 case h_2=>simp at h
 rename_i q L;obtain⟨y,wo⟩:=q;obtain⟨obl,n,C⟩:=fop_sound L
 cases F:elem (o.dst.getD 0) ((assoc H.new c).getD [])with
 |false=>
  simp only[F,cond_false,Except.ok.injEq,A4]at h;obtain⟨rfl,rfl⟩:=h
  have v:doPk (only (Lo o.op (o.dst.getD 0) (o.op.operands.toList.map (ev O))) O.objs) o.op (o.op.operands.toList.map (ev O))=.no\/∃b,doPk (only (Lo o.op (o.dst.getD 0) (o.op.operands.toList.map (ev O))) O.objs) o.op (o.op.operands.toList.map (ev O))=.pk b:=by
   unfold doPk;split
   ·split
    ·exact .inr ⟨_,rfl⟩
    ·exact .inl rfl
   ·exact .inr ⟨_,rfl⟩
   ·exact .inl rfl
  refine⟨by rcases v with e|⟨b,e⟩<;>rw[e]<;>rfl,fun nt G j B A s=>?_⟩;refine⟨j++obl,?_,by rw[All_append];exact⟨s,C⟩⟩;unfold dstep;rcases v with e|⟨b,e⟩
  ·rw[e]at n ⊢;simp only[Orc.isSkip,B];refine(Uo A).trans ?_;simp only[n];rfl
  ·rw[e]at n ⊢;simp only[Orc.isSkip,B];refine(Uo A).trans ?_;simp only[n]
   rfl
 |true=>
  simp only[F,cond_true]at h;unfold doFrz at h;split at h
  ·rename_i k g len J I W m f t D K;simp only[A4]at D;obtain⟨rfl,rfl⟩:=D
   cases l:(Nat.beq k J&&Nat.beq g I&&Nat.beq len m&&(doPk (only (Lo o.op (o.dst.getD 0) (o.op.operands.toList.map (ev O))) O.objs) o.op (o.op.operands.toList.map (ev O))).bit)with
   |false=>simp[l]at h
   |true=>
   simp only[l,cond_true,Except.ok.injEq,A4]at h;obtain⟨rfl,rfl⟩:=h;simp only[A6]at l;rw[l.2]at n;refine⟨rfl,fun nt G j B A s=>⟨j++(obl++[m=m/\∀i,i<m->f i=ofL (rowL m f) i]),?_,?_⟩⟩
   ·unfold dstep;simp only[Orc.isSkip,B];refine(Uo A).trans ?_;simp only[K]at n ⊢;simp only[n,l.1.1.1,l.1.1.2,l.1.2,Bool.and_self,cond_true]
   ·rw[All_append,All_append];exact⟨s,C,⟨rfl,fun i hi=>(Avf m f i hi).symm⟩,trivial⟩
  ·simp at h
theorem doNat_go(q:Aem P H.nat){m:List Nat}{o:Oper}{fop:Operand}{args:Array Operand}{ts:Array TypeId}(l:o.op=.call ⟨.value fop,args,ts⟩){f:Nat}{b:List MV}{k:NatK}{O:St}(n:fnOf (ev O fop)=some (f,b))(v:assoc H.nat f=some k)
  {x:Orc} {r:Rec} (h:doNat m o k f b (AeS (args.toList.map (ev O)))=.ok (x,r)):OpGo P T m o O x r:=by
 generalize j:AeS (args.toList.map (ev O))=A at h;unfold doNat at h;split at h
 ·rename_i vs;split at h
  ·rename_i z C;simp only[Except.ok.injEq,A4]at h;obtain⟨rfl,rfl⟩:=h;refine⟨rfl,fun nt D g s B i=>⟨g++[NatRun P f vs.toArray z],?_,?_⟩⟩
   ·unfold dstep;simp only[Orc.isSkip,s];refine(Uo B).trans ?_;simp only[l,n,j];rw[<-l];rfl
   ·rw[All_append];exact⟨i,q f k vs z v C,trivial⟩
  ·simp at h
 ·simp at h
theorem Awr{g:MV}{f f2:Nat}{xs i k:List MV}(b:fnOf g=some (f2,i))(h:Ajl g k=some (f,xs)):f2=f:=by
 unfold fnOf at b;unfold Ajl at h;split at b
 ·simp only[A1,A4]at h b;exact b.1.symm.trans h.1
 ·rename_i f3 j
  cases l:Nat.blt f3 BND with
  |false=>simp[l]at b
  |true=>
   simp only[l,cond_true,A1,A4]at h b;exact b.1.symm.trans h.1
 ·simp at b
theorem Axc(J:Aem P H.nat)(N:FnsOK P self){c nt:Nat}{A:List (Option Nat)}{o:Oper}{O:St}{x:Orc}{r:Rec}(h:doOp T H self c nt A o O=.ok (x,r)):∃obl,dstep P T nt A o x O=some (r,obl)/\All obl:=by
 unfold doOp at h
 by_cases hc:((match o.dst with|some t=>Nat.blt t nt|none=>true)&&Jt o.op)=true
 case neg=>
  have h:=(Aqd hc).symm.trans h;simp at h
 have h:=(Uo hc).symm.trans h;split at h
 ·-- it goes
  rename_i E g
  have B:∃l,Yv A o.guard false O=some (E,l)/\All l:=by
   unfold Yv
   cases i:o.guard with
   |none=>
    rw[i]at g;simp only[Ajt,A1,A4,and_true]at g;subst g
    exact⟨[],rfl,trivial⟩
   |some q=>
    obtain⟨j,want⟩:=q;rw[i]at g;simp only[Ajt]at g;split at g
    ·rename_i t v;split at g
     ·rename_i b n;simp only[A1,A4]at g;obtain⟨rfl,M⟩:=g;refine⟨[b=want],by simp only[v,n,cond_false],?_,trivial⟩;cases want<;>cases b<;>simp_all
     ·simp at g
     ·simp at g
    ·simp at g
  obtain⟨l,C,D⟩:=B
  have go:OpGo P T E o O x r:=by
   unfold doOp2 at h;split at h
   ·rename_i fop args ts m;unfold doCall at h;split at h
    case h_2=>simp at h
    rename_i f xs F;split at h
    ·rename_i k K;unfold doNat0 at h;split at h
     case h_2=>simp at h
     rename_i f2 G s;have:f2=f:=Awr s F;subst this;exact doNat_go J m s K h
    unfold doCall2 at h;split at h
    ·rename_i Q os L I;exact AwR N m rfl F L I h
    ·simp at h
    ·simp at h
   ·rename_i op _ m;exact Axi h
  exact go.go nt A l C hc D
 ·-- it does not
  rename_i E g;simp only[Except.ok.injEq,A4]at h;obtain⟨rfl,rfl⟩:=h
  cases i:o.guard with
  |none=>
   rw[i]at g
   simp[Ajt]at g
  |some q=>
   obtain⟨j,want⟩:=q;rw[i]at g;simp only[Ajt]at g;split at g
   ·rename_i t v;split at g
    ·rename_i b n;simp only[A1,A4]at g;obtain⟨rfl,M⟩:=g;refine⟨[b=!want],?_,?_,trivial⟩
     ·unfold dstep Yv;simp only[i,v,n,Orc.isSkip,cond_true];exact Uo hc
     ·cases want<;>cases b<;>simp_all
    ·rename_i n;simp only[A1,A4,and_true]at g;subst g;refine⟨[],?_,trivial⟩;unfold dstep Yv;simp only[i,v,n,Orc.isSkip,cond_true];exact Uo hc
    ·simp at g
   ·simp at g
 ·simp at h
theorem Aox(m:Aem P H.nat)(l:FnsOK P self){c nt id:Nat}{r:List (Option Nat)}:∀(os:List Oper) (i:Nat) (s:CS) (f R:List Rec) (g:CS),Aip T H self c nt id r os i s f=.ok (R,g) ->
  ∃b xs obl,R=f.reverse++b/\drun P T nt r os xs s.st=some (b,obl,g.st)/\All obl
 |[],i,s,f,R,g,h=>by
  simp only[Aip,Except.ok.injEq,A4]at h;obtain⟨rfl,rfl⟩:=h
  exact⟨[],[],[],by simp,rfl,trivial⟩
 |o::os,i,s,f,R,g,h=>by
  simp only[Aip]at h;split at h
  ·rename_i x q B
   cases k:(Fu q.ws&&Fu q.wo)with
   |false=>simp[k]at h
   |true=>
   simp only[k,cond_true]at h;obtain⟨j,C,v⟩:=Axc m l B;obtain⟨b,xs,obl,A,n,D⟩:=Aox m l os (i+1) _ _ R g h;refine⟨q::b,x::xs,j++obl,by rw[A];simp,?_,by rw[All_append];exact⟨v,D⟩⟩;rw[updC_st _ _ _ k]at n;simp only[drun,C,n]
  ·simp at h
end
def ObOK(L:List Int):Option Obj->Prop
 |some ⟨_,.mp _ has _⟩=>∀n,has n=true->n∈L
 |some ⟨_,.mq (.it _ rem _)⟩=>∀n,rem n=true->n∈L
 |_=>True
def Qo(s:CS):Prop:=∀k L,s.ml.get k=some L->ObOK L (s.ob.get k)
theorem AkG:∀(wo:List (Nat×Obj)) (ml:Tr (List Int)) (k:Nat) (L:List Int),Fu wo=true->(Aep ml wo).get k=some L->(∀o,(k,o)∉wo)/\ml.get k=some L
 |[],ml,k,L,_,h=>by
  cases ml with
  |lf=>simp only[Aep,AxT]at h;simp at h
  |nd x l r=>exact⟨by simp,by simpa only[Aep]using h⟩
 |(j,o)::r,ml,k,L,hb,h=>by
  simp only[Fu,A6]at hb
  cases ml with
  |lf=>simp only[Aep,AxT]at h;simp at h
  |nd x l rr=>
   simp only[Aep]at h;obtain⟨g,b⟩:=AkG r _ k L hb.2 h;rw[AxC hb.1]at b
   cases e:Nat.beq k j with
   |true=>rw[e]at b;simp at b
   |false=>
    rw[e]at b;refine⟨fun i f=>?_,b⟩;rcases C0.1 f with q|q
    ·injection q with q1 q2
     subst q1;rw[D4]at e;simp at e
    ·exact g i q
theorem Ank:∀(wo:List (Nat×Obj)) (ob:Ay) (k:Nat),(∀o,(k,o)∉wo)->Cf ob wo k=ob k
 |[],_,_,_=>rfl
 |(j,o)::r,ob,k,h=>by
  rw[Cf,Ank r _ k (fun f b=>h f (by simp[b]))];have:k≠j:=fun e=>h o (by simp[e])
  simp only[Bm,Dt this,cond_false]
theorem CSok_upd{s:CS}{o:Oper}{q:Rec}(j:Qo s)(f:(Fu q.ws&&Fu q.wo)=true)
  (h:∀k L,AdG o.op (o.op.operands.toList.map (ev s.st)) s.ml q.wo=some (k,L)->Nat.blt k 1000000=true/\ObOK L (Cf s.ob.get q.wo k)):Qo (updC s q (AlT o s q)):=by
 simp only[A6]at f;intro k L b;show ObOK L ((putL q.wo s.ob).get k);rw[AqS _ _ f.2];change (AlT o s q).get k=some L at b;unfold AlT at b;split at b
 ·rename_i e;rw[e];exact j k L b
 ·rename_i e;generalize v:AdG o.op (o.op.operands.toList.map (ev s.st)) s.ml q.wo=m at b h
  cases m with
  |none=>
   obtain⟨i,g⟩:=AkG _ _ _ _ f.2 b;rw[Ank _ _ _ i]
   exact j k L g
  |some p=>
   obtain⟨l,r⟩:=p;obtain⟨b1,n⟩:=h l r rfl;simp only[mlPut]at b;rw[AxC b1]at b
   cases e1:Nat.beq k l with
   |true=>
    rw[e1]at b;simp only[cond_true,A1]at b;subst b;have:=A3 e1;subst this
    exact n
   |false=>
    rw[e1]at b;obtain⟨i,g⟩:=AkG _ _ _ _ f.2 b;rw[Ank _ _ _ i];exact j k L g
theorem AsL{ob:Ay}{k g:Nat}{z:PV}{has:Int->Bool}{f:Int->PV}(h:Om ob k g=some (z,has,f)):ob k=some ⟨g,.mp z has f⟩:=by
 unfold Om at h;split at h
 ·rename_i l m i f' j
  cases b:Nat.beq l g with
  |false=>simp[b]at h
  |true=>
   simp[b]at h;rw[j,A3 b,h.1,h.2.1,h.2.2]
 ·simp at h
theorem Asu{T:Ty}{t dst:Nat}{ro:List Nat}{s:CS}(D:Qo s){q q' l:Nat}{n:Int}{u y:MV}{wo:List (Nat×Obj)}{obl:List Prop}{g:Nat}{v:Nat}{z:PV}{has:Int->Bool}{f:Int->PV}{L:List Int}
  (h:orE (Pi T t (only ro s.ob.get) (.mref q l) (.p (.v (.int .i64 n))) u) (Mu T t (only ro s.ob.get) (.mref q l) (.p (.v (.int .i64 n))) u)=some (y,wo,obl)) (b:wo=[(v,⟨g,.mp z has f⟩)]) (A:s.ml.get q=some L):
  ∀m,has m=true->m∈n::L:=by
 unfold orE at h;split at h
 ·rename_i e i;injection h with h
  subst h;unfold Pi at i;split at i
  ·rename_i E F n1 I B j k G;simp only[MV.mref.injEq]at j;obtain⟨rfl,rfl⟩:=j;simp only[MV.p.injEq,PV.v.injEq,Value.int.injEq,true_and]at k;subst k;split at i
   ·rename_i z1 o f1 r;simp only[A1,A4]at i;obtain⟨-,rfl,-⟩:=i;simp only[H3,A4,Obj.mk.injEq,Body.mp.injEq,and_true]at b;obtain⟨-,-,-,rfl,-⟩:=b;have C:=Cu (AsL r);have:=D q L A;rw[C]at this;intro m j;simp only[Bf]at j;split at j
    ·rename_i e;subst e;simp
    ·exact H5 _ (this m j)
   ·simp at i
  ·simp at i
 ·unfold Mu at h;split at h
  ·split at h
   ·simp only[A1,A4]at h;obtain⟨-,rfl,-⟩:=h;simp at b
   ·simp at h
  ·simp at h
theorem fop_ml{T:Ty}{op:Op}{dst:Nat}{ro:List Nat}{s:CS}(A:Qo s){xs:List MV}{y:MV}{wo:List (Nat×Obj)}(h:fop T op dst (only ro s.ob.get) xs=some (y,wo)){k:Nat}{L:List Int}
  (f:AdG op xs s.ml wo=some (k,L)):ObOK L (Cf s.ob.get wo k):=by
 cases op with
 |makeMap t r=>
  cases r with
  |some r=>simp[fop]at h
  |none=>
   simp only[AdG]at f;split at f
   ·rename_i k1 v z1 j f1;simp only[A1,A4]at f;obtain⟨rfl,rfl⟩:=f;obtain⟨rfl,obl,b⟩:=ArS h;simp only[Cf,Bm,Cr,cond_true];unfold orE at b;split at b
    ·rename_i e g;injection b with b
     subst b;unfold Rs at g;split at g
     ·split at g
      ·simp only[A1,A4,H3,Obj.mk.injEq,Body.mp.injEq,and_true]at g;obtain⟨-,⟨-,-,-,rfl,-⟩,-⟩:=g;intro n O;simp at O
      ·simp at g
     ·simp at g
    ·unfold Ph at b;split at b
     ·split at b
      ·simp at b
      ·simp at b
     ·simp at b
   ·simp at f
 |mapUpdate t p q r=>
  obtain⟨x,z,u,rfl,obl,b,_⟩:=Anq h;simp only[AdG]at f;split at f
  ·rename_i o v n u1 k1 E z1 j f1 i;simp only[H3,and_true]at i;obtain⟨rfl,rfl,rfl⟩:=i;simp only[C7,A4]at f;obtain⟨B,m,rfl,rfl⟩:=f;simp only[Cf,Bm,Cr,cond_true];exact Asu A (dst:=dst) (q':=0) b rfl m
  ·simp at f
 |insert t p q r=>
  obtain⟨x,z,u,rfl,obl,b,_⟩:=Anq h;simp only[AdG]at f;split at f
  ·rename_i o v n u1 k1 E z1 j f1 i;simp only[H3,and_true]at i;obtain⟨rfl,rfl,rfl⟩:=i;simp only[C7,A4]at f;obtain⟨B,m,rfl,rfl⟩:=f;simp only[Cf,Bm,Cr,cond_true];exact Asu A (dst:=dst) (q':=0) b rfl m
  ·simp at f
 |range t q=>
  obtain⟨x,rfl,obl,b,_⟩:=Jz h;simp only[AdG]at f;split at f
  ·rename_i o v o1 Q E f1 G I i;simp only[H3,and_true]at i;subst i;simp only[C7,A4]at f;obtain⟨B,m,rfl,rfl⟩:=f;unfold orE at b;split at b
   ·rename_i e g;injection b with b
    subst b;unfold Xx at g;split at g
    ·rename_i N;simp at N
    ·rename_i W X K l;simp only[MV.mref.injEq]at l;obtain⟨rfl,rfl⟩:=l;split at g
     ·rename_i R C f3 J
      cases D:Nat.beq o (key dst 0)with
      |true=>simp[D]at g
      |false=>
       simp only[D,cond_false,A1,A4,H3,Obj.mk.injEq,Body.mq.injEq,MQ.it.injEq,and_true]at g;obtain⟨-,⟨rfl,rfl,-,-,rfl,-⟩,-⟩:=g;have M:=Cu (AsL J);have F:=A o B m;rw[M]at F;simp only[Cf,Bm,Cr,cond_true];exact F
     ·simp at g
    ·simp at g
   ·unfold Um at b
    repeat' split at b
    all_goals simp at b
  ·simp at f
 |_=>simp[AdG]at f
theorem doOp_wo{P:Program}{T:Ty}{H:Abn}{self:Todo->Ans}{c nt:Nat}{n:List (Option Nat)}{o:Oper}{O:St}{x:Orc}{q:Rec}(h:doOp T H self c nt n o O=.ok (x,q)):
  (∃y ro,fop T o.op (o.dst.getD 0) (only ro O.objs) (o.op.operands.toList.map (ev O))=some (y,q.wo))\/q.wo=[]\/(∃k g,q.wo=[(k,⟨g,.dead⟩)])\/∃c,o.op=.call c:=by
 unfold doOp at h
 by_cases hc:((match o.dst with|some t=>Nat.blt t nt|none=>true)&&Jt o.op)=true
 case neg=>
  have h:=(Aqd hc).symm.trans h;simp at h
 have h:=(Uo hc).symm.trans h;split at h
 ·unfold doOp2 at h;split at h
  ·rename_i b;exact .inr (.inr (.inr ⟨_,b⟩))
  ·unfold Anw at h;split at h
   case h_2=>simp at h
   rename_i p l;obtain⟨y,wo⟩:=p
   cases j:elem (o.dst.getD 0) ((assoc H.new c).getD [])with
   |false=>
    simp only[j,cond_false,Except.ok.injEq,A4]at h;obtain⟨rfl,rfl⟩:=h
    exact .inl ⟨y,_,l⟩
   |true=>
    simp only[j,cond_true]at h;unfold doFrz at h;split at h
    ·rename_i k g len s r W m f t A v
     cases i:(Nat.beq k s&&Nat.beq g r&&Nat.beq len m&&(doPk (only (Lo o.op (o.dst.getD 0) (o.op.operands.toList.map (ev O))) O.objs) o.op (o.op.operands.toList.map (ev O))).bit)with
     |false=>simp[i]at h
     |true=>
      simp only[i,cond_true,Except.ok.injEq,A4]at h;obtain⟨-,rfl⟩:=h;exact .inr (.inr (.inl ⟨_,_,rfl⟩))
    ·simp at h
 ·simp only[Except.ok.injEq,A4]at h;obtain⟨-,rfl⟩:=h;exact .inr (.inl rfl)
 ·simp at h
theorem doOp_ml{T:Ty}{H:Abn}{self:Todo->Ans}{c nt:Nat}{r:List (Option Nat)}{o:Oper}{s:CS}{x:Orc}{q:Rec}(h:doOp T H self c nt r o s.st=.ok (x,q))(l:Qo s)(i:(Fu q.ws&&Fu q.wo)=true):
  Qo (updC s q (AlT o s q)):=by
 refine CSok_upd l i fun k L b=>?_
 simp only[A6]at i
 have g:Nat.blt k 1000000=true:=by
  have n:=i.2;revert b;unfold AdG
  repeat' split
  all_goals first
   |(intro b;simp at b;done)
   |(intro b;simp only[C7,A1,A4]at b;first|(obtain⟨_,-,rfl,-⟩:=b;simp_all[Fu];done)|(obtain⟨rfl,-⟩:=b;simp_all[Fu];done))
 refine⟨g,?_⟩;rcases doOp_wo (P:=default) h with⟨y,ro,m⟩|f|⟨k1,v,f⟩|⟨c1,j⟩
 ·exact fop_ml l m b
 ·rw[f]at b;revert b;unfold AdG
  repeat' split
  all_goals (intro b;first|contradiction|(simp at b;done))
 ·rw[f]at b;revert b;unfold AdG
  repeat' split
  all_goals (intro b;simp_all)
 ·rw[j]at b;simp[AdG]at b
theorem Avc{T:Ty}{H:Abn}{self:Todo->Ans}{c nt id:Nat}{k:List (Option Nat)}:∀(os:List Oper) (i:Nat) (s:CS) (b R:List Rec) (f:CS),Aip T H self c nt id k os i s b=.ok (R,f)->Qo s->Qo f
 |[],i,s,b,R,f,h,hs=>by
  simp only[Aip,Except.ok.injEq,A4]at h;obtain⟨rfl,rfl⟩:=h
  exact hs
 |o::os,i,s,b,R,f,h,hs=>by
  simp only[Aip]at h;split at h
  ·rename_i x q j
   cases g:(Fu q.ws&&Fu q.wo)with
   |false=>simp[g]at h
   |true=>
   simp only[g,cond_true]at h;exact Avc os (i+1) _ _ R f h (doOp_ml j hs g)
  ·simp at h
theorem frzT_ml:∀(ks:List Nat) (s:CS),(∀k∈ks,Nat.blt k 1000000=true)->Qo s->Qo (frzT s ks)
 |[],s,_,h=>h
 |k::r,s,hk,h=>by
  rw[frzT];refine frzT_ml r _ (fun j f=>hk j (by simp[f])) fun j L f=>?_
  have i:=h j L f;show ObOK L (((s.ob.put TD k none).map fun o=>⟨o.gen,AeZ s.ob.get k o.body⟩).get j);rw[AxF,AxC (hk k (by simp))]
  cases Nat.beq j k with
  |true=>trivial
  |false=>
   simp only[cond_false];revert i
   cases s.ob.get j with
   |none=>exact fun _=>trivial
   |some o=>
    obtain⟨g,b⟩:=o;cases b<;>exact fun h=>h
section
variable {P:Program} {T:Ty} {cx:Cx P} {U:Bs} {a:Act} {w:World}
theorem Asi:∀(ks:List Nat) (s:CS),(∀k∈ks,Nat.blt k 1000000=true)->Rel cx U s.st a w->Rel cx U (normT s ks).st a w
 |[],s,_,h=>h
 |k::r,s,hk,h=>by
  rw[normT];refine Asi r _ (fun j l=>hk j (by simp[l])) ?_;split
  ·rename_i g W n f b;have:=h.rowAs (f':=ofL (rowL n f)) (show s.st.objs k=some ⟨g,.row W n f⟩from b) (fun i hi=>(Avf n f i hi).symm)
   have e:(CS.mk s.sl (s.ob.put TD k (some ⟨g,.row W n (ofL (rowL n f))⟩)) s.ml).st=⟨s.st.slots,Bm s.st.objs k ⟨g,.row W n (ofL (rowL n f))⟩⟩:=by
    unfold CS.st;congr 1;funext j;rw[AxC (hk k (by simp))];rfl
   rw[e];exact this
  ·exact h
theorem Apg:∀(ks:List Nat) (s:CS),(∀k∈ks,Nat.blt k 1000000=true)->Rel cx U s.st a w->Rel cx U (frzT s ks).st a w
 |[],s,_,h=>h
 |k::r,s,hk,h=>by
  rw[frzT];refine Apg r _ (fun j b=>hk j (by simp[b])) ?_;refine AxB k (fun t=>?_) (fun j=>?_) h
  ·show(((s.sl.map (frzN s.ob.get k 2)).get t).getD .any)=frzN s.ob.get k 2 ((s.sl.get t).getD .any);rw[AxF];cases s.sl.get t<;>rfl
  ·show(j=k/\((s.ob.put TD k none).map _).get j=none)\/(j≠k/\((s.ob.put TD k none).map _).get j=(s.ob.get j).map _);rw[AxF,AxC (hk k (by simp))]
   by_cases e:j=k
   ·subst e;rw[D4];exact .inl ⟨rfl,rfl⟩
   ·rw[Dt e];exact .inr ⟨e,rfl⟩
theorem AiF(ks:List Nat):∀k∈AmH ks,Nat.blt k 1000000=true:=by
 intro k b;unfold AmH at b
 cases f:ks.all (fun k=>Nat.blt k 1000000)with
 |false=>simp[f]at b
 |true=>
  simp only[f,cond_true]at b;exact B6.mp f k b
end
section
variable {P:Program} {T:Ty} {H:Abn}
abbrev endsQ(e:Exit)(s:CS):Exit->St->Prop:=fun b O=>b=e/\O=s.st
theorem doFrzR_ml{c id:Nat}{s:CS}(b:Qo s):Qo (AmP H c id s):=by
 unfold AmP;split
 ·exact frzT_ml _ _ (AiF _) b
 ·exact b
theorem Asg:∀(L:List Int) (n:Int),n∈L->n∈Akz L
 |[],n,h=>by simp at h
 |m::r,n,h=>by
  rw[Akz]
  by_cases e:n=m
  ·simp[e]
  ·rcases C0.1 h with q|q
   ·exact absurd q e
   ·exact H5 _ (C1.2 ⟨Asg r n q,by simpa using e⟩)
theorem next_ml{c d d2 k g:Nat}{s o:CS}{e:Exit}{f:Int->PV}{rem:Int->Bool}{cur:Option Int}{L:List Int}(q:Qo s)(v:Nat.blt k 1000000=true)(r:s.ob.get k=some ⟨g,.mq (.it f rem cur)⟩){l:List Int}
  (h:Agk c s d d2 k g f rem l=.code e o):Qo o:=by
 unfold Agk at h;split at h
 ·simp only[Ans.code.injEq]at h;obtain⟨-,rfl⟩:=h;exact q
 ·rename_i n;simp only[Ans.code.injEq]at h;obtain⟨-,rfl⟩:=h;intro j L A;show ObOK L ((s.ob.put TD k _).get j);have i:=q j L A;rw[AxC v]
  cases e:Nat.beq j k with
  |false=>exact i
  |true=>
   have:=A3 e;subst this;rw[r]at i;intro m b;simp only[Bf]at b;split at b
   ·simp at b
   ·exact i m b
 ·simp at h
theorem ApU{c nt t d d2:Nat}{s j:CS}{e:Exit}(h:ApC c nt s (t,d,d2)=.code e j):(Nat.blt d nt&&Nat.blt d2 nt&&Nat.blt d 1000000&&Nat.blt d2 1000000)=true /\
  ∃k g f rem cur L,s.st.slots t=.ref k g 0/\s.ob.get k=some ⟨g,.mq (.it f rem cur)⟩/\s.ml.get k=some L/\Nat.blt k 1000000=true/\Agk c s d d2 k g f rem ((Akz L).filter rem)=.code e j:=by
 unfold ApC at h
 cases l:(Nat.blt d nt&&Nat.blt d2 nt&&Nat.blt d 1000000&&Nat.blt d2 1000000)with
 |false=>simp[l]at h
 |true=>
 simp only[l,cond_true]at h;refine⟨rfl,?_⟩;split at h
 ·rename_i k g i;unfold doNext1 at h;split at h
  ·rename_i m f rem cur L n o
   cases b:(Nat.beq m g&&Nat.blt k 1000000)with
   |false=>simp[b]at h
   |true=>
    simp only[b,cond_true]at h;simp only[A6]at b;have:=A3 b.1;subst this;exact⟨k,m,f,rem,cur,L,i,n,o,b.2,h⟩
  ·simp at h
 ·simp at h
theorem region_ml{self:Todo->Ans}{c nt id:Nat}{ops:List Oper}{draw:Bool}{s i:CS}{e:Exit}(h:Ahc T H self c nt id ops draw s=.code e i)(l:Qo s):Qo i:=by
 unfold Ahc at h;split at h
 ·rename_i q v;obtain⟨t,d,d2⟩:=q
  cases draw with
  |true=>simp at h
  |false=>
   simp only[cond_false]at h;obtain⟨_,k,g,f,rem,cur,L,_,n,_,o,r⟩:=ApU h;exact next_ml (L:=L) l o n r
 ·unfold fin2 at h;split at h
  case h_2=>simp at h
  rename_i b A m
  cases j:(!draw||ApO ops b)with
  |false=>simp[j]at h
  |true=>
  simp only[j,cond_true,Ans.code.injEq]at h;obtain⟨-,rfl⟩:=h;exact Avc _ _ _ _ _ _ m (doFrzR_ml l)
theorem AwO{c nt id:Nat}{ops:Array Oper}{s C:CS}{e:Exit}{t d d2:Nat}(G:Ajy ops.toList=some (t,d,d2))(h:ApC c nt s (t,d,d2)=.code e C)(B:Qo s){cx:Cx P}(q:cx.nt=nt):
  DWP P cx (.region id ops false) s.st (endsQ e C):=by
 obtain⟨E,k,g,f,rem,cur,L,J,D,N,I,i⟩:=ApU h;simp only[A6]at E;obtain⟨⟨⟨b1,O⟩,F⟩,M⟩:=E
 have K:∀n,rem n=true->n∈(Akz L).filter rem:=by
  intro n l;have:=B k L N;rw[D]at this;exact C1.2 ⟨Asg L n (this n l),l⟩
 have o:∀(v:Bool) (ob:Tr Obj),(CS.mk ((s.sl.put TD d none).put TD d2 (some (pB v))) ob s.ml).st=⟨Cg (Cg s.st.slots d .any) d2 (pB v),ob.get⟩:=by
  intro v ob;unfold CS.st;congr 1;funext j;rw[AxC M,AxC F];simp only[Cg]
  cases Nat.beq j d2 with
  |true=>rfl
  |false=>cases Nat.beq j d<;>rfl
 refine DWP.next (by rw[q];exact A8 b1) (by rw[q];exact A8 O) G J D (fun n l=>?_) (fun l=>?_)
 ·have b:=K n l;unfold Agk at i;split at i
  ·rename_i A;rw[A]at b;simp at b
  ·rename_i m A;rw[A]at b;simp only[E7]at b;subst b;simp only[Ans.code.injEq]at i;obtain⟨rfl,rfl⟩:=i;refine⟨rfl,?_⟩;rw[o];congr 1;funext j;rw[AxC I];rfl
  ·simp at i
 ·have r:(Akz L).filter rem=[]:=by
   rw[List.filter_eq_nil_iff];intro n _;simp[l n]
  rw[r]at i;simp only[Agk,Ans.code.injEq]at i;obtain⟨rfl,rfl⟩:=i;refine⟨rfl,?_⟩;rw[o];rfl
theorem AuE(C:Hx P T)(L:P.follows .mixedOrders=true)(G:Aem P H.nat){self:Todo->Ans}(K:FnsOK P self){c nt id:Nat}{ops:Array Oper}{draw:Bool}{s v:CS}{e:Exit}(h:Ahc T H self c nt id ops.toList draw s=.code e v)
  (n:Qo s) {cx:Cx P} (g:cx.nt=nt):DWP P cx (.region id ops draw) s.st (endsQ e v):=by
 unfold Ahc at h;split at h
 ·rename_i q I;obtain⟨t,d,d2⟩:=q
  cases draw with
  |true=>simp at h
  |false=>exact AwO I (by simpa using h) n g
 generalize m:AmP H c id s=J at h
 have b:∀{U:Bs} {a:Act} {w:World},Rel cx U s.st a w->Rel cx U J.st a w:=by
  intro U a w i;rw[<-m];unfold AmP;split
  ·exact Apg _ _ (AiF _) i
  ·exact i
 unfold fin2 at h;split at h
 case h_2=>simp at h
 rename_i k B F
 cases j:(!draw||ApO ops.toList k)with
 |false=>simp[j]at h
 |true=>
 simp only[j,cond_true,Ans.code.injEq]at h;obtain⟨rfl,rfl⟩:=h;obtain⟨r,xs,obl,D,A,E⟩:=Aox G K _ _ _ _ _ _ F;simp only[M1,J5]at D;subst D;intro U a w i;have f:∀U a w,Rel cx U B.st a w->∃o l,endsQ .normal B .normal l/\Rel cx o l a w:=fun U a w i=>⟨U,_,⟨rfl,rfl⟩,i⟩
 cases draw with
 |false=>exact AoI C A E g (b i) f
 |true=>
  simp only[B4,E8,ApO,A6]at j;exact Aoy C L A E j.1 j.2 g (b i) f
theorem run_ml(P:Program)(T:Ty)(H:Abn):∀(n:Nat) (c nt:Nat) (m:Code) (s:CS) (e:Exit) (k:CS),Ld P T H n (.code c nt m s)=.code e k->Qo s->Qo k
 |0,_,_,_,_,_,_,h,_=>by simp[Ld]at h
 |n+1,c,nt,m,s,e,k,h,hs=>by
  have i:=run_ml P T H n;change Il T H (Ld P T H n) c nt m s=.code e k at h
  cases m with
  |seq x y=>
   simp only[Il]at h;generalize j:Ld P T H n (.code c nt x s)=f at h
   cases f with
   |err l=>simp[Alh]at h
   |fn r o q=>simp[Alh]at h
   |code e1 A=>
    have g:=i _ _ _ _ _ _ j hs
    cases e1 with
    |normal=>exact i _ _ _ _ _ _ h g
    |_=>
     simp only[Alh,Ans.code.injEq]at h;obtain⟨-,rfl⟩:=h
     exact g
  |cond q x y=>
   simp only[Il]at h;generalize (bif Au q then Akn (ev s.st q)else none)=ob at h
   cases ob with
   |none=>simp[ApB]at h
   |some b=>exact i _ _ _ _ _ _ h hs
  |block id x=>
   simp only[Il]at h;generalize j:Ld P T H n (.code c nt x s)=f at h
   cases f with
   |err l=>simp[Ze]at h
   |fn r o q=>simp[Ze]at h
   |code e1 A=>
    have g:=i _ _ _ _ _ _ j hs
    cases e1 with
    |exit v=>
     simp only[Ze]at h
     cases B:Nat.beq v id<;>simp only[B,cond_true,cond_false,Ans.code.injEq]at h<;>(obtain⟨-,rfl⟩:=h;exact g)
    |_=>
     simp only[Ze,Ans.code.injEq]at h;obtain⟨-,rfl⟩:=h
     exact g
  |loop x=>
   simp only[Il]at h;generalize j:Ld P T H n (.code c nt x s)=f at h
   cases f with
   |err l=>simp[Ahk]at h
   |fn r o q=>simp[Ahk]at h
   |code e1 A=>
    have g:=i _ _ _ _ _ _ j hs
    cases e1 with
    |normal=>exact i _ _ _ _ _ _ h g
    |_=>
     simp only[Ahk,Ans.code.injEq]at h;obtain⟨-,rfl⟩:=h
     exact g
  |region id ops draw=>exact region_ml (by simpa only[Il]using h) hs
  |skip=>simp only[Il,Ans.code.injEq]at h;obtain⟨-,rfl⟩:=h;exact hs
  |ret=>simp only[Il,Ans.code.injEq]at h;obtain⟨-,rfl⟩:=h;exact hs
  |exit id=>simp only[Il,Ans.code.injEq]at h;obtain⟨-,rfl⟩:=h;exact hs
  |_=>simp[Il]at h
structure Snd(P:Program)(T:Ty)(H:Abn)(n:Nat):Prop where
 code:∀c nt cd s e s',Ld P T H n (.code c nt cd s)=.code e s'->Qo s->∀cx:Cx P,cx.nt=nt->DWP P cx cd s.st (endsQ e s')
 fn:FnsOK P (Ld P T H n)
theorem run_sound(hT:Hx P T)(hm:P.follows .mixedOrders=true)(hX:Aem P H.nat)(hK:Ajs P H.known)(hW:AqA P H.weak)(hN:∀(f:Nat) (fn:Func),P.funcs[f]?=some fn->fn.name ≠ "runtime.NumGoroutine"):∀n,Snd P T H n:=by
 intro n
 induction n using Nat.strongRecOn with
 |_ n ih=>
 cases n with
 |zero=>exact⟨fun c nt cd s e s' h=>by simp[Ld]at h,fun f Q args g res o n h=>by simp[Ld]at h⟩
 |succ n=>
 have A:=ih n (by omega);refine⟨?_,?_⟩
 ·intro c nt cd s e s' h B cx v;have h0:=h;change Il T H (Ld P T H n) c nt cd s=.code e s' at h
  cases cd with
  |skip=>
   simp only[Il,Ans.code.injEq]at h;obtain⟨rfl,rfl⟩:=h
   exact DWP.skip ⟨rfl,rfl⟩
  |ret=>
   simp only[Il,Ans.code.injEq]at h;obtain⟨rfl,rfl⟩:=h
   exact DWP.ret ⟨rfl,rfl⟩
  |exit id=>
   simp only[Il,Ans.code.injEq]at h;obtain⟨rfl,rfl⟩:=h
   exact DWP.exit ⟨rfl,rfl⟩
  |seq x y=>
   simp only[Il]at h;generalize K:Ld P T H n (.code c nt x s)=C at h
   cases C with
   |err l=>simp[Alh]at h
   |fn r o q=>simp[Alh]at h
   |code e1 R=>
    have i1:=A.code _ _ _ _ _ _ K B cx v;have J:=run_ml P T H n _ _ _ _ _ _ K B;refine DWP.seq (i1.mono ?_);rintro W O ⟨rfl,rfl⟩
    cases W with
    |normal=>exact A.code _ _ _ _ _ _ h J cx v
    |_=>
     simp only[Alh,Ans.code.injEq]at h;obtain⟨rfl,rfl⟩:=h
     exact⟨rfl,rfl⟩
  |cond q x y=>
   simp only[Il]at h
   cases hk:Au q with
   |false=>simp[hk,ApB]at h
   |true=>
   simp only[hk,cond_true]at h;generalize D:Akn (ev s.st q)=ob at h
   cases ob with
   |none=>simp[ApB]at h
   |some b=>
    have hev:ev s.st q=.p (.v (.bool b)):=by
     unfold Akn at D;split at D
     ·rename_i b' he;simp only[A1]at D;rw[he,D]
     ·simp at D
    refine DWP.cond hk hev (fun e1=>?_) (fun e1=>?_)
    ·subst e1;exact A.code _ _ _ _ _ _ h B cx v
    ·subst e1;exact A.code _ _ _ _ _ _ h B cx v
  |block id x=>
   simp only[Il]at h;generalize K:Ld P T H n (.code c nt x s)=C at h
   cases C with
   |err l=>simp[Ze]at h
   |fn r o q=>simp[Ze]at h
   |code e1 R=>
    have i1:=A.code _ _ _ _ _ _ K B cx v;refine DWP.block (i1.mono ?_);rintro W O ⟨rfl,rfl⟩
    cases W with
    |exit id'=>
     simp only[Ze]at h;simp only[Rk]
     by_cases hid:id'=id
     ·subst hid;simp only[D4,cond_true,Ans.code.injEq]at h;obtain⟨rfl,rfl⟩:=h;rw[if_pos rfl];exact⟨rfl,rfl⟩
     ·rw[Dt hid]at h;simp only[cond_false,Ans.code.injEq]at h;obtain⟨rfl,rfl⟩:=h;rw[if_neg hid]
      exact⟨rfl,rfl⟩
    |_=>
     simp only[Ze,Ans.code.injEq]at h;obtain⟨rfl,rfl⟩:=h
     exact⟨rfl,rfl⟩
  |loop x=>
   refine DWP.loop (ι:=Nat×CS) (fun i=>i.2.st) (fun i=>i.1<=n+1/\Qo i.2/\Ld P T H i.1 (.code c nt (.loop x) i.2)=.code e s') (fun i=>i.1) (n+1,s) ⟨B2 _,B,h0⟩ rfl ?_;rintro⟨m,s0⟩ ⟨E,G,j⟩;simp only at E G j ⊢
   cases m with
   |zero=>simp[Ld]at j
   |succ m=>
   have ihm:=ih m (by omega);change Il T H (Ld P T H m) c nt (.loop x) s0=.code e s' at j;simp only[Il]at j;generalize K:Ld P T H m (.code c nt x s0)=C at j
   cases C with
   |err l=>simp[Ahk]at j
   |fn r o q=>simp[Ahk]at j
   |code e1 R=>
    have J:=run_ml P T H m _ _ _ _ _ _ K G;refine(ihm.code _ _ _ _ _ _ K G cx v).mono ?_;rintro W O ⟨rfl,rfl⟩
    cases W with
    |normal=>exact⟨(m,R),⟨by simp only;omega,J,j⟩,rfl,by simp only;omega⟩
    |_=>
     simp only[Ahk,Ans.code.injEq]at j;obtain⟨rfl,rfl⟩:=j
     exact⟨rfl,rfl⟩
  |region id ops draw=>exact AuE hT hm hX A.fn (by simpa only[Il]using h) B v
  |_=>simp[Il]at h
 ·intro f Q args g res o q h;change doWk (elem f H.weak&&Anm (args.map (nnM 3)) g) (doKn (bif g.isEmpty then kn H.known f (args.map (nnM 3))else none) (doFn T (Ld P T H n) f Q (args.map (nnM 3)) g P.funcs[f]?))=.fn res o q at h;refine Axz (d:=3) ?_;generalize args.map (nnM 3)=args at h ⊢
  cases I:(elem f H.weak&&Anm args g)with
  |true=>
   rw[I]at h;simp only[doWk,Ans.fn.injEq]at h;obtain⟨rfl,rfl,rfl⟩:=h;rw[A6]at I;obtain⟨g1,g2,rfl,rfl⟩:=wkArgs_of I.2
   exact hW f I.1 g1 g2
  |false=>
  rw[I]at h;change doKn (bif g.isEmpty then kn H.known f args else none) (doFn T (Ld P T H n) f Q args g P.funcs[f]?)=.fn res o q at h;generalize X:(bif g.isEmpty then kn H.known f args else none)=kr at h
  cases kr with
  |some r=>
   simp only[doKn,Ans.fn.injEq]at h;obtain⟨rfl,rfl,rfl⟩:=h
   cases g with
   |nil=>exact kn_ok hK X
   |cons=>simp at X
  |none=>
  change doFn T (Ld P T H n) f Q args g P.funcs[f]?=.fn res o q at h;unfold doFn at h;split at h
  case h_2=>simp at h
  rename_i fn hf;unfold doFn2 at h;split at h
  case h_2=>simp at h
  rename_i cd hcd;unfold doFn3 at h;generalize hsl:Kp (upN args.length 0) (upN g.length 0) ⟨fun t=>(args[t]?).getD .any,Bu g⟩=sl at h;generalize hob:He (upN g.length 0) ⟨fun t=>(args[t]?).getD .any,Bu g⟩=ob at h
  cases D:(Nat.ble args.length fn.ntmps&&Nat.ble g.length 1000&&Fu sl&&Fu ob)with
  |false=>simp[D]at h
  |true=>
  simp only[D,cond_true]at h;simp only[A6]at D
  have hst:Ac sl ob=(Amo sl ob).st:=by
   unfold Ac CS.st Amo;congr 1
   ·funext t;rw[AoO _ D.1.2]
   ·funext t;rw[AoO _ D.2]
  generalize K:Ld P T H n (.code f fn.ntmps cd (Amo sl ob))=C at h
  cases C with
  |err l=>simp[doEnd]at h
  |fn r o q=>simp[doEnd]at h
  |code e1 R=>
   have main:(e1=.ret\/e1=.normal)->Aqw T f fn g.length (Ama T fn Q g.length R)=.fn res o q->Spec P f args g res o q:=by
    intro he F;generalize hs2:Ama T fn Q g.length R=s2 at F;unfold Aqw doEnd2 at F;split at F
    case h_2=>simp at F
    simp only at F;generalize (reach (Abi g.length s2.ob.get) 200 [] _).filter _=ex at F;unfold doEnd3 at F;split at F
    case h_2=>simp at F
    rename_i res' bs M
    cases E:Nat.ble g.length bs.length with
    |false=>simp[E]at F
    |true=>
    simp only[E,cond_true,Ans.fn.injEq]at F;obtain⟨rfl,rfl,rfl⟩:=F;have E:=A8 E;refine AxI (spec_of hT hf (hN f fn hf) hcd (by simp;omega) (A8 D.1.1.1) (A8 D.1.1.2) hsl hob fun cx v=>?_);rw[hst];intro U a w hr;refine wpIn_mono (A.code _ _ _ _ _ _ K (fun k L hk=>by simp[Amo,AxT]at hk) cx v U a w hr) ?_;rintro W a' w' ⟨Y,σ',⟨rfl,rfl⟩,N⟩
    have hr2:Rel cx Y s2.st a' w':=by
     rw[<-hs2];unfold Ama
     cases Q with
     |false=>exact N
     |true=>
      simp only[cond_true];split
      ·exact Apg _ _ (AiF _) N
      ·exact N
    refine⟨Y,_,?_,Asi _ _ (AiF (upN g.length 0++ex)) hr2⟩;rcases he with rfl|rfl
    ·exact⟨ex,by rw[M7];exact M⟩
    ·exact⟨ex,by rw[M7];exact M⟩
   cases e1 with
   |ret=>exact main (.inl rfl) h
   |normal=>exact main (.inr rfl) h
   |_=>simp[doEnd]at h
theorem Aum(k:Hx P T)(i:P.follows .mixedOrders=true)(r:∀(f:Nat) (fn:Func),P.funcs[f]?=some fn->fn.name ≠ "runtime.NumGoroutine")(H:Abn)(m:Aem P H.nat)(l:Ajs P H.known)(j:AqA P H.weak)(n:Nat){f:Nat}{g:Bool}{args:List MV}{b:List Body}{res:MV}{o q:List Body}
  (h:Ld P T H n (.fn f g args b)=.fn res o q):Spec P f args b res o q:=(run_sound k i m l j r n).fn _ _ _ _ _ _ _ h
theorem Ajn(j:Hx P T)(g:P.follows .mixedOrders=true)(o:∀(f:Nat) (fn:Func),P.funcs[f]?=some fn->fn.name ≠ "runtime.NumGoroutine")(H:Abn)(m:Aem P H.nat)(l:Ajs P H.known)(i:AqA P H.weak)(n:Nat){f:Nat}{b:Bool}{args:List MV}{R:MV}
  (h:Aki R (Ld P T H n (.fn f b args []))=true):Spec P f args [] R [] []:=by
 unfold Aki at h;split at h
 ·rename_i r k;exact AxG h (Aum j g o H m l i n k)
 ·simp at h
end
end Go.Dm
