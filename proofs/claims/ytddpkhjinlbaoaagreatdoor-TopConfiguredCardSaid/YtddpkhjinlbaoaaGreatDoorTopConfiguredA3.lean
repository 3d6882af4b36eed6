/- Texts of the proof of TopConfigured: the data machine, the models of the Go functions, their contracts. -/
import Derived.Test.YtddpkhjinlbaoaaGreatDoorTopConfiguredA2
set_option linter.unusedVariables false
set_option linter.unusedSimpArgs false
namespace Go.Dm
theorem AiK (bs:ByteArray) (i:Nat) (r:List UInt8):ByteArray.toList.loop bs i r=r.reverse++bs.data.toList.drop i:=by
 by_cases h:i<bs.size
 ·rw [ByteArray.toList.loop,if_pos h,AiK bs (i+1)]
  have hd:bs.data.toList.drop i=bs.get! i::bs.data.toList.drop (i+1):=by
   rw [List.drop_eq_getElem_cons (show i<bs.data.toList.length from h)]
   congr 1
   have:bs.get! i=bs.data[i]! := rfl
   rw [this,getElem!_pos bs.data i h]
   simp
  rw [hd]
  simp
 ·rw [ByteArray.toList.loop,if_neg h,List.drop_of_length_le (by simpa using h)]
  simp
termination_by bs.size - i
theorem Aog (bs:ByteArray):bs.toList=bs.data.toList:=by
 unfold ByteArray.toList
 rw [AiK]
 simp
theorem beqS_eq {a b:ByteArray} (h:Cp a b=true):a=b:=by
 simp only [Cp,beq_iff_eq,Aog] at h
 exact ByteArray.ext (Array.toList_inj.mp h)
theorem AnK {c:Int} (h0:0≤c) (h:c≤31):He .i64 c 31=0:=by
 have:∀ n:Fin 32,He .i64 ((n.val:Nat):Int) 31=0:=by decide
 have:=this ⟨c.toNat,by omega⟩
 simpa [Int.toNat_of_nonneg h0] using this
theorem Anr {c:Int} (h:31<c) (hc:c<9223372036854775808):He .i64 c 31≠0:=by
 obtain ⟨n,rfl⟩:∃ n:Nat,c=(n:Int):=⟨c.toNat,by omega⟩
 intro e
 unfold He at e
 have hb:IntKind.i64.bits=64:=rfl
 rw [hb] at e
 generalize hx:(BitVec.ofInt 64 (n:Int) &&& ~~~(BitVec.ofInt 64 31))=x at e
 have hn:∀ i,5≤i→n.testBit i=false:=by
  intro i hi
  by_cases h63:i<63
  ·have h0:x.toNat<2 ^ 64:=x.isLt
   have hle:x.toNat≤n:=by
    rw [← hx,BitVec.toNat_and]
    refine Nat.le_trans Nat.and_le_left ?_
    rw [BitVec.ofInt_natCast,BitVec.toNat_ofNat]
    exact Nat.mod_le _ _
   have hw:IntKind.i64.wrap ((x.toNat:Nat):Int)=((x.toNat:Nat):Int):=Adl (by omega) (by omega)
   rw [hw] at e
   have hx0:x=0#64:=by
    apply BitVec.eq_of_toNat_eq
    simp
    omega
   have:x.getLsbD i=false:=by rw [hx0]; simp
   rw [← hx,BitVec.getLsbD_and,BitVec.getLsbD_not] at this
   have h31:(BitVec.ofInt 64 31).getLsbD i=false:=by
    have:(BitVec.ofInt 64 31)=BitVec.ofNat 64 31:=rfl
    rw [this,BitVec.getLsbD_ofNat]
    have:Nat.testBit 31 i=false:=Nat.testBit_lt_two_pow (Nat.lt_of_lt_of_le (by decide:31<2 ^ 5) (Nat.pow_le_pow_right (by decide) hi))
    simp [this]
   rw [h31] at this
   have e2:(BitVec.ofInt 64 (n:Int)).getLsbD i=n.testBit i:=by
    rw [BitVec.ofInt_natCast,BitVec.getLsbD_ofNat]
    simp
    omega
   rw [e2] at this
   have h64:i<64:=by omega
   simpa [h64] using this
  ·exact Nat.testBit_lt_two_pow (Nat.lt_of_lt_of_le (show n<2 ^ 63 by omega) (Nat.pow_le_pow_right (by decide) (by omega)))
 have:n<2 ^ 5:=Nat.lt_pow_two_of_testBit n hn
 omega
theorem AmC (s:ByteArray) (h:s.size≤9223372036854775807):AbF s=some (Eh s):=by
 apply Ok.eq
 unfold AbF
 refine Ok.guard (by rw [Kc]; exact h) ?_
 refine Ok.range (fun pre _=>pre.all Ny=true) rfl ?_ ?_
 ·intro pre x post _ n e hI hn
  unfold Ahz AeJ
  refine Ok.step rfl ?_
  refine Aqy (fun c => ?_) fun c => ?_
  ·refine Ok.ret ?_
   have:(Dt s).all Ny=false:=by
    rw [e,List.all_append,List.all_cons]
    have:Ny x=false:=by simpa only [Ny,Bool.not_eq_true'] using c
    simp [this]
   simp [Eh,this]
  ·refine hn () ?_
   have:Ny x=true:=by simpa only [Ny,Bool.not_eq_false'] using c
   rw [List.all_append,hI]
   simp [this]
 ·intro _ hI
  unfold Ahx Si
  refine Aqy (fun c => ?_) fun c => ?_
  ·have hs:0<s.size:=by
    rcases Nat.eq_zero_or_pos s.size with h0|h0
    ·exfalso
     have:s=ByteArray.empty:=by
      apply ByteArray.ext
      apply Array.ext
      ·exact h0
      ·intro i h1 h2
       simp at h2
     rw [this] at c
     simp [AlL] at c
    ·exact h0
   refine Aqy (fun c2 => ?_) fun c2 => ?_
   ·have:=of_decide_eq_true c2
    refine Ok.guard hs (Ok.ret ?_)
    have h32:s.size≤32:=by omega
    simp [Eh,hs,h32,hI]
   ·have:=of_decide_eq_false c2
    refine Ok.ret ?_
    have h32:¬ s.size≤32:=by omega
    simp [Eh,h32]
  ·refine Ok.ret ?_
   have:s.size=0:=by
    rw [beqS_eq (a:=s) (b:=ByteArray.empty) (by simpa using c)]
    rfl
   simp [Eh,this]
end Go.Dm

namespace Go.Dm
def AhO (x:Ak):Prop:=x.name.size≤9223372036854775807∧x.control<9223372036854775808
theorem Anw {pre:List Ak} {y x:Ak} (hl:pre.length≤1000000) (hx:AhO x) :
  AcZ (pre ++ [y]) x=some (decide (y.id<x.id)&&Eh x.name&&(x.kind==0||x.kind==1)&&(pre ++ [y]).any (fun k=>k.id==x.parent)&&(pre ++ [y]).all (fun k => !(k.parent==x.parent&&Cp k.name x.name))):=by
 apply Ok.eq
 unfold AcZ
 have hw:w64 (((pre ++ [y]).length:Int)-1)=(pre.length:Int):=by
  rw [Bz (by simp) (by simp; omega)]
  simp
 have ey:(pre ++ [y]).getD (Int.toNat (pre.length:Int)) default=y:=by
  rw [show Int.toNat (pre.length:Int)=pre.length by omega]
  exact Wn (post := [])
 rw [hw,ey]
 refine Ok.guard (by simp; omega) ?_
 refine Aqy (fun c => ?_) fun c => ?_
 ·have:=of_decide_eq_true c
  have:¬ y.id<x.id:=by omega
  refine Ok.ret ?_
  simp [this]
 have hlt:y.id<x.id:=by
  have:=of_decide_eq_false c
  omega
 refine Ok.step (AmC _ hx.1) ?_
 refine Aqy (fun c => ?_) fun c => ?_
 ·refine Ok.ret ?_
  have:Eh x.name=false:=by simpa using c
  simp [this]
 have hv:Eh x.name=true:=by simpa using c
 have hloop:(x.kind==0||x.kind==1)=true→Ok (Kx (pre ++ [y]) x false) (· = (decide (y.id<x.id)&&Eh x.name&&(x.kind==0||x.kind==1)&&(pre ++ [y]).any (fun k=>k.id==x.parent)&&(pre ++ [y]).all (fun k => !(k.parent==x.parent&&Cp k.name x.name)))):=by
  intro hk
  rw [hk,hv]
  simp only [hlt,decide_true,Bool.and_self,Bool.true_and]
  have hlp:(pre ++ [y]).length≤9223372036854775807:=by simp; omega
  generalize pre ++ [y]=P at *
  unfold Kx
  refine Ok.guard hlp ?_
  refine Ok.range (fun pre s=>s=pre.any (fun k=>k.id==x.parent)∧pre.all (fun k => !(k.parent==x.parent&&Cp k.name x.name))=true) ⟨rfl,rfl⟩ ?_ ?_
  ·intro q z post s n e hI hn
   unfold AiF
   refine Aqy (fun c => ?_) fun c => ?_
   ·refine Ok.ret ?_
    have:P.all (fun k => !(k.parent==x.parent&&Cp k.name x.name))=false:=by
     rw [e,List.all_append,List.all_cons,c]
     simp
    rw [this,Bool.and_false]
   ·refine hn _ ⟨?_,?_⟩
    ·rw [List.any_append,← hI.1]
     simp
    ·rw [List.all_append,hI.2,List.all_cons,c]
     rfl
  ·intro s hI
   refine Ok.ret ?_
   rw [hI.2,Bool.and_true]
   exact hI.1
 have hbad:(x.kind==0||x.kind==1)=false→Ok (Kx (pre ++ [y]) x true) (· = (decide (y.id<x.id)&&Eh x.name&&(x.kind==0||x.kind==1)&&(pre ++ [y]).any (fun k=>k.id==x.parent)&&(pre ++ [y]).all (fun k => !(k.parent==x.parent&&Cp k.name x.name)))):=by
  intro hk
  refine Ok.ret ?_
  rw [hk]
  simp
 refine Aqy (fun c => ?_) fun c => ?_
 ·have h0:¬ x.kind=0:=by simpa using c
  by_cases h1:x.kind=1
  ·have:(x.kind != 1)=false:=by simp [h1]
   rw [this]
   exact hloop (by simp [h1])
  ·have:(x.kind != 1)=true:=by simpa using h1
   rw [this]
   exact hbad (by simp [h0,h1])
 ·exact hloop (by
   have:x.kind=0:=by simpa using c
   simp [this])
theorem nodes_pre {L pre post:List Ak} {x:Ak} (h:WfP L) (e:L=pre++x::post) (hp:pre ≠ []):WfP pre∧Ti x∧NodeS pre x:=by
 induction h generalizing post with
 | root z v r =>
  exfalso
  have:(pre++x::post).length=1:=by rw [← e]; rfl
  simp at this
  have:=List.length_pos_iff.mpr hp
  omega
 | snoc L z w v s ih =>
  rcases Mt post with rfl|⟨p',u,rfl⟩
  ·have:=List.append_inj' (s₁ := L) (t₁ := [z]) (s₂ := pre) (t₂ := [x]) (by simpa using e) rfl
   obtain ⟨rfl,e2⟩:=this
   obtain rfl:z=x:=by simpa using e2
   exact ⟨w,v,s⟩
  ·have e2:L ++ [z]=(pre++x::p') ++ [u]:=by simpa using e
   have:=List.append_inj' e2 rfl
   exact ih this.1
theorem up_pre {L pre post:List Ak} (h:WfP L) (e:L=pre++post) (hp:WfP pre) {x:Ak} (hx:x∈pre):upR L.reverse x.id=upR pre.reverse x.id:=by
 rw [e,List.reverse_append]
 refine Abc fun y hy => ?_
 have hs:=h.sorted
 rw [e,List.pairwise_append] at hs
 have:=hs.2.2 x hx y (by simpa using hy)
 omega
theorem AfE (t:Af) (hm:∀ x∈t.nodes,AhO x):Ok (Mz t) (fun b=>b=true↔WfT t):=by
 have bad:¬ WfT t→Ok (some false) (fun b=>b=true↔WfT t):=fun hn=>Ok.ret ⟨fun e=>by simp at e,fun w=>absurd w hn⟩
 unfold Mz
 refine Aqy (fun c => ?_) fun c => ?_
 ·have:=of_decide_eq_true c
  exact bad fun w=>by have:=w.len1; omega
 have l1:=of_decide_eq_false c
 refine Aqy (fun c => ?_) fun c => ?_
 ·have:=of_decide_eq_true c
  exact bad fun w=>by have:=w.len2; omega
 have l2:=of_decide_eq_false c
 refine Ok.guard (by omega) ?_
 unfold AgK
 refine Ok.step rfl ?_
 unfold Su
 have hroot0:WfT t→((((t.nodes.getD 0 default).id==1&&(t.nodes.getD 0 default).parent==0)&&Cp (t.nodes.getD 0 default).name ByteArray.empty)&&(t.nodes.getD 0 default).kind==0)=true:=by
  intro w
  obtain ⟨x,r,e,hr⟩:=w.root
  rw [e]
  simp [hr.id,hr.parent,hr.name,hr.kind]
 refine Aqy (fun c => ?_) fun c => ?_
 ·exact bad fun w=>by rw [hroot0 w] at c; simp at c
 have hR:Adw (t.nodes.getD 0 default):=by
  simp only [Bool.not_eq_false',Bool.and_eq_true,beq_iff_eq] at c
  exact ⟨c.1.1.1,c.1.1.2,c.1.2,c.2⟩
 refine Ok.guard (by omega) ?_
 refine Ok.range (fun pre s=>(pre = []∧∀ i,s.get i=0)∨(WfP pre∧(∀ y∈pre,s.get y.id=((upR pre.reverse y.id).length:Int)-1∧(upR pre.reverse y.id).length≤9)∧∀ i,(∀ y∈pre,y.id≠i)→s.get i=0)) (.inl ⟨rfl,fun i=>rfl⟩) ?_ ?_
 ·intro pre x post s n he hI hn
  have hxm:x∈t.nodes:=by rw [he]; simp
  have hJ:∀ b,(b=true→¬ WfT t)→(b=false→Ti x∧(pre ≠ []→NodeS pre x))→(Ti x→pre = []→Adw x)→Ok (Gx pre.length x s n b) (fun b=>b=true↔WfT t):=by
   intro b hbt hbf hroot
   unfold Gx
   refine Aqy (fun c=>bad (hbt c)) fun c => ?_
   obtain ⟨hv,hs⟩:=hbf c
   unfold Yr
   rcases hI with ⟨rfl,hz⟩|⟨hw,hd,hz⟩
   ·simp only [List.length_nil,Int.ofNat_eq_natCast,Int.cast_ofNat_Int,gt_iff_lt,Int.lt_irrefl,decide_false,Bool.false_eq_true,if_false]
    rw [hz]
    simp only [Int.reduceLT,decide_false,Bool.false_eq_true,if_false]
    have hr:=hroot hv rfl
    refine hn _ (.inr ⟨.root x hv hr,?_,fun i _=>hz i⟩)
    intro y hy
    obtain rfl:y=x:=by simpa using hy
    rw [hz]
    simp [upR,hr.parent]
   ·have hne:pre ≠ []:=by
     intro e
     have:=hw.pos
     simp [e] at this
    have hs:=hs hne
    have hpos:=hw.pos
    have hgt:decide (((pre.length:Nat):Int)>0)=true:=by simp; omega
    rw [hgt]
    simp only [if_true]
    obtain ⟨p,hp,hpp⟩:=hs.parent
    have hdp:=hd p hp
    rw [hpp] at hdp
    have hup:upR (pre ++ [x]).reverse x.id=x.id::upR pre.reverse x.parent:=by
     rw [List.reverse_append,List.reverse_cons,List.reverse_nil,List.nil_append,List.singleton_append,upR,if_pos (by simp)]
    have hgx:(s.set x.id (w64 (s.get x.parent+1))).get x.id=((upR pre.reverse x.parent).length:Int):=by
     rw [AdQ,if_pos rfl,hdp.1,Bz (by omega) (by omega)]
     omega
    have hwx:WfP (pre ++ [x]) := .snoc pre x hw hv hs
    refine Aqy (fun c => ?_) fun c => ?_
    ·refine bad fun w => ?_
     have:=of_decide_eq_true c
     rw [hgx] at this
     have hdx:=w.depth x hxm
     unfold upT at hdx
     rw [up_pre w.p (show t.nodes=(pre ++ [x])++post by rw [he]; simp) hwx (by simp),hup] at hdx
     simp at hdx
     omega
    ·have hle:=of_decide_eq_false c
     rw [hgx] at hle
     refine hn _ (.inr ⟨hwx,?_,?_⟩)
     ·intro y hy
      rcases List.mem_append.mp hy with hy|hy
      ·have hlt:=hs.lt y hy
       rw [AdQ,if_neg (by omega),Agj (by omega)]
       exact hd y hy
      ·obtain rfl:y=x:=by simpa using hy
       rw [hgx,hup]
       simp
       omega
     ·intro i hi
      have:=hi x (by simp)
      rw [AdQ,if_neg (by omega)]
      exact hz i fun y hy=>hi y (by simp [hy])
  have hroot:Ti x→pre = []→Adw x:=by
   intro _ e
   subst e
   rw [he] at hR
   exact hR
  unfold Ahl
  have hbad:∀ P:Prop,(WfT t→P)→¬ P→Ok (Gx pre.length x s n true) (fun b=>b=true↔WfT t):=fun P h1 h2=>hJ true (fun _ w=>h2 (h1 w)) (by simp) hroot
  refine Aqy (fun c => ?_) fun c => ?_
  ·have:=of_decide_eq_true c
   exact hbad (0≤x.control) (fun w=>(w.p.val x hxm).c1) (by omega)
  have c1:=of_decide_eq_false c
  refine Aqy (fun c => ?_) fun c => ?_
  ·refine hbad (x.control≤31) (fun w=>(w.p.val x hxm).c2) fun h => ?_
   rw [AnK (by omega) h] at c
   simp at c
  have c2:x.control≤31:=by
   by_cases h:x.control≤31
   ·exact h
   ·have:=Anr (c:=x.control) (by omega) (hm x hxm).2
    have c':He .i64 x.control 31=0:=by simpa using c
    exact absurd c' this
  refine Aqy (fun c => ?_) fun c => ?_
  ·have:=of_decide_eq_true c
   exact hbad (0≤x.owner) (fun w=>(w.p.val x hxm).o1) (by omega)
  have o1:=of_decide_eq_false c
  refine Aqy (fun c => ?_) fun c => ?_
  ·have:=of_decide_eq_true c
   exact hbad (x.owner≤1048576) (fun w=>(w.p.val x hxm).o2) (by omega)
  have o2:=of_decide_eq_false c
  refine Aqy (fun c => ?_) fun c => ?_
  ·have hk:=of_decide_eq_true c
   have hle:pre.length≤t.nodes.length:=by rw [he]; simp
   refine Ok.guard (by omega) ?_
   have ht:t.nodes.take pre.length=pre:=by rw [he]; simp
   rw [ht]
   rcases Mt pre with rfl|⟨pr,y,rfl⟩
   ·simp at hk
   have hw:WfP (pr ++ [y]):=by
    rcases hI with ⟨e,_⟩|⟨h,_⟩
    ·simp at e
    ·exact h
   refine Ok.step (Anw (by simp at hle; omega) (hm x hxm)) ?_
   refine hJ _ ?_ ?_ hroot
   ·intro hb w
    obtain ⟨_,v,s⟩:=nodes_pre w.p he (by simp)
    have a1:=s.lt y (by simp)
    have a2:=s.valid
    have a3:(x.kind==0||x.kind==1)=true:=by
     rcases v.kind with h|h <;> simp [h]
    have a4:(pr ++ [y]).any (fun k=>k.id==x.parent)=true:=by
     obtain ⟨p,hp,hpp⟩:=s.parent
     exact List.any_eq_true.mpr ⟨p,hp,by simp [hpp]⟩
    have a5:(pr ++ [y]).all (fun k => !(k.parent==x.parent&&Cp k.name x.name))=true:=by
     rw [List.all_eq_true]
     intro k hk
     by_cases q:k.parent=x.parent
     ·simp [s.fresh k hk q]
     ·simp [q]
    simp only [a1,a2,a3,a4,a5,decide_true] at hb
    simp at hb
   ·intro hb
    simp only [Bool.not_eq_false',Bool.and_eq_true,decide_eq_true_eq,List.any_eq_true,List.all_eq_true,beq_iff_eq,Bool.or_eq_true] at hb
    obtain ⟨⟨⟨⟨a1,a2⟩,a3⟩,a4⟩,a5⟩:=hb
    refine ⟨⟨a3,by omega,c2,by omega,by omega⟩,fun _=>⟨?_,a2,a4,?_⟩⟩
    ·intro z hz
     have hs:=hw.sorted
     rw [List.pairwise_append] at hs
     rcases List.mem_append.mp hz with hz|hz
     ·have:=hs.2.2 z hz y (by simp)
      omega
     ·obtain rfl:z=y:=by simpa using hz
      exact a1
    ·intro z hz hp
     have:=a5 z hz
     simpa [hp] using this
  ·have hk:=of_decide_eq_false c
   have e:pre = []:=List.length_eq_zero_iff.mp (by omega)
   refine hJ false (by simp) (fun _=>⟨?_,fun h=>absurd e h⟩) hroot
   subst e
   rw [he] at hR
   exact ⟨.inl hR.kind,by omega,c2,by omega,by omega⟩
 ·intro s hI
  unfold AgN Vu
  have hw:w64 ((t.nodes.length:Int)-1)=((t.nodes.length-1:Nat):Int):=by
   rw [Bz (by omega) (by omega)]
   omega
  rw [hw]
  refine Ok.guard (by omega) ?_
  have:Int.toNat ((t.nodes.length-1:Nat):Int)=t.nodes.length-1:=by omega
  rw [this]
  rcases hI with ⟨e,_⟩|⟨hp,hd,_⟩
  ·rw [e] at l1; simp at l1
  refine Aqy (fun c => ?_) fun c => ?_
  ·have hc:=of_decide_eq_true c
   refine Ok.ret ⟨fun e => ?_,fun w => ?_⟩
   ·exact ⟨by omega,by omega,hp.split,fun x hx=>(hd x hx).2,hc,by simpa using e⟩
   ·simpa using w.nextLe
  ·have:=of_decide_eq_false c
   exact bad fun w=>by have:=w.last; omega
theorem WfP.names {L:List Ak} (h:WfP L):∀ x∈L,AhO x:=by
 intro x hx
 have v:=h.val x hx
 refine ⟨?_,by have:=v.c2; omega⟩
 rcases h.par x hx with ⟨_,r⟩|⟨_,_,_,hv⟩
 ·rw [beqS_eq r.name]
  decide
 ·simp only [Eh,Bool.and_eq_true,decide_eq_true_eq] at hv
  omega
theorem Acy {t:Af} (w:WfT t):Mz t=some true:=by
 obtain ⟨b,hb,e⟩:=AfE t w.p.names
 rw [hb,e.mpr w]
end Go.Dm

namespace Go.Dm
theorem Nl {α:Type} {p:α→Bool} {xs:List α} {body:Nat→α→Unit→(Unit→Option Int)→Option Int} {done:Unit→Option Int}
  (hb:∀ k x n,body k x () n=if p x then some ((k:Nat):Int) else n ()) (hd:done ()=some (-1)):Az body done xs 0 ()=some ((xs.findIdx? p).elim (-1) (fun i=>(i:Int))):=by
 have key:∀ (ys:List α) (k:Nat),Az body done ys k ()=some ((ys.findIdx? p).elim (-1) (fun i=>((i+k:Nat):Int))):=by
  intro ys
  induction ys with
  | nil=>intro k; simp [Az,hd]
  | cons x r ih =>
   intro k
   rw [Az,hb,List.findIdx?_cons]
   cases hp:p x
   ·simp only [Bool.false_eq_true,if_false]
    rw [ih (k+1)]
    cases r.findIdx? p with
    | none=>rfl
    | some i =>
     simp only [Option.map_some,Option.elim_some]
     congr 2
     omega
   ·simp
 have:=key xs 0
 simpa using this
theorem Tb {α:Type} (p:α→Bool) (xs:List α) (d:α) :
  (∃ i,i<xs.length∧xs.findIdx? p=some i∧xs.find? p=some (xs.getD i d))∨(xs.findIdx? p=none∧xs.find? p=none):=by
 induction xs with
 | nil=>exact .inr ⟨rfl,rfl⟩
 | cons x r ih =>
  rw [List.findIdx?_cons,List.find?_cons]
  cases hp:p x
  ·rcases ih with ⟨i,h1,h2,h3⟩|⟨h1,h2⟩
   ·refine .inl ⟨i+1,by simp; omega,?_,?_⟩
    ·simp [h2]
    ·simpa using h3
   ·refine .inr ⟨?_,?_⟩
    ·simp [h1]
    ·simpa using h2
  ·exact .inl ⟨0,by simp,by simp,by simp⟩
theorem Anv (t:Af) (id:Int) (hl:t.nodes.length≤1000000):Add t id=some ((t.nodes.findIdx? (fun x=>x.id==id)).elim (-1) (fun i=>(i:Int))):=by
 unfold Add Gw
 rw [if_pos (by omega),Nl (p:=fun x:Ak=>x.id==id) (fun k x n=>rfl) rfl]
 rfl
theorem Als (t:Af) (id:Int) (hl:t.nodes.length≤1000000):Aat t id=some ((Wm t id).elim (zN,false) (fun x=>(x,true))):=by
 unfold Aat Wm
 rw [Anv t id hl,Option.bind_some]
 rcases Tb (fun x:Ak=>x.id==id) t.nodes default with ⟨i,h1,h2,h3⟩|⟨h1,h2⟩
 ·rw [h2,h3,Option.elim_some,Option.elim_some,if_neg (by simp),if_pos (by omega),show Int.toNat (i:Int)=i by omega]
 ·rw [h1,h2]
  rfl
theorem Ahs (t:Af) (id:Int) (hl:t.nodes.length≤1000000):Rw t id=some (Bd t id):=by
 unfold Rw
 rw [if_pos (by omega)]
 refine (Qx (p:=fun x:Ak=>x.parent==id) (f:=fun x:Ak=>x.id) (r:=some) ?_ (fun _=>rfl) (by simp; omega)).trans (by simp [Bd])
 intro k x s n hs
 unfold Abm Nu
 rw [if_pos hs]
theorem Ajf {α:Type} [DecidableEq α]:∀ {l m:List α},l.Nodup→(∀ x∈l,x∈m)→l.length≤m.length
 | [],_,_,_=>by simp
 | a::r,m,hn,hs=>by
  rw [List.nodup_cons] at hn
  have ha:=hs a (by simp)
  have:=Ajf (l:=r) (m:=m.erase a) hn.2 fun x hx=>by
   have hne:x≠a:=fun e=>hn.1 (by rw [← e]; exact hx)
   rw [List.mem_erase_of_ne hne]
   exact hs x (by simp [hx])
  rw [List.length_erase_of_mem ha] at this
  have:=List.length_pos_of_mem ha
  simp
  omega
theorem WfT.id_pos {t:Af} (w:WfT t) {x:Ak} (h:x∈t.nodes):1≤x.id:=w.p.ge1 x h
theorem WfT.par_lt {t:Af} (w:WfT t) {x:Ak} (h:x∈t.nodes):x.parent<x.id:=by
 rcases w.p.par x h with ⟨h1,r⟩|⟨_,h2,_⟩
 ·rw [r.parent]; omega
 ·exact h2
theorem Rd {t:Af} {x k:Int} (h:k∈upT t x):∃ n∈t.nodes,n.id=x:=by
 by_cases e:∃ n∈t.nodes,n.id=x
 ·exact e
 ·have:upT t x = []:=Ajo fun n hn hx=>e ⟨n,by simpa using hn,hx⟩
  rw [this] at h
  simp at h
theorem WfT.induct {t:Af} (w:WfT t) {P:Ak→Prop} (step:∀ x∈t.nodes,(∀ y∈t.nodes,y.id=x.parent→P y)→P x):∀ x∈t.nodes,P x:=by
 have key:∀ (n:Nat),∀ x∈t.nodes,x.id.toNat<n→P x:=by
  intro n
  induction n with
  | zero=>intro x _ h; omega
  | succ n ih =>
   intro x hx h
   refine step x hx fun y hy e=>ih y hy ?_
   have:=w.par_lt hx
   have:=w.id_pos hx
   omega
 intro x hx
 exact key _ x hx (Nat.lt_succ_self _)
theorem up_le {t:Af} (w:WfT t):∀ x∈t.nodes,∀ k∈upT t x.id,k≤x.id:=by
 refine w.induct fun x hx ih k hk => ?_
 rw [w.up hx] at hk
 rcases List.mem_cons.mp hk with rfl|hk
 ·exact Int.le_refl _
 ·obtain ⟨y,hy,e⟩:=Rd hk
  rw [← e] at hk
  have:=ih y hy e k hk
  have:=w.par_lt hx
  omega
theorem up_self {t:Af} (w:WfT t) {x:Ak} (hx:x∈t.nodes):x.id∈upT t x.id:=by
 rw [w.up hx]
 simp
theorem up_trans {t:Af} (w:WfT t) {k y:Int} (h2:k∈upT t y):∀ x∈t.nodes,y∈upT t x.id→k∈upT t x.id:=by
 refine w.induct fun x hx ih h1 => ?_
 have e:=w.up hx
 rw [e] at h1
 rcases List.mem_cons.mp h1 with rfl|h1
 ·exact h2
 ·rw [e]
  obtain ⟨z,hz,ez⟩:=Rd h1
  rw [← ez] at h1
  have:=ih z hz ez h1
  rw [ez] at this
  exact List.mem_cons_of_mem _ this
theorem up_child {t:Af} (w:WfT t) {y:Int} : ∀ x∈t.nodes,y∈upT t x.id→x.id=y∨∃ c∈Bd t y,c∈upT t x.id:=by
 refine w.induct fun x hx ih h1 => ?_
 have e:=w.up hx
 rw [e] at h1
 rcases List.mem_cons.mp h1 with rfl|h1
 ·exact .inl rfl
 ·obtain ⟨z,hz,ez⟩:=Rd h1
  rw [← ez] at h1
  refine .inr ?_
  rcases ih z hz ez h1 with h|⟨c,hc,hcu⟩
  ·refine ⟨x.id,?_,up_self w hx⟩
   unfold Bd
   exact List.mem_map.mpr ⟨x,List.mem_filter.mpr ⟨hx,by simp; omega⟩,rfl⟩
  ·refine ⟨c,hc,?_⟩
   rw [e]
   rw [ez] at hcu
   exact List.mem_cons_of_mem _ hcu
theorem kids_iff {t:Af} {y c:Int} : c∈Bd t y↔∃ x∈t.nodes,x.parent=y∧x.id=c:=by
 unfold Bd
 constructor
 ·intro h
  obtain ⟨x,hx,e⟩:=List.mem_map.mp h
  obtain ⟨h1,h2⟩:=List.mem_filter.mp hx
  exact ⟨x,h1,by simpa using h2,e⟩
 ·rintro ⟨x,h1,h2,h3⟩
  exact List.mem_map.mpr ⟨x,List.mem_filter.mpr ⟨h1,by simp [h2]⟩,h3⟩
theorem ids_nodup {t:Af} (w:WfT t):(t.nodes.map (·.id)).Nodup:=by
 have:=w.sorted
 unfold List.Nodup
 rw [List.pairwise_map]
 exact this.imp fun h=>by omega
theorem Aki {t:Af} (w:WfT t) (y:Int):(Bd t y).Nodup:=by
 unfold Bd List.Nodup
 rw [List.pairwise_map]
 exact (w.sorted.sublist List.filter_sublist).imp fun h=>by omega
end Go.Dm

namespace Go.Dm
end Go.Dm

namespace Go.Dm
theorem up_one {t:Af} (w:WfT t) {y:Int} {c c':Ak} (hc:c∈t.nodes) (hc':c'∈t.nodes) (e:c.parent=y) (e':c'.parent=y) :
  ∀ x∈t.nodes,c.id∈upT t x.id→c'.id∈upT t x.id→c.id=c'.id:=by
 have l1:=w.par_lt hc
 have l2:=w.par_lt hc'
 refine w.induct fun x hx ih h1 h2 => ?_
 rw [w.up hx] at h1 h2
 have low:∀ z:Ak,z∈t.nodes→z.id=y→∀ q:Ak,q.parent=y→q.parent<q.id→q.id∉upT t z.id:=by
  intro z hz hzy q hq hlt hm
  have:=up_le w z hz _ hm
  omega
 rcases List.mem_cons.mp h1 with h1|h1 <;> rcases List.mem_cons.mp h2 with h2|h2
 ·omega
 ·exfalso
  obtain ⟨z,hz,ez⟩:=Rd h2
  rw [← ez] at h2
  have hxc:x=c:=AeR w.sorted hx hc h1.symm
  subst hxc
  exact low z hz (by omega) c' e' l2 h2
 ·exfalso
  obtain ⟨z,hz,ez⟩:=Rd h1
  rw [← ez] at h1
  have hxc:x=c':=AeR w.sorted hx hc' h2.symm
  subst hxc
  exact low z hz (by omega) c e l1 h1
 ·obtain ⟨z,hz,ez⟩:=Rd h1
  rw [← ez] at h1 h2
  exact ih z hz ez h1 h2
end Go.Dm

namespace Go.Dm
theorem AkN (a b:Int):Hy a b=some (decide (a<b)):=by
 unfold Hy Wk Nz
 simp
theorem asc_at {L:List Int} (h:L.Pairwise (· < ·)) {i j:Nat} (hij:i<j) (hj:j<L.length):L.getD i 0<L.getD j 0:=by
 rw [Ff hj,Ff (by omega)]
 exact List.pairwise_iff_getElem.mp h i j (by omega) hj hij
theorem Alo {L:List Int} (h:L.Pairwise (· < ·)) {i j:Nat} (hij:i<j) (hj:j<L.length):decide (L.getD j 0<L.getD i 0)=false:=by
 have:=asc_at h hij hj
 rw [decide_eq_false_iff_not]
 omega
theorem Ame {L:List Int} (h:L.Pairwise (· < ·)) (hl:L.length≤1000000):Fc L 0 (L.length:Int)=some L:=by
 apply Ok.eq
 unfold Fc
 have e1:w64 (0+1)=1:=Bz (by omega) (by omega)
 rw [e1]
 refine Ok.guard (by omega) ?_
 refine Aqz (fun _ s=>s=L) rfl ?_ ?_
 ·intro j s n hj hs hn
  subst hs
  unfold Ky
  refine Aqu (fun q=>q=(s,1+(j:Int))) (fun _=>0) rfl (by rw [Iv]; omega) ?_
  intro q nn hq _
  subst hq
  unfold Ld Et
  simp only
  have hw:w64 (1+(j:Int)-1)=(j:Int):=by
   rw [Bz (by omega) (by omega)]
   omega
  have ej:Int.toNat (j:Int)=j:=by omega
  have ej1:Int.toNat (1+(j:Int))=j+1:=by omega
  rw [hw,ej,ej1,AkN,Alo h (show j<j+1 by omega) (by omega)]
  refine Aqy (fun _ => ?_) fun _=>hn _ rfl
  refine Ok.guard (by omega) (Ok.guard (by omega) (Ok.guard (by omega) (Ok.guard (by omega) ?_)))
  exact Ok.step rfl (hn _ rfl)
 ·intro s hs
  subst hs
  exact Ok.ret rfl
theorem Afe {L:List Int} (h:L.Pairwise (· < ·)) {a b:Nat} (hab:a<b) (hb:b<L.length) (c:Int):Ep L (a:Int) (b:Int) c=some ((a:Int),(b:Int),c):=by
 unfold Ep
 have ea:Int.toNat (a:Int)=a:=by omega
 have eb:Int.toNat (b:Int)=b:=by omega
 rw [if_pos (by omega),if_pos (by omega),ea,eb,AkN,Alo h hab hb]
 rfl
theorem Afn {L:List Int} (h:L.Pairwise (· < ·)) {a b c:Nat} (hab:a<b) (hbc:b<c) (hc:c<L.length) (k:Int):Fx L (a:Int) (b:Int) (c:Int) k=some ((b:Int),k):=by
 unfold Fx
 rw [Afe h hab (by omega),Option.bind_some,Afe h hbc hc,Option.bind_some,Afe h hab (by omega)]
 rfl
theorem Acl {L:List Int} (h:L.Pairwise (· < ·)) {a:Nat} (h0:0<a) (ha:a+1<L.length) (hl:L.length≤1000000) (k:Int):Dc L (a:Int) k=some ((a:Int),k):=by
 unfold Dc
 have e1:w64 ((a:Int)-1)=((a-1:Nat):Int):=by
  rw [Bz (by omega) (by omega)]
  omega
 have e2:w64 ((a:Int)+1)=((a+1:Nat):Int):=by
  rw [Bz (by omega) (by omega)]
  omega
 rw [e1,e2,Afn h (by omega) (by omega) ha]
 rfl
theorem pivot_asc {L:List Int} (h:L.Pairwise (· < ·)) (h12:12<L.length) (hl:L.length≤1000000):Ok (Ft L 0 (L.length:Int)) (fun r=>r.2=1):=by
 unfold Ft
 have e0:w64 ((L.length:Int)-0)=(L.length:Int):=by
  rw [Bz (by omega) (by omega)]
  omega
 rw [e0]
 have eq:w64 (Int.tdiv (L.length:Int) 4)=((L.length / 4:Nat):Int):=by
  rw [Int.tdiv_eq_ediv_of_nonneg (by omega),Bz (by omega) (by omega)]
  omega
 rw [eq]
 have hq:3≤L.length / 4:=by omega
 have hq2:4*(L.length / 4)≤L.length:=by omega
 generalize L.length / 4=q at *
 have m1:w64 (0+w64 ((q:Int)*1))=(q:Int):=by
  rw [Bz (n:=(q:Int)*1) (by omega) (by omega),Bz (by omega) (by omega)]
  omega
 have m2:w64 (0+w64 ((q:Int)*2))=((2*q:Nat):Int):=by
  rw [Bz (n:=(q:Int)*2) (by omega) (by omega),Bz (by omega) (by omega)]
  omega
 have m3:w64 (0+w64 ((q:Int)*3))=((3*q:Nat):Int):=by
  rw [Bz (n:=(q:Int)*3) (by omega) (by omega),Bz (by omega) (by omega)]
  omega
 rw [m1,m2,m3]
 unfold Fb Fa
 refine Aqy (fun _ => ?_) fun c => ?_
 ·refine Aqy (fun c => ?_) fun _ => ?_
  ·have:=of_decide_eq_true c
   refine Ok.step (Acl h (by omega) (by omega) hl 0) ?_
   refine Ok.step (Acl h (by omega) (by omega) hl 0) ?_
   refine Ok.step (Acl h (by omega) (by omega) hl 0) ?_
   exact Ok.step (Afn h (by omega) (by omega) (by omega) 0) (Ok.ret rfl)
  ·exact Ok.step (Afn h (by omega) (by omega) (by omega) 0) (Ok.ret rfl)
 ·have:=of_decide_eq_false c
  omega
theorem Aoo {L:List Int} (h:L.Pairwise (· < ·)) (h1:1≤L.length) (hl:L.length≤1000000):Ea L 0 (L.length:Int)=some (true,L):=by
 apply Ok.eq
 unfold Ea
 have e1:w64 (0+1)=1:=Bz (by omega) (by omega)
 rw [e1]
 refine Aqz (fun j s=>j=0∧s=(L,1)) ⟨rfl,rfl⟩ ?_ ?_
 ·rintro j s n hj ⟨rfl,rfl⟩ hn
  unfold Hu
  simp only
  refine Aqu (fun q=>∃ i:Nat,q=((i+1:Nat):Int)∧i+1≤L.length) (fun q=>L.length-q.toNat) ⟨0,rfl,h1⟩ (by rw [Iv]; omega) ?_
  rintro q nn ⟨i,rfl,hi⟩ hnn
  unfold Hk Dk
  simp only
  have hw:w64 (((i+1:Nat):Int)-1)=(i:Int):=by
   rw [Bz (by omega) (by omega)]
   omega
  have ei:Int.toNat (i:Int)=i:=by omega
  have ei1:Int.toNat ((i+1:Nat):Int)=i+1:=by omega
  refine Aqy (fun c => ?_) fun c => ?_
  ·have c:=of_decide_eq_true c
   rw [hw,ei,ei1,AkN,Alo h (show i<i+1 by omega) (by omega)]
   refine Ok.guard (by omega) (Ok.guard (by omega) (Ok.guard (by omega) (Ok.guard (by omega) ?_)))
   refine Ok.step rfl (hnn _ ⟨i+1,?_,by omega⟩ ?_)
   ·rw [Bz (by omega) (by omega)]
    omega
   ·rw [Bz (by omega) (by omega)]
    omega
  ·have c:=of_decide_eq_false c
   have:((i+1:Nat):Int)=(L.length:Int):=by omega
   simp only [Bool.false_eq_true,if_false]
   rw [if_pos (by rw [this]; simp)]
   exact Ok.ret rfl
 ·rintro s ⟨h0,_⟩
  simp at h0
theorem AnE : (List.range 1001).all (fun n=>(Ps (IntKind.u64.wrap (n:Int))).any (fun k=>n==0||decide (1≤k)))=true:=by decide +kernel
theorem len_bits {n:Nat} (h0:0<n) (hn:n≤1000):Ok (Ps (IntKind.u64.wrap (n:Int))) (fun k=>1≤k):=by
 have:=List.all_eq_true.mp AnE n (by rw [List.mem_range]; omega)
 cases hb:Ps (IntKind.u64.wrap (n:Int)) with
 | none=>rw [hb] at this; simp at this
 | some k =>
  rw [hb] at this
  simp at this
  exact ⟨k,rfl,by omega⟩
theorem AnC {n:Nat} (hn:n≤1000):Ok (Ps (IntKind.u64.wrap (n:Int))) (fun _=>True):=by
 have:=List.all_eq_true.mp AnE n (by rw [List.mem_range]; omega)
 cases hb:Ps (IntKind.u64.wrap (n:Int)) with
 | none=>rw [hb] at this; simp at this
 | some k=>exact ⟨k,rfl,trivial⟩
theorem sort_asc {L:List Int} (h:L.Pairwise (· < ·)) (hl:L.length≤1000):Rp L=some L:=by
 apply Ok.eq
 unfold Rp
 refine Ok.bind (P:=fun k=>12<L.length→1≤k) ?_ fun k hk => ?_
 ·by_cases h0:0<L.length
  ·exact (len_bits h0 hl).mono fun _ h _=>h
  ·exact (AnC hl).mono fun _ _ h=>by omega
 refine Ok.step (a:=L) ?_ (Ok.guard rfl (Ok.ret rfl))
 apply Ok.eq
 unfold Ku
 refine Aqu (fun _=>True) (fun _=>0) trivial (by rw [Iv]; omega) ?_
 rintro ⟨⟩ n _ _
 unfold Pg
 have e0:w64 ((L.length:Int)-0)=(L.length:Int):=by
  rw [Bz (by omega) (by omega)]
  omega
 rw [e0]
 refine Aqy (fun _ => ?_) fun c => ?_
 ·exact Ok.step (Ame h (by omega)) (Ok.guard rfl (Ok.ret rfl))
 ·have c:=of_decide_eq_false c
  have:=hk (by omega)
  refine Aqy (fun c => ?_) fun _ => ?_
  ·exfalso
   have:k=0:=by simpa using c
   omega
  refine Ok.bind (pivot_asc h (by omega) (by omega)) fun r hr => ?_
  refine Aqy (fun c=>by rw [hr] at c; simp at c) fun _ => ?_
  unfold Jq
  refine Aqy (fun _ => ?_) fun c=>by rw [hr] at c; simp at c
  exact Ok.step (Aoo h (by omega) (by omega)) (Ok.guard rfl (Ok.ret rfl))
theorem AoB {L:List Int} (h:L.Pairwise (· < ·)) (hl:L.length≤1000000):Mo L=some (L.length,L):=by
 apply Ok.eq
 unfold Mo
 refine Aqy (fun _=>Ok.ret rfl) fun c => ?_
 refine Ok.guard (by omega) ?_
 refine Aqz (fun _ _=>True) trivial ?_ fun _ _=>Ok.ret rfl
 intro j _ n hj _ hn
 unfold Yx
 have hw:w64 (1+(j:Int)-1)=(j:Int):=by
  rw [Bz (by omega) (by omega)]
  omega
 have ej:Int.toNat (j:Int)=j:=by omega
 have ej1:Int.toNat (1+(j:Int))=j+1:=by omega
 rw [hw,ej,ej1]
 have:=asc_at h (show j<j+1 by omega) (by omega)
 refine Ok.guard (by omega) (Ok.guard (by omega) (Ok.guard (by omega) (Ok.guard (by omega) ?_)))
 refine Aqy (fun c => ?_) fun _=>hn () trivial
 have:L.getD (j+1) 0=L.getD j 0:=by simpa using c
 omega
end Go.Dm

namespace Go.Dm
end Go.Dm

namespace Go.Dm
end Go.Dm

namespace Go.Dm
end Go.Dm

namespace Go.Dm
end Go.Dm

namespace Go.Dm
theorem AaC {t:Af} (w:WfT t) (id:Int):Lu t id=some (upT t id):=by
 apply Ok.eq
 have l2:=w.len2
 unfold Lu
 refine Ok.guard (by omega) ?_
 refine Ok.range (fun pre s=>s.1++upT t s.2=upT t id∧s.1.length=pre.length) ⟨by simp,rfl⟩ ?_ ?_
 ·rintro pre x post ⟨o,c⟩ n he ⟨i1,i2⟩ hn
  simp only at i1 i2
  unfold AaM Mp
  refine Ok.step (Als t c (by omega)) ?_
  cases hg:Wm t c with
  | none =>
   refine Ok.ret ?_
   have:upT t c = []:=Ajo fun y hy e=>by
    unfold Wm at hg
    rw [List.find?_eq_none] at hg
    have:=hg y (by simpa using hy)
    simp [e] at this
   rw [this] at i1
   simpa using i1
  | some y =>
   obtain ⟨hy,hyc⟩:=Sz hg
   have hp:pre.length<t.nodes.length:=by rw [he]; simp
   simp only [Option.elim_some,Bool.not_true,Bool.false_eq_true,if_false]
   refine Ok.guard (by omega) (hn _ ⟨?_,by simp [i2]⟩)
   simp only
   rw [← i1,← hyc,w.up hy]
   simp
 ·rintro ⟨o,c⟩ ⟨i1,i2⟩
  simp only at i1 i2
  refine Ok.ret ?_
  have hlen:=Tj t.nodes.reverse id
  rw [List.length_reverse] at hlen
  change (upT t id).length≤t.nodes.length at hlen
  rw [← i1] at hlen
  have:(upT t c).length=0:=by
   rw [List.length_append] at hlen
   omega
  have:upT t c = []:=List.length_eq_zero_iff.mp this
  rw [this] at i1
  simpa using i1
end Go.Dm

namespace Go.Dm
end Go.Dm

namespace Go.Dm
end Go.Dm

namespace Go.Dm
end Go.Dm

namespace Go.Dm
end Go.Dm

namespace Go.Dm
end Go.Dm

namespace Go.Dm
theorem Agy {α:Type} {L:List α} {a n:Nat} {x:α} (h:a+n≤L.length):(Hj L a n x).length=L.length:=by
 simp only [Hj,List.length_append,List.length_take,List.length_replicate,List.length_drop]
 omega
theorem Akt {α:Type} {L:List α} {a n:Nat} {x:α} (h:a≤L.length):(Hj L a n x).take a=L.take a:=by
 unfold Hj
 rw [List.take_append_of_le_length (by rw [List.length_take]; omega),List.take_take,Nat.min_self]
theorem AiR {α R:Type} {p:α→Bool} {L:List α} {d:α} (hl:L.length≤1000000) {body:List α×Int×Int→(List α×Int×Int→Option R)→Option R} {Q:R→Prop} {i0:Nat} (hi0:i0<L.length) (h0:∀ x∈L.take i0,p x=false) (hp:p (L.getD i0 d)=true)
  (hb:∀ (M:List α) (i j:Nat) n,M.length=L.length→i<j→j<L.length→(∀ s,(s=if p (M.getD j d) then (M,(i:Int),((j+1:Nat):Int)) else (M.set i (M.getD j d),((i+1:Nat):Int),((j+1:Nat):Int)))→Ok (n s) Q)→Ok (body (M,(i:Int),(j:Int)) n) Q)
  (hr:∀ (M:List α) (i:Nat) n,M.length=L.length→i≤L.length→M.take i=L.filter (fun x => !p x)→Ok (body (M,(i:Int),(L.length:Int)) n) Q):Ok (whileO body Fm (L,(i0:Int),((i0+1:Nat):Int))) Q:=by
 refine Aqu (fun s=>∃ i j:Nat,s.2.1=(i:Int)∧s.2.2=(j:Int)∧i<j∧j≤L.length∧s.1.length=L.length∧s.1.take i=(L.take j).filter (fun x => !p x)∧s.1.drop j=L.drop j) (fun s=>L.length-s.2.2.toNat) ?_ ?_ ?_
 ·refine ⟨i0,i0+1,rfl,rfl,by omega,by omega,rfl,?_,rfl⟩
  have e:L.take (i0+1)=L.take i0 ++ [L.getD i0 d]:=by
   rw [List.take_add_one,Ff hi0]
   simp [hi0]
  rw [e,List.filter_append,List.filter_eq_self.mpr fun x hx=>by simp [h0 x hx]]
  simp only [hp,Bool.not_true,List.filter_cons,Bool.false_eq_true,if_false,List.filter_nil,List.append_nil]
 ·rw [Iv]
  omega
 ·rintro ⟨M,x,y⟩ n ⟨i,j,e1,e2,hij,hj,hM,ht,hd⟩ hn
  simp only at e1 e2 hM ht hd
  subst e1 e2
  by_cases hjl:j<L.length
  ·refine hb M i j n hM hij hjl fun s hs => ?_
   have hMj:M.getD j d=L.getD j d:=by
    have:=congrArg List.head? hd
    rw [List.head?_drop,List.head?_drop] at this
    rw [List.getD_eq_getElem?_getD,List.getD_eq_getElem?_getD,this]
   have e:L.take (j+1)=L.take j ++ [L.getD j d]:=by
    rw [List.take_add_one,Ff hjl]
    simp [hjl]
   have hd':M.drop (j+1)=L.drop (j+1):=by
    have:=congrArg (List.drop 1) hd
    rw [List.drop_drop,List.drop_drop] at this
    exact this
   cases hpj:p (M.getD j d) with
   | true =>
    rw [hpj,if_pos rfl] at hs
    subst hs
    refine hn _ ⟨i,j+1,rfl,rfl,by omega,by omega,hM,?_,hd'⟩ (by simp only; omega)
    simp only
    rw [ht,e,List.filter_append,← hMj,List.filter_cons,hpj]
    simp
   | false =>
    rw [hpj,if_neg (by simp)] at hs
    subst hs
    refine hn _ ⟨i+1,j+1,rfl,rfl,by omega,by omega,by simp [hM],?_,?_⟩ (by simp only; omega)
    ·simp only
     rw [e,List.filter_append,← hMj,← ht]
     have hi:i<M.length:=by omega
     rw [List.take_add_one,List.filter_cons,hpj,List.take_set_of_le (Nat.le_refl _),List.getElem?_set_self hi]
     rfl
    ·simp only
     rw [List.drop_set_of_lt (by omega),hd']
  ·obtain rfl:j=L.length:=by omega
   refine hr M i n hM (by omega) ?_
   rw [ht,List.take_length]
end Go.Dm

namespace Go.Dm
end Go.Dm

namespace Go.Dm
def nodeN (t:Af) (a:Int):Ak:=(Wm t a).getD zN
theorem nodeN_id {t:Af} {id:Int} (h:Dx t id=true):(nodeN t id).id=id∧nodeN t id∈t.nodes:=by
 unfold nodeN Dx at *
 cases hg:Wm t id with
 | none=>rw [hg] at h; simp at h
 | some x=>exact ⟨(Sz hg).2,(Sz hg).1⟩
theorem up_cons {t:Af} (w:WfT t) {id:Int} (h:Dx t id=true):upT t id=id::upT t (nodeN t id).parent:=by
 obtain ⟨e,hx⟩:=nodeN_id h
 have:=w.up hx
 rw [e] at this
 exact this
theorem has_root {t:Af} (w:WfT t):Dx t 1=true:=by
 obtain ⟨n,q,e,hr⟩:=w.root
 exact hasN_iff.mpr ⟨n,by rw [e]; simp,hr.id⟩
end Go.Dm

namespace Go.Dm
end Go.Dm

namespace Go.Dm
abbrev Asc (L:List Int):Prop:=L.Pairwise (· < ·)
theorem AlS {A:List Int} (h:Asc A):A.Nodup:=h.imp fun h=>by omega
theorem le_at {L:List Int} (h:L.Pairwise (· ≤ ·)) {i j:Nat} (hij:i≤j) (hj:j<L.length):L.getD i 0≤L.getD j 0:=by
 by_cases e:i=j
 ·subst e
  omega
 ·rw [Ff hj,Ff (by omega)]
  exact List.pairwise_iff_getElem.mp h i j (by omega) hj (by omega)
end Go.Dm

namespace Go.Dm
section
variable {t t':Af} {fn:Ak→Ak}
end
section
variable {t t':Af} {p:Int} {s:ByteArray}
end
end Go.Dm

namespace Go.Dm
theorem AnA {t:Af} (hm:∀ x∈t.nodes,AhO x) (w:¬ WfT t):Mz t=some false:=by
 obtain ⟨b,hb,e⟩:=AfE t hm
 cases b
 ·exact hb
 ·exact absurd (e.mp rfl) w
end Go.Dm

namespace Go.Dm
end Go.Dm

namespace Go.Dm
end Go.Dm

namespace Go.Dm
end Go.Dm

namespace Go.Dm
end Go.Dm

namespace Go.Dm
theorem Alb (l:List Int) (hl:l.length≤1000000):Adn l l=some true:=by
 unfold Adn
 rw [if_neg (by simp),if_pos (by omega)]
 apply Ok.eq
 refine Ok.range (fun _ _=>True) trivial ?_ fun _ _=>Ok.ret rfl
 intro pre x post s n he _ hn
 unfold AiL
 have hi:pre.length<l.length:=by
  rw [he]
  simp
 rw [if_pos hi]
 have:l.getD pre.length 0=x:=by
  rw [he]
  exact Wn
 rw [this,if_neg (by simp)]
 exact hn () trivial
end Go.Dm

namespace Go.Dm
end Go.Dm

namespace Go.Dm
section
variable {h : Ab} {t:Af} {f f':Freezer}
theorem Aja {pre:List Int} {x:Int} (a:Asc pre) (h1:∀ y∈pre,y<x):Asc (pre ++ [x]):=by
 rw [Asc,List.pairwise_append]
 exact ⟨a,by simp,fun y hy z hz=>by rw [List.mem_singleton.mp hz]; exact h1 y hy⟩
end
end Go.Dm

namespace Go.Dm
theorem Amj (l:List Int) (x:Int) (hl:l.length≤9223372036854775807):Lw l x=some (l.contains x):=by
 unfold Lw Wr
 rw [if_pos (by omega),Nl (p:=fun y:Int=>x==y) (fun k y n=>rfl) rfl,Option.bind_some]
 rcases Tb (fun y:Int=>x==y) l 0 with ⟨i,h1,h2,h3⟩|⟨h1,h2⟩
 ·rw [h2]
  have hm:=List.mem_of_find?_eq_some h3
  have he:=List.find?_some h3
  have:l.contains x=true:=by
   rw [List.contains_iff_mem]
   have:x=l.getD i 0:=by simpa using he
   rw [this]
   exact hm
  rw [this]
  simp
 ·rw [h1]
  have:l.contains x=false:=by
   rw [List.find?_eq_none] at h2
   cases hc:l.contains x
   ·rfl
   ·rw [List.contains_iff_mem] at hc
    have:=h2 x hc
    simp at this
  rw [this]
  simp
section
variable {h : Ab} {f:Freezer}
theorem Xi {l:List Int} (hl:l.length≤1000000):Dz l=some l:=by
 unfold Dz
 rw [if_pos (by omega)]
end
end Go.Dm

namespace Go.Dm
def okSet (n:Int) (L:List Int):Prop:=Asc L∧∀ x∈L,0≤x∧x<n
theorem Alv : ∀ {L:List Int} {a n:Int},Asc L→(∀ x∈L,a≤x∧x<n)→(L.length:Int)≤max 0 (n-a)
 | [],a,n,_,_=>by simp; omega
 | x::r,a,n,h,hb=>by
  rw [Asc,List.pairwise_cons] at h
  have hx:=hb x (by simp)
  have ih:=Alv (L:=r) (a:=x+1) (n:=n) h.2 (fun y hy=>⟨by have:=h.1 y hy; omega,(hb y (by simp [hy])).2⟩)
  simp only [List.length_cons]
  omega
theorem okSet.len {n:Int} {L:List Int} (h:okSet n L) (hn:0≤n):(L.length:Int)≤n:=by
 have:=Alv h.1 h.2
 omega
theorem Du {m:Option Bool} {rest:Option Bool} {P R:Prop} (h:Ok m (fun b=>b=true↔P)) (k:P→Ok rest (fun b=>b=true↔R)):Ok (Option.bind m fun r=>if r then rest else some false) (fun b=>b=true↔P∧R):=by
 refine Ok.bind h fun r hr=>Aqy (fun c => ?_) fun c=>Ok.ret ?_
 ·have hp:=hr.mp c
  exact (k hp).mono fun b hb=>by rw [hb]; simp [hp]
 ·have:¬ P:=fun hp=>by rw [hr.mpr hp] at c; simp at c
  simp [this]
theorem AbN {m:Option Bool} {P:Prop} (h:Ok m (fun b=>b=true↔P)):Ok (Option.bind m fun r=>some r) (fun b=>b=true↔P):=Ok.bind h fun r hr=>Ok.ret hr
theorem Gd (a lo hi:Int):Ok (Cq a lo hi) (fun b=>b=true↔(lo≤a∧a≤hi)):=by
 unfold Cq
 exact Ok.ret (by simp)
theorem Gg (a lo hi:Int):Ok (Ek a lo hi) (fun b=>b=true↔((lo≤a∧a≤hi)∨a=4611686018427387904)):=by
 unfold Ek
 exact Ok.ret (by simp)
theorem prev_ok {pre post:List Int} {x d:Int} (hl:pre.length+1≤9223372036854775807) (h:0<pre.length):w64 (((pre.length:Nat):Int)-1)=((pre.length-1:Nat):Int):=by
 rw [Bz (by omega) (by omega)]
 omega
theorem Oh (L:List Int) (n:Int) (hl:L.length≤9223372036854775807):Ok (Kp L n) (fun b=>b=true↔okSet n L):=by
 unfold Kp
 refine Ok.guard hl ?_
 refine Ok.range (fun pre _=>okSet n pre) ⟨List.Pairwise.nil,fun x hx=>by simp at hx⟩ ?_ fun _ h=>Ok.ret (by simp [h])
 intro pre x post s m he hp hn
 unfold AgW Oo
 have hlen:pre.length+1≤L.length:=by rw [he]; simp
 refine Aqy (fun c=>Ok.ret ?_) fun c=>Aqy (fun c2=>Ok.ret ?_) fun c2 => ?_
 ·have c:=of_decide_eq_true c
  simp only [Bool.false_eq_true,false_iff]
  intro ⟨_,hb⟩
  have:=hb x (by rw [he]; simp)
  omega
 ·have c2:=of_decide_eq_true c2
  simp only [Bool.false_eq_true,false_iff]
  intro ⟨_,hb⟩
  have:=hb x (by rw [he]; simp)
  omega
 ·have c:=of_decide_eq_false c
  have c2:=of_decide_eq_false c2
  refine Aqy (fun c3 => ?_) fun c3 => ?_
  ·have c3:=of_decide_eq_true c3
   have h0:0<pre.length:=by omega
   rw [prev_ok (post:=post) (x:=x) (d:=0) (by omega) h0]
   refine Ok.guard (by omega) ?_
   have hlast:L.getD (pre.length-1) 0=pre.getD (pre.length-1) 0:=by
    rw [he,List.getD_eq_getElem?_getD,List.getD_eq_getElem?_getD,List.getElem?_append_left (by omega)]
   simp only [Int.toNat_natCast,hlast]
   refine Aqy (fun c4=>Ok.ret ?_) fun c4 => ?_
   ·have c4:=of_decide_eq_true c4
    simp only [Bool.false_eq_true,false_iff]
    intro ⟨ha,_⟩
    rw [he,Asc,List.pairwise_append] at ha
    have:=ha.2.2 (pre.getD (pre.length-1) 0) (Nh (by omega)) x (by simp)
    omega
   ·have c4:=of_decide_eq_false c4
    refine hn () ⟨?_,fun y hy => ?_⟩
    ·refine Aja hp.1 fun y hy => ?_
     obtain ⟨j,hj,rfl⟩:=List.getElem_of_mem hy
     have hle:pre[j]≤pre.getD (pre.length-1) 0:=by
      have:=le_at (L:=pre) (hp.1.imp (fun h=>Int.le_of_lt h)) (i:=j) (j:=pre.length-1) (by omega) (by omega)
      rwa [Ff hj] at this
     omega
    ·rcases List.mem_append.mp hy with h|h
     ·exact hp.2 y h
     ·simp at h; subst h; omega
  ·have c3:=of_decide_eq_false c3
   have h0:pre = []:=List.eq_nil_of_length_eq_zero (by omega)
   subst h0
   refine Aqy (fun c=>by simp at c) fun _=>hn () ⟨by simp [Asc],fun y hy=>by simp at hy; subst hy; omega⟩
theorem Adi (m:Fd):∃ b,Fk m=some b:=by
 obtain ⟨b,h,_⟩:Ok (Fk m) (fun _=>True):=by
  unfold Fk Gl
  refine Ok.bind (Gg _ _ _) fun _ _=>Aqy (fun _ => ?_) fun _=>Ok.ret trivial
  refine Ok.bind (Gg _ _ _) fun _ _=>Aqy (fun _ => ?_) fun _=>Ok.ret trivial
  refine Ok.bind (Gg _ _ _) fun _ _=>Aqy (fun _ => ?_) fun _=>Ok.ret trivial
  refine Ok.bind (Gg _ _ _) fun _ _=>Aqy (fun _ => ?_) fun _=>Ok.ret trivial
  exact Ok.bind (Gg _ _ _) fun _ _=>Ok.ret trivial
 exact ⟨b,h⟩
theorem Acq (L:List Au) (hl:L.length≤9223372036854775807):∃ b,Ex L=some b:=by
 obtain ⟨b,h,_⟩:Ok (Ex L) (fun _=>True):=by
  unfold Ex
  refine Ok.guard hl ?_
  refine Ok.range (fun _ _=>True) trivial ?_ fun _ _=>Ok.ret trivial
  intro pre x post s n he _ hn
  have hlen:pre.length+1≤L.length:=by rw [he]; simp
  have hj:∀ b,Ok (Bh n b) (fun _=>True):=by
   intro b
   unfold Bh
   exact Aqy (fun _=>Ok.ret trivial) fun _=>hn () trivial
  unfold AaH
  refine Aqy (fun _=>hj _) fun _=>Aqy (fun _=>hj _) fun _=>Aqy (fun c3 => ?_) fun _ => ?_
  ·have c3:=of_decide_eq_true c3
   refine Ok.guard (by rw [Bz (by omega) (by omega)]; omega) ?_
   refine Aqy (fun _=>hj _) fun _=>Aqy (fun _=>hj _) fun _=>Aqy (fun _=>hj _) fun _ => ?_
   refine Ok.bind (Gg _ _ _) fun _ _=>Aqy (fun _=>hj _) fun _ => ?_
   refine Ok.bind (Gg _ _ _) fun _ _=>Aqy (fun _=>hj _) fun _ => ?_
   refine Ok.bind (Gg _ _ _) fun _ _=>Aqy (fun _=>hj _) fun _ => ?_
   refine Ok.bind (Gg _ _ _) fun _ _=>Aqy (fun _=>hj _) fun _ => ?_
   exact Aqy (fun _=>hj _) fun _=>hj _
  ·refine Aqy (fun _=>hj _) fun _=>Aqy (fun _=>hj _) fun _ => ?_
   refine Ok.bind (Gg _ _ _) fun _ _=>Aqy (fun _=>hj _) fun _ => ?_
   refine Ok.bind (Gg _ _ _) fun _ _=>Aqy (fun _=>hj _) fun _ => ?_
   refine Ok.bind (Gg _ _ _) fun _ _=>Aqy (fun _=>hj _) fun _ => ?_
   refine Ok.bind (Gg _ _ _) fun _ _=>Aqy (fun _=>hj _) fun _ => ?_
   exact Aqy (fun _=>hj _) fun _=>hj _
 exact ⟨b,h⟩
def BandP (s:Ac):Prop:=(1≤s.period∧s.period≤1000000)∧if s.quota=4611686018427387904 then s.burst=0 else (1≤s.quota∧s.quota≤1000000)∧0≤s.burst∧s.burst≤s.quota
theorem AfH (s:Ac):Ok (Jn s) (fun b=>b=true↔BandP s):=by
 unfold Jn Kt Hx BandP
 refine Aqy (fun c => ?_) fun c => ?_
 ·have c:=beq_iff_eq.mp c
  rw [if_pos c]
  exact Du (Gd _ _ _) fun _=>Ok.ret (by simp)
 ·have c:¬ s.quota=4611686018427387904:=by simpa using c
  rw [if_neg c]
  exact Du (Gd _ _ _) fun _=>Du (Gd _ _ _) fun _=>AbN (Gd _ _ _)
def RestP (s:Ac):Prop :=
 (1≤s.weight∧s.weight≤10000)∧BandP s∧(0≤s.clampMin∧s.clampMin≤10000)∧(0≤s.clampMax∧s.clampMax≤10000)∧okSet 16 s.cpus∧okSet 8 s.mems∧(0≤s.partition∧s.partition≤1) ∧
 Fk s.memory=some true∧Ex s.devices=some true
def CheckP (s:Ac):Prop:=(s.pidsMax=4611686018427387904∨(0≤s.pidsMax∧s.pidsMax≤1099511627776))∧RestP s
structure Bp (s:Ac):Prop where
 cpus:s.cpus.length≤1000000
 mems:s.mems.length≤1000000
 devices:s.devices.length≤1000000
theorem AhH {m:Option Bool} (h:∃ b,m=some b):Ok m (fun b=>b=true↔m=some true):=by
 obtain ⟨b,h⟩:=h
 exact ⟨b,h,by rw [h]; simp⟩
theorem Aav {s:Ac} (hs:Bp s):Ok (Ax s) (fun b=>b=true↔CheckP s):=by
 have h1:=hs.cpus
 have h2:=hs.mems
 have h3:=hs.devices
 unfold Ax Bt CheckP
 refine Aqy (fun c => ?_) fun c => ?_
 ·have c:=beq_iff_eq.mp c
  have:(s.pidsMax=4611686018427387904∨(0≤s.pidsMax∧s.pidsMax≤1099511627776))↔True:=by simp [c]
  rw [this,true_and]
  exact Du (Gd _ _ _) fun _=>Du (AfH s) fun _=>Du (Gd _ _ _) fun _=>Du (Gd _ _ _) fun _=>Du (Oh _ _ (by omega)) fun _ =>
   Du (Oh _ _ (by omega)) fun _=>Du (Gd _ _ _) fun _=>Du (AhH (Adi _)) fun _=>AbN (AhH (Acq _ (by omega)))
 ·have c:¬ s.pidsMax=4611686018427387904:=by simpa using c
  have:(s.pidsMax=4611686018427387904∨(0≤s.pidsMax∧s.pidsMax≤1099511627776))↔(0≤s.pidsMax∧s.pidsMax≤1099511627776):=by simp [c]
  rw [this]
  exact Du (Gd _ _ _) fun _=>Du (Gd _ _ _) fun _=>Du (AfH s) fun _=>Du (Gd _ _ _) fun _=>Du (Gd _ _ _) fun _=>Du (Oh _ _ (by omega)) fun _ =>
   Du (Oh _ _ (by omega)) fun _=>Du (Gd _ _ _) fun _=>Du (AhH (Adi _)) fun _=>AbN (AhH (Acq _ (by omega)))
def dfS : Ac := { pidsMax:=4611686018427387904,weight:=100,quota:=4611686018427387904,period:=100000,burst:=0,clampMin:=0,clampMax:=10000,cpus := [],mems := [],partition:=0,memory := { min:=0,low:=0,high:=4611686018427387904,max:=4611686018427387904,swapMax:=4611686018427387904,together:=false },devices := [] }
def cfg (l:List Ag) (g:Int):Ac:=(l.find? (fun x=>x.group==g)).elim dfS (·.settings)
theorem dfS_ok : CheckP dfS:=by
 have e1:Fk dfS.memory=some true:=by kernel_rfl
 have e2:Ex dfS.devices=some true:=by kernel_rfl
 refine ⟨.inl rfl,⟨by simp [dfS],by simp [dfS]⟩,?_,by simp [dfS],by simp [dfS],⟨List.Pairwise.nil,fun x hx=>by simp [dfS] at hx⟩,⟨List.Pairwise.nil,fun x hx=>by simp [dfS] at hx⟩,by simp [dfS],e1,e2⟩
 unfold BandP
 simp [dfS]
theorem AlI : Bp dfS:=⟨by simp [dfS],by simp [dfS],by simp [dfS]⟩
theorem Amu {s:Ac} (h:Bp s):Afp s=some s:=by
 have h1:=h.cpus
 have h2:=h.mems
 have h3:=h.devices
 unfold Afp
 rw [if_pos (by omega),if_pos (by omega),if_pos (by omega)]
theorem Pu {s:Ac} (h:Bp s):Da s=some s:=by
 have h1:=h.cpus
 have h2:=h.mems
 have h3:=h.devices
 unfold Da Eu
 rw [Xi (by omega),Option.bind_some,Xi (by omega),Option.bind_some,if_pos (by omega),Option.bind_some]
theorem cfg_small {l:List Ag} (h:∀ x∈l,Bp x.settings) (g:Int):Bp (cfg l g):=by
 unfold cfg
 cases hf:l.find? (fun x=>x.group==g) with
 | none=>exact AlI
 | some x=>exact h x (List.mem_of_find?_eq_some hf)
theorem Get_ref11_eq {l:List Ag} (hl:l.length≤1000000) (h:∀ x∈l,Bp x.settings) (g:Int):AlG l g=some (cfg l g):=by
 unfold AlG
 rw [if_pos (by omega)]
 apply Ok.eq
 refine Ok.range (fun pre _=>∀ x∈pre,(x.group==g)=false) (by simp) ?_ ?_
 ·intro pre x post s n he hp hn
  unfold AiT
  refine Aqy (fun c => ?_) fun c=>hn () ?_
  ·rw [Amu (h x (by rw [he]; simp)),Option.bind_some]
   refine Ok.ret ?_
   have hf:l.find? (fun x=>x.group==g)=some x:=by
    rw [he,List.find?_append,List.find?_eq_none.mpr (fun y hy=>by rw [hp y hy]; simp),Option.none_or,List.find?_cons,c]
   unfold cfg
   rw [hf]
   rfl
  ·intro y hy
   rcases List.mem_append.mp hy with h|h
   ·exact hp y h
   ·simp at h; subst h; exact c
 ·intro s hp
  refine Ok.of_eq (b:=dfS) rfl ?_
  have hf:l.find? (fun x=>x.group==g)=none:=List.find?_eq_none.mpr (fun y hy=>by rw [hp y hy]; simp)
  unfold cfg
  rw [hf]
  rfl
theorem Mw {l:List Ag} (hl:l.length≤1000000) (h:∀ x∈l,Bp x.settings) (g:Int):Hn l g=some (cfg l g):=by
 unfold Hn Vg Ee
 rw [if_pos (by omega),Nl (p:=fun x:Ag=>x.group==g) (fun k x n=>by
  unfold Ez We
  rw [Option.bind_some]) rfl,Option.bind_some,Option.bind_some]
 rcases Tb (fun x:Ag=>x.group==g) l default with ⟨i,h1,h2,h3⟩|⟨h1,h2⟩
 ·rw [h2,Option.elim_some,if_neg (by simp),if_pos (by omega)]
  simp only [Int.toNat_natCast]
  rw [Pu (h _ (Nh h1)),Option.bind_some]
  unfold cfg
  rw [h3]
  rfl
 ·rw [h1,Option.elim_none,if_pos (by simp)]
  unfold cfg
  rw [h2]
  rfl
end Go.Dm

namespace Go.Dm
theorem Afb {L:List Int} (p:Int→Bool) (h:Asc L):Asc (L.filter p):=h.sublist List.filter_sublist
theorem AdT (L:List Int) (x:Int) (hl:L.length≤9223372036854775807):Zr L x=some (L.contains x):=by
 unfold Zr
 rw [Amj L x hl,Option.bind_some]
theorem AkV {A B:List Int} (ha:A.length≤1000000) (hb:B.length≤9223372036854775807):Ve A B=some (A.all (fun x=>B.contains x)):=by
 unfold Ve Fp Gj
 rw [if_pos (by omega),Nl (p:=fun x:Int => !B.contains x) (fun k x n=>by
  unfold Jo Abb
  rw [AdT _ _ hb,Option.bind_some,Option.bind_some]) rfl,Option.bind_some,Option.bind_some]
 rcases Tb (fun x:Int => !B.contains x) A 0 with ⟨i,h1,h2,h3⟩|⟨h1,h2⟩
 ·rw [h2,Option.elim_some]
  congr 1
  have hx:=List.find?_some h3
  have:A.all (fun x=>B.contains x)=false:=by
   rw [Bool.eq_false_iff]
   intro hall
   rw [List.all_eq_true] at hall
   have:=hall _ (List.mem_of_find?_eq_some h3)
   rw [this] at hx
   simp at hx
  rw [this]
  simp
 ·rw [h1,Option.elim_none]
  congr 1
  have:A.all (fun x=>B.contains x)=true:=by
   rw [List.all_eq_true]
   intro x hx
   rw [List.find?_eq_none] at h2
   have:=h2 x hx
   simpa using this
  rw [this]
  rfl
theorem Adh {L:List Int} (hl:L.length≤1000) (h:Asc L):Vb L=some L:=by
 unfold Vb
 rw [Xi (by omega),Option.bind_some,sort_asc h hl,Option.bind_some,if_pos rfl,AoB h (by omega),Option.bind_some]
 simp only
 rw [if_pos trivial,if_pos (Nat.le_refl _),List.take_length]
theorem AfD {B:List Int} (hb:B.length≤9223372036854775807) (x:Int):Fj x B=some (B.contains x):=by
 unfold Fj AcC
 rw [AdT _ _ hb,Option.bind_some,Option.bind_some,Bool.not_not]
theorem AfK {B:List Int} (hb:B.length≤9223372036854775807) (x:Int):Ej x B=some (!B.contains x):=by
 unfold Ej Wp
 rw [AdT _ _ hb,Option.bind_some,Option.bind_some]
theorem Aje {B:List Int} (hb:B.length≤9223372036854775807) (L:List Int) (h2:L.length≤1000000) :
  Ok (Cw L B) (fun r=>r.2.1.length=L.length∧r.1≤L.length∧r.2.1.take r.1=L.filter (fun x => !B.contains x)∧r.2.2=B):=by
 unfold Cw Ec
 rw [if_pos (by omega),Nl (p:=fun x=>B.contains x) (fun k x n=>by
  unfold Fq
  rw [AfD hb,Option.bind_some]) rfl]
 refine Ok.step rfl ?_
 rcases Tb (fun x=>B.contains x) L 0 with ⟨i,h1,h2',h3⟩|⟨h1,h2'⟩
 ·rw [h2',Option.elim_some]
  refine Aqy (fun c=>by have:=beq_iff_eq.mp c; omega) fun _ => ?_
  have e1:w64 ((i:Int)+1)=((i+1:Nat):Int):=by
   rw [Bz (by omega) (by omega)]
   omega
  rw [e1]
  have hh:=List.findIdx?_eq_some_iff_getElem.mp h2'
  obtain ⟨g1,g2,g3⟩:=hh
  refine AiR (p:=fun x=>B.contains x) (d:=0) h2 h1 ?_ ?_ ?_ ?_
  ·intro x hx
   obtain ⟨j,hj,rfl⟩:=List.getElem_of_mem hx
   rw [List.length_take] at hj
   rw [List.getElem_take]
   have:=g3 j (by omega)
   simpa using this
  ·rw [Ff h1]
   exact g2
  ·intro M i j n hM hij hj hn
   unfold Dr Ct
   simp only
   have ei:Int.toNat (i:Int)=i:=by omega
   have ej:Int.toNat (j:Int)=j:=by omega
   rw [ei,ej]
   refine Aqy (fun _ => ?_) fun c=>by
    have:=of_decide_eq_false c
    omega
   refine Ok.guard (by omega) (Ok.guard (by omega) ?_)
   rw [AfD hb,Option.bind_some]
   have ej1:w64 ((j:Int)+1)=((j+1:Nat):Int):=by
    rw [Bz (by omega) (by omega)]
    omega
   have ei1:w64 ((i:Int)+1)=((i+1:Nat):Int):=by
    rw [Bz (by omega) (by omega)]
    omega
   rw [ej1,ei1]
   refine Aqy (fun c => ?_) fun c => ?_
   ·refine Ok.guard (by omega) (Ok.guard (by omega) (hn _ ?_))
    rw [if_neg]
    simpa using c
   ·refine hn _ ?_
    rw [if_pos]
    rw [Bool.not_eq_false'] at c
    exact c
  ·intro M i n hM hi ht
   unfold Dr
   simp only
   have ei:Int.toNat (i:Int)=i:=by omega
   rw [ei,Aen]
   refine Aqy (fun c=>by have:=of_decide_eq_true c; omega) fun _ => ?_
   have hfl:(Hj M i (M.length-i) (0:Int)).length=M.length:=Agy (by omega)
   refine Ok.guard (by omega) (Ok.guard (by omega) (Ok.guard (by rw [hfl]; omega) (Ok.ret ⟨by simp only; rw [hfl,hM],hi,?_,rfl⟩)))
   simp only
   rw [Akt (by omega),ht]
 ·rw [h1,Option.elim_none]
  refine Aqy (fun _=>Ok.ret ⟨rfl,Nat.le_refl _,?_,rfl⟩) fun c=>by simp at c
  simp only [List.take_length]
  symm
  rw [List.filter_eq_self]
  intro x hx
  rw [List.find?_eq_none] at h2'
  have:=h2' x hx
  simpa using this
theorem AiY {B:List Int} (hb:B.length≤9223372036854775807) (L:List Int) (h2:L.length≤1000000) :
  Ok (Co L B) (fun r=>r.2.1.length=L.length∧r.1≤L.length∧r.2.1.take r.1=L.filter (fun x=>B.contains x)∧r.2.2=B):=by
 have hff:L.filter (fun x => !(!B.contains x))=L.filter (fun x=>B.contains x):=by
  congr 1
  funext x
  simp
 unfold Co Dp
 rw [if_pos (by omega),Nl (p:=fun x => !B.contains x) (fun k x n=>by
  unfold Ey
  rw [AfK hb,Option.bind_some]) rfl]
 refine Ok.step rfl ?_
 rcases Tb (fun x => !B.contains x) L 0 with ⟨i,h1,h2',h3⟩|⟨h1,h2'⟩
 ·rw [h2',Option.elim_some]
  refine Aqy (fun c=>by have:=beq_iff_eq.mp c; omega) fun _ => ?_
  have e1:w64 ((i:Int)+1)=((i+1:Nat):Int):=by
   rw [Bz (by omega) (by omega)]
   omega
  rw [e1]
  have hh:=List.findIdx?_eq_some_iff_getElem.mp h2'
  obtain ⟨g1,g2,g3⟩:=hh
  refine AiR (p:=fun x => !B.contains x) (d:=0) h2 h1 ?_ ?_ ?_ ?_
  ·intro x hx
   obtain ⟨j,hj,rfl⟩:=List.getElem_of_mem hx
   rw [List.length_take] at hj
   rw [List.getElem_take]
   have:=g3 j (by omega)
   simpa using this
  ·rw [Ff h1]
   exact g2
  ·intro M i j n hM hij hj hn
   unfold Dg Ck
   simp only
   have ei:Int.toNat (i:Int)=i:=by omega
   have ej:Int.toNat (j:Int)=j:=by omega
   rw [ei,ej]
   refine Aqy (fun _ => ?_) fun c=>by
    have:=of_decide_eq_false c
    omega
   refine Ok.guard (by omega) (Ok.guard (by omega) ?_)
   rw [AfK hb,Option.bind_some]
   have ej1:w64 ((j:Int)+1)=((j+1:Nat):Int):=by
    rw [Bz (by omega) (by omega)]
    omega
   have ei1:w64 ((i:Int)+1)=((i+1:Nat):Int):=by
    rw [Bz (by omega) (by omega)]
    omega
   rw [ej1,ei1]
   refine Aqy (fun c => ?_) fun c => ?_
   ·refine Ok.guard (by omega) (Ok.guard (by omega) (hn _ ?_))
    rw [if_neg]
    simpa using c
   ·refine hn _ ?_
    rw [if_pos]
    rw [Bool.not_eq_false'] at c
    exact c
  ·intro M i n hM hi ht
   unfold Dg
   simp only
   have ei:Int.toNat (i:Int)=i:=by omega
   rw [ei,Aen]
   refine Aqy (fun c=>by have:=of_decide_eq_true c; omega) fun _ => ?_
   have hfl:(Hj M i (M.length-i) (0:Int)).length=M.length:=Agy (by omega)
   refine Ok.guard (by omega) (Ok.guard (by omega) (Ok.guard (by rw [hfl]; omega) (Ok.ret ⟨by simp only; rw [hfl,hM],hi,?_,rfl⟩)))
   simp only
   rw [Akt (by omega),ht]
   exact hff
 ·rw [h1,Option.elim_none]
  refine Aqy (fun _=>Ok.ret ⟨rfl,Nat.le_refl _,?_,rfl⟩) fun c=>by simp at c
  simp only [List.take_length]
  symm
  rw [List.filter_eq_self]
  intro x hx
  rw [List.find?_eq_none] at h2'
  have:=h2' x hx
  simpa using this
def Uv (A B:List Int):List Int:=A.filter (fun x => !B.contains x)
def AhB (A B:List Int):List Int:=A.filter (fun x=>B.contains x)
def Qj (A B:List Int):List Int:=if (AhB A B).length>0 then AhB A B else B
theorem Amx {A B:List Int} (h:Asc A) (ha:A.length≤1000) (hb:B.length≤9223372036854775807):Ys A B=some (Uv A B):=by
 unfold Ys Mh
 obtain ⟨r,d1,d2,d3,d4,d5⟩:=Aje hb A (by omega)
 rw [Adh ha h,Option.bind_some,d1,Option.bind_some,if_pos d2.symm,if_pos (by omega),Option.bind_some,d4]
 rfl
theorem AhZ {A B:List Int} (h:Asc A) (ha:A.length≤1000) (hb:B.length≤9223372036854775807):Tl A B=some (AhB A B):=by
 unfold Tl Jt
 obtain ⟨r,d1,d2,d3,d4,d5⟩:=AiY hb A (by omega)
 rw [Adh ha h,Option.bind_some,d1,Option.bind_some,if_pos d2.symm,if_pos (by omega),Option.bind_some,d4]
 rfl
theorem among_eq {A B:List Int} (h:Asc A) (ha:A.length≤1000) (hb:B.length≤1000):Xx A B=some (Qj A B):=by
 unfold Xx Qj
 rw [AhZ h ha (by omega),Option.bind_some]
 by_cases c:(AhB A B).length>0
 ·rw [if_pos c,if_pos (by simpa using c)]
 ·rw [if_neg c,if_neg (by simpa using c),Xi (by omega),Option.bind_some]
structure FitsS (t:Af) (l:List Ag):Prop where
 wf:WfT t
 grp:l.map (·.group)=t.nodes.map (·.id)
 chk:∀ x∈l,CheckP x.settings
theorem FitsS.len {t:Af} {l:List Ag} (f:FitsS t l):l.length=t.nodes.length:=by
 have:=congrArg List.length f.grp
 simpa using this
theorem Abr {t:Af} {l:List Ag} (hm:∀ x∈t.nodes,AhO x) (ht:t.nodes.length≤1000000) (hl:l.length≤1000000) (hs:∀ x∈l,Bp x.settings):Ok (Kh t l) (fun b=>b=true↔FitsS t l):=by
 unfold Kh
 by_cases w:WfT t
 ·rw [Acy w,Option.bind_some,if_neg (by simp)]
  unfold Mr
  refine Aqy (fun c=>Ok.ret ?_) fun c => ?_
  ·have c:¬ ((l.length:Nat):Int)=((t.nodes.length:Nat):Int):=by simpa using c
   simp only [Bool.false_eq_true,false_iff]
   intro f
   have:=f.len
   omega
  ·have hlen:l.length=t.nodes.length:=by
    have c:((l.length:Nat):Int)=((t.nodes.length:Nat):Int):=by simpa using c
    omega
   refine Ok.guard (by omega) ?_
   refine Ok.range (fun pre _=>(l.take pre.length).map (·.group)=pre.map (·.id)∧∀ x∈l.take pre.length,CheckP x.settings) ⟨by simp,by simp⟩ ?_ ?_
   ·intro pre x post s n he hp hn
    unfold AcV Rs
    have hpl:pre.length+1≤t.nodes.length:=by rw [he]; simp
    have htk:l.take (pre.length+1)=l.take pre.length ++ [l.getD pre.length default]:=by
     rw [List.take_add_one,List.getElem?_eq_getElem (by omega),Option.toList_some,Ff (by omega)]
    have hmem:l.getD pre.length default∈l:=Nh (by omega)
    have hx:t.nodes.getD pre.length default=x:=by rw [he]; exact Wn
    refine Ok.guard (by omega) (Aqy (fun c=>Ok.ret ?_) fun c=>Ok.guard (by omega) ?_)
    ·have c:¬ (l.getD pre.length default).group=x.id:=by simpa using c
     simp only [Bool.false_eq_true,false_iff]
     intro f
     apply c
     have:=congrArg (fun q=>q[pre.length]?) f.grp
     simp only [List.getElem?_map] at this
     rw [List.getElem?_eq_getElem (by omega),List.getElem?_eq_getElem (by omega)] at this
     simp only [Option.map_some,Option.some.injEq] at this
     rw [Ff (by omega),this,← Ff (d:=default) (by omega),hx]
    ·have c:(l.getD pre.length default).group=x.id:=by simpa using c
     obtain ⟨b,hb,hbi⟩:=Aav (hs _ hmem)
     rw [hb,Option.bind_some]
     refine Aqy (fun c2=>Ok.ret ?_) fun c2=>hn () ⟨?_,?_⟩
     ·simp only [Bool.false_eq_true,false_iff]
      intro f
      rw [hbi.mpr (f.chk _ hmem)] at c2
      simp at c2
     ·rw [List.length_append,List.length_singleton,htk,List.map_append,List.map_append,hp.1,List.map_singleton,List.map_singleton,c]
     ·rw [List.length_append,List.length_singleton,htk]
      intro y hy
      rcases List.mem_append.mp hy with h|h
      ·exact hp.2 y h
      ·simp only [List.mem_singleton] at h
       subst h
       exact hbi.mp (by simpa using c2)
   ·intro s hp
    refine Ok.of_eq (b:=true) rfl ?_
    have:l.take t.nodes.length=l:=List.take_of_length_le (by omega)
    rw [this] at hp
    simp only [true_iff]
    exact ⟨w,hp.1,hp.2⟩
 ·rw [AnA hm w,Option.bind_some,if_pos (by simp)]
  unfold Mr
  rw [if_pos rfl]
  exact Ok.ret (by simp only [Bool.false_eq_true,false_iff]; exact fun f=>w f.wf)
structure Usable (t:Af) (l:List Ag) (on:List Int) (n:Int):Prop where
 fits:FitsS t l
 pos:0<on.length
 set:okSet n on
theorem AoO {t:Af} {l:List Ag} {on:List Int} {n:Int} (hm:∀ x∈t.nodes,AhO x) (ht:t.nodes.length≤1000000) (hl:l.length≤1000000) (hs:∀ x∈l,Bp x.settings) (ho:on.length≤9223372036854775807) :
  Ok (Qt t l on n) (fun b=>b=true↔Usable t l on n):=by
 unfold Qt Ms
 have h:=Du (Abr hm ht hl hs) (R:=0<on.length∧okSet n on) (rest:=(if (decide (((on.length:Nat):Int)>0)) then (Option.bind (Kp on n) fun r4=>some r4) else some false)) fun _=>by
  refine Aqy (fun c => ?_) fun c=>Ok.ret ?_
  ·have c:0<on.length:=by have:=of_decide_eq_true c; omega
   refine (AbN (Oh on n ho)).mono fun b hb => ?_
   rw [hb]
   simp [c]
  ·have c:=of_decide_eq_false c
   simp only [Bool.false_eq_true,false_iff]
   intro ⟨h,_⟩
   omega
 exact h.mono fun b hb=>hb.trans ⟨fun ⟨a,b,c⟩=>⟨a,b,c⟩,fun u=>⟨u.fits,u.pos,u.set⟩⟩
end Go.Dm

namespace Go.Dm
theorem rangeM_ok {S R:Type} {B:Int→S→(S→Option R)→Option R} {D:S→Option R} {r:R} (I:(Int→Bool)→S→Prop)
  (step:∀ rem s n N,rem n=true→I rem s→(∀ s',I (Ay rem n false) s'→N s'=some r)→B n s N=some r) (fin:∀ s,I (fun _=>false) s→D s=some r) :
  ∀ (m:Nat) (ks:List Int) (rem:Int→Bool) (s:S),ks.Nodup→ks.length<m→(∀ n,rem n=true↔n∈ks)→I rem s→rangeM B D m rem s=some r:=by
 intro m
 induction m with
 | zero=>intro ks rem s _ h; omega
 | succ m ih =>
  intro ks rem s hn hl hr hi
  rw [rangeM]
  by_cases h0:∀ n,rem n=false
  ·rw [if_pos h0]
   have:rem=fun _=>false:=funext h0
   subst this
   exact fin s hi
  ·rw [if_neg h0]
   have key:∀ n,rem n=true→B n s (rangeM B D m (Ay rem n false))=some r:=by
    intro n hrn
    have hnk:=(hr n).mp hrn
    refine step rem s n _ hrn hi fun s' hi' => ?_
    refine ih (ks.filter (fun k=>k != n)) (Ay rem n false) s' (hn.sublist List.filter_sublist) ?_ (fun k => ?_) hi'
    ·have:(ks.filter (fun k=>k != n)).length<ks.length:=by
      apply List.length_filter_lt_length_iff_exists.mpr
      exact ⟨n,hnk,by simp⟩
     omega
    ·simp only [Ay,List.mem_filter,bne_iff_ne,ne_eq]
     split
     ·rename_i e; subst e; simp
     ·rename_i e; rw [hr k]; simp [e]
   have hex:∃ r,∀ n,rem n=true→B n s (rangeM B D m (Ay rem n false))=some r:=⟨r,key⟩
   rw [dif_pos hex]
   have h1:∃ n,rem n=true:=by
    by_cases h:∃ n,rem n=true
    ·exact h
    ·exact absurd (fun n=>by
      cases hq:rem n with
      | false=>rfl
      | true=>exact absurd ⟨n,hq⟩ h) h0
   obtain ⟨n,hn1⟩:=h1
   have:=hex.choose_spec n hn1
   rw [key n hn1] at this
   exact this.symm
def Aak (al:Bool) (left:List Int) (s:Ac):Bool:=s.partition==1&&al&&decide (0<s.cpus.length)&&s.cpus.all (fun x=>left.contains x)&&decide (s.cpus.length<left.length)
def Ci (l:List Ag) (al:Bool):List Int→List Int→List Int×List Int
 | [],left=>(left,[])
 | c::r,left=>if Aak al left (cfg l c) then ((Ci l al r (Uv left (cfg l c).cpus)).1,c::(Ci l al r (Uv left (cfg l c).cpus)).2) else Ci l al r left
theorem Ado {l:List Ag} {al:Bool} {x:Int} : ∀ (pre:List Int) (left:List Int),
  Ci l al (pre ++ [x]) left=if Aak al (Ci l al pre left).1 (cfg l x) then (Uv (Ci l al pre left).1 (cfg l x).cpus,(Ci l al pre left).2 ++ [x]) else Ci l al pre left
 | [],left=>by
  by_cases h:Aak al left (cfg l x)=true <;> simp [Ci,h]
 | c::r,left=>by
  rw [List.cons_append,Ci,Ado r left,Ado r (Uv left (cfg l c).cpus)]
  rw [Ci]
  by_cases h:Aak al left (cfg l c)=true
  ·rw [if_pos h,if_pos h]
   simp only
   split <;> simp
  ·rw [if_neg h,if_neg h]
theorem Pm {l:List Ag} {al:Bool} : ∀ (ks left:List Int),(∀ x∈(Ci l al ks left).1,x∈left)∧(∀ c∈(Ci l al ks left).2,c∈ks)∧(Asc left→Asc (Ci l al ks left).1)
 | [],left=>by simp [Ci]
 | c::r,left=>by
  rw [Ci]
  by_cases h:Aak al left (cfg l c)=true
  ·rw [if_pos h]
   obtain ⟨h1,h2,h3⟩:=Pm r (Uv left (cfg l c).cpus) (l:=l) (al:=al)
   refine ⟨fun x hx=>(List.mem_filter.mp (h1 x hx)).1,fun d hd => ?_,fun ha=>h3 (Afb _ ha)⟩
   rcases List.mem_cons.mp hd with rfl|hd
   ·simp
   ·simp [h2 d hd]
  ·rw [if_neg h]
   obtain ⟨h1,h2,h3⟩:=Pm r left (l:=l) (al:=al)
   exact ⟨h1,fun d hd=>by simp [h2 d hd],h3⟩
def AhT (t:Af) (l:List Ag) (g:Int) (s:List Int) (al:Bool):List Int:=(Ci l al (Bd t g) s).1
def Mx (t:Af) (l:List Ag) (g:Int) (s:List Int) (al:Bool):List Int:=(Ci l al (Bd t g) s).2
def stC (t:Af) (l:List Ag) (on:List Int):List Int→List Int×Bool
 | []=>([],false)
 | [_]=>(on,false)
 | c::p::r =>
  if (Mx t l p (stC t l on (p::r)).1 (p==1||(stC t l on (p::r)).2)).contains c then ((cfg l c).cpus,true)
  else (Qj (cfg l c).cpus (AhT t l p (stC t l on (p::r)).1 (p==1||(stC t l on (p::r)).2)),false)
def Dn (t:Af) (l:List Ag) (on:List Int) (g:Int):List Int:=(stC t l on (upT t g)).1
def Dy (t:Af) (l:List Ag) (on:List Int) (g:Int):Bool:=(stC t l on (upT t g)).2
def Js (t:Af) (l:List Ag) (on:List Int) (g:Int):Bool:=g==1||Dy t l on g
def Uu (t:Af) (l:List Ag) (on:List Int) (g:Int):List Int:=AhT t l g (Dn t l on g) (Js t l on g)
def Ip (t:Af) (l:List Ag) (on:List Int) (g:Int):List Int:=Mx t l g (Dn t l on g) (Js t l on g)
def Bw (t:Af) (g x:Int):Bool:=(upT t x).contains g
variable {t : Af} {l:List Ag} {on:List Int}
theorem below_iff {g x:Int} : Bw t g x=true↔g∈upT t x:=by simp [Bw]
theorem AaI (w:WfT t) {g c:Int} (hc:c∈Bd t g):upT t c=c::upT t g∧Dx t c=true∧g<c:=by
 obtain ⟨x,hx,rfl,rfl⟩:=kids_iff.mp hc
 exact ⟨w.up hx,hasN_iff.mpr ⟨x,hx,rfl⟩,w.par_lt hx⟩
theorem root_up (w:WfT t):upT t 1 = [1]:=by
 obtain ⟨x,r,e,hr⟩:=w.root
 have hx:x∈t.nodes:=by rw [e]; simp
 have:=w.up hx
 rw [hr.id,hr.parent,w.upZero] at this
 exact this
theorem AjP (w:WfT t):Dn t l on 1=on∧Dy t l on 1=false:=by
 unfold Dn Dy
 rw [root_up w]
 exact ⟨rfl,rfl⟩
theorem AhP {g:Int} (w:WfT t) (h:Dx t g=true):∃ r,upT t g=g::r:=⟨_,up_cons w h⟩
theorem AaL (w:WfT t) {g c:Int} (hg:Dx t g=true) (hc:c∈Bd t g) :
  Dy t l on c=(Ip t l on g).contains c∧Dn t l on c=(if (Ip t l on g).contains c then (cfg l c).cpus else Qj (cfg l c).cpus (Uu t l on g)):=by
 obtain ⟨e1,e2,e3⟩:=AaI w hc
 obtain ⟨r,er⟩:=AhP w hg
 unfold Dy Dn
 rw [e1,er,stC]
 unfold Ip Uu Dn Js Dy
 rw [er]
 by_cases h:(Mx t l g (stC t l on (g::r)).1 (g==1||(stC t l on (g::r)).2)).contains c=true
 ·rw [if_pos h,if_pos h,h]
  exact ⟨rfl,rfl⟩
 ·rw [if_neg h,if_neg h]
  simp only [Bool.not_eq_true] at h
  rw [h]
  exact ⟨rfl,rfl⟩
def setsA (t:Af) (l:List Ag) (on:List Int) (g:Int) (m:IMap (List Int)):IMap (List Int):=⟨fun x=>Bw t g x||m.has x,fun x=>if Bw t g x then Uu t l on x else m.get x⟩
def partA (t:Af) (l:List Ag) (on:List Int) (g:Int) (m:IMap Bool):IMap Bool:=⟨fun x=>(Bw t g x&&x != g&&Dy t l on x)||m.has x,fun x=>if Bw t g x&&x != g&&Dy t l on x then true else m.get x⟩
def Fr (m:IMap Bool) (ps:List Int):IMap Bool:=⟨fun x=>ps.contains x||m.has x,fun x=>if ps.contains x then true else m.get x⟩
def Ox (l:List Ag) (ps:List Int):IMap (List Int):=⟨fun x=>ps.contains x,fun x=>if ps.contains x then (cfg l x).cpus else []⟩
def Od (l:List Ag) (ps ms:List Int) (left:List Int):IMap (List Int):=⟨fun x=>ms.contains x||ps.contains x,fun x=>if ms.contains x then Qj (cfg l x).cpus left else if ps.contains x then (cfg l x).cpus else []⟩
theorem IMap.ext' {α:Type} {m n:IMap α} (h1:∀ x,m.has x=n.has x) (h2:∀ x,m.get x=n.get x):m=n:=by
 cases m
 cases n
 congr
 ·funext x; exact h1 x
 ·funext x; exact h2 x
theorem AmV (m:IMap Bool) (ps:List Int) (x:Int):(Fr m ps).set x true=Fr m (ps ++ [x]):=by
 apply IMap.ext'
 ·intro y
  simp only [IMap.set,Fr,Ay,List.contains_eq_mem,List.mem_append,List.mem_singleton]
  by_cases h:y=x
  ·simp [h]
  ·simp [h]
 ·intro y
  simp only [IMap.set,Fr,Ay,List.contains_eq_mem,List.mem_append,List.mem_singleton,decide_eq_true_eq]
  by_cases h:y=x
  ·simp [h]
  ·simp [h]
theorem AnX (ps:List Int) (x:Int):(Ox l ps).set x (cfg l x).cpus=Ox l (ps ++ [x]):=by
 apply IMap.ext'
 ·intro y
  simp only [IMap.set,Ox,Ay,List.contains_eq_mem,List.mem_append,List.mem_singleton]
  by_cases h:y=x
  ·simp [h]
  ·simp [h]
 ·intro y
  simp only [IMap.set,Ox,Ay,List.contains_eq_mem,List.mem_append,List.mem_singleton,decide_eq_true_eq]
  by_cases h:y=x
  ·simp [h]
  ·simp [h]
theorem AnZ (ps ms left:List Int) (x:Int):(Od l ps ms left).set x (Qj (cfg l x).cpus left)=Od l ps (ms ++ [x]) left:=by
 apply IMap.ext'
 ·intro y
  simp only [IMap.set,Od,Ay,List.contains_eq_mem,List.mem_append,List.mem_singleton]
  by_cases h:y=x
  ·simp [h]
  ·simp [h]
 ·intro y
  simp only [IMap.set,Od,Ay,List.contains_eq_mem,List.mem_append,List.mem_singleton,decide_eq_true_eq]
  by_cases h:y=x
  ·simp [h]
  ·simp [h]
theorem Apv (ps left:List Int):Ox l ps=Od l ps [] left:=by
 apply IMap.ext'
 ·intro y; simp [Ox,Od]
 ·intro y; simp [Ox,Od]
structure UseS (t:Af) (l:List Ag) (on:List Int):Prop where
 fits:FitsS t l
 pos:0<on.length
 set:okSet 16 on
theorem CheckP.small {s:Ac} (h:CheckP s):s.cpus.length≤16∧s.mems.length≤8∧Asc s.cpus∧Asc s.mems:=by
 obtain ⟨_,_,_,_,_,h1,h2,_,_,_⟩:=h
 have a1:=h1.len (by omega)
 have a2:=h2.len (by omega)
 exact ⟨by omega,by omega,h1.1,h2.1⟩
theorem cfg_mem {P:Ac→Prop} (h:∀ x∈l,P x.settings) (hd:P dfS) (g:Int):P (cfg l g):=by
 unfold cfg
 cases hf:l.find? (fun x=>x.group==g) with
 | none=>exact hd
 | some x=>exact h x (List.mem_of_find?_eq_some hf)
theorem FitsS.cfg (f:FitsS t l) (g:Int):CheckP (cfg l g):=cfg_mem f.chk dfS_ok g
theorem AdC (on16:okSet 16 on) {L:List Int} (h:∀ x∈L,x∈on) (ha:Asc L):L.length≤16:=by
 have:=(show okSet 16 L from ⟨ha,fun x hx=>on16.2 x (h x hx)⟩).len (by omega)
 omega
end Go.Dm

namespace Go.Dm
variable {t : Af} {l:List Ag} {on:List Int}
theorem cond_iff {al:Bool} {left:List Int} {s:Ac} : Aak al left s=true↔s.partition=1∧al=true∧0<s.cpus.length∧(∀ y∈s.cpus,y∈left)∧s.cpus.length<left.length:=by
 simp [Aak,and_assoc]
theorem AcT {al:Bool} (hc:∀ c,Asc (cfg l c).cpus):∀ (ks left:List Int),Asc left →
  (∀ c∈(Ci l al ks left).2,al=true∧(cfg l c).partition=1∧0<(cfg l c).cpus.length∧∀ y∈(cfg l c).cpus,y∈left∧y∉(Ci l al ks left).1) ∧
  (∀ y∈left,y∈(Ci l al ks left).1∨∃ c∈(Ci l al ks left).2,y∈(cfg l c).cpus) ∧
  (ks.Nodup→∀ c∈(Ci l al ks left).2,∀ d∈(Ci l al ks left).2,∀ y,y∈(cfg l c).cpus→y∈(cfg l d).cpus→c=d) ∧
  (0<left.length→0<(Ci l al ks left).1.length)
 | [],left,ha=>by simp [Ci]
 | c::r,left,ha=>by
  rw [Ci]
  by_cases h:Aak al left (cfg l c)=true
  ·rw [if_pos h]
   obtain ⟨c1,c2,c3,c4,c5⟩:=cond_iff.mp h
   have hm:∀ y,y∈Uv left (cfg l c).cpus↔y∈left∧y∉(cfg l c).cpus:=by
    intro y
    simp [Uv]
   obtain ⟨h1,h2,h3,h4⟩:=AcT (al:=al) hc r (Uv left (cfg l c).cpus) (Afb _ ha)
   obtain ⟨s1,s2,s3⟩:=Pm (l:=l) (al:=al) r (Uv left (cfg l c).cpus)
   refine ⟨fun d hd => ?_,fun y hy => ?_,fun hn d hd e he y hyd hye => ?_,fun hpos=>h4 ?_⟩
   ·simp only
    rcases List.mem_cons.mp hd with rfl|hd
    ·exact ⟨c2,c1,c3,fun y hy=>⟨c4 y hy,fun hy2=>((hm y).mp (s1 y hy2)).2 hy⟩⟩
    ·obtain ⟨g1,g2,g3,g4⟩:=h1 d hd
     exact ⟨g1,g2,g3,fun y hy=>⟨((hm y).mp (g4 y hy).1).1,(g4 y hy).2⟩⟩
   ·simp only
    by_cases hyc:y∈(cfg l c).cpus
    ·exact .inr ⟨c,by simp,hyc⟩
    ·rcases h2 y ((hm y).mpr ⟨hy,hyc⟩) with g|⟨d,hd,g⟩
     ·exact .inl g
     ·exact .inr ⟨d,by simp [hd],g⟩
   ·simp only at hd he
    rw [List.nodup_cons] at hn
    rcases List.mem_cons.mp hd with rfl|hd <;> rcases List.mem_cons.mp he with rfl|he
    ·rfl
    ·exact absurd hyd ((hm y).mp ((h1 e he).2.2.2 y hye).1).2
    ·exact absurd hye ((hm y).mp ((h1 d hd).2.2.2 y hyd).1).2
    ·exact h3 hn.2 d hd e he y hyd hye
   ·apply Nat.pos_of_ne_zero
    intro h0
    have he:=List.eq_nil_of_length_eq_zero h0
    have:left.length≤(cfg l c).cpus.length:=Ajf (AlS ha) fun y hy=>by
     by_cases hyc:y∈(cfg l c).cpus
     ·exact hyc
     ·have:=(hm y).mpr ⟨hy,hyc⟩
      rw [he] at this
      simp at this
    omega
  ·rw [if_neg h]
   obtain ⟨h1,h2,h3,h4⟩:=AcT (al:=al) hc r left ha
   exact ⟨h1,h2,fun hn=>h3 (List.nodup_cons.mp hn).2,h4⟩
theorem UseS.asc (u:UseS t l on) (c:Int):Asc (cfg l c).cpus:=(u.fits.cfg c).small.2.2.1
theorem UseS.w (u:UseS t l on):WfT t:=u.fits.wf
theorem among_mem {A B:List Int} : ∀ y∈Qj A B,y∈B:=by
 intro y hy
 unfold Qj at hy
 split at hy
 ·simp only [AhB,List.mem_filter,List.contains_eq_mem,decide_eq_true_eq] at hy
  exact hy.2
 ·exact hy
theorem among_asc {A B:List Int} (ha:Asc A) (hb:Asc B):Asc (Qj A B):=by
 unfold Qj
 split
 ·exact Afb _ ha
 ·exact hb
theorem among_pos {A B:List Int} (hb:0<B.length):0<(Qj A B).length:=by
 unfold Qj
 split
 ·assumption
 ·exact hb
theorem share_ok (u:UseS t l on):∀ x∈t.nodes,Asc (Dn t l on x.id)∧(∀ y∈Dn t l on x.id,y∈on)∧0<(Dn t l on x.id).length:=by
 refine u.w.induct fun x hx ih => ?_
 rcases u.w.p.par x hx with ⟨h1,_⟩|⟨_,_,⟨y,hy,hyp⟩,_⟩
 ·rw [h1,(AjP u.w).1]
  exact ⟨u.set.1,fun y hy=>hy,u.pos⟩
 ·obtain ⟨i1,i2,i3⟩:=ih y hy hyp
  rw [hyp] at i1 i2 i3
  have hg:Dx t x.parent=true:=hasN_iff.mpr ⟨y,hy,hyp⟩
  have hk:x.id∈Bd t x.parent:=kids_iff.mpr ⟨x,hx,rfl,rfl⟩
  obtain ⟨e1,e2⟩:=AaL (l:=l) (on:=on) u.w hg hk
  rw [e2]
  obtain ⟨p1,p2,p3,p4⟩:=AcT (al:=Js t l on x.parent) u.asc (Bd t x.parent) _ i1
  obtain ⟨s1,s2,s3⟩:=Pm (l:=l) (al:=Js t l on x.parent) (Bd t x.parent) (Dn t l on x.parent)
  split
  ·rename_i hc
   have hc:x.id∈Ip t l on x.parent:=by simpa using hc
   obtain ⟨_,_,q3,q4⟩:=p1 _ hc
   exact ⟨u.asc _,fun y hy=>i2 y (q4 y hy).1,q3⟩
  ·exact ⟨among_asc (u.asc _) (s3 i1),fun y hy=>i2 y (s1 y (among_mem y hy)),among_pos (p4 i3)⟩
theorem Alw (u:UseS t l on) {g:Int} (h:Dx t g=true):Asc (Dn t l on g)∧(∀ y∈Dn t l on g,y∈on)∧0<(Dn t l on g).length∧(Dn t l on g).length≤16:=by
 obtain ⟨x,hx,rfl⟩:=hasN_iff.mp h
 obtain ⟨h1,h2,h3⟩:=share_ok u x hx
 exact ⟨h1,h2,h3,AdC u.set h2 h1⟩
theorem AkP (u:UseS t l on) {g:Int} (h:Dx t g=true):Asc (Uu t l on g)∧(∀ y∈Uu t l on g,y∈Dn t l on g)∧0<(Uu t l on g).length∧(Uu t l on g).length≤16:=by
 obtain ⟨h1,h2,h3,_⟩:=Alw u h
 obtain ⟨p1,p2,p3,p4⟩:=AcT (al:=Js t l on g) u.asc (Bd t g) _ h1
 obtain ⟨s1,s2,s3⟩:=Pm (l:=l) (al:=Js t l on g) (Bd t g) (Dn t l on g)
 exact ⟨s3 h1,s1,p4 h3,AdC u.set (fun y hy=>h2 y (s1 y hy)) (s3 h1)⟩
theorem AnU (u:UseS t l on) (hs:∀ x∈l,Bp x.settings) {g:Int} {al:Bool} {p:plan} (ht:p.tree=t) (hl:p.configs=l) (hg:Dx t g=true) {s:List Int} (ha:Asc s) (h16:s.length≤16)
  (hal:p.partitions.get g=al) {rec:plan→Int→List Int→Option plan} {Q:plan→Prop}
  (fin:Ok (Jv rec p g (Ox l (Mx t l g s al),(Bd t g).filter (fun c => !(Mx t l g s al).contains c),Fr p.partitions (Mx t l g s al),AhT t l g s al)) Q) :
  Ok (Kr rec p g s) Q:=by
 have hlen:=u.fits.len
 have hn:=u.w.len2
 unfold Kr
 rw [ht,Ahs t g (by omega),Option.bind_some]
 have hk:=Acw t g
 refine Ok.guard (by omega) ?_
 refine Ok.range (fun pre s1=>s1=(Ox l (Ci l al pre s).2,pre.filter (fun c => !(Ci l al pre s).2.contains c),Fr p.partitions (Ci l al pre s).2,(Ci l al pre s).1)) ?_ ?_ ?_
 ·have e0:Fr p.partitions []=p.partitions:=by apply IMap.ext' <;> intro y <;> simp [Fr]
  simp only [Ci,List.filter_nil,e0]
  rfl
 ·intro pre x post s1 n he hI hn2
  subst hI
  have hxk:x∈Bd t g:=by rw [he]; simp
  obtain ⟨e1,e2,e3⟩:=AaI u.w hxk
  have hnd:(pre++x::post).Nodup:=by rw [← he]; exact Aki u.w g
  have hxpre:x∉pre:=fun h=>by
   rw [List.nodup_append] at hnd
   exact hnd.2.2 x h x (by simp) rfl
  obtain ⟨s1',s2',s3'⟩:=Pm (l:=l) (al:=al) pre s
  have hgpre:g∉(Ci l al pre s).2:=fun h=>by
   have hgk:g∈Bd t g:=by rw [he]; simp [s2' g h]
   have:=(AaI u.w hgk).2.2
   omega
  have hlen16:(Ci l al pre s).1.length≤16:=by
   have:=Ajf (AlS (s3' ha)) s1'
   omega
  unfold Xb Eo Jy
  rw [hl,Mw (by omega) hs,Option.bind_some]
  have hget:(Fr p.partitions (Ci l al pre s).2).get g=al:=by
   simp only [Fr,List.contains_eq_mem,hgpre,decide_false,Bool.false_eq_true,if_false]
   exact hal
  have hcs:=(u.fits.cfg x).small
  have hW:Ve (cfg l x).cpus (Ci l al pre s).1=some ((cfg l x).cpus.all (fun y=>(Ci l al pre s).1.contains y)):=AkV (by omega) (by omega)
  have hyes:Aak al (Ci l al pre s).1 (cfg l x)=true→Ok (Option.bind (Ys (Ci l al pre s).1 (cfg l x).cpus) fun r88=>n ((Ox l (Ci l al pre s).2).set x (cfg l x).cpus,pre.filter (fun c => !(Ci l al pre s).2.contains c),(Fr p.partitions (Ci l al pre s).2).set x true,r88)) Q:=by
   intro hc
   rw [Amx (s3' ha) (by omega) (by omega),Option.bind_some,AnX,AmV]
   refine hn2 _ ?_
   rw [Ado,if_pos hc]
   simp only
   congr 1
   congr 1
   rw [List.filter_append]
   have h1:pre.filter (fun c => !((Ci l al pre s).2 ++ [x]).contains c)=pre.filter (fun c => !(Ci l al pre s).2.contains c):=by
    apply List.filter_congr
    intro c hc2
    have:c≠x:=fun e=>hxpre (e▸hc2)
    simp [this]
   rw [h1]
   simp
  have hno:¬ Aak al (Ci l al pre s).1 (cfg l x)=true→Ok (if (pre.filter (fun c => !(Ci l al pre s).2.contains c)).length+1≤1073741824 then n (Ox l (Ci l al pre s).2,pre.filter (fun c => !(Ci l al pre s).2.contains c) ++ [x],Fr p.partitions (Ci l al pre s).2,(Ci l al pre s).1) else none) Q:=by
   intro hc
   have hpl:pre.length≤(Bd t g).length:=by rw [he]; simp
   have:=List.length_filter_le (fun c => !(Ci l al pre s).2.contains c) pre
   refine Ok.guard (by omega) (hn2 _ ?_)
   rw [Ado,if_neg hc,List.filter_append]
   have:x∉(Ci l al pre s).2:=fun h=>hxpre (s2' x h)
   simp [this]
  simp only [hget]
  by_cases c1:(cfg l x).partition=1
  ·rw [if_pos (by simpa using c1)]
   cases al with
   | true =>
    rw [if_pos rfl]
    by_cases c3:0<(cfg l x).cpus.length
    ·rw [if_pos (by simpa using c3),hW,Option.bind_some]
     by_cases c4:(cfg l x).cpus.all (fun y=>(Ci l true pre s).1.contains y)=true
     ·rw [if_pos c4]
      by_cases c5:(cfg l x).cpus.length<(Ci l true pre s).1.length
      ·rw [if_pos (by simpa using c5)]
       exact hyes (cond_iff.mpr ⟨c1,rfl,c3,by simpa using c4,c5⟩)
      ·rw [if_neg (by simpa using c5)]
       exact hno fun h=>c5 (cond_iff.mp h).2.2.2.2
     ·rw [if_neg c4,if_neg (by simp)]
      exact hno fun h=>c4 (by simpa using (cond_iff.mp h).2.2.2.1)
    ·rw [if_neg (by simpa using c3),if_neg (by simp)]
     exact hno fun h=>c3 (cond_iff.mp h).2.2.1
   | false =>
    rw [if_neg (by simp),if_neg (by simp)]
    exact hno fun h=>by have:=(cond_iff.mp h).2.1; simp at this
  ·rw [if_neg (by simpa using c1),if_neg (by simp)]
   exact hno fun h=>c1 (cond_iff.mp h).1
 ·intro s1 hI
  subst hI
  exact fin
theorem Amr (u:UseS t l on) (hs:∀ x∈l,Bp x.settings) {g:Int} {p:plan} (hl:p.configs=l) {ps ms left:List Int} {q:IMap Bool} (h16:left.length≤16) (hms:ms.length≤64)
  {rec:plan→Int→List Int→Option plan} {Q:plan→Prop} (fin:Ok (Nk rec p g (Ox l ps,ms,q,left) (Od l ps ms left)) Q):Ok (Jv rec p g (Ox l ps,ms,q,left)) Q:=by
 have hlen:=u.fits.len
 have hn:=u.w.len2
 unfold Jv
 refine Ok.guard (by simp only; omega) ?_
 refine Ok.range (fun pre s1=>s1=Od l ps pre left) (Apv ps left) ?_ ?_
 ·intro pre x post s1 n he hI hn2
  subst hI
  unfold Uz
  have hcs:=(u.fits.cfg x).small
  rw [hl,Mw (by omega) hs,Option.bind_some,among_eq hcs.2.2.1 (by omega) (by simp only; omega),Option.bind_some]
  simp only
  rw [AnZ]
  exact hn2 _ rfl
 ·intro s1 hI
  subst hI
  exact fin
theorem Wy (w:WfT t) {g c x:Int} (hg:Dx t g=true) (hc:c∈Bd t g) (h:Bw t c x=true):Bw t g x=true∧x≠g:=by
 rw [below_iff] at h ⊢
 obtain ⟨n,hn,hnx⟩:=Rd h
 subst hnx
 obtain ⟨e1,e2,e3⟩:=AaI w hc
 obtain ⟨r,er⟩:=AhP w hg
 have hcn:g∈upT t c:=by
  rw [e1,er]
  simp
 refine ⟨up_trans w hcn n hn h,fun e => ?_⟩
 have:=up_le w n hn c h
 omega
theorem AdU (w:WfT t) {g x:Int} (hg:Dx t g=true):Bw t g x=true↔x=g∨∃ c∈Bd t g,Bw t c x=true:=by
 constructor
 ·intro h
  obtain ⟨n,hn,hnx⟩:=Rd (below_iff.mp h)
  subst hnx
  rcases up_child w n hn (below_iff.mp h) with h|⟨c,hc,h⟩
  ·exact .inl h
  ·exact .inr ⟨c,hc,below_iff.mpr h⟩
 ·rintro (rfl|⟨c,hc,h⟩)
  ·obtain ⟨r,er⟩:=AhP w hg
   rw [below_iff,er]
   simp
  ·exact (Wy w hg hc h).1
theorem Ahj (w:WfT t) {g c d x:Int} (hc:c∈Bd t g) (hd:d∈Bd t g) (h1:Bw t c x=true) (h2:Bw t d x=true):c=d:=by
 obtain ⟨y,hy,hyp,hyc⟩:=kids_iff.mp hc
 obtain ⟨z,hz,hzp,hzd⟩:=kids_iff.mp hd
 obtain ⟨n,hn,hnx⟩:=Rd (below_iff.mp h1)
 subst hnx
 have:=up_one w hy hz hyp hzp n hn (by rw [hyc]; exact below_iff.mp h1) (by rw [hzd]; exact below_iff.mp h2)
 rw [← hyc,← hzd,this]
theorem Ya (w:WfT t) {g:Int} (hg:Dx t g=true):Bw t g g=true:=by
 obtain ⟨r,er⟩:=AhP w hg
 rw [below_iff,er]
 simp
def Afg (t:Af) (l:List Ag) (on:List Int) (g:Int) (rem:Int→Bool) (m:IMap (List Int)):IMap (List Int) :=
 ⟨fun x=>(x==g||(Bd t g).any (fun c => !rem c&&Bw t c x))||m.has x,fun x=>if x==g||(Bd t g).any (fun c => !rem c&&Bw t c x) then Uu t l on x else m.get x⟩
def Xz (t:Af) (l:List Ag) (on:List Int) (g:Int) (rem:Int→Bool) (m:IMap Bool):IMap Bool :=
 ⟨fun x=>(Bd t g).any (fun c => !rem c&&Bw t c x&&x != c&&Dy t l on x)||m.has x,fun x=>if (Bd t g).any (fun c => !rem c&&Bw t c x&&x != c&&Dy t l on x) then true else m.get x⟩
theorem Apw (w:WfT t) {g n:Int} {rem:Int→Bool} (hg:Dx t g=true) (hn:n∈Bd t g) (m:IMap (List Int)) :
  setsA t l on n (Afg t l on g rem m)=Afg t l on g (Ay rem n false) m:=by
 have key:∀ x,(Bw t n x||(x==g||(Bd t g).any (fun c => !rem c&&Bw t c x)))=(x==g||(Bd t g).any (fun c => !(Ay rem n false) c&&Bw t c x)):=by
  intro x
  rw [Bool.eq_iff_iff]
  simp only [Bool.or_eq_true,beq_iff_eq,List.any_eq_true,Bool.and_eq_true,Bool.not_eq_true',Ay]
  constructor
  ·rintro (h|h|⟨c,hc,h1,h2⟩)
   ·exact .inr ⟨n,hn,by simp,h⟩
   ·exact .inl h
   ·refine .inr ⟨c,hc,?_,h2⟩
    split
    ·rfl
    ·exact h1
  ·rintro (h|⟨c,hc,h1,h2⟩)
   ·exact .inr (.inl h)
   ·by_cases e:c=n
    ·subst e; exact .inl h2
    ·rw [if_neg e] at h1
     exact .inr (.inr ⟨c,hc,h1,h2⟩)
 apply IMap.ext'
 ·intro x
  show (Bw t n x||((x==g||(Bd t g).any (fun c => !rem c&&Bw t c x))||m.has x))=((x==g||(Bd t g).any (fun c => !(Ay rem n false) c&&Bw t c x))||m.has x)
  rw [← Bool.or_assoc,key x]
 ·intro x
  show (if Bw t n x=true then Uu t l on x else if (x==g||(Bd t g).any (fun c => !rem c&&Bw t c x))=true then Uu t l on x else m.get x)=(if (x==g||(Bd t g).any (fun c => !(Ay rem n false) c&&Bw t c x))=true then Uu t l on x else m.get x)
  rw [← key x]
  cases Bw t n x <;> simp
theorem AoT (w:WfT t) {g n:Int} {rem:Int→Bool} (hg:Dx t g=true) (hn:n∈Bd t g) (m:IMap Bool) :
  partA t l on n (Xz t l on g rem m)=Xz t l on g (Ay rem n false) m:=by
 have key:∀ x,((Bw t n x&&x != n&&Dy t l on x)||(Bd t g).any (fun c => !rem c&&Bw t c x&&x != c&&Dy t l on x))=(Bd t g).any (fun c => !(Ay rem n false) c&&Bw t c x&&x != c&&Dy t l on x):=by
  intro x
  rw [Bool.eq_iff_iff]
  simp only [Bool.or_eq_true,List.any_eq_true,Bool.and_eq_true,Bool.not_eq_true',Ay,bne_iff_ne,ne_eq]
  constructor
  ·rintro (⟨⟨h1,h2⟩,h3⟩|⟨c,hc,⟨⟨h1,h2⟩,h3⟩,h4⟩)
   ·exact ⟨n,hn,⟨⟨by simp,h1⟩,h2⟩,h3⟩
   ·refine ⟨c,hc,⟨⟨?_,h2⟩,h3⟩,h4⟩
    split
    ·rfl
    ·exact h1
  ·rintro ⟨c,hc,⟨⟨h1,h2⟩,h3⟩,h4⟩
   by_cases e:c=n
   ·subst e; exact .inl ⟨⟨h2,h3⟩,h4⟩
   ·rw [if_neg e] at h1
    exact .inr ⟨c,hc,⟨⟨h1,h2⟩,h3⟩,h4⟩
 apply IMap.ext'
 ·intro x
  show ((Bw t n x&&x != n&&Dy t l on x)||((Bd t g).any (fun c => !rem c&&Bw t c x&&x != c&&Dy t l on x)||m.has x))=_
  rw [← Bool.or_assoc,key x]
  rfl
 ·intro x
  show (if (Bw t n x&&x != n&&Dy t l on x)=true then true else if (Bd t g).any (fun c => !rem c&&Bw t c x&&x != c&&Dy t l on x)=true then true else m.get x)=(if (Bd t g).any (fun c => !(Ay rem n false) c&&Bw t c x&&x != c&&Dy t l on x)=true then true else m.get x)
  rw [← key x]
  cases (Bw t n x&&x != n&&Dy t l on x) <;> simp
theorem Ana (w:WfT t) {g c:Int} (hg:Dx t g=true) (hc:c∈Bd t g):c≠1:=by
 obtain ⟨e1,e2,e3⟩:=AaI w hc
 obtain ⟨x,hx,rfl⟩:=hasN_iff.mp hg
 have:=w.id_pos hx
 omega
theorem divide_t (u:UseS t l on) (hs:∀ x∈l,Bp x.settings):∀ (n:Nat) (g:Int) (p:plan),(t.next-g).toNat<n→Dx t g=true→p.tree=t→p.configs=l→p.partitions.get g=Js t l on g →
  (∀ x,Bw t g x=true→x≠g→p.partitions.get x=false) →
  Ew n p g (Dn t l on g)=some { tree:=t,configs:=l,sets:=setsA t l on g p.sets,partitions:=partA t l on g p.partitions } := by
 intro n
 have w:=u.w
 induction n with
 | zero=>intro g p h; omega
 | succ n ih =>
  intro g p hlt hg ht hl hal hbl
  have hgn:g<t.next:=by
   obtain ⟨x,hx,rfl⟩:=hasN_iff.mp hg
   exact w.next x hx
  obtain ⟨q1,q2,q3,q4⟩:=Alw u hg
  obtain ⟨o1,o2,o3,o4⟩:=AkP u hg
  have hkl:=Acw t g
  have hnl:=w.len2
  rw [Ew]
  apply Ok.eq
  refine AnU u hs ht hl hg q1 q4 hal ?_
  have hmsl:=List.length_filter_le (fun c => !(Mx t l g (Dn t l on g) (Js t l on g)).contains c) (Bd t g)
  have o4':(AhT t l g (Dn t l on g) (Js t l on g)).length≤16:=o4
  refine Amr u hs hl o4' (by omega) ?_
  unfold Nk
  have hgiven:Od l (Mx t l g (Dn t l on g) (Js t l on g)) ((Bd t g).filter (fun c => !(Mx t l g (Dn t l on g) (Js t l on g)).contains c)) (AhT t l g (Dn t l on g) (Js t l on g)) =
    ⟨fun c=>(Bd t g).contains c,fun c=>if (Bd t g).contains c then Dn t l on c else []⟩:=by
   obtain ⟨s1,s2,s3⟩:=Pm (l:=l) (al:=Js t l on g) (Bd t g) (Dn t l on g)
   have hpk:∀ c,c∈Mx t l g (Dn t l on g) (Js t l on g)→c∈Bd t g:=s2
   apply IMap.ext'
   ·intro c
    simp only [Od,List.contains_eq_mem,List.mem_filter]
    rw [Bool.eq_iff_iff]
    simp only [Bool.or_eq_true,decide_eq_true_eq,Bool.not_eq_true',decide_eq_false_iff_not]
    constructor
    ·rintro (h|h)
     ·exact h.1
     ·exact hpk c h
    ·intro h
     by_cases hp:c∈Mx t l g (Dn t l on g) (Js t l on g)
     ·exact .inr hp
     ·exact .inl ⟨h,hp⟩
   ·intro c
    by_cases hck:c∈Bd t g
    ·have hsk:=(AaL (l:=l) (on:=on) w hg hck).2
     simp only [Od,List.contains_eq_mem,List.mem_filter,hck,true_and,decide_true,if_true,hsk]
     by_cases hp:c∈Mx t l g (Dn t l on g) (Js t l on g)
     ·simp [hp,Ip]
     ·simp [hp,Ip,Uu]
    ·have hnp:c∉Mx t l g (Dn t l on g) (Js t l on g):=fun h=>hck (hpk c h)
     simp [Od,hck,hnp]
  rw [hgiven]
  have hset:p.sets.set g (AhT t l g (Dn t l on g) (Js t l on g))=Afg t l on g (fun c=>(Bd t g).contains c) p.sets:=by
   apply IMap.ext'
   ·intro x
    simp only [IMap.set,Ay,Afg]
    by_cases e:x=g
    ·simp [e]
    ·have:(Bd t g).any (fun c => !(Bd t g).contains c&&Bw t c x)=false:=by
      rw [List.any_eq_false]
      intro c hc
      simp [hc]
     rw [if_neg e,this]
     simp [e]
   ·intro x
    simp only [IMap.set,Ay,Afg]
    have:(Bd t g).any (fun c => !(Bd t g).contains c&&Bw t c x)=false:=by
     rw [List.any_eq_false]
     intro c hc
     simp [hc]
    rw [this]
    by_cases e:x=g
    ·subst e; simp [Uu]
    ·simp [e]
  have hpart:Fr p.partitions (Mx t l g (Dn t l on g) (Js t l on g))=Xz t l on g (fun c=>(Bd t g).contains c) (Fr p.partitions (Ip t l on g)):=by
   have hz:∀ x,(Bd t g).any (fun c => !(Bd t g).contains c&&Bw t c x&&x != c&&Dy t l on x)=false:=by
    intro x
    rw [List.any_eq_false]
    intro c hc
    simp [hc]
   apply IMap.ext'
   ·intro x
    simp only [Xz,hz x,Bool.false_or]
    rfl
   ·intro x
    simp only [Xz,hz x]
    rfl
  refine Ok.of_eq (b := { tree:=t,configs:=l,sets:=setsA t l on g p.sets,partitions:=partA t l on g p.partitions }) ?_ rfl
  refine rangeM_ok (fun rem s=>(∀ c,rem c=true→c∈Bd t g)∧s=(t.nodes,t.next,l,Afg t l on g rem p.sets,Xz t l on g rem (Fr p.partitions (Ip t l on g)))) ?_ ?_ Fm (Bd t g) _ _ (Aki w g) (by rw [Iv]; omega) (by simp) ⟨by simp,?_⟩
  ·rintro rem s c N hrc ⟨hrk,rfl⟩ hN
   have hck:=hrk c hrc
   obtain ⟨e1,e2,e3⟩:=AaI w hck
   unfold Vd
   simp only [List.contains_eq_mem,hck,decide_true,if_true]
   have hpget:(Xz t l on g rem (Fr p.partitions (Ip t l on g))).get c=Js t l on c:=by
    have hz:(Bd t g).any (fun d => !rem d&&Bw t d c&&c != d&&Dy t l on c)=false:=by
     rw [List.any_eq_false]
     intro d hd
     simp only [Bool.and_eq_true,bne_iff_ne,ne_eq,not_and,Bool.not_eq_true]
     intro ⟨⟨_,h1⟩,h2⟩
     exact absurd (Ahj w hck hd (Ya w e2) h1) h2
    have h1:Js t l on c=(Ip t l on g).contains c:=by
     have:=Ana w hg hck
     rw [← (AaL (l:=l) (on:=on) w hg hck).1]
     simp [Js,this]
    simp only [Xz,hz,Bool.false_eq_true,if_false,Fr,h1]
    rw [hbl c (Wy w hg hck (Ya w e2)).1 (Wy w hg hck (Ya w e2)).2]
    cases (Ip t l on g).contains c <;> rfl
   have hpbl:∀ x,Bw t c x=true→x≠c→(Xz t l on g rem (Fr p.partitions (Ip t l on g))).get x=false:=by
    intro x hx hxc
    have hz:(Bd t g).any (fun d => !rem d&&Bw t d x&&x != d&&Dy t l on x)=false:=by
     rw [List.any_eq_false]
     intro d hd
     simp only [Bool.and_eq_true,bne_iff_ne,ne_eq,not_and,Bool.not_eq_true,Bool.not_eq_true']
     intro ⟨⟨h0,h1⟩,_⟩
     have:=Ahj w hck hd hx h1
     subst this
     rw [hrc] at h0
     simp at h0
    have hnp:x∉Ip t l on g:=by
     intro hxp
     have hxk:x∈Bd t g:=(Pm (l:=l) (al:=Js t l on g) (Bd t g) (Dn t l on g)).2.1 x hxp
     exact hxc (Ahj w hck hxk hx (Ya w (AaI w hxk).2.1)).symm
    obtain ⟨b1,b2⟩:=Wy w hg hck hx
    simp only [Xz,hz,Bool.false_eq_true,if_false,Fr,List.contains_eq_mem,hnp,decide_false]
    exact hbl x b1 b2
   have:=ih c { tree:=t,configs:=l,sets:=Afg t l on g rem p.sets,partitions:=Xz t l on g rem (Fr p.partitions (Ip t l on g)) } (by omega) e2 rfl rfl hpget hpbl
   rw [this,Option.bind_some]
   simp only
   rw [Apw w hg hck,AoT w hg hck]
   refine hN _ ⟨fun d hd => ?_,rfl⟩
   simp only [Ay] at hd
   split at hd
   ·simp at hd
   ·exact hrk d hd
  ·rintro s ⟨_,rfl⟩
   unfold Vo
   simp only
   congr 1
   congr 1
   ·apply IMap.ext'
    ·intro x
     show ((x==g||(Bd t g).any (fun c => !false&&Bw t c x))||p.sets.has x)=(Bw t g x||p.sets.has x)
     congr 1
     rw [Bool.eq_iff_iff,AdU w hg]
     simp
    ·intro x
     show (if (x==g||(Bd t g).any (fun c => !false&&Bw t c x))=true then _ else _)=(if Bw t g x=true then _ else _)
     have:(x==g||(Bd t g).any (fun c => !false&&Bw t c x))=Bw t g x:=by
      rw [Bool.eq_iff_iff,AdU w hg]
      simp
     rw [this]
   ·have key:∀ x,((Bd t g).any (fun c => !false&&Bw t c x&&x != c&&Dy t l on x)||(Ip t l on g).contains x)=(Bw t g x&&x != g&&Dy t l on x):=by
     intro x
     rw [Bool.eq_iff_iff]
     simp only [Bool.or_eq_true,List.any_eq_true,Bool.and_eq_true,bne_iff_ne,ne_eq,Bool.not_false,true_and]
     constructor
     ·rintro (⟨c,hc,⟨h1,h2⟩,h3⟩|h)
      ·obtain ⟨b1,b2⟩:=Wy w hg hc h1
       exact ⟨⟨b1,b2⟩,h3⟩
      ·have hxp:x∈Ip t l on g:=by simpa using h
       have hxk:x∈Bd t g:=(Pm (l:=l) (al:=Js t l on g) (Bd t g) (Dn t l on g)).2.1 x hxp
       obtain ⟨b1,b2⟩:=Wy w hg hxk (Ya w (AaI w hxk).2.1)
       exact ⟨⟨b1,b2⟩,by rw [(AaL (l:=l) (on:=on) w hg hxk).1]; exact h⟩
     ·rintro ⟨⟨h1,h2⟩,h3⟩
      rcases (AdU w hg).mp h1 with h|⟨c,hc,h⟩
      ·exact absurd h h2
      ·by_cases e:x=c
       ·subst e
        right
        rw [(AaL (l:=l) (on:=on) w hg hc).1] at h3
        exact h3
       ·exact .inl ⟨c,hc,⟨h,e⟩,h3⟩
    apply IMap.ext'
    ·intro x
     show ((Bd t g).any (fun c => !false&&Bw t c x&&x != c&&Dy t l on x)||((Ip t l on g).contains x||p.partitions.has x))=((Bw t g x&&x != g&&Dy t l on x)||p.partitions.has x)
     rw [← Bool.or_assoc,key x]
    ·intro x
     show (if (Bd t g).any (fun c => !false&&Bw t c x&&x != c&&Dy t l on x)=true then true else if (Ip t l on g).contains x=true then true else p.partitions.get x)=(if (Bw t g x&&x != g&&Dy t l on x)=true then true else p.partitions.get x)
     rw [← key x]
     cases (Bd t g).any (fun c => !false&&Bw t c x&&x != c&&Dy t l on x) <;> simp
  ·rw [ht,hl,hset,hpart]
end Go.Dm

namespace Go.Dm
variable {t : Af} {l:List Ag} {on:List Int}
theorem AjB (w:WfT t) (x:Int):Bw t 1 x=Dx t x:=by
 rw [Bool.eq_iff_iff,below_iff]
 constructor
 ·intro h
  obtain ⟨n,hn,rfl⟩:=Rd h
  exact hasN_iff.mpr ⟨n,hn,rfl⟩
 ·intro h
  obtain ⟨n,hn,rfl⟩:=hasN_iff.mp h
  refine w.induct (P:=fun n=>(1:Int)∈upT t n.id) (fun n hn ih => ?_) n hn
  rcases w.p.par n hn with ⟨h1,_⟩|⟨_,_,⟨y,hy,hyp⟩,_⟩
  ·rw [h1,root_up w]
   simp
  ·have:=ih y hy hyp
   rw [hyp] at this
   rw [w.up hn]
   simp [this]
def aloneL (t:Af) (l:List Ag) (on:List Int):List Int:=(t.nodes.map (·.id)).filter (fun x=>x != 1&&Dy t l on x)
theorem Apd {x:Int} : x∈aloneL t l on↔Dx t x=true∧x≠1∧Dy t l on x=true:=by
 unfold aloneL
 rw [List.mem_filter,hasN_iff]
 simp
theorem of_t (u:UseS t l on) (hs:∀ x∈l,Bp x.settings) :
  ∃ p,AcW t l on=some p∧(∀ x,p.sets.get x=if Dx t x then Uu t l on x else [])∧∀ x,p.partitions.has x=true↔x∈aloneL t l on:=by
 have w:=u.w
 have h16:=AdC u.set (fun x h=>h) u.set.1
 have hroot:=AjP (l:=l) (on:=on) w
 have hnx:=w.nextLe
 have e:=divide_t u hs Fm 1 { tree:=t,configs:=l,sets:=IMap.empty ([]:List Int),partitions:=(IMap.empty false).set 1 true } (by rw [Iv]; omega) (has_root w) rfl rfl (by simp [IMap.set,Ay,Js]) (fun x hx hx1=>by simp [IMap.set,Ay,hx1,IMap.empty])
 rw [hroot.1] at e
 unfold AcW Re
 rw [Xi (by omega),Option.bind_some,e,Option.bind_some]
 refine ⟨_,rfl,fun x => ?_,fun x => ?_⟩
 ·simp only [setsA,IMap.empty,AjB w]
 ·simp only [IMap.del,partA,IMap.set,IMap.empty,Ay,AjB w,Apd]
  by_cases h1:x=1
  ·simp [h1]
  ·simp [h1,and_assoc]
theorem UseS.iff : Usable t l on 16↔UseS t l on:=⟨fun u=>⟨u.fits,u.pos,u.set⟩,fun u=>⟨u.fits,u.pos,u.set⟩⟩
theorem usable_t (u:UseS t l on) (hs:∀ x∈l,Bp x.settings):Qt t l on 16=some true:=by
 have h16:=AdC u.set (fun x h=>h) u.set.1
 have hl:=u.fits.len
 have hn:=u.w.len2
 obtain ⟨b,h1,h2⟩:=AoO (t:=t) (l:=l) (on:=on) (n:=16) u.w.p.names (by omega) (by omega) hs (by omega)
 rw [h1,h2.mpr (UseS.iff.mpr u)]
theorem Cpus_t (u:UseS t l on) (hs:∀ x∈l,Bp x.settings) (g:Int):Vq t l on g=some (if Dx t g then Uu t l on g else []):=by
 obtain ⟨p,h1,h2,_⟩:=of_t u hs
 unfold Vq
 rw [usable_t u hs,Option.bind_some,if_neg (by simp),h1,Option.bind_some,h2 g]
 have hlen:(if Dx t g then Uu t l on g else []).length≤16:=by
  split
  ·rename_i h; exact (AkP u h).2.2.2
  ·simp
 rw [Xi (by omega),Option.bind_some]
theorem Set_ok {d:Ai} (hd:Bm d) {n:Int} (n0:0≤n) (n1:n≤1000):Ok (Mn d n) (fun r=>okSet n r.1∧Bm r.2):=by
 unfold Mn
 refine Ok.guard (by omega) ?_
 have e:Int.toNat (n-0)=n.toNat:=by simp
 rw [e]
 refine Aqz (fun j s=>Bm s.1∧Asc s.2∧∀ x∈s.2,0≤x∧x<(j:Int)) ⟨hd,List.Pairwise.nil,fun x hx=>by simp at hx⟩ ?_ ?_
 ·rintro j ⟨d,L⟩ m hj ⟨hd,ha,hb⟩ hm
  unfold AcR Rn
  simp only at hd ha hb
  have hlen:=Alv ha hb
  refine Ok.bind (Le hd 3 (by omega)) fun r hd => ?_
  refine Aqy (fun _=>Ok.guard (by simp only; omega) (hm _ ⟨hd,?_,?_⟩)) fun _=>hm _ ⟨hd,ha,fun x hx=>⟨(hb x hx).1,by have:=(hb x hx).2; omega⟩⟩
  ·exact Aja ha fun y hy=>by have:=(hb y hy).2; omega
  ·intro x hx
   rcases List.mem_append.mp hx with h|h
   ·exact ⟨(hb x h).1,by have:=(hb x h).2; omega⟩
   ·simp only [List.mem_singleton] at h
    subst h
    omega
 ·rintro ⟨d,L⟩ ⟨hd,ha,hb⟩
  unfold AdD
  exact Ok.ret ⟨⟨ha,fun x hx=>⟨(hb x hx).1,by have:=(hb x hx).2; omega⟩⟩,hd⟩
theorem Online_ok {d:Ai} (hd:Bm d) {n:Int} (n0:1≤n) (n1:n≤1000):Ok (Pp d n) (fun r=>okSet n r.1∧0<r.1.length∧Bm r.2):=by
 unfold Pp
 refine Ok.bind (Set_ok hd (by omega) n1) fun r ⟨hs,hd⟩ => ?_
 refine Aqy (fun c=>Ok.ret ⟨hs,by have:=of_decide_eq_true c; simp only; omega,hd⟩) fun _=>Ok.guard (by omega) ?_
 have e:Int.toNat (n-0)=n.toNat:=by simp
 rw [e]
 refine Aqz (fun j s=>s.length=j∧Asc s∧∀ x∈s,0≤x∧x<(j:Int)) ⟨rfl,List.Pairwise.nil,fun x hx=>by simp at hx⟩ ?_ ?_
 ·rintro j L m hj ⟨hl,ha,hb⟩ hm
  unfold Aaz
  refine Ok.guard (by omega) (hm _ ⟨by simp [hl],?_,?_⟩)
  ·exact Aja ha fun y hy=>by have:=(hb y hy).2; omega
  ·intro x hx
   rcases List.mem_append.mp hx with h|h
   ·exact ⟨(hb x h).1,by have:=(hb x h).2; omega⟩
   ·simp only [List.mem_singleton] at h
    subst h
    omega
 ·rintro L ⟨hl,ha,hb⟩
  unfold AaA
  exact Ok.ret ⟨⟨ha,fun x hx=>⟨(hb x hx).1,by have:=(hb x hx).2; omega⟩⟩,by simp only; omega,hd⟩
end Go.Dm

namespace Go.Dm
variable {t : Af} {l:List Ag} {on:List Int}
theorem Adu : Qv=some dfS:=rfl
theorem AeP {a b:Int} {L:List Int} (h:okSet a L) (hab:a≤b):okSet b L:=⟨h.1,fun x hx=>⟨(h.2 x hx).1,by have:=(h.2 x hx).2; omega⟩⟩
end Go.Dm

namespace Go.Dm
variable {t : Af} {l:List Ag} {on:List Int}
end Go.Dm

namespace Go.Dm
variable {t : Af} {l:List Ag} {on:List Int}
end Go.Dm

namespace Go.Dm
variable {t : Af} {l m:List Ag} {on:List Int}
theorem set_mid {α:Type} (A B:List α) (x y:α):(A++x::B).set A.length y=A++y::B:=by
 rw [List.set_append_right _ _ (Nat.le_refl _),Nat.sub_self]
 rfl
end Go.Dm

namespace Go.Dm
variable {t : Af} {l c:List Ag} {on:List Int}
theorem Yq : ∀ (n:Nat) {L:List Int},okSet (n:Int) L→L∈subs n
 | 0,L,h=>by
  cases L with
  | nil=>simp [subs]
  | cons x r =>
   have:=h.2 x (by simp)
   omega
 | n+1,L,h=>by
  rw [subs]
  rcases List.eq_nil_or_concat L with rfl|⟨K,a,rfl⟩
  ·exact List.mem_append_left _ (Yq n ⟨List.Pairwise.nil,fun x hx=>by simp at hx⟩)
  ·rw [List.concat_eq_append] at h ⊢
   have ha:=h.2 a (by simp)
   have hp:=List.pairwise_append.1 h.1
   have hK:∀ x∈K,x<a:=fun x hx=>hp.2.2 x hx a (by simp)
   by_cases c:a=(n:Int)
   ·subst c
    exact List.mem_append_right _ (List.mem_map.2 ⟨K,Yq n ⟨hp.1,fun x hx=>⟨(h.2 x (by simp [hx])).1,hK x hx⟩⟩,rfl⟩)
   ·refine List.mem_append_left _ (Yq n ⟨h.1,fun x hx=>⟨(h.2 x hx).1,?_⟩⟩)
    rcases List.mem_append.1 hx with hx|hx
    ·have:=hK x hx
     omega
    ·simp only [List.mem_singleton] at hx
     omega
structure MadeS (s:Ac):Prop where
 pm:s.pidsMax=4611686018427387904∨(0≤s.pidsMax∧s.pidsMax≤1000)
 wt:(1≤s.weight∧s.weight≤1000)∨s.weight=10000
 mx:((1≤s.quota∧s.quota≤10)∧(1≤s.period∧s.period≤10))∨(s.quota=4611686018427387904∧((1≤s.period∧s.period≤10)∨s.period=100000))
 bu:(s.quota=4611686018427387904∧s.burst=0)∨(s.quota≤10∧0≤s.burst∧s.burst≤s.quota)
 lo:0≤s.clampMin∧s.clampMin≤10000
 hi:0≤s.clampMax∧s.clampMax≤10000
 cp:okSet 6 s.cpus
 mm:okSet 4 s.mems
 pt:s.partition=0∨s.partition=1
 me:s.memory=dfS.memory
 dv:s.devices = []
theorem AmH : MadeS dfS:=⟨.inl rfl,.inl (by simp [dfS]),.inr (by simp [dfS]),.inl (by simp [dfS]),by simp [dfS],by simp [dfS],⟨List.Pairwise.nil,fun x hx=>by simp [dfS] at hx⟩,⟨List.Pairwise.nil,fun x hx=>by simp [dfS] at hx⟩,.inl rfl,rfl,rfl⟩
theorem Uw {s:Ac} (pm:s.pidsMax=4611686018427387904∨(0≤s.pidsMax∧s.pidsMax≤1000)) (wt:(1≤s.weight∧s.weight≤1000)∨s.weight=10000)
  (pe:1≤s.period∧s.period≤100000) (bu:(s.quota=4611686018427387904∧s.burst=0)∨(1≤s.quota∧s.quota≤10∧0≤s.burst∧s.burst≤s.quota))
  (lo:0≤s.clampMin∧s.clampMin≤10000) (hi:0≤s.clampMax∧s.clampMax≤10000) (cp:okSet 6 s.cpus) (mm:okSet 4 s.mems) (pt:s.partition=0∨s.partition=1)
  (me:s.memory=dfS.memory) (dv:s.devices = []):CheckP s∧Bp s:=by
 have e1:Fk dfS.memory=some true:=by kernel_rfl
 have e2:Ex []=some true:=by kernel_rfl
 have l1:=cp.len (by omega)
 have l2:=mm.len (by omega)
 refine ⟨⟨by omega,by omega,⟨by omega,?_⟩,lo,hi,AeP cp (by omega),AeP mm (by omega),by omega,by rw [me]; exact e1,by rw [dv]; exact e2⟩,⟨by omega,by omega,by rw [dv]; simp⟩⟩
 rcases bu with ⟨h1,h2⟩|⟨h1,h2,h3,h4⟩
 ·rw [if_pos h1]
  exact h2
 ·rw [if_neg (by omega)]
  omega
theorem MadeS.chk {s:Ac} (m:MadeS s):CheckP s∧Bp s:=by
 have h1:=m.mx
 have h2:=m.bu
 exact Uw m.pm m.wt (by omega) (by omega) m.lo m.hi m.cp m.mm m.pt m.me m.dv
theorem Aox {d:Ai} (hd:Bm d):Ok (Po d) (fun r=>((1≤r.1∧r.1≤1000)∨r.1=10000)∧Bm r.2):=by
 unfold Po
 refine Ok.bind (Ds hd 1000 (by omega) (by omega)) fun r4 ⟨hd,a0,a1⟩=>Ok.bind (Ds hd 8 (by omega) (by omega)) fun r5 ⟨hd,b0,b1⟩ => ?_
 have hw:w64 (1+r4.1)=1+r4.1:=Bz (by omega) (by omega)
 rw [hw]
 refine Ok.guard ⟨b0,by simp; omega⟩ (Ok.guard (by simp; omega) (Ok.ret ⟨?_,hd⟩))
 have:r5.1=0∨r5.1=1∨r5.1=2∨r5.1=3∨r5.1=4∨r5.1=5∨r5.1=6∨r5.1=7:=by omega
 simp only
 rcases this with e|e|e|e|e|e|e|e <;> rw [e] <;> simp <;> omega
theorem Amy {d:Ai} (hd:Bm d):Ok (Nf d) (fun r=>MadeS r.1∧Bm r.2):=by
 unfold Nf
 rw [Adu,Option.bind_some]
 have h5:∀ (y1:Ai×Int) (r5:Int×Ai) (y2:Ai×Int×Int) (r10 r11 r12:Int×Ai) (y3 y4:Ai×List Int) (r19:Bool×Ai) (y5:Int),
   (y1.2=4611686018427387904∨(0≤y1.2∧y1.2≤1000))→((1≤r5.1∧r5.1≤1000)∨r5.1=10000)→((y2.2.1=4611686018427387904∧y2.2.2=0)∨(1≤y2.2.1∧y2.2.1≤10∧0≤y2.2.2∧y2.2.2≤y2.2.1)) →
   (0≤r10.1∧r10.1<9)→(0≤r11.1∧r11.1<10001)→(0≤r12.1∧r12.1<10001)→okSet 6 y3.2→okSet 4 y4.2→(y5=0∨y5=1)→Bm r19.2 →
   Ok (Ht dfS y1 r5 y2 r10 r11 r12 y3 y4 r19 y5) (fun r=>MadeS r.1∧Bm r.2):=by
  intro y1 r5 y2 r10 r11 r12 y3 y4 r19 y5 a1 a2 a3 a4 a5 a6 a7 a8 a9 hd
  unfold Ht
  have hw:w64 (1+r10.1)=1+r10.1:=Bz (by omega) (by omega)
  rw [hw]
  exact Ok.ret ⟨⟨a1,a2,by simp only; omega,by simp only; omega,by simp only; omega,by simp only; omega,a7,a8,a9,rfl,rfl⟩,hd⟩
 have h4:∀ (y1:Ai×Int) (r5:Int×Ai) (y2:Ai×Int×Int) (r10 r11 r12:Int×Ai) (y3 y4:Ai×List Int),
   (y1.2=4611686018427387904∨(0≤y1.2∧y1.2≤1000))→((1≤r5.1∧r5.1≤1000)∨r5.1=10000)→((y2.2.1=4611686018427387904∧y2.2.2=0)∨(1≤y2.2.1∧y2.2.1≤10∧0≤y2.2.2∧y2.2.2≤y2.2.1)) →
   (0≤r10.1∧r10.1<9)→(0≤r11.1∧r11.1<10001)→(0≤r12.1∧r12.1<10001)→okSet 6 y3.2→okSet 4 y4.2→Bm y4.1 →
   Ok (Ia dfS y1 r5 y2 r10 r11 r12 y3 y4) (fun r=>MadeS r.1∧Bm r.2):=by
  intro y1 r5 y2 r10 r11 r12 y3 y4 a1 a2 a3 a4 a5 a6 a7 a8 hd
  unfold Ia
  exact Ok.bind (Le hd 3 (by omega)) fun r19 hd=>Aqy (fun _=>h5 _ _ _ _ _ _ _ _ _ _ a1 a2 a3 a4 a5 a6 a7 a8 (.inr rfl) hd) fun _=>h5 _ _ _ _ _ _ _ _ _ _ a1 a2 a3 a4 a5 a6 a7 a8 (.inl rfl) hd
 have h3:∀ (y1:Ai×Int) (r5:Int×Ai) (y2:Ai×Int×Int) (r10 r11 r12:Int×Ai) (y3:Ai×List Int),
   (y1.2=4611686018427387904∨(0≤y1.2∧y1.2≤1000))→((1≤r5.1∧r5.1≤1000)∨r5.1=10000)→((y2.2.1=4611686018427387904∧y2.2.2=0)∨(1≤y2.2.1∧y2.2.1≤10∧0≤y2.2.2∧y2.2.2≤y2.2.1)) →
   (0≤r10.1∧r10.1<9)→(0≤r11.1∧r11.1<10001)→(0≤r12.1∧r12.1<10001)→okSet 6 y3.2→Bm y3.1 →
   Ok (Hr dfS y1 r5 y2 r10 r11 r12 y3) (fun r=>MadeS r.1∧Bm r.2):=by
  intro y1 r5 y2 r10 r11 r12 y3 a1 a2 a3 a4 a5 a6 a7 hd
  unfold Hr
  refine Ok.bind (Le hd 2 (by omega)) fun r16 hd=>Aqy (fun _ => ?_) fun _=>h4 _ _ _ _ _ _ _ _ a1 a2 a3 a4 a5 a6 a7 ⟨List.Pairwise.nil,fun x hx=>by simp [dfS] at hx⟩ hd
  exact Ok.bind (Set_ok hd (n:=4) (by omega) (by omega)) fun r18 ⟨hs,hd⟩=>h4 _ _ _ _ _ _ _ _ a1 a2 a3 a4 a5 a6 a7 hs hd
 have h2:∀ (y1:Ai×Int) (r5:Int×Ai) (y2:Ai×Int×Int),
   (y1.2=4611686018427387904∨(0≤y1.2∧y1.2≤1000))→((1≤r5.1∧r5.1≤1000)∨r5.1=10000)→((y2.2.1=4611686018427387904∧y2.2.2=0)∨(1≤y2.2.1∧y2.2.1≤10∧0≤y2.2.2∧y2.2.2≤y2.2.1)) →
   Bm y2.1→Ok (Hp dfS y1 r5 y2) (fun r=>MadeS r.1∧Bm r.2):=by
  intro y1 r5 y2 a1 a2 a3 hd
  unfold Hp
  refine Ok.bind (Ds hd 9 (by omega) (by omega)) fun r10 ⟨hd,b0,b1⟩=>Ok.bind (Ds hd 10001 (by omega) (by omega)) fun r11 ⟨hd,c0,c1⟩=>Ok.bind (Ds hd 10001 (by omega) (by omega)) fun r12 ⟨hd,d0,d1⟩ => ?_
  refine Ok.bind (Le hd 2 (by omega)) fun r13 hd=>Aqy (fun _ => ?_) fun _=>h3 _ _ _ _ _ _ _ a1 a2 a3 ⟨b0,b1⟩ ⟨c0,c1⟩ ⟨d0,d1⟩ ⟨List.Pairwise.nil,fun x hx=>by simp [dfS] at hx⟩ hd
  exact Ok.bind (Set_ok hd (n:=6) (by omega) (by omega)) fun r15 ⟨hs,hd⟩=>h3 _ _ _ _ _ _ _ a1 a2 a3 ⟨b0,b1⟩ ⟨c0,c1⟩ ⟨d0,d1⟩ hs hd
 have h1:∀ (y1:Ai×Int),(y1.2=4611686018427387904∨(0≤y1.2∧y1.2≤1000))→Bm y1.1→Ok (Hv dfS y1) (fun r=>MadeS r.1∧Bm r.2):=by
  intro y1 a1 hd
  unfold Hv
  refine Ok.bind (Aox hd) fun r5 ⟨hw,hd⟩=>Ok.bind (Le hd 2 (by omega)) fun r6 hd=>Aqy (fun _ => ?_) fun _=>h2 _ _ _ a1 hw (.inl ⟨rfl,rfl⟩) hd
  refine Ok.bind (Ds hd 9 (by omega) (by omega)) fun r8 ⟨hd,b0,b1⟩ => ?_
  have e1:w64 (1+r8.1)=1+r8.1:=Bz (by omega) (by omega)
  have e2:w64 (1+r8.1+1)=2+r8.1:=by rw [Bz (by omega) (by omega)]; omega
  rw [e1,e2]
  refine Ok.bind (Ds hd (2+r8.1) (by omega) (by omega)) fun r9 ⟨hd,c0,c1⟩=>h2 _ _ _ a1 hw (.inr ?_) hd
  simp only
  omega
 refine Ok.bind (Le hd 2 (by omega)) fun r2 hd=>Aqy (fun _ => ?_) fun _=>h1 _ (.inl rfl) hd
 exact Ok.bind (Ds hd 6 (by omega) (by omega)) fun r4 ⟨hd,b0,b1⟩=>h1 _ (.inr (by simp only; omega)) hd
theorem AmM {d:Ai} (hd:Bm d) (w:WfT t):Ok (Np d t) (fun r=>FitsS t r.1∧(∀ x∈r.1,MadeS x.settings)∧Bm r.2):=by
 have hn:=w.len2
 unfold Np
 refine Ok.guard (by omega) ?_
 refine Ok.range (fun pre s=>Bm s.1∧s.2.map (·.group)=pre.map (·.id)∧∀ x∈s.2,MadeS x.settings) ⟨hd,rfl,by simp⟩ ?_ ?_
 ·rintro pre x post ⟨d,L⟩ m he ⟨hd,hg,hc⟩ hm
  simp only at hd hg hc
  have hlen:L.length=pre.length:=by
   have:=congrArg List.length hg
   simpa using this
  have hpl:pre.length≤t.nodes.length:=by rw [he]; simp
  have hJ:∀ (y:Ai×Ac),MadeS y.2→Bm y.1→Ok (Ir x (d,L) m y) (fun r=>FitsS t r.1∧(∀ x∈r.1,MadeS x.settings)∧Bm r.2):=by
   intro y h1 h3
   unfold Ir
   refine Ok.guard (by simp only; omega) (hm _ ⟨h3,by simp [hg],fun z hz => ?_⟩)
   rcases List.mem_append.mp hz with h|h
   ·exact hc z h
   ·simp only [List.mem_singleton] at h
    subst h
    exact h1
  unfold Zh
  rw [Adu,Option.bind_some]
  refine Ok.bind (Le hd 2 (by omega)) fun r16 hd=>Aqy (fun _ => ?_) fun _=>hJ _ AmH hd
  exact Ok.bind (Amy hd) fun r18 ⟨h1,h3⟩=>hJ _ h1 h3
 ·rintro ⟨d,L⟩ ⟨hd,hg,hc⟩
  unfold Zb
  exact Ok.ret ⟨⟨w,hg,fun x hx=>(hc x hx).chk.1⟩,hc,hd⟩
end Go.Dm

namespace Go.Dm
variable {t : Af} {l c:List Ag} {on:List Int}
theorem Pz {s:Ac} (h:CheckP s∧Bp s):Ax s=some true:=by
 obtain ⟨b,e,hb⟩:=Aav h.2
 rw [e,hb.2 h.1]
def rdF (X:Ac→Option (ByteArray×Int)) (p0:Ac):Option (ByteArray×Int):=(Option.bind (some ()) fun r1=>(Option.bind (Ax p0) fun r2=>(if (!r2) then (some (ByteArray.empty,1)) else (Option.bind (X p0) fun r4=>(if (r4.2 != 0) then (some (ByteArray.empty,r4.2)) else (if r4.1.size+(bs [10]).size≤9223372036854775807 then (some ((r4.1++(bs [10])),0)) else none))))))
theorem rdF_ok {X:Ac→Option (ByteArray×Int)} {s:Ac} {x:ByteArray} (h:CheckP s∧Bp s) (e:X s=some (x,0)) (hx:x.size≤100):rdF X s=some (x++bs [10],0):=by
 have h1:(bs [10]).size=1:=rfl
 unfold rdF
 rw [Option.bind_some,Pz h,Option.bind_some,if_neg (by simp),e,Option.bind_some,if_neg (by simp),if_pos (by simp only; omega)]
def noS : Ac := { pidsMax:=0,weight:=0,quota:=0,period:=0,burst:=0,clampMin:=0,clampMax:=0,cpus := [],mems := [],partition:=0,memory:=({ min:=0,low:=0,high:=0,max:=0,swapMax:=0,together:=false } : Fd),devices := [] }
def wrF (X:Ac→ByteArray→Option (Int×Ac)) (p0:Ac) (p2:ByteArray):Option (Ac×Int):=(Option.bind (some ()) fun r1=>(Option.bind (Ax p0) fun r2=>(if (!r2) then (some (noS,1)) else (if (decide (((p2.size:Nat):Int)>4096)) then (some (noS,7)) else (Option.bind (Da p0) fun r5=>(Option.bind (Ge p2) fun r9=>(Option.bind (X r5 r9) fun r10=>(if (r10.1 != 0) then (some (noS,r10.1)) else (Option.bind (Ax r10.2) fun r12=>(if (!r12) then (some (noS,3)) else (some (r10.2,0))))))))))))
theorem Line_ok {x:ByteArray} (hx:x.size≤100):Ge (x++bs [10])=some x:=by
 have h1:(bs [10]).size=1:=rfl
 have h2:(x++bs [10]).data.toList=x.data.toList ++ [10]:=by
  rw [ByteArray.data_append,Array.toList_append]
  rfl
 have h3:(bs [10]).data.toList = [10]:=rfl
 unfold Ge Sf
 rw [ByteArray.size_append,if_pos (by omega),Option.bind_some,h2,h3]
 have h4:Lib.hasSuffix (x.data.toList ++ [10]) [10]=true:=by
  unfold Lib.hasSuffix
  rw [List.isSuffixOf_iff_suffix]
  exact List.suffix_append _ _
 unfold Lib.trimSuffix
 rw [if_pos h4]
 have h5:(x.data.toList ++ [10]).take ((x.data.toList ++ [10]).length - [(10:UInt8)].length)=x.data.toList:=by simp
 rw [h5,Lib.mk_data]
theorem wrF_ok {X:Ac→ByteArray→Option (Int×Ac)} {s s':Ac} {x:ByteArray} (h:CheckP s∧Bp s) (h':CheckP s'∧Bp s') (e:X s x=some (0,s')) (hx:x.size≤100):wrF X s (x++bs [10])=some (s',0):=by
 have h1:(bs [10]).size=1:=rfl
 unfold wrF
 rw [Option.bind_some,Pz h,Option.bind_some,if_neg (by simp),if_neg (by rw [ByteArray.size_append]; simp; omega),Pu h.2,Option.bind_some,Line_ok hx,Option.bind_some,e,Option.bind_some,if_neg (by simp),Pz h',Option.bind_some,if_neg (by simp)]
def FileO (nm:ByteArray) (w s s':Ac):Prop:=∃ x,Yd w nm=some (x,0)∧Ux s nm x=some (s',0)
theorem FileO.mk {nm:ByteArray} {w s s':Ac} {Y:Ac→Option (ByteArray×Int)} {X:Ac→ByteArray→Option (Int×Ac)} {x:ByteArray} (hr:Yd w nm=rdF Y w) (hw:∀ z,Ux s nm z=wrF X s z)
  (cw:CheckP w∧Bp w) (cs:CheckP s∧Bp s) (cs':CheckP s'∧Bp s') (ey:Y w=some (x,0)) (ex:X s x=some (0,s')) (hx:x.size≤100):FileO nm w s s' :=
 ⟨x++bs [10],by rw [hr,rdF_ok cw ey hx],by rw [hw,wrF_ok cs cs' ex hx]⟩
variable {w s:Ac}
theorem file_a (m:MadeS w) (cs:CheckP s∧Bp s) (cs':CheckP { s with pidsMax:=w.pidsMax } ∧ Bp { s with pidsMax:=w.pidsMax }):FileO (bs [112,105,100,115,46,109,97,120]) w s { s with pidsMax:=w.pidsMax } := by
 have h:=m.pm
 obtain ⟨x,e1,e2,e3⟩:=num_ok (n:=w.pidsMax) (by omega)
 refine FileO.mk (Y:=Vv) (X:=Rv) (x:=x) (by kernel_rfl) (fun z=>by kernel_rfl) m.chk cs cs' ?_ ?_ (by omega)
 ·unfold Vv Qi
  rw [Option.bind_some,e1,Option.bind_some]
 ·unfold Rv Qi
  rw [e2,Option.bind_some,if_neg (by simp),Option.bind_some]
theorem file_b (m:MadeS w) (cs:CheckP s∧Bp s) (cs':CheckP { s with weight:=w.weight } ∧ Bp { s with weight:=w.weight }):FileO (bs [99,112,117,46,119,101,105,103,104,116]) w s { s with weight:=w.weight } := by
 have h:=m.wt
 obtain ⟨x,e1,e2,e3⟩:=num_ok (n:=w.weight) (by omega)
 refine FileO.mk (Y:=Wj) (X:=Sa) (x:=x) (by kernel_rfl) (fun z=>by kernel_rfl) m.chk cs cs' ?_ ?_ (by omega)
 ·unfold Wj Qy
  rw [Option.bind_some,e1,Option.bind_some]
 ·unfold Sa Qy
  rw [e2,Option.bind_some,if_neg (by simp),if_neg (by simp; omega),Option.bind_some]
theorem file_c (m:MadeS w) (hb:s.burst=0) (cs:CheckP s∧Bp s) (cs':CheckP { s with quota:=w.quota,period:=w.period } ∧ Bp { s with quota:=w.quota,period:=w.period }):FileO (bs [99,112,117,46,109,97,120]) w s { s with quota:=w.quota,period:=w.period } := by
 have h:=m.mx
 obtain ⟨a,b,c,d,e1,e2,e3,e4,e5,e6,e7,e8,e9⟩:=rtM_eq (max_ok (q:=w.quota) (p:=w.period) h)
 have h1:(bs [32]).size=1:=rfl
 have hz:((a++bs [32])++b).size≤100:=by rw [ByteArray.size_append,ByteArray.size_append]; omega
 refine FileO.mk (Y:=Wf) (X:=Ud) (x:=(a++bs [32])++b) (by kernel_rfl) (fun z=>by kernel_rfl) m.chk cs cs' ?_ ?_ hz
 ·unfold Wf
  rw [e1,Option.bind_some,if_neg (by simp),e2,Option.bind_some,if_pos (by simp only; omega),if_pos (by simp only; rw [ByteArray.size_append]; omega)]
 ·unfold Ud
  rw [e5,Option.bind_some]
  simp only [List.length_cons,List.length_nil,List.getD_cons_zero,List.getD_cons_succ]
  rw [if_neg (by simp),if_pos (by simp),if_pos (by omega),if_pos (by omega),e6,if_neg (by simp),if_pos (by omega),if_pos (by omega),e7]
  unfold Ix
  simp only [List.length_cons,List.length_nil,List.getD_cons_zero,List.getD_cons_succ]
  rw [if_neg (by simp),if_pos (by omega),if_pos (by omega),e8,Option.bind_some,if_neg (by simp),if_pos (by simp),if_pos (by omega),if_pos (by omega),e9,Option.bind_some,if_neg (by simp),if_neg (by simp; omega)]
  unfold Py Qf
  have hb':∀ q:Int,({ pidsMax:=s.pidsMax,weight:=s.weight,quota:=w.quota,period:=w.period,burst:=0,clampMin:=s.clampMin,clampMax:=s.clampMax,cpus:=s.cpus,mems:=s.mems,partition:=s.partition,memory:=s.memory,devices:=s.devices } : Ac) = { s with quota:=w.quota,period:=w.period } := fun _=>by rw [← hb]
  simp only
  rw [hb' 0]
  split <;> rfl
theorem file_d (m:MadeS w) (cs:CheckP s∧Bp s) (cs':CheckP { s with burst:=w.burst } ∧ Bp { s with burst:=w.burst }):FileO (bs [99,112,117,46,109,97,120,46,98,117,114,115,116]) w s { s with burst:=w.burst } := by
 have h:=m.bu
 obtain ⟨x,e1,e2,e3⟩:=num_ok (n:=w.burst) (by omega)
 refine FileO.mk (Y:=Vw) (X:=Rq) (x:=x) (by kernel_rfl) (fun z=>by kernel_rfl) m.chk cs cs' ?_ ?_ (by omega)
 ·unfold Vw Ql
  rw [Option.bind_some,e1,Option.bind_some]
 ·unfold Rq Ql
  rw [e2,Option.bind_some,if_neg (by simp),if_neg (by simp; omega),Option.bind_some]
theorem file_e (m:MadeS w) (cs:CheckP s∧Bp s) (cs':CheckP { s with clampMin:=w.clampMin } ∧ Bp { s with clampMin:=w.clampMin }):FileO (bs [99,112,117,46,117,99,108,97,109,112,46,109,105,110]) w s { s with clampMin:=w.clampMin } := by
 obtain ⟨x,e1,e2,e3⟩:=hund_ok (n:=w.clampMin) m.lo.1 m.lo.2
 refine FileO.mk (Y:=Rt) (X:=Ry) (x:=x) (by kernel_rfl) (fun z=>by kernel_rfl) m.chk cs cs' ?_ ?_ (by omega)
 ·unfold Rt Qm
  rw [Option.bind_some,e1,Option.bind_some]
 ·unfold Ry Qm
  rw [e2,Option.bind_some,if_pos (by simp),Option.bind_some]
  rfl
theorem file_f (m:MadeS w) (cs:CheckP s∧Bp s) (cs':CheckP { s with clampMax:=w.clampMax } ∧ Bp { s with clampMax:=w.clampMax }):FileO (bs [99,112,117,46,117,99,108,97,109,112,46,109,97,120]) w s { s with clampMax:=w.clampMax } := by
 obtain ⟨x,e1,e2,e3⟩:=hund_ok (n:=w.clampMax) m.hi.1 m.hi.2
 refine FileO.mk (Y:=Ro) (X:=Rm) (x:=x) (by kernel_rfl) (fun z=>by kernel_rfl) m.chk cs cs' ?_ ?_ (by omega)
 ·unfold Ro Qp
  rw [Option.bind_some,e1,Option.bind_some]
 ·unfold Rm Qp
  rw [e2,Option.bind_some,if_pos (by simp),Option.bind_some]
  rfl
theorem file_g (m:MadeS w) (cs:CheckP s∧Bp s) (cs':CheckP { s with cpus:=w.cpus } ∧ Bp { s with cpus:=w.cpus }):FileO (bs [99,112,117,115,101,116,46,99,112,117,115]) w s { s with cpus:=w.cpus } := by
 obtain ⟨x,e1,e2,e3⟩:=rtS_eq (List.all_eq_true.1 set6 _ (Yq 6 m.cp))
 refine FileO.mk (Y:=Vx) (X:=Rj) (x:=x) (by kernel_rfl) (fun z=>by kernel_rfl) m.chk cs cs' ?_ ?_ (by omega)
 ·unfold Vx Qr
  rw [Option.bind_some,e1,Option.bind_some]
 ·unfold Rj Qr
  rw [e2,Option.bind_some,if_pos (by simp),Option.bind_some]
  rfl
theorem file_h (m:MadeS w) (cs:CheckP s∧Bp s) (cs':CheckP { s with mems:=w.mems } ∧ Bp { s with mems:=w.mems }):FileO (bs [99,112,117,115,101,116,46,109,101,109,115]) w s { s with mems:=w.mems } := by
 obtain ⟨x,e1,e2,e3⟩:=rtS_eq (List.all_eq_true.1 set4 _ (Yq 4 m.mm))
 refine FileO.mk (Y:=Wg) (X:=Rk) (x:=x) (by kernel_rfl) (fun z=>by kernel_rfl) m.chk cs cs' ?_ ?_ (by omega)
 ·unfold Wg Qu
  rw [Option.bind_some,e1,Option.bind_some]
 ·unfold Rk Qu
  rw [e2,Option.bind_some,if_pos (by simp),Option.bind_some]
  rfl
theorem file_i (m:MadeS w) (cs:CheckP s∧Bp s) (cs':CheckP { s with partition:=w.partition } ∧ Bp { s with partition:=w.partition }):FileO (bs [99,112,117,115,101,116,46,99,112,117,115,46,112,97,114,116,105,116,105,111,110]) w s { s with partition:=w.partition } := by
 rcases m.pt with h|h
 ·refine FileO.mk (Y:=Gs) (X:=Gb) (x:=bs [109,101,109,98,101,114]) (by kernel_rfl) (fun z=>by kernel_rfl) m.chk cs cs' ?_ ?_ (by decide)
  ·unfold Gs
   rw [if_neg (by rw [h]; simp)]
  ·unfold Gb Gv
   rw [if_neg (by decide +kernel),if_pos (by decide +kernel),h]
 ·refine FileO.mk (Y:=Gs) (X:=Gb) (x:=bs [114,111,111,116]) (by kernel_rfl) (fun z=>by kernel_rfl) m.chk cs cs' ?_ ?_ (by decide)
  ·unfold Gs
   rw [if_pos (by rw [h]; simp)]
  ·unfold Gb Gv
   rw [if_pos (by decide +kernel),h]
theorem fits_at (f:FitsS t l) {i:Nat} (hi:i<l.length):l.findIdx? (fun x=>x.group==(l.getD i default).group)=some i:=by
 have hs:(l.map (·.group)).Pairwise (· < ·):=by
  rw [f.grp]
  exact List.pairwise_map.2 f.wf.sorted
 have hs:=List.pairwise_iff_getElem.1 (List.pairwise_map.1 hs)
 rcases Tb (fun x:Ag=>x.group==(l.getD i default).group) l default with ⟨j,h1,h2,h3⟩|⟨_,h2⟩
 ·have hp:=List.find?_some h3
  have hp:(l.getD j default).group=(l.getD i default).group:=by simpa using hp
  rw [Ff h1,Ff hi] at hp
  rw [h2]
  rcases Nat.lt_trichotomy i j with c|c|c
  ·have:=hs i j hi h1 c
   omega
  ·rw [c]
  ·have:=hs j i h1 hi c
   omega
 ·have:=List.find?_eq_none.1 h2 _ (Nh (d:=default) hi)
  simp at this
theorem Ade (f:FitsS t l) (hs:∀ x∈l,Bp x.settings):Kh t l=some true:=by
 have hn:=f.wf.len2
 have hl:=f.len
 obtain ⟨b,e,hb⟩:=Abr f.wf.p.names (by omega) (l:=l) (by omega) hs
 rw [e,hb.2 f]
theorem set_same {α:Type} {L:List α} {k:Nat} (d:α) (h:k<L.length):L.set k (L.getD k d)=L:=by
 rw [Ff h,List.set_getElem_self]
theorem Air (hl:l.length≤1000000) (hs:∀ x∈l,Bp x.settings):Rx l=some l:=by
 unfold Rx Is
 rw [if_pos (by omega),Option.bind_some,if_pos (by omega)]
 apply Ok.eq
 refine Aqz (fun _ s=>s=l) rfl ?_ (fun s hs=>Ok.ret hs)
 intro j s n hj es hm
 rw [es]
 have hj:j<l.length:=by omega
 unfold Abe
 have e:(0:Int)+(j:Int)=((j:Nat):Int):=by omega
 rw [e]
 refine Ok.guard (by omega) (Ok.guard (by simp only [Int.toNat_natCast]; omega) ?_)
 simp only [Int.toNat_natCast]
 rw [Pu (hs _ (Nh hj)),Option.bind_some]
 exact Ok.guard (by omega) (Ok.guard hj (hm _ (set_same default hj)))
theorem Ali (f:FitsS t l) (hs:∀ x∈l,Bp x.settings) {i:Nat} (hi:i<l.length) {s:Ac} (hc:CheckP s∧Bp s) :
  Xr t l (l.getD i default).group s=some (l.set i { group:=(l.getD i default).group,settings:=s },0):=by
 have hn:=f.wf.len2
 have hl:=f.len
 unfold Xr Vg Ee
 rw [if_pos (by omega),Nl (p:=fun x:Ag=>x.group==(l.getD i default).group) (fun k x n=>by
  unfold Ez We
  rw [Option.bind_some]) rfl,fits_at f hi,Option.elim_some,Option.bind_some,Option.bind_some,Ade f hs,Option.bind_some,if_neg (by simp),if_neg (by simp),Pz hc,Option.bind_some,if_neg (by simp),
  Air (by omega) hs,Option.bind_some,Pu hc.2,Option.bind_some,if_pos (by omega),if_pos (by simp only [Int.toNat_natCast]; omega)]
 simp only [Int.toNat_natCast]
theorem AkR (w:WfT t):Xu t=some (t.nodes.map fun x => { group:=x.id,settings:=dfS }):=by
 have hn:=w.len2
 unfold Xu Yu
 rw [Acy w,Option.bind_some,if_neg (by simp),if_pos (by omega)]
 have:Az (Ur []) Abo t.nodes 0 []=some (t.nodes.map fun x => { group:=x.id,settings:=dfS }):=by
  apply Ok.eq
  refine Ok.range (fun pre s=>s=pre.map fun x => { group:=x.id,settings:=dfS }) rfl ?_ (fun s hs=>Ok.ret hs)
  rintro pre x post s n he rfl hm
  have:pre.length+1≤t.nodes.length:=by rw [he]; simp
  unfold Ur
  rw [Mw (by simp) (by simp),Option.bind_some]
  refine Ok.guard (by simp; omega) (hm _ ?_)
  rw [List.map_append]
  rfl
 rw [this,Option.bind_some]
theorem App (f:FitsS t l) (hs:∀ x∈l,Bp x.settings) {g:Int} (hg:Dx t g=true):Ok (Na t l g) Bp:=by
 have hn:=f.wf.len2
 have hl:=f.len
 have hul:(upT t g).length≤t.nodes.length:=by
  have:=Tj t.nodes.reverse g
  simpa [upT] using this
 have hgc:=cfg_small hs g
 have hJ:Ok (Ib l g (upT t g) false) Bp:=by
  unfold Ib
  rw [if_neg (by simp),Mw (by omega) hs,Option.bind_some]
  refine Ok.guard (by omega) ?_
  refine Ok.range (fun _ _=>True) trivial ?_ ?_
  ·intro pre x post s n he _ hm
   unfold Abu
   rw [Mw (by omega) hs,Option.bind_some]
   exact hm _ trivial
  ·intro s _
   exact Ok.ret ⟨hgc.cpus,hgc.mems,hgc.devices⟩
 unfold Na
 rw [AaC f.wf,Option.bind_some]
 refine Aqy (fun c => ?_) fun _ => ?_
 ·unfold Ib
  rw [if_pos rfl]
  exact Ok.ret ⟨by decide,by decide,by decide⟩
 ·rw [Ade f hs,Option.bind_some]
  exact hJ
theorem Aeg {L:List Int} (hl:L.length≤1000000):Lm L L=some true:=by
 unfold Lm
 rw [if_neg (by simp),if_pos (by omega)]
 apply Ok.eq
 refine Ok.range (fun _ _=>True) trivial ?_ fun _ _=>Ok.ret rfl
 intro pre x post s n he _ hn
 unfold AaO
 have hi:pre.length<L.length:=by
  rw [he]
  simp
 have hx:L.getD pre.length 0=x:=by
  rw [he]
  exact Wn
 rw [if_pos hi,hx,if_neg (by simp)]
 exact hn () trivial
theorem AkO {L:List Au} (hl:L.length≤1000000):Gq L L=some true:=by
 unfold Gq
 rw [if_neg (by simp),if_pos (by omega)]
 apply Ok.eq
 refine Ok.range (fun _ _=>True) trivial ?_ fun _ _=>Ok.ret rfl
 intro pre x post s n he _ hn
 unfold Nn
 have hi:pre.length<L.length:=by
  rw [he]
  simp
 have hx:L.getD pre.length default=x:=by
  rw [he]
  exact Wn
 rw [if_pos hi,hx,if_neg (by simp [Aco])]
 exact hn () trivial
theorem Ahy {s:Ac} (h:Bp s):Vt s s=some true:=by
 unfold Vt
 simp only [beq_self_eq_true,if_true]
 rw [Aeg h.cpus,Option.bind_some,if_pos rfl,Aeg h.mems,Option.bind_some,if_pos rfl,if_pos (by simp [Acx]),AkO h.devices,Option.bind_some]
 rfl
end Go.Dm

namespace Go.Dm
variable {t : Af} {l c:List Ag} {on:List Int}
theorem My {nm:ByteArray} {w s s':Ac} (h:FileO nm w s s') {r9:List Ag×Ai} {s1:List Ag×Int} {i:Nat} (e:s1.2=(i:Int)) (hi:i<r9.1.length) (hw:(r9.1.getD i default).settings=w) {k:Nat} {n:Ac→Option Bool} :
  Ly r9 s1 k nm s n=n s':=by
 obtain ⟨x,h1,h2⟩:=h
 unfold Ly
 rw [e,if_pos (by omega),if_pos (by simp only [Int.toNat_natCast]; omega)]
 simp only [Int.toNat_natCast]
 rw [hw,h1,Option.bind_some,h2,Option.bind_some,if_neg (by simp)]
theorem files_run {w:Ac} (m:MadeS w) {r9:List Ag×Ai} {s1:List Ag×Int} {i:Nat} (e:s1.2=(i:Int)) (hi:i<r9.1.length) (hw:(r9.1.getD i default).settings=w) {D:Ac→Option Bool} :
  Az (Ly r9 s1) D fileNames 0 dfS=D w:=by
 have h1:=m.pm
 have h2:=m.wt
 have h3:=m.mx
 have h4:=m.bu
 have h5:=m.lo
 have h6:=m.hi
 have h7:=m.pt
 have z:∀ n,okSet n []:=fun n=>⟨List.Pairwise.nil,fun x hx=>by simp at hx⟩
 have d0:CheckP dfS∧Bp dfS:=⟨dfS_ok,AlI⟩
 have c1:CheckP { dfS with pidsMax:=w.pidsMax } ∧ Bp { dfS with pidsMax:=w.pidsMax } :=
  Uw h1 (.inl (by simp [dfS])) (by simp [dfS]) (.inl (by simp [dfS])) (by simp [dfS]) (by simp [dfS]) (z 6) (z 4) (.inl rfl) rfl rfl
 have c2:CheckP { dfS with pidsMax:=w.pidsMax,weight:=w.weight } ∧ Bp { dfS with pidsMax:=w.pidsMax,weight:=w.weight } :=
  Uw h1 h2 (by simp [dfS]) (.inl (by simp [dfS])) (by simp [dfS]) (by simp [dfS]) (z 6) (z 4) (.inl rfl) rfl rfl
 have c3:CheckP { dfS with pidsMax:=w.pidsMax,weight:=w.weight,quota:=w.quota,period:=w.period } ∧ Bp { dfS with pidsMax:=w.pidsMax,weight:=w.weight,quota:=w.quota,period:=w.period } :=
  Uw h1 h2 (by simp only; omega) (show (w.quota=4611686018427387904∧(0:Int)=0)∨(1≤w.quota∧w.quota≤10∧(0:Int)≤0∧(0:Int)≤w.quota) by omega) (by simp [dfS]) (by simp [dfS]) (z 6) (z 4) (.inl rfl) rfl rfl
 have c4:CheckP { dfS with pidsMax:=w.pidsMax,weight:=w.weight,quota:=w.quota,period:=w.period,burst:=w.burst } ∧ Bp { dfS with pidsMax:=w.pidsMax,weight:=w.weight,quota:=w.quota,period:=w.period,burst:=w.burst } :=
  Uw h1 h2 (by simp only; omega) (by simp only; omega) (by simp [dfS]) (by simp [dfS]) (z 6) (z 4) (.inl rfl) rfl rfl
 have c5:CheckP { dfS with pidsMax:=w.pidsMax,weight:=w.weight,quota:=w.quota,period:=w.period,burst:=w.burst,clampMin:=w.clampMin } ∧ Bp { dfS with pidsMax:=w.pidsMax,weight:=w.weight,quota:=w.quota,period:=w.period,burst:=w.burst,clampMin:=w.clampMin } :=
  Uw h1 h2 (by simp only; omega) (by simp only; omega) h5 (by simp [dfS]) (z 6) (z 4) (.inl rfl) rfl rfl
 have c6:CheckP { dfS with pidsMax:=w.pidsMax,weight:=w.weight,quota:=w.quota,period:=w.period,burst:=w.burst,clampMin:=w.clampMin,clampMax:=w.clampMax } ∧ Bp { dfS with pidsMax:=w.pidsMax,weight:=w.weight,quota:=w.quota,period:=w.period,burst:=w.burst,clampMin:=w.clampMin,clampMax:=w.clampMax } :=
  Uw h1 h2 (by simp only; omega) (by simp only; omega) h5 h6 (z 6) (z 4) (.inl rfl) rfl rfl
 have c7:CheckP { dfS with pidsMax:=w.pidsMax,weight:=w.weight,quota:=w.quota,period:=w.period,burst:=w.burst,clampMin:=w.clampMin,clampMax:=w.clampMax,cpus:=w.cpus } ∧ Bp { dfS with pidsMax:=w.pidsMax,weight:=w.weight,quota:=w.quota,period:=w.period,burst:=w.burst,clampMin:=w.clampMin,clampMax:=w.clampMax,cpus:=w.cpus } :=
  Uw h1 h2 (by simp only; omega) (by simp only; omega) h5 h6 m.cp (z 4) (.inl rfl) rfl rfl
 have c8:CheckP { dfS with pidsMax:=w.pidsMax,weight:=w.weight,quota:=w.quota,period:=w.period,burst:=w.burst,clampMin:=w.clampMin,clampMax:=w.clampMax,cpus:=w.cpus,mems:=w.mems } ∧ Bp { dfS with pidsMax:=w.pidsMax,weight:=w.weight,quota:=w.quota,period:=w.period,burst:=w.burst,clampMin:=w.clampMin,clampMax:=w.clampMax,cpus:=w.cpus,mems:=w.mems } :=
  Uw h1 h2 (by simp only; omega) (by simp only; omega) h5 h6 m.cp m.mm (.inl rfl) rfl rfl
 have c9:CheckP { dfS with pidsMax:=w.pidsMax,weight:=w.weight,quota:=w.quota,period:=w.period,burst:=w.burst,clampMin:=w.clampMin,clampMax:=w.clampMax,cpus:=w.cpus,mems:=w.mems,partition:=w.partition } ∧ Bp { dfS with pidsMax:=w.pidsMax,weight:=w.weight,quota:=w.quota,period:=w.period,burst:=w.burst,clampMin:=w.clampMin,clampMax:=w.clampMax,cpus:=w.cpus,mems:=w.mems,partition:=w.partition } :=
  Uw h1 h2 (by simp only; omega) (by simp only; omega) h5 h6 m.cp m.mm h7 rfl rfl
 have last:({ dfS with pidsMax:=w.pidsMax,weight:=w.weight,quota:=w.quota,period:=w.period,burst:=w.burst,clampMin:=w.clampMin,clampMax:=w.clampMax,cpus:=w.cpus,mems:=w.mems,partition:=w.partition } : Ac)=w:=by
  have e1:=m.me
  have e2:=m.dv
  obtain ⟨a1,a2,a3,a4,a5,a6,a7,a8,a9,a10,a11,a12⟩:=w
  simp only at e1 e2
  rw [e1,e2]
  rfl
 unfold fileNames
 rw [Az,My (file_a m d0 c1) e hi hw,Az,My (file_b m c1 c2) e hi hw,Az,My (file_c m rfl c2 c3) e hi hw,Az,My (file_d m c3 c4) e hi hw,Az,My (file_e m c4 c5) e hi hw,
  Az,My (file_f m c5 c6) e hi hw,Az,My (file_g m c6 c7) e hi hw,Az,My (file_h m c7 c8) e hi hw,Az,My (file_i m c8 c9) e hi hw,Az,last]
def Sp (l:List Ag) (i:Nat):List Ag:=l.take i++(l.drop i).map fun x => { group:=x.group,settings:=dfS }
theorem mixC_len (i:Nat):(Sp l i).length=l.length:=by
 unfold Sp
 simp
 omega
theorem mixC_grp (i:Nat):(Sp l i).map (·.group)=l.map (·.group):=by
 unfold Sp
 rw [List.map_append,List.map_map]
 have:((fun x:Ag=>x.group) ∘ fun x:Ag=>({ group:=x.group,settings:=dfS } : Ag))=fun x=>x.group:=rfl
 rw [this,← List.map_append,List.take_append_drop]
theorem AlK (h:∀ x∈l,MadeS x.settings) (i:Nat):∀ x∈Sp l i,MadeS x.settings:=by
 intro x hx
 rcases List.mem_append.1 hx with hx|hx
 ·exact h x (List.mem_of_mem_take hx)
 ·obtain ⟨y,_,rfl⟩:=List.mem_map.1 hx
  exact AmH
theorem mixC_fits (f:FitsS t l) (h:∀ x∈l,MadeS x.settings) (i:Nat):FitsS t (Sp l i):=⟨f.wf,by rw [mixC_grp,f.grp],fun x hx=>(AlK h i x hx).chk.1⟩
theorem mixC_step {i:Nat} (hi:i<l.length):((Sp l i).getD i default).group=(l.getD i default).group∧(Sp l i).set i { group:=(l.getD i default).group,settings:=(l.getD i default).settings } = Sp l (i+1):=by
 have hA:(l.take i).length=i:=by simp; omega
 have hd:l.drop i=l[i]::l.drop (i+1):=List.drop_eq_getElem_cons hi
 have hm:Sp l i=l.take i ++ { group:=l[i].group,settings:=dfS } :: (l.drop (i+1)).map fun x => { group:=x.group,settings:=dfS } := by
  unfold Sp
  rw [hd,List.map_cons]
 rw [hm,Ff hi]
 constructor
 ·have:=Wn (pre:=l.take i) (post:=(l.drop (i+1)).map fun x=>({ group:=x.group,settings:=dfS } : Ag)) (x := { group:=l[i].group,settings:=dfS }) (d:=default)
  rw [hA] at this
  rw [this]
 ·have:=set_mid (l.take i) ((l.drop (i+1)).map fun x=>({ group:=x.group,settings:=dfS } : Ag)) { group:=l[i].group,settings:=dfS } { group:=l[i].group,settings:=l[i].settings }
  rw [hA] at this
  rw [this]
  unfold Sp
  rw [List.take_succ_eq_append_getElem hi,List.append_assoc]
  rfl
theorem AiZ (l0:List Int):Ok (Nv l0) (· = true):=by
 unfold Nv AbB AeI
 refine Ok.step rfl ?_
 rw [if_neg (by simp)]
 refine Ok.step rfl ?_
 unfold Ma
 refine Aqy (fun _=>Ok.of_eq (b:=true) rfl rfl) fun c => ?_
 have hl:l0.length≤600:=by
  have:((l0.length:Nat):Int)≤600:=by simpa using c
  omega
 refine Ok.step (a := { l:=l0,atF:=0 }) rfl ?_
 refine Ok.bind (Ann (dice_roll hl) 6 4 (by omega) (by omega) (by omega) (by omega)) fun r7 ⟨wh,hd⟩ => ?_
 have w:=wh.tree
 have hn:=w.len2
 rw [AkR w,Option.bind_some]
 refine Ok.bind (AmM hd w) fun r9 ⟨f,hm,hd⟩ => ?_
 refine Ok.bind (Online_ok hd (n:=6) (by omega) (by omega)) fun r10 ⟨ho,hpos,hd⟩ => ?_
 have h16:okSet 16 r10.1:=AeP ho (by omega)
 have u:UseS r7.1.tree r9.1 r10.1:=⟨f,hpos,h16⟩
 have hs:∀ x∈r9.1,Bp x.settings:=fun x hx=>(hm x hx).chk.2
 have hL:=f.len
 have h0:(r7.1.tree.nodes.map fun x=>({ group:=x.id,settings:=dfS } : Ag))=Sp r9.1 0:=by
  unfold Sp
  rw [List.take_zero,List.drop_zero,List.nil_append]
  have:=congrArg (fun q=>q.map fun g=>({ group:=g,settings:=dfS } : Ag)) f.grp
  simp only [List.map_map] at this
  exact this.symm
 rw [h0]
 refine Aqu (fun q=>∃ i:Nat,i≤r9.1.length∧q=(Sp r9.1 i,(i:Int))) (fun q=>r9.1.length-Int.toNat q.2) ⟨0,by omega,rfl⟩ (by rw [Iv]; simp; omega) ?_
 rintro q n ⟨i,hi,rfl⟩ hn2
 have hlen:=mixC_len (l:=r9.1) i
 unfold Zc
 simp only [hlen]
 refine Aqy (fun c => ?_) fun c => ?_
 ·have c:=of_decide_eq_true c
  have hil:i<r9.1.length:=by omega
  have hd:Qc=some dfS:=rfl
  rw [hd,Option.bind_some,Option.bind_some,if_pos (by decide),files_run (w:=(r9.1.getD i default).settings) (hm _ (Nh hil)) (i:=i) rfl hil rfl]
  unfold Zi
  simp only
  refine Ok.guard (by omega) ?_
  simp only [Int.toNat_natCast]
  rw [Ali (mixC_fits f hm i) (fun x hx=>(AlK hm i x hx).chk.2) (by omega) (hm _ (Nh hil)).chk,Option.bind_some,if_neg (by simp)]
  obtain ⟨e1,e2⟩:=mixC_step hil
  simp only
  rw [e1,e2]
  have hw:w64 ((i:Int)+1)=((i+1:Nat):Int):=by
   rw [Bz (by omega) (by omega)]
   omega
  rw [hw]
  exact hn2 _ ⟨i+1,by omega,rfl⟩ (by simp only [Int.toNat_natCast]; omega)
 ·have c:=of_decide_eq_false c
  have hil:i=r9.1.length:=by omega
  subst hil
  have he:Sp r9.1 r9.1.length=r9.1:=by
   unfold Sp
   rw [List.take_length,List.drop_length,List.map_nil,List.append_nil]
  rw [he]
  refine Ok.guard (by omega) ?_
  refine Ok.range (fun _ _=>True) trivial ?_ (fun _ _=>Ok.ret rfl)
  intro pre x post s m hx _ hm2
  have hx:x∈r7.1.tree.nodes:=by rw [hx]; simp
  have hh:Dx r7.1.tree x.id=true:=hasN_iff.mpr ⟨x,hx,rfl⟩
  have hul:(upT r7.1.tree x.id).length≤r7.1.tree.nodes.length:=by
   have:=Tj r7.1.tree.nodes.reverse x.id
   simpa [upT] using this
  obtain ⟨S,eS,hS⟩:=App f hs hh
  obtain ⟨b1,b2,b3,b4⟩:=AkP u hh
  unfold Zf
  simp only
  rw [eS,Option.bind_some,Option.bind_some,Ahy hS,Option.bind_some,if_neg (by simp),Cpus_t u hs,Option.bind_some,if_pos hh,Option.bind_some,Alb _ (by omega),Option.bind_some]
  unfold Lz
  rw [if_neg (by simp),Wl w,Option.bind_some]
  have hdp:Abz r7.1.tree x.id=some (((upT r7.1.tree x.id).length:Int)-1):=by
   unfold Abz Aad AcA
   rw [Acy w]
   simp only [Option.bind_some,Bool.not_true,Bool.false_eq_true,if_false]
   rw [AaC w]
   simp only [Option.bind_some]
   rw [Bz (by omega) (by omega)]
  rw [hdp,Option.bind_some]
  unfold ancN
  rw [if_pos hh,Bz (by omega) (by omega),if_neg (by simp)]
  exact hm2 _ trivial
theorem AgJ (l0:List Int):Nv l0=some true:=Ok.eq (AiZ l0)
end Go.Dm

namespace Go.Dm
class Sd (P:Program) (T:outParam Ty):Prop where
 good:Gi P T
 mixed:P.follows .mixedOrders=true
def padL : List Oper→List Orc→List Orc
 | [],xs=>xs
 | _::os,[] => .no::padL os []
 | _::os,x::xs=>x::padL os xs
def numS : Nat→List MV→List (Nat×MV)
 | _,[] => []
 | k,x::r=>(k,x)::numS (k+1) r
def numO : Nat→List Body→List (Nat×Obj)
 | _,[] => []
 | k,x::r=>(k,⟨0,x⟩)::numO (k+1) r
structure Cn (R:Type) where
 f:FuncId
 x:R→MV
 o:R→List Body
 n:R→List Body
abbrev Cn.c {R:Type} (C:Cn R) (ks:List Nat) (b:Bool) (r:R) (sm:List Nat := []):Orc := .call C.f ks b (C.x r) (C.o r) (C.n r) sm
abbrev Cn.d {R:Type} (C:Cn R) (r:R):Orc := .call C.f [] true (C.x r) (C.o r) (C.n r) []
abbrev Cn.e {R:Type} (C:Cn R) (k:Nat) (r:R):Orc := .call C.f [k] true (C.x r) (C.o r) (C.n r) []
abbrev Cn.S {R:Type} (C:Cn R) (P:Program) (args:List MV) (outs:List Body) (r:R):Prop:=Spec P C.f args outs (C.x r) (C.o r) (C.n r)
def NF : Nat→Prop
 | 0=>True
 | n+1=>false=false∧NF n
theorem nf : ∀ n,NF n
 | 0=>trivial
 | n+1=>⟨rfl,nf n⟩
def tl : Nat→List Orc
 | 0 => [.pk false]
 | n+1 => .pk false :: .no :: .skip :: .skip :: .skip::tl n
section
variable {p1 p2 p3 p4 p5:Prop}
abbrev a1 (h1:p1):p1∧True:=⟨h1,trivial⟩
abbrev a2 (h1:p1) (h2:p2):p1∧p2∧True:=⟨h1,h2,trivial⟩
abbrev a3 (h1:p1) (h2:p2) (h3:p3):p1∧p2∧p3∧True:=⟨h1,h2,h3,trivial⟩
abbrev a4 (h1:p1) (h2:p2) (h3:p3) (h4:p4):p1∧p2∧p3∧p4∧True:=⟨h1,h2,h3,h4,trivial⟩
abbrev a5 (h1:p1) (h2:p2) (h3:p3) (h4:p4) (h5:p5):p1∧p2∧p3∧p4∧p5∧True:=⟨h1,h2,h3,h4,h5,trivial⟩
end
section
variable {α : Type} {W:Nat} {enc:α→List PV} {d:α}
theorem tU {n:Nat} {f:Nat→List PV} {L:List α} (h:RowIs enc d n f L):MLe (.p (.sl .unk W n f)) (.p (Gy W enc d L)):=MLe.typed h
end
def selN (js:List Nat):Nat→List MV→List MV→List MV
 | j,x::l,y::m=>(bif memN js j then (match x with
  | .p (.sl _ _ 0 _)=>match y with
   | .p (.sl .unk W 0 g) => .p (.sl .unk W 0 g)
   | _=>x
  | _=>x) else x)::selN js (j+1) l m
 | _,l,_=>l
theorem selN_le (js:List Nat):∀ (j:Nat) (l m:List MV),MLes l (selN js j l m)
 | j,[],m=>by cases m <;> exact .nil
 | j,x::l,[]=>by
  have:∀ l:List MV,MLes l l:=fun l=>by induction l with
   | nil=>exact .nil
   | cons x l ih=>exact .cons .rfl ih
  exact this _
 | j,x::l,y::m=>by
  refine .cons ?_ (selN_le js (j+1) l m)
  cases memN js j with
  | false=>exact .rfl
  | true =>
   simp only [cond_true]
   split
   ·split
    ·exact .p (.empty (.inl rfl))
    ·exact .rfl
   ·exact .rfl
def AkE (k:Nat) (l:List (Nat×Obj)):List MV:=match assoc l k with
 | some ⟨_,.box m⟩=>m
 | _ => []
section
variable {R : Type} {r:R} {G:Prop}
theorem bO {α:Type} {x:Option α} {k:α→Option R} (h:x.bind k=some r) (g:∀ a,x=some a→k a=some r→G):G:=by
 obtain ⟨a,h1,h2⟩:=bind_open h
 exact g a h1 h2
theorem gA {p:Prop} [Decidable p] {x:Option R} (h:(if p then x else none)=some r) (g:p→x=some r→G):G:=g (go1 h).1 (go1 h).2
theorem gB {p q:Prop} [Decidable p] [Decidable q] {x:Option R} (h:(if p then if q then x else none else none)=some r) (g:p→q→x=some r→G):G:=gA h fun a h=>gA h fun b h=>g a b h
theorem gC {p q s:Prop} [Decidable p] [Decidable q] [Decidable s] {x:Option R} (h:(if p then if q then if s then x else none else none else none)=some r) (g:p→q→s→x=some r→G):G:=gA h fun a h=>gB h fun b c h=>g a b c h
theorem gD {p q s t:Prop} [Decidable p] [Decidable q] [Decidable s] [Decidable t] {x:Option R} (h:(if p then if q then if s then if t then x else none else none else none else none)=some r) (g:p→q→s→t→x=some r→G):G:=gB h fun a b h=>gB h fun c d h=>g a b c d h
theorem iF {b:Bool} {X Y:Option R} (hm:(if b=true then X else Y)=some r) (h1:b=true→X=some r→G) (h2:b=false→Y=some r→G):G:=by
 cases b with
 | true=>exact h1 rfl hm
 | false=>exact h2 rfl hm
theorem iB (b:Bool) (h1:b=true→G) (h2:b=false→G):G:=by
 cases b with
 | true=>exact h1 rfl
 | false=>exact h2 rfl
end
section
variable {P : Program} {T:Ty} {cx:Cx P} {σ:St} {Q:Exit→St→Prop} {nt:Nat} {ops:Array Oper} {id:Nat} {draw:Bool} {r:List Code} {x y z:Code} {c:Operand} {sl0:List (Nat×MV)} {ob0:List (Nat×Obj)} {q:Prop} {R:Type}
abbrev dq (P:Program) (T:Ty) (nt:Nat) (ops:Array Oper) (xs:List Orc) (sl:List (Nat×MV)) (ob:List (Nat×Obj)) (draw:Bool) (σ:St):=AhM P T nt ops (padL ops.toList xs) (Ce sl) (Ce ob) draw σ
abbrev tB (t:Nat) (b:Bool) (sl:List (Nat×MV)):=up [] [(t,pB b)] sl
abbrev lN (k n:Nat):Bool:=decide (((k:Nat):Int)<((n:Nat):Int))
theorem kE [Sd P T] (xs:List Orc) (sl:List (Nat×MV)) (ob:List (Nat×Obj)) (hq:q) (hQ:DW P cx r (Ae sl ob) Q) (hnt:cx.nt=nt:=by assumption)
  (h:dq P T nt ops xs sl ob draw σ=some ((sl,ob),q):=by kernel_rfl):DW P cx (.region id ops draw::r) σ Q:=DW.rk Sd.good Sd.mixed hnt _ sl ob hq h hQ
theorem kB [Sd P T] (sl:List (Nat×MV)) (ob:List (Nat×Obj)) (hQ:DW P cx r (Ae sl ob) Q) (hnt:cx.nt=nt:=by assumption)
  (h:dq P T nt ops [] sl ob draw σ=some ((sl,ob),True):=by kernel_rfl):DW P cx (.region id ops draw::r) σ Q:=kE [] sl ob tv hQ hnt h
theorem kA [Sd P T] (sl:List (Nat×MV)) (hQ:DW P cx r (Ae sl []) Q) (hnt:cx.nt=nt:=by assumption)
  (h:dq P T nt ops [] sl [] draw σ=some ((sl,[]),True):=by kernel_rfl):DW P cx (.region id ops draw::r) σ Q:=kE [] sl [] tv hQ hnt h
theorem rE [Sd P T] (xs:List Orc) (ds:List Nat) (us:List (Nat×MV)) (dk:List Nat) (uo:List (Nat×Obj)) (hq:q) (hQ:DW P cx r (Ae (up ds us sl0) (up dk uo ob0)) Q) (hnt:cx.nt=nt:=by assumption)
  (h:dq P T nt ops xs (up ds us sl0) (up dk uo ob0) draw (Ae sl0 ob0)=some ((up ds us sl0,up dk uo ob0),q):=by kernel_rfl):DW P cx (.region id ops draw::r) (Ae sl0 ob0) Q:=kE xs _ _ hq hQ hnt h
theorem rD [Sd P T] (xs:List Orc) (ds:List Nat) (us:List (Nat×MV)) (hq:q) (hQ:DW P cx r (Ae (up ds us sl0) ob0) Q) (hnt:cx.nt=nt:=by assumption)
  (h:dq P T nt ops xs (up ds us sl0) ob0 draw (Ae sl0 ob0)=some ((up ds us sl0,ob0),q):=by kernel_rfl):DW P cx (.region id ops draw::r) (Ae sl0 ob0) Q:=kE xs _ _ hq hQ hnt h
theorem rC [Sd P T] (xs:List Orc) (us:List (Nat×MV)) (hq:q) (hQ:DW P cx r (Ae (up [] us sl0) ob0) Q) (hnt:cx.nt=nt:=by assumption)
  (h:dq P T nt ops xs (up [] us sl0) ob0 draw (Ae sl0 ob0)=some ((up [] us sl0,ob0),q):=by kernel_rfl):DW P cx (.region id ops draw::r) (Ae sl0 ob0) Q:=kE xs _ _ hq hQ hnt h
theorem rB [Sd P T] (ds:List Nat) (us:List (Nat×MV)) (hQ:DW P cx r (Ae (up ds us sl0) ob0) Q) (hnt:cx.nt=nt:=by assumption)
  (h:dq P T nt ops [] (up ds us sl0) ob0 draw (Ae sl0 ob0)=some ((up ds us sl0,ob0),True):=by kernel_rfl):DW P cx (.region id ops draw::r) (Ae sl0 ob0) Q:=kE [] _ _ tv hQ hnt h
theorem rA [Sd P T] (us:List (Nat×MV)) (hQ:DW P cx r (Ae (up [] us sl0) ob0) Q) (hnt:cx.nt=nt:=by assumption)
  (h:dq P T nt ops [] (up [] us sl0) ob0 draw (Ae sl0 ob0)=some ((up [] us sl0,ob0),True):=by kernel_rfl):DW P cx (.region id ops draw::r) (Ae sl0 ob0) Q:=kE [] _ _ tv hQ hnt h
theorem r0 [Sd P T] (hQ:DW P cx r (Ae sl0 ob0) Q) (hnt:cx.nt=nt:=by assumption)
  (h:dq P T nt ops [] sl0 ob0 draw (Ae sl0 ob0)=some ((sl0,ob0),True):=by kernel_rfl):DW P cx (.region id ops draw::r) (Ae sl0 ob0) Q:=kE [] _ _ tv hQ hnt h
theorem uS {sl ps:List (Nat×MV)} {a b:MV} (t:Nat) (h:MLe a b) (k:SP sl ps) (e:assoc sl t=some b:=by rfl):SP sl ((t,a)::ps) := .cons e h k
theorem uO {ob:List (Nat×Obj)} {ps:List (Nat×Body)} {g:Nat} {a b:Body} (t:Nat) (h:BLe a b) (k:OP ob ps) (e:assoc ob t=some ⟨g,b⟩:=by rfl):OP ob ((t,a)::ps) := .cons e h k
theorem uY {sl ps:List (Nat×MV)} {b:MV} (t:Nat) (a:MV) (h:MLe a b) (k:SP sl ps) (e:assoc sl t=some b:=by rfl):SP sl ((t,a)::ps) := .cons e h k
theorem uX {ob:List (Nat×Obj)} {ps:List (Nat×Body)} {g:Nat} {b:Body} (t:Nat) (a:Body) (h:BLe a b) (k:OP ob ps) (e:assoc ob t=some ⟨g,b⟩:=by rfl):OP ob ((t,a)::ps) := .cons e h k
theorem nR [Sd P T] {ps:List (Nat×MV)} {qs:List (Nat×Body)} (xs:List Orc) (sl:List (Nat×MV)) (ob:List (Nat×Obj)) (hq:q) (hs:SP sl ps) (ho:OP ob qs) (hQ:DW P cx r (Ae sl ob) Q) (hnt:cx.nt=nt:=by assumption)
  (h:dq P T nt ops xs sl ob draw σ=some ((Ho ps sl,Io qs ob),q):=by kernel_rfl):DW P cx (.region id ops draw::r) σ Q:=DW.rn Sd.good Sd.mixed hnt _ sl ob ps qs hq h hs ho hQ
theorem nT [Sd P T] {sl:List (Nat×MV)} {ob:List (Nat×Obj)} (xs:List Orc) (ps:List (Nat×MV)) (hq:q) (hs:SP sl ps) (hnt:cx.nt=nt:=by assumption)
  (h:dq P T nt ops xs sl ob draw σ=some ((Ho ps sl,ob),q):=by kernel_rfl):RegTo P cx ops draw σ sl ob:=RegTo.rn Sd.good Sd.mixed hnt _ ps hq h hs
theorem nP [Sd P T] {sl:List (Nat×MV)} {ob:List (Nat×Obj)} (xs:List Orc) (hq:q) (hnt:cx.nt=nt:=by assumption)
  (h:dq P T nt ops xs sl ob draw σ=some ((Ho [] sl,ob),q):=by kernel_rfl):RegTo P cx ops draw σ sl ob:=nT xs [] hq .nil hnt h
theorem nQ [Sd P T] {sl:List (Nat×MV)} {ob:List (Nat×Obj)} {b:Bool} (xs:List Orc) (t:Nat) (v:Bool) (hq:q) (e2:assoc sl t=some (pB b)) (e:v=b) (hnt:cx.nt=nt:=by assumption)
  (h:dq P T nt ops xs sl ob draw σ=some ((Ho [(t,pB v)] sl,ob),q):=by kernel_rfl):RegTo P cx ops draw σ sl ob:=nT xs _ hq (.cons e2 (.of_eq (congrArg pB e)) .nil) hnt h
theorem jG (sl2:List (Nat×MV)) (ob2:List (Nat×Obj)) (h:RegTo P cx ops draw σ sl2 ob2) (hQ:DW P cx r (Ae sl2 ob2) Q):DW P cx (.region id ops draw::r) σ Q:=DW.regJ h hQ
theorem lR {k n:Nat} {M1 M2:Prop} (hs:k<n→M1) (he:¬ k<n→M2) (h1:k<n→M1→DW P cx (x::r) σ Q) (h2:¬ k<n→M2→DW P cx (y::r) σ Q)
  (hk:An c=true:=by kernel_rfl) (hc:ev σ c = .p (.v (.bool (lN k n))):=by kernel_rfl):DW P cx (.cond c x y::r) σ Q :=
 DW.cond _ hk hc (fun e=>have h:=Int.ofNat_lt.1 (of_decide_eq_true e); h1 h (hs h)) fun e=>have h:=fun h=>of_decide_eq_false e (Int.ofNat_lt.2 h); h2 h (he h)
theorem lF {k n:Int} {M1 M2:Prop} (hs:k<n→M1) (he:¬ k<n→M2) (h1:k<n→M1→DW P cx (x::r) σ Q) (h2:¬ k<n→M2→DW P cx (y::r) σ Q)
  (hk:An c=true:=by kernel_rfl) (hc:ev σ c = .p (.v (.bool (decide (k<n)))):=by kernel_rfl):DW P cx (.cond c x y::r) σ Q :=
 DW.cond _ hk hc (fun e=>have h:=of_decide_eq_true e; h1 h (hs h)) fun e=>have h:=of_decide_eq_false e; h2 h (he h)
theorem lS [Sd P T] {k n:Nat} {M1 M2:Prop} (t:Nat) (hs:k<n→M1) (he:¬ k<n→M2) (h1:k<n→M1→DW P cx (x::z::r) (Ae (tB t (lN k n) sl0) ob0) Q)
  (h2:¬ k<n→M2→DW P cx (y::z::r) (Ae (tB t (lN k n) sl0) ob0) Q) (hnt:cx.nt=nt:=by assumption)
  (h:dq P T nt ops [] (tB t (lN k n) sl0) ob0 draw (Ae sl0 ob0)=some ((tB t (lN k n) sl0,ob0),True):=by kernel_rfl)
  (hk:An c=true:=by kernel_rfl) (hc:ev (Ae (tB t (lN k n) sl0) ob0) c = .p (.v (.bool (lN k n))):=by kernel_rfl) :
  DW P cx (.seq (.seq (.region id ops draw) (.cond c x y)) z::r) (Ae sl0 ob0) Q:=Sq (Sq (rA _ (lR hs he h1 h2 hk hc) hnt h))
theorem lG [Sd P T] {k n:Int} {M1 M2:Prop} (t:Nat) (hs:k<n→M1) (he:¬ k<n→M2) (h1:k<n→M1→DW P cx (x::z::r) (Ae (tB t (decide (k<n)) sl0) ob0) Q)
  (h2:¬ k<n→M2→DW P cx (y::z::r) (Ae (tB t (decide (k<n)) sl0) ob0) Q) (hnt:cx.nt=nt:=by assumption)
  (h:dq P T nt ops [] (tB t (decide (k<n)) sl0) ob0 draw (Ae sl0 ob0)=some ((tB t (decide (k<n)) sl0,ob0),True):=by kernel_rfl)
  (hk:An c=true:=by kernel_rfl) (hc:ev (Ae (tB t (decide (k<n)) sl0) ob0) c = .p (.v (.bool (decide (k<n)))):=by kernel_rfl) :
  DW P cx (.seq (.seq (.region id ops draw) (.cond c x y)) z::r) (Ae sl0 ob0) Q:=Sq (Sq (rA _ (lF hs he h1 h2 hk hc) hnt h))
theorem sA [Sd P T] (us:List (Nat×MV)) (hQ:DW P cx (y::r) (Ae (up [] us sl0) ob0) Q) (hnt:cx.nt=nt:=by assumption)
  (h:dq P T nt ops [] (up [] us sl0) ob0 draw (Ae sl0 ob0)=some ((up [] us sl0,ob0),True):=by kernel_rfl):DW P cx (.seq (.region id ops draw) y::r) (Ae sl0 ob0) Q:=Sq (rA us hQ hnt h)
theorem sB [Sd P T] (ds:List Nat) (us:List (Nat×MV)) (hQ:DW P cx (y::r) (Ae (up ds us sl0) ob0) Q) (hnt:cx.nt=nt:=by assumption)
  (h:dq P T nt ops [] (up ds us sl0) ob0 draw (Ae sl0 ob0)=some ((up ds us sl0,ob0),True):=by kernel_rfl):DW P cx (.seq (.region id ops draw) y::r) (Ae sl0 ob0) Q:=Sq (rB ds us hQ hnt h)
theorem sD [Sd P T] (xs:List Orc) (ds:List Nat) (us:List (Nat×MV)) (hq:q) (hQ:DW P cx (y::r) (Ae (up ds us sl0) ob0) Q) (hnt:cx.nt=nt:=by assumption)
  (h:dq P T nt ops xs (up ds us sl0) ob0 draw (Ae sl0 ob0)=some ((up ds us sl0,ob0),q):=by kernel_rfl):DW P cx (.seq (.region id ops draw) y::r) (Ae sl0 ob0) Q:=Sq (rD xs ds us hq hQ hnt h)
theorem sC [Sd P T] (xs:List Orc) (us:List (Nat×MV)) (hq:q) (hQ:DW P cx (y::r) (Ae (up [] us sl0) ob0) Q) (hnt:cx.nt=nt:=by assumption)
  (h:dq P T nt ops xs (up [] us sl0) ob0 draw (Ae sl0 ob0)=some ((up [] us sl0,ob0),q):=by kernel_rfl):DW P cx (.seq (.region id ops draw) y::r) (Ae sl0 ob0) Q:=Sq (rC xs us hq hQ hnt h)
theorem sK [Sd P T] (xs:List Orc) (sl:List (Nat×MV)) (ob:List (Nat×Obj)) (hq:q) (hQ:DW P cx (y::r) (Ae sl ob) Q) (hnt:cx.nt=nt:=by assumption)
  (h:dq P T nt ops xs sl ob draw σ=some ((sl,ob),q):=by kernel_rfl):DW P cx (.seq (.region id ops draw) y::r) σ Q:=Sq (kE xs sl ob hq hQ hnt h)
theorem tA [Sd P T] (us:List (Nat×MV)) (hQ:DW P cx (y::z::r) (Ae (up [] us sl0) ob0) Q) (hnt:cx.nt=nt:=by assumption)
  (h:dq P T nt ops [] (up [] us sl0) ob0 draw (Ae sl0 ob0)=some ((up [] us sl0,ob0),True):=by kernel_rfl):DW P cx (.seq (.seq (.region id ops draw) y) z::r) (Ae sl0 ob0) Q:=Sq (Sq (rA us hQ hnt h))
theorem xA {ι:Type} {J:ι→St} {m:ι→Prop} {r' r'':List Code} (h:DW P cx r σ Q):DW P cx (.exit id::r'') σ (Jw cx J m (KQ P cx r' (Ng id (KQ P cx r Q)))):=DW.exit (Xn (Th (Vc h)))
theorem dN (h:DW P cx r σ Q):DW P cx [] σ (Ng id (KQ P cx r Q)):=h
theorem xE (h:DW P cx r σ Q):Ng id (KQ P cx r Q) (.exit id) σ:=Vc h
theorem JK {ι:Type} (RES:R) (K:ι→Option R) (J:ι→St) (hj:∀ i,K i=some RES→DW P cx r (J i) Q) (h:DW P cx [x] σ (Jw cx J (fun i=>K i=some RES) (KQ P cx r Q))):DW P cx (x::r) σ Q:=DW.join J _ hj h
theorem wW {S:Type} {B:S→(S→Option R)→Option R} {n:Nat} {s0:S} {res:R} (hm:Dm.whileO B n s0=some res) (I:S→St) (h0:Conv cx σ (I s0))
  (round:∀ s N,B s N=some res→DW P cx [x] (I s) (Jw cx I (fun s'=>N s'=some res) (KQ P cx r Q))):DW P cx (.loop x::r) σ Q:=DW.whileO I hm h0 round
theorem wR {α S:Type} {B:Nat→α→S→(S→Option R)→Option R} {D:S→Option R} {L:List α} (d:α) {s0:S} {res:R} (hm:Az B D L 0 s0=some res) (I:Nat→S→St) (h0:Conv cx σ (I 0 s0))
  (round:∀ k s N,k≤L.length→(k<L.length→B k (L.getD k d) s N=some res)→(¬ k<L.length→D s=some res)→DW P cx [x] (I k s) (Jw cx (fun s=>I (k+1) s) (fun s'=>k<L.length∧N s'=some res) (KQ P cx r Q))) :
  DW P cx (.loop x::r) σ Q:=Aqn I d hm h0 round
theorem wF {S:Type} {B:Int→S→(S→Option R)→Option R} {D:S→Option R} {lo hi:Int} {s0:S} {res:R} (hm:Dm.forO B D (hi-lo).toNat lo s0=some res) (I:Int→S→St) (h0:Conv cx σ (I lo s0))
  (round:∀ k s N,lo≤k→(k<hi→B k s N=some res)→(¬ k<hi→D s=some res)→DW P cx [x] (I k s) (Jw cx (fun s=>I (k+1) s) (fun s'=>k<hi∧N s'=some res) (KQ P cx r Q))) :
  DW P cx (.loop x::r) σ Q:=DW.forO I hm h0 round
theorem cR {a b:Int} {sl:List (Nat×MV)} {ob:List (Nat×Obj)} (t:Nat) (e:a=b) (h:(Ki (Ce sl) (Ce ob) σ,Gz (Ce ob) σ)=(Ho [(t,pI a)] sl,Io [] ob):=by kernel_rfl) (h2:assoc sl t=some (pI b):=by rfl):Conv cx σ (Ae sl ob) :=
 Aqx _ [] h (.cons h2 (.of_eq (congrArg pI e)) .nil) .nil
theorem cT {sl ps:List (Nat×MV)} {ob:List (Nat×Obj)} {qs:List (Nat×Body)} (hs:SP sl ps) (ho:OP ob qs) (h:(Ki (Ce sl) (Ce ob) σ,Gz (Ce ob) σ)=(Ho ps sl,Io qs ob):=by kernel_rfl):Conv cx σ (Ae sl ob):=Aqx ps qs h hs ho
theorem cE {sl ob} (h:(sl0,ob0)=(sl,ob):=by kernel_rfl):Conv cx (Ae sl0 ob0) (Ae sl ob):=Conv.eqK h
theorem cZ {sl:List (Nat×MV)} {ob:List (Nat×Obj)} (h:(Ki (Ce sl) (Ce ob) σ,Gz (Ce ob) σ)=(Ho [] sl,Io [] ob):=by kernel_rfl):Conv cx σ (Ae sl ob):=Conv.t0 h
theorem cN {g:Nat} {m:List MV} {sl:List (Nat×MV)} {ob:List (Nat×Obj)} (k:Nat) (js:List Nat) (e:assoc ob k=some ⟨g,.box m⟩:=by rfl)
  (h:(Ki (Ce sl) (Ce ob) σ,Gz (Ce ob) σ)=(Ho [] sl,Io [(k,.box (AkE k (Gz (Ce ob) σ)))] ob):=by kernel_rfl) (h2:selN js 0 (AkE k (Gz (Ce ob) σ)) m=m:=by kernel_rfl):Conv cx σ (Ae sl ob) :=
 Aqx [] _ h .nil (.cons e (.box (by have:=selN_le js 0 (AkE k (Gz (Ce ob) σ)) m; rw [h2] at this; exact this)) .nil)
theorem mR {b:Bool} {X Y:Option R} {res:R} (t:Nat) (hm:(if b=true then X else Y)=some res) [Sd P T] (h1:b=true→X=some res→DW P cx (x::r) (Ae (tB t b sl0) ob0) Q) (h2:b=false→Y=some res→DW P cx (y::r) (Ae (tB t b sl0) ob0) Q) (hnt:cx.nt=nt:=by assumption)
  (h:dq P T nt ops [] (tB t b sl0) ob0 draw (Ae sl0 ob0)=some ((tB t b sl0,ob0),True):=by kernel_rfl) (hk:An c=true:=by kernel_rfl) (hc:ev (Ae (tB t b sl0) ob0) c = .p (.v (.bool b)):=by kernel_rfl) :
  DW P cx (.region id ops draw :: .cond c x y::r) (Ae sl0 ob0) Q:=rA _ (Aq hm h1 h2 hk hc) hnt h
theorem mS {b:Bool} {X Y:Option R} {res:R} (t:Nat) (hm:(if b=true then X else Y)=some res) [Sd P T] (h1:b=true→X=some res→DW P cx (x::r) (Ae (tB t b sl0) ob0) Q) (h2:b=false→Y=some res→DW P cx (y::r) (Ae (tB t b sl0) ob0) Q) (hnt:cx.nt=nt:=by assumption)
  (h:dq P T nt ops [] (tB t b sl0) ob0 draw (Ae sl0 ob0)=some ((tB t b sl0,ob0),True):=by kernel_rfl) (hk:An c=true:=by kernel_rfl) (hc:ev (Ae (tB t b sl0) ob0) c = .p (.v (.bool b)):=by kernel_rfl) :
  DW P cx (.seq (.region id ops draw) (.cond c x y)::r) (Ae sl0 ob0) Q:=Sq (mR t hm h1 h2 hnt h hk hc)
theorem mT {b:Bool} {X Y:Option R} {res:R} (t:Nat) (hm:(if b=true then X else Y)=some res) [Sd P T] (h1:b=true→X=some res→DW P cx (x::z::r) (Ae (tB t b sl0) ob0) Q) (h2:b=false→Y=some res→DW P cx (y::z::r) (Ae (tB t b sl0) ob0) Q) (hnt:cx.nt=nt:=by assumption)
  (h:dq P T nt ops [] (tB t b sl0) ob0 draw (Ae sl0 ob0)=some ((tB t b sl0,ob0),True):=by kernel_rfl) (hk:An c=true:=by kernel_rfl) (hc:ev (Ae (tB t b sl0) ob0) c = .p (.v (.bool b)):=by kernel_rfl) :
  DW P cx (.seq (.seq (.region id ops draw) (.cond c x y)) z::r) (Ae sl0 ob0) Q:=Sq (Sq (mR t hm h1 h2 hnt h hk hc))
theorem mU {b:Bool} {X Y:Option R} {res:R} (xs:List Orc) (hq:q) (t:Nat) (hm:(if b=true then X else Y)=some res) [Sd P T] (h1:b=true→X=some res→DW P cx (x::r) (Ae (tB t b sl0) ob0) Q) (h2:b=false→Y=some res→DW P cx (y::r) (Ae (tB t b sl0) ob0) Q) (hnt:cx.nt=nt:=by assumption)
  (h:dq P T nt ops xs (tB t b sl0) ob0 draw (Ae sl0 ob0)=some ((tB t b sl0,ob0),q):=by kernel_rfl) (hk:An c=true:=by kernel_rfl) (hc:ev (Ae (tB t b sl0) ob0) c = .p (.v (.bool b)):=by kernel_rfl) :
  DW P cx (.region id ops draw :: .cond c x y::r) (Ae sl0 ob0) Q:=rC xs _ hq (Aq hm h1 h2 hk hc) hnt h
theorem mV {b:Bool} {X Y:Option R} {res:R} (xs:List Orc) (hq:q) (t:Nat) (hm:(if b=true then X else Y)=some res) [Sd P T] (h1:b=true→X=some res→DW P cx (x::r) (Ae (tB t b sl0) ob0) Q) (h2:b=false→Y=some res→DW P cx (y::r) (Ae (tB t b sl0) ob0) Q) (hnt:cx.nt=nt:=by assumption)
  (h:dq P T nt ops xs (tB t b sl0) ob0 draw (Ae sl0 ob0)=some ((tB t b sl0,ob0),q):=by kernel_rfl) (hk:An c=true:=by kernel_rfl) (hc:ev (Ae (tB t b sl0) ob0) c = .p (.v (.bool b)):=by kernel_rfl) :
  DW P cx (.seq (.region id ops draw) (.cond c x y)::r) (Ae sl0 ob0) Q:=Sq (mU xs hq t hm h1 h2 hnt h hk hc)
theorem rT {C:Cn R} {v RES:R} {results:List ResultVar} {m:Nat} (hm:some v=some RES) (ex:List Nat) (h:fin T results m ex σ=some (C.x v,C.o v++C.n v):=by kernel_rfl):finQ T results m (C.x RES) (C.o RES++C.n RES) .ret σ:=by
 obtain rfl:=Option.some.inj hm
 exact retK _ ex _ h
theorem rV {C:Cn R} {v RES:R} {results:List ResultVar} {m:Nat} (hm:some v=some RES) (ex:List Nat) (h:fin T results m ex σ=some (C.x v,C.o v++C.n v):=by kernel_rfl):finQ T results m (C.x RES) (C.o RES++C.n RES) .normal σ:=by
 obtain rfl:=Option.some.inj hm
 exact endK _ ex _ h
theorem rR {C:Cn R} {v RES:R} {results:List ResultVar} {m:Nat} (ex:List Nat) (hm:some v=some RES) (hQ:finQ T results m (C.x RES) (C.o RES++C.n RES) .ret σ→Q .ret σ:=by exact fun h=>h) (h:fin T results m ex σ=some (C.x v,C.o v++C.n v):=by kernel_rfl):DW P cx (.ret::r) σ Q:=DW.ret (hQ (rT hm ex h))
theorem rZ {C:Cn R} {v RES:R} {results:List ResultVar} {m:Nat} (hm:some v=some RES) (hQ:finQ T results m (C.x RES) (C.o RES++C.n RES) .ret σ→Q .ret σ:=by exact fun h=>h) (h:fin T results m [] σ=some (C.x v,C.o v++C.n v):=by kernel_rfl):DW P cx (.ret::r) σ Q:=DW.ret (hQ (rT hm [] h))
theorem jE {ι:Type} {J:ι→St} {m:ι→Prop} {i:ι} (h1:m i) (h:σ=J i:=by kernel_rfl):DW P cx [] σ (Jw cx J m Q):=AeT i h1 (Conv.of_eq h)
theorem jZ {ι:Type} {J:ι→St} {m:ι→Prop} {i:ι} {sl:List (Nat×MV)} {ob:List (Nat×Obj)} (h1:m i) (h0:J i=Ae sl ob:=by rfl) (h:(Ki (Ce sl) (Ce ob) σ,Gz (Ce ob) σ)=(Ho [] sl,Io [] ob):=by kernel_rfl):DW P cx [] σ (Jw cx J m Q):=AeT i h1 (by rw [h0]; exact Conv.t0 h)
theorem jR {ι:Type} {k n:Nat} {J:ι→St} {m:ι→Prop} {i:ι} {sl:List (Nat×MV)} {ob:List (Nat×Obj)} (t:Nat) (hlt:k<n) (hc:n≤9223372036854775807) (h1:m i) (h0:J i=Ae sl ob:=by rfl)
  (h:(Ki (Ce sl) (Ce ob) σ,Gz (Ce ob) σ)=(Ho [(t,pI (IntKind.i64.wrap ((k:Int)+1)))] sl,Io [] ob):=by kernel_rfl) (h2:assoc sl t=some (pI ((k+1:Nat):Int)):=by rfl):DW P cx [] σ (Jw cx J (fun s=>k<n∧m s) Q) :=
 AeT i ⟨hlt,h1⟩ (by rw [h0]; exact cR t (w64_succ hlt hc) h h2)
theorem sO [Sd P T] {f:FuncId} {fn:Func} {c:Code} (hf:P.funcs[f]? = some fn) (hb:fn.body=some c) {args:List MV} {outs:List Body} {res:MV} {outs' news:List Body}
  (hd:∀ cx:Cx P,cx.nt=fn.ntmps→DW P cx [c] (Ae (numS 0 args) (numO 0 outs)) (finQ T fn.results.toList outs.length res (outs'++news)))
  (hlen:outs'.length=outs.length:=by rfl) (hname:fn.name ≠ "runtime.NumGoroutine" := by decide) (hle:Nat.ble args.length fn.ntmps=true:=by rfl) (hm:Nat.ble outs.length 1000=true:=by rfl)
  (h1:Ki (upN args.length 0) (upN outs.length 0) ⟨fun t=>(args[t]?).getD .any,Bq outs⟩=numS 0 args:=by kernel_rfl)
  (h2:Gz (upN outs.length 0) ⟨fun t=>(args[t]?).getD .any,Bq outs⟩=numO 0 outs:=by kernel_rfl) :
  Spec P f args outs res outs' news:=spec_of Sd.good hf hname hb hlen (Nat.le_of_ble_eq_true hle) (Nat.le_of_ble_eq_true hm) h1 h2 fun cx hnt=>DW.start (hd cx hnt)
end
end Go.Dm

namespace Go.Dm
section
variable {P : Program} {cx:Cx P} {Q:Exit→St→Prop}
theorem Aqp {β:Bi} {a:Act} {w:World} {sl:Nat→MV} {objs:Ar} {d d2:Nat} {x y:MV} (h:Rel cx β ⟨Cd (Cd sl d x) d2 y,objs⟩ a w):Rel cx β ⟨Cd (Cd sl d .any) d2 y,objs⟩ a w:=by
 refine ⟨h.nd,h.sz,fun t => ?_,h.ob,h.blk,h.inj,h.kept,h.avo,h.avlt,h.mle,h.oloc⟩
 have hs:=h.sl t
 simp only [Cd] at hs ⊢
 cases h2:Nat.beq t d2 with
 | true=>rw [h2,cond_true] at hs; exact hs
 | false =>
  rw [h2,cond_false] at hs
  simp only [cond_false]
  cases h1:Nat.beq t d with
  | true=>exact .any _
  | false=>rw [h1,cond_false] at hs; exact hs
theorem DWP.next {σ:St} {ops:Array Oper} {id:Nat} {t d d2 k g:Nat} {f:Int→PV} {rem:Int→Bool} {cur:Option Int} (hlt1:d<cx.nt) (hlt2:d2<cx.nt)
  (h0:Aev ops.toList=some (t,d,d2)) (h2:σ.slots t = .ref k g 0) (h3:σ.objs k=some ⟨g,.mq (.it f rem cur)⟩)
  (hgo:∀ n,rem n=true→Q .normal ⟨Cd (Cd σ.slots d .any) d2 (pB true),Bj σ.objs k ⟨g,.mq (.it f (Ay rem n false) (some n))⟩⟩)
  (hend:(∀ n,rem n=false)→Q .normal ⟨Cd (Cd σ.slots d .any) d2 (pB false),σ.objs⟩):DWP P cx (.region id ops false) σ Q:=by
 obtain ⟨o0,o1,hops,p1,p2,p3,p4,p5,p6⟩:=AiI h0
 have e0:ops[0]? = some o0:=by rw [← Array.getElem?_toList,hops]; rfl
 have e1:ops[1]? = some o1:=by rw [← Array.getElem?_toList,hops]; rfl
 have esz:ops.size=2:=by rw [← Array.length_toList,hops]; rfl
 intro β a w hrel
 refine wpIn_region ?_
 rw [esz]
 show wpOpsIn (fen cx.rd) 0 P ops _ [0,1] a w
 rw [wpOpsIn_cons]
 unfold wpOpIn
 rw [e0]
 simp only
 rw [if_pos (Aas p3 _)]
 refine Mj (by rw [p2]; rfl) ?_
 have ht:σ.slots t = .ref k g 0:=h2
 have rt:=hrel.sl t
 rw [ht] at rt
 obtain ⟨b,hbv,hkn⟩:=rt.inv_ref
 have ho1:σ.objs k=some ⟨g,.mq (.it f rem cur)⟩:=h3
 have hl:=hkn.get ho1
 obtain ⟨b',bm,es,clock,since,seen,c0,has,hl',q1,q2,q3,q4,q5,q6,q7,q8,q9⟩:=hrel.ob k _ ho1
 rw [hl] at hl'
 injection hl' with hl'
 subst hl'
 have hborn:∀ x∈es.toList,x.born<since:=by
  intro x hx
  obtain ⟨i,hi,rfl⟩:=List.getElem_of_mem hx
  have:=q4.2.2.2.1 i es.toList[i] (by simp at hi ⊢)
  omega
 have fin:∀ (v:Bool) (cs:List MV) (vs:Value) (objs:Ar) (β2:Bi) (w2:World),Rel cx β2 ⟨σ.slots,objs⟩ a w2→RelV β2 objs (Al cx.Av β2 objs w2) w2 vs (.tup (.p (.v (.bool v))::cs)) →
   Q .normal ⟨Cd (Cd σ.slots d .any) d2 (pB v),objs⟩ →
   wpOpsIn (fen cx.rd) 0 P ops (fun e a' w'=>∃ β' σ',Q e σ'∧Rel cx β' σ' a' w') [1] (a.put (some d) vs) w2:=by
  intro v cs vs objs β2 w2 hr hv hcont
  rw [wpOpsIn_cons]
  unfold wpOpIn
  rw [e1]
  simp only
  rw [if_pos (Aas p6 _)]
  refine Mj (by rw [p5]; rfl) ?_
  have hr2:=AaW hr (some d) (fun t ht=>by injection ht with ht; omega) vs _ hv
  refine AjT (d:=d) (b:=v) (cs:=cs) p5 p4 hlt2 hr2 (by simp [Nd,Cd,Ch]) fun a2 hr3 => ?_
  exact ⟨β2,_,hcont,Aqp hr3⟩
 have hexec:execOp a.eval o0=(do pure (.value (← Instr.next (.pointer (some ⟨b,0,none⟩)) false o0.type))):=by
  obtain ⟨od,op,ot,opos,oafter,oguard⟩:=o0
  simp only at p2
  subst p2
  have:a.eval (.tmp t) = .pointer (some ⟨b,0,none⟩):=hbv
  simp [execOp,this]
 unfold Oper.wp
 rw [hexec]
 rcases run_next_at (P:=P) w o0.type b bm since c0 seen es clock q1 q3 hborn (by omega) with ⟨z1,z2⟩|⟨e,he,w1,hw1,z2⟩
 ·simp only [Sem.run_bind,z2,Result.andThen_ok,Sem.run_pure,Oper.upon,p1]
  refine fin false [] _ σ.objs β w hrel ?_ (hend fun n => ?_)
  ·refine .tup _ _ rfl (fun i x hx => ?_)
   match i,hx with
   | 0,hx=>simp at hx; subst hx; exact .mk_v rfl
   | i+1,hx=>simp at hx
  ·cases hr:rem n with
   | false=>rfl
   | true =>
    obtain ⟨i,e,r1,r2,r3⟩:=(q8 n).1 hr
    have hmem:e∈leftOf es seen:=by
     unfold leftOf
     rw [Array.mem_filter]
     exact ⟨Array.mem_of_getElem? r1,by simpa using r3⟩
    have:=Array.eq_empty_of_size_eq_zero z1
    rw [this] at hmem
    simp at hmem
 ·simp only [Sem.run_bind,z2,Result.andThen_ok,Sem.run_pure,Oper.upon,p1]
  have hmem:e∈es∧seen.contains e.born=false:=by
   have:e∈leftOf es seen:=by simpa using he
   unfold leftOf at this
   rw [Array.mem_filter] at this
   exact ⟨this.1,by simpa using this.2⟩
  obtain ⟨i,hi⟩:=Array.mem_iff_getElem?.1 hmem.1
  obtain ⟨n,hn,_⟩:=q4.1 i e hi
  have hremn:rem n=true:=(q8 n).2 ⟨i,e,hi,hn,hmem.2⟩
  have hrel1:Rel cx β σ a w1:=by
   rcases hw1 with rfl|rfl
   ·exact hrel
   ·exact hrel.drew
  have hq1:w1.heap[b]? = some (.mapIter (some bm) since seen c0):=by rcases hw1 with rfl|rfl <;> exact q1
  have hq3:w1.heap[bm]? = some (.map es clock):=by rcases hw1 with rfl|rfl <;> exact q3
  have hsf:Al cx.Av β σ.objs w1 bm:=by rcases hw1 with rfl|rfl <;> exact q2
  have hrep:∀ (i:Nat) (e:MapEntry) (n:Int),es[i]? = some e→e.key = .int .i64 n→Rep (Al cx.Av β σ.objs w1) w1 e.val (f n):=fun i e n hi hn=>(q7 i e n hi hn).mono (fun b hb=>by rcases hw1 with rfl|rfl <;> exact hb) (fun b hb=>by rcases hw1 with rfl|rfl <;> rfl)
  have hput:=hrel1.reput (bd' := .mq (.it f (Ay rem n false) (some n))) ho1 hl trivial trivial trivial hq1 (.mapIter (some bm) since (seen.push e.born) clock) fun S' w' hS hw hb objs'=>by
   refine ⟨b,bm,es,clock,since,seen.push e.born,clock,has,rfl,hb,hS _ hsf,by rw [hw _ hsf]; exact hq3,q4,q5,rfl,fun i e n hi hn=>(hrep i e n hi hn).mono hS hw,fun m => ?_,fun m hm => ?_⟩
   ·constructor
    ·intro hm
     simp only [Ay] at hm
     split at hm
     ·simp at hm
     ·rename_i hne
      obtain ⟨j,e',r1,r2,r3⟩:=(q8 m).1 hm
      refine ⟨j,e',r1,r2,?_⟩
      simp only [Array.contains_push,Bool.or_eq_false_iff] 
      refine ⟨r3,?_⟩
      simp only [beq_eq_false_iff_ne,ne_eq]
      intro hbb
      have:=q4.2.2.2.2 j i e' e r1 hi hbb
      subst this
      rw [hi] at r1
      injection r1 with r1
      subst r1
      rw [hn] at r2
      injection r2 with _ r2
      exact hne r2.symm
    ·rintro ⟨j,e',r1,r2,r3⟩
     simp only [Array.contains_push,Bool.or_eq_false_iff] at r3
     have hm:=(q8 m).2 ⟨j,e',r1,r2,r3.1⟩
     simp only [Ay]
     split
     ·rename_i hmn
      subst hmn
      have:=q4.2.2.1 j i e' e m r1 hi r2 hn
      subst this
      rw [hi] at r1
      injection r1 with r1
      subst r1
      simp at r3
     ·exact hm
   ·injection hm with hm
    subst hm
    exact ⟨rfl,i,e,hi,hn,by simp⟩
  refine fin true [.any,.any] _ _ β _ hput ?_ (hgo n hremn)
  refine .tup _ _ rfl (fun i x hx => ?_)
  match i,hx with
  | 0,hx=>simp at hx; subst hx; exact .mk_v rfl
  | 1,hx=>simp at hx; subst hx; exact .any _
  | 2,hx=>simp at hx; subst hx; exact .any _
  | i+3,hx=>simp at hx
end
end Go.Dm

namespace Go.Dm
inductive Tr (α:Type) where
 | lf
 | nd (x:Option α) (l r:Tr α)
noncomputable def Tr.get {α:Type} (t:Tr α):Nat→Option α :=
 Tr.rec (motive:=fun _=>Nat→Option α) (fun _=>none) (fun x _ _ gl gr n=>bif Nat.beq n 0 then x else bif Nat.beq (n % 2) 1 then gl (n / 2) else gr (n / 2-1)) t
def Tr.val {α:Type} : Tr α→Option α
 | .lf=>none
 | .nd x _ _=>x
def Tr.lft {α:Type} : Tr α→Tr α
 | .lf => .lf
 | .nd _ l _=>l
def Tr.rgt {α:Type} : Tr α→Tr α
 | .lf => .lf
 | .nd _ _ r=>r
noncomputable def Tr.put {α:Type} (d:Nat):Tr α→Nat→Option α→Tr α :=
 Nat.rec (motive:=fun _=>Tr α→Nat→Option α→Tr α) (fun t _ _=>t)
  (fun _ ih t n x=>bif Nat.beq n 0 then .nd x t.lft t.rgt else bif Nat.beq (n % 2) 1 then .nd t.val (ih t.lft (n / 2) x) t.rgt else .nd t.val t.lft (ih t.rgt (n / 2-1) x)) d
def Tr.map {α β:Type} (f:α→β):Tr α→Tr β
 | .lf => .lf
 | .nd x l r => .nd (x.map f) (l.map f) (r.map f)
abbrev TD : Nat:=20
noncomputable def putL {α:Type} : List (Nat×α)→Tr α→Tr α
 | [],t=>t
 | (k,x)::r,t=>putL r (t.put TD k (some x))
noncomputable def putR {α:Type} : List (Nat×α)→Tr α
 | [] => .lf
 | (k,x)::r=>(putR r).put TD k (some x)
def En {α:Type} : List (Nat×α)→Bool
 | []=>true
 | (k,_)::r=>Nat.blt k 1000000&&En r
structure CS where
 sl:Tr MV
 ob:Tr Obj
 ml:Tr (List Int)
noncomputable def CS.st (s:CS):St:=⟨fun t=>(s.sl.get t).getD .any,s.ob.get⟩
def ofL (L:List (List PV)) (i:Nat):List PV:=(L[i]?).getD []
def rowL (n:Nat) (f:Nat→List PV):List (List PV):=(upN n 0).map f
abbrev FE := Option (MV×List (Nat×Obj))
def okE : Option Eff→Bool→FE
 | some (y,wo,_),true=>some (y,wo)
 | _,_=>none
def f0 (g:Option Eff):List MV→FE
 | []=>okE g true
 | _=>none
def f1 (g:MV→Option Eff) (c:MV→Bool):List MV→FE
 | [x]=>okE (g x) (c x)
 | _=>none
def f2 (g:MV→MV→Option Eff) (c:MV→MV→Bool):List MV→FE
 | [x,y]=>okE (g x y) (c x y)
 | _=>none
def f3 (g:MV→MV→MV→Option Eff) (c:MV→MV→MV→Bool):List MV→FE
 | [x,y,z]=>okE (g x y z) (c x y z)
 | _=>none
def Zy (_:MV):Bool:=true
def yes2 (_ _:MV):Bool:=true
def yes3 (_ _ _:MV):Bool:=true
def Afl : MV→Option Bool
 | .p (.v (.bool b))=>some b
 | _=>none
def fPick : List MV→FE
 | [c,a,b]=>match Afl c with
  | some t=>some (bif t then a else b,[])
  | none=>none
 | _=>none
def chkE (ob:Ar):MV→Bool
 | .eref k g ix _=>match Hf ob k g with
  | some (_,n,_)=>Nat.blt ix n
  | none=>false
 | _=>true
def lenB : MV→Option Nat
 | .p (.sl _ _ n _)=>some n
 | .own _ _ _ len=>some len
 | .p (.v (.string s))=>some s.size
 | _=>none
def chkI (x y:MV):Bool:=match lenB x,Fu y with
 | some n,some z=>decide (0≤z)&&decide (z<(n:Int))
 | _,_=>false
def scalB (op:BinOp):Value→Value→Bool
 | .int _ _,.int _ b=>match op with
  | .shl=>decide (0≤b)
  | .shr=>decide (0≤b)
  | .quo => !decide (b=0)
  | .rem => !decide (b=0)
  | _=>true
 | .string a,.string b=>match op with
  | .add=>Nat.ble (a.size+b.size) 9223372036854775807
  | _=>true
 | _,_=>true
def chkB (op:BinOp):MV→MV→Bool
 | .p (.v a),.p (.v b)=>scalB op a b
 | _,_=>true
def chkS (lo hi:Option Int) (x:MV):Bool:=match lenB x with
 | some n=>decide (0≤lo.getD 0)&&decide (lo.getD 0≤hi.getD n)&&decide (hi.getD n≤(n:Int))
 | none=>false
def chkA (T:Ty) (t:Nat) (s x:MV):Bool:=match assoc T t with
 | some ⟨.slice e,_,_,_,_⟩=>match assoc T e with
  | some i=>match lenB s,lenB x with
   | some a,some b=>Nat.ble ((a+b)*i.bytes) 140737488355328
   | _,_=>false
  | none=>false
 | _=>false
def chkF (ob:Ar):MV→Bool
 | .own k g off len=>match Hf ob k g with
  | some (_,n,_)=>Nat.ble (off+len) n
  | none=>false
 | _=>false
def eqPV : PV→PV→Bool
 | .v (.int k x),.v (.int k' y)=>decide (k=k')&&decide (x=y)
 | .v (.bool x),.v (.bool y)=>x==y
 | .sl .nil 0 0 _,.sl .nil 0 0 _=>true
 | _,_=>false
def chkM (T:Ty) (t:Nat) (x y:MV):Bool:=match assoc T t with
 | some ⟨.slice e,_,_,_,_⟩=>match assoc T e with
  | some i=>match Fu x,Fu y with
   | some z,some c=>decide (0≤z)&&decide (z=c)&&decide (z≤9223372036854775807)&&decide (z*i.bytes≤140737488355328)
   | _,_=>false
  | none=>false
 | _=>false
def mapZ (ob:Ar):MV→Option PV
 | .mref k g=>match Km ob k g with
  | some (z,_,_)=>some z
  | none=>match getPm ob k g with
   | some (z,_,_)=>some z
   | none=>none
 | .p (.mp z _ _)=>some z
 | _=>none
def chkZ (T:Ty) (t:Nat) (ob:Ar) (x:MV):Bool:=match assoc T t with
 | some ⟨.map _ e,_,_,_,_⟩=>match Ye T e,mapZ ob x with
  | some a,some b=>eqPV a b
  | _,_=>false
 | _=>false
def fSl1 (T:Ty) (t:Nat) (ob:Ar):List MV→FE
 | [x,l]=>match Fu l with
  | some zl=>okE (Kg T t ob x (some zl) none) (chkS (some zl) none x)
  | none=>none
 | _=>none
def fSl2 (T:Ty) (t:Nat) (ob:Ar):List MV→FE
 | [x,h]=>match Fu h with
  | some zh=>okE (Kg T t ob x none (some zh)) (chkS none (some zh) x)
  | none=>none
 | _=>none
def fSl3 (T:Ty) (t:Nat) (ob:Ar):List MV→FE
 | [x,l,h]=>match Fu l,Fu h with
  | some zl,some zh=>okE (Kg T t ob x (some zl) (some zh)) (chkS (some zl) (some zh) x)
  | _,_=>none
 | _=>none
def fSl (T:Ty) (t:Nat) (ob:Ar) (l h m:Option Operand) (xs:List MV):FE :=
 match l,h,m with
 | none,none,none=>f1 (fun x=>Kg T t ob x none none) (chkS none none) xs
 | some _,none,none=>fSl1 T t ob xs
 | none,some _,none=>fSl2 T t ob xs
 | some _,some _,none=>fSl3 T t ob xs
 | none,some h,some m=>bif Qw h&&Qw m then (match xs with
  | [x,_,_]=>okE (Pi T t x) true
  | _=>none) else none
 | _,_,_=>none
def fConv (T:Ty) (s d:Nat) (x:MV):Option Eff:=bif (assoc T s).isSome then (match Ts T d x with
 | some e=>some e
 | none=>Zp T d x) else none
def fApp (T:Ty) (ts:List Nat) (dst:Nat) (ob:Ar) (xs:List MV):FE :=
 match ts with
 | [t,t2]=>f2 (Xg T t t2 dst ob) (chkA T t) xs
 | _=>none
def fBlt (T:Ty) (b:Builtin) (ts:List Nat) (dst:Nat) (ob:Ar) (xs:List MV):FE :=
 match b with
 | .len=>match ts with
  | [t]=>f1 (Aet T t) Zy xs
  | _=>none
 | .append=>fApp T ts dst ob xs
 | .clear=>match ts with
  | [t]=>f1 (Zz T t ob) (chkF ob) xs
  | _=>none
 | .copy=>match ts with
  | [t,_]=>f2 (AbY T t ob) (fun x _=>chkF ob x) xs
  | _=>none
 | .delete=>match ts with
  | [t,_]=>f2 (Wz T t ob) yes2 xs
  | _=>none
 | .min=>f2 (Aay false) yes2 xs
 | .max=>f2 (Aay true) yes2 xs
 | _=>none
def fCall (T:Ty) (c:Call) (dst:Nat) (ob:Ar) (xs:List MV):FE :=
 match c.callee with
 | .builtin b=>fBlt T b c.argTypes.toList dst ob xs
 | _=>none
def fFun (fn:Fn) (first cap:Array Operand) (xs:List MV):FE :=
 match fn with
 | .func f=>bif first.isEmpty then okE (AbU f xs) true else bif cap.isEmpty then okE (Zm f xs) true else none
 | _=>none
def sitB (ob:Ar):MV→Bool
 | .ref k g 0=>match Akk ob k g with
  | some (s,pos)=>Nat.blt pos s.size
  | none=>false
 | _=>false
def fop (T:Ty) (op:Op) (dst:Nat) (ob:Ar) (xs:List MV):FE :=
 match op with
 | .move _=>f1 Xc Zy xs
 | .assign _=>f1 Xc Zy xs
 | .pick _ _ _=>fPick xs
 | .alloc t=>f0 (Zu T t dst ob) xs
 | .box _ _=>f1 (AeA dst ob) Zy xs
 | .build t ps=>okE (Ws T t ((ps.toList.map (·.1)).zip xs)) true
 | .buildSlice t len ps=>okE (Kb T t len dst ob ((ps.toList.map (·.1)).zip xs)) true
 | .load t _=>f1 (Tm T t ob) (chkE ob) xs
 | .store t _ _=>f2 (Zs T t ob) (fun x _=>chkE ob x) xs
 | .nilCheck _=>f1 Aeq Zy xs
 | .binOp op t _ _ _=>f2 (AbR T op t) (chkB op) xs
 | .unOp op _ _=>f1 (AhU op) Zy xs
 | .convert s d _=>f1 (fConv T s d) Zy xs
 | .slice t _ l h m=>fSl T t ob l h m xs
 | .makeFunc fn first cap=>fFun fn first cap xs
 | .fieldAddr t _ f=>f1 (Om T t f) Zy xs
 | .field t _ f=>f1 (Aac T t f) Zy xs
 | .indexAddr t _ _=>f2 (Oe T t ob) chkI xs
 | .index t _ _=>f2 (Zk T t) chkI xs
 | .extract _ i=>f1 (Tp i) Zy xs
 | .makeSlice t _ _=>f2 (AbV T t dst ob) (chkM T t) xs
 | .makeMap t none=>f0 (orE (Mq T t dst ob) (Lc T t dst ob)) xs
 | .lookup t _ _ ok=>f2 (fun x y=>orE (Xj T t ob ok x y) (Ua T t ob ok x y)) (fun x _=>chkZ T t ob x) xs
 | .mapUpdate t _ _ _=>f3 (fun x y z=>orE (Lb T t ob x y z) (Je T t ob x y z)) yes3 xs
 | .insert t _ _ _=>f3 (fun x y z=>orE (Lb T t ob x y z) (Je T t ob x y z)) yes3 xs
 | .range t _=>f1 (fun x=>orE (Sr T t dst ob x) (Ph T t dst ob x)) Zy xs
 | .entry _=>f1 (Zn ob) Zy xs
 | .next _ b=>bif b then f1 (fun x=>Zw (sitB ob x) ob x) Zy xs else none
 | .call c=>fCall T c dst ob xs
 | _=>none
def owns1 : MV→List Nat
 | .own k _ _ _ => [k]
 | .mref k _ => [k]
 | _ => []
def refs1 : MV→List Nat
 | .ref k _ _ => [k]
 | .eref k _ _ _ => [k]
 | _ => []
def AbQ (g:MV→List Nat):Nat→MV→List Nat
 | 0,x=>g x
 | d+1,.agg cs=>cs.flatMap (AbQ g d)
 | d+1,.tup cs=>cs.flatMap (AbQ g d)
 | d+1,.fn _ cs=>cs.flatMap (AbQ g d)
 | _+1,x=>g x
def both1 (x:MV):List Nat:=owns1 x++refs1 x
def boxKeys (ob:Ar) (k:Nat):List Nat:=match ob k with
 | some ⟨_,.box cs⟩=>cs.flatMap (AbQ both1 2)
 | _ => []
def reach (ob:Ar):Nat→List Nat→List Nat→List Nat
 | 0,acc,_=>acc
 | _+1,acc,[]=>acc
 | n+1,acc,k::r=>bif elem k acc then reach ob n acc r else reach ob n (acc ++ [k]) (r++boxKeys ob k)
inductive NatK where
 | idx
def idxB (s:ByteArray) (b:Int):Value:=match (List.range s.size).find? (fun i=>s[i]! == b.toNat.toUInt8) with
 | some i => .int .i64 i
 | none => .int .i64 (-1)
def natV : NatK→List Value→Option Value
 | .idx,[.string s,.int .u8 b]=>some (idxB s b)
 | _,_=>none
structure Wh where
 own:List (Nat×List Nat)
 frz:List (Nat×List (Nat×List Nat))
 new:List (Nat×List Nat)
 res:List (Nat×List Nat)
 nat:List (Nat×NatK) := []
 lend:List (Nat×List Nat) := []
 known:List (Nat×List MV×MV) := []
 weak:List Nat := []
def eqV : Value→Value→Bool
 | .int k n,.int k' n'=>decide (k=k')&&decide (n=n')
 | .bool a,.bool b=>a==b
 | .string a,.string b=>decide (a.data.toList=b.data.toList)
 | .pointer none,.pointer none=>true
 | .map none,.map none=>true
 | .nilFunc,.nilFunc=>true
 | .nilIface,.nilIface=>true
 | _,_=>false
def Zo {α:Type} (g:α→α→Bool):List α→List α→Bool
 | [],[]=>true
 | x::l,y::m=>g x y&&Zo g l m
 | _,_=>false
def eqP : Nat→PV→PV→Bool
 | d,.v a,y=>match y with
  | .v b=>eqV a b
  | _=>false
 | d+1,.sl fl W n f,y=>match y with
  | .sl fl' W' n' f'=>decide (fl=fl')&&Nat.beq W W'&&Nat.beq n n'&&(upN n 0).all fun i=>Zo (eqP d) (f i) (f' i)
  | _=>false
 | d+1,.agg l,y=>match y with
  | .agg m=>Zo (eqP d) l m
  | _=>false
 | d+1,.tup l,y=>match y with
  | .tup m=>Zo (eqP d) l m
  | _=>false
 | _,_,_=>false
def eqM : Nat→MV→MV→Bool
 | _,.p x,y=>match y with
  | .p z=>eqP 6 x z
  | _=>false
 | d+1,.agg l,y=>match y with
  | .agg m=>Zo (eqM d) l m
  | _=>false
 | d+1,.tup l,y=>match y with
  | .tup m=>Zo (eqM d) l m
  | _=>false
 | _,.any,y=>match y with
  | .any=>true
  | _=>false
 | _,_,_=>false
def kn : List (Nat×List MV×MV)→Nat→List MV→Option MV
 | [],_,_=>none
 | (g,key,r)::t,f,asx=>bif Nat.beq g f&&Zo (eqM 4) asx key then some r else kn t f asx
def sameB : Body→Body→Bool
 | _,.dead=>true
 | .box _,.box _=>true
 | .row W n _,.row W' n' _=>Nat.beq W W'&&Nat.beq n n'
 | .mp _ _ _,.mp _ _ _=>true
 | .mq _,.mp _ _ _=>true
 | .mp _ _ _,.mq _=>true
 | .mq _,.mq _=>true
 | _,_=>false
def AgP : List Body→List Body→Bool
 | b::r,c::s=>sameB b c&&AgP r s
 | _,_=>true
def Agp (ks:List Nat):List Nat:=bif ks.all (fun k=>Nat.blt k 1000000) then ks else []
noncomputable def frzT (s:CS):List Nat→CS
 | []=>s
 | k::r=>frzT ⟨s.sl.map (frzN s.ob.get k 2),(s.ob.put TD k none).map fun o=>⟨o.gen,AaY s.ob.get k o.body⟩,s.ml⟩ r
noncomputable def normT (s:CS):List Nat→CS
 | []=>s
 | k::r=>normT (match s.ob.get k with
  | some ⟨g,.row W n f⟩=>⟨s.sl,s.ob.put TD k (some ⟨g,.row W n (ofL (rowL n f))⟩),s.ml⟩
  | _=>s) r
def nnP : Nat→PV→PV
 | d,.sl .unk W n f=>bif Nat.beq n 0 then .sl .unk W n f else .sl .nn W n f
 | d+1,.agg cs => .agg (cs.map (nnP d))
 | d+1,.tup cs => .tup (cs.map (nnP d))
 | _,x=>x
def nnM : Nat→MV→MV
 | _,.p (.ptr cs) => .fptr cs
 | d,.p x => .p (nnP d x)
 | d+1,.agg cs => .agg (cs.map (nnM d))
 | d+1,.tup cs => .tup (cs.map (nnM d))
 | _,x=>x
inductive Todo where
 | code (c nt:Nat) (cd:Code) (s:CS)
 | fn (f:Nat) (fz:Bool) (args:List MV) (outs:List Body)
inductive Ans where
 | code (e:Exit) (s:CS)
 | fn (res:MV) (outs' news:List Body)
 | err (l:List Nat)
section
variable (P : Program) (T:Ty) (H:Wh) (self:Todo→Ans)
noncomputable def Akj (c nt:Nat) (x y:Code) (s:CS):Option Bool→Ans
 | some b=>self (.code c nt (bif b then x else y) s)
 | none => .err [c,2]
noncomputable def Afo (c nt:Nat) (y:Code):Ans→Ans
 | .code .normal s=>self (.code c nt y s)
 | r=>r
def Tk (id:Nat):Ans→Ans
 | .code (.exit id') s=>bif Nat.beq id' id then .code .normal s else .code (.exit id') s
 | r=>r
noncomputable def Ace (c nt:Nat) (x:Code):Ans→Ans
 | .code .normal s=>self (.code c nt (.loop x) s)
 | r=>r
def AeD (gs:List (Option Nat)) (σ:St):Option (Nat×Bool)→Option (List Nat×Bool)
 | none=>some ([],true)
 | some (j,want)=>match gs[j]? with
  | some (some t)=>match σ.slots t with
   | .p (.v (.bool b))=>some ([t],bif want then b else !b)
   | .und=>some ([t],false)
   | _=>none
  | _=>none
def refsI (skip:List Nat):Nat→List MV→List Nat
 | _,[] => []
 | i,x::r=>(bif elem i skip then [] else AbQ refs1 1 x)++refsI skip (i+1) r
def lendK (f:Nat) (ob:Ar) (xs:List MV):List Nat :=
 reach ob 200 [] ((((assoc H.own f).getD []).flatMap fun i=>AbQ owns1 1 (xs.getD i .any))++refsI ((assoc H.lend f).getD []) 0 xs)
def oneRec (gt:List Nat) (o:Oper) (ro:List Nat) (y:MV) (wo:List (Nat×Obj)):Rec :=
 ⟨gt++Mi o.op,ro,o.dst.toList.map fun t=>(t,y),wo⟩
def flatN : Body→Bool
 | .row _ n f=>(upN n 0).all fun i=>(f i).all PV.flat
 | _=>true
noncomputable def Aef (gt:List Nat) (o:Oper) (dst f:Nat) (ks:List Nat) (xs:List MV) (σ:St):Ans→Except (List Nat) (Orc×Rec)
 | .fn res outs' news =>
  let bs:=dedup (xs.flatMap (bor ks)) []
  let keep:=bs.isEmpty||(news.isEmpty&&outs'.all Body.flatB&&res.scalar)||((outs'++news).all Body.flatR&&(outs'++news).all flatN&&res.scalR)
  let ro:=ks++xs.flatMap (bor ks)++AbX dst news.length 0
  match Xe (only ro σ.objs) dst ks xs keep res outs' news with
  | some (_,os,y,wo,_)=>bif AgP os outs' then .ok (.call f ks keep res outs' news [],oneRec gt o ro y wo) else .error [f,21]
  | none => .error [f,9]
 | .err l => .error l
 | _ => .error [f,16]
noncomputable def doCall2 (gt:List Nat) (c:Nat) (o:Oper) (dst f:Nat) (xs:List MV) (σ:St) (ks:List Nat):Except (List Nat) (Orc×Rec) :=
 match Sm (toC σ.objs ks) xs,Oa σ.objs ks with
 | some asx,some os=>Aef gt o dst f ks xs σ (self (.fn f (!elem dst ((assoc H.res c).getD [])) asx (os.map (·.2))))
 | none,_ => .error [f,9]
 | _,none => .error [f,10]
def doNat (gt:List Nat) (o:Oper) (k:NatK) (f:Nat):List MV→Option (List Value)→Except (List Nat) (Orc×Rec)
 | [],some vs=>match natV k vs with
  | some z => .ok (.nat z,oneRec gt o [] (.p (.v z)) [])
  | none => .error [f,23]
 | _,_ => .error [f,24]
def doNat0 (gt:List Nat) (o:Oper) (k:NatK) (vs:Option (List Value)):Option (Nat×List MV)→Except (List Nat) (Orc×Rec)
 | some (f,caps)=>doNat gt o k f caps vs
 | none => .error [25]
noncomputable def doCall (gt:List Nat) (c:Nat) (o:Oper) (dst:Nat) (args:Array Operand) (σ:St) (g:MV):Option (Nat×List MV)→Except (List Nat) (Orc×Rec)
 | some (f,xs)=>match assoc H.nat f with
  | some k=>doNat0 gt o k (Aau (args.toList.map (ev σ))) (fnOf g)
  | none=>doCall2 H self gt c o dst f xs σ (lendK H f σ.objs xs)
 | none => .error [8]
def doPk (ob:Ar):Op→List MV→Orc
 | .pick _ _ _,c::_=>match Afl c with
  | some b => .pk b
  | none => .no
 | .next _ _,[x] => .pk (sitB ob x)
 | _,_ => .no
def doFrz (gt:List Nat) (o:Oper) (xs:List MV) (ro:List Nat) (ob:Ar):MV×List (Nat×Obj)→Option Nat→Except (List Nat) (Orc×Rec)
 | (.own k g 0 len,[(k',⟨g',.row W m f⟩)]),some t=>bif Nat.beq k k'&&Nat.beq g g'&&Nat.beq len m&&(doPk ob o.op xs).bit then
  .ok (.frz m (ofL (rowL m f)),⟨gt++Mi o.op,ro,[(t,.p (.sl .unk W m (ofL (rowL m f))))],[(k',⟨g'+1,.dead⟩)]⟩) else .error [22]
 | _,_ => .error [22]
noncomputable def AhX (gt:List Nat) (c:Nat) (o:Oper) (dst:Nat) (σ:St) (xs:List MV) (ro:List Nat):Except (List Nat) (Orc×Rec) :=
 match fop T o.op dst (only ro σ.objs) xs with
 | some q=>bif elem dst ((assoc H.new c).getD []) then doFrz gt o xs ro (only ro σ.objs) q o.dst else .ok (doPk (only ro σ.objs) o.op xs,oneRec gt o ro q.1 q.2)
 | none => .error [5]
noncomputable def doOp2 (gt:List Nat) (c:Nat) (o:Oper) (dst:Nat) (σ:St):Op→Except (List Nat) (Orc×Rec)
 | .call ⟨.value fop,args,_⟩=>doCall H self gt c o dst args σ (ev σ fop) (Aeu (ev σ fop) (args.toList.map (ev σ)))
 | op=>AhX T H gt c o dst σ (op.operands.toList.map (ev σ)) (Ik op dst (op.operands.toList.map (ev σ)))
noncomputable def doOp (c nt:Nat) (gs:List (Option Nat)) (o:Oper) (σ:St):Except (List Nat) (Orc×Rec) :=
 bif (match o.dst with|some t=>Nat.blt t nt|none=>true)&&Hi o.op then
  match AeD gs σ o.guard with
  | some (gt,true)=>doOp2 T H self gt c o (o.dst.getD 0) σ o.op
  | some (gt,false) => .ok (.skip,⟨gt,[],o.dst.toList.map fun t=>(t,MV.und),[]⟩)
  | none => .error [7]
 else .error [17]
noncomputable def AaN:Tr (List Int)→List (Nat×Obj)→Tr (List Int)
 | .lf,_ => .lf
 | t,[]=>t
 | t,(k,_)::r=>AaN (t.put TD k none) r
noncomputable def Aab (op:Op) (xs:List MV) (ml:Tr (List Int)) (wo:List (Nat×Obj)):Option (Nat×List Int) :=
 match op with
 | .makeMap _ none=>match wo with
  | [(k,⟨_,.mp _ _ _⟩)]=>some (k,[])
  | _=>none
 | .mapUpdate _ _ _ _=>match xs,wo with
  | [.mref k _,.p (.v (.int .i64 n)),_],[(k',⟨_,.mp _ _ _⟩)]=>(ml.get k).map fun L=>(k',n::L)
  | _,_=>none
 | .insert _ _ _ _=>match xs,wo with
  | [.mref k _,.p (.v (.int .i64 n)),_],[(k',⟨_,.mp _ _ _⟩)]=>(ml.get k).map fun L=>(k',n::L)
  | _,_=>none
 | .range _ _=>match xs,wo with
  | [.mref k _],[_,(d,⟨_,.mq (.it _ _ _)⟩)]=>(ml.get k).map fun L=>(d,L)
  | _,_=>none
 | _=>none
noncomputable def mlPut (ml:Tr (List Int)) (wo:List (Nat×Obj)):Option (Nat×List Int)→Tr (List Int)
 | some (k,L)=>(AaN ml wo).put TD k (some L)
 | none=>AaN ml wo
noncomputable def AgX (o:Oper) (s:CS) (q:Rec):Tr (List Int) :=
 match q.wo with
 | []=>s.ml
 | wo=>mlPut s.ml wo (Aab o.op (o.op.operands.toList.map (ev s.st)) s.ml wo)
noncomputable def updC (s:CS) (r:Rec) (ml:Tr (List Int)):CS:=⟨putL r.ws s.sl,putL r.wo s.ob,ml⟩
noncomputable def Ada (c nt id:Nat) (gs:List (Option Nat)):List Oper→Nat→CS→List Rec→Except (List Nat) (List Rec×CS)
 | [],_,s,acc => .ok (acc.reverse,s)
 | o::r,i,s,acc=>match doOp T H self c nt gs o s.st with
  | .ok (_,q)=>bif En q.ws&&En q.wo then Ada c nt id gs r (i+1) (updC s q (AgX o s q)) (q::acc) else .error [c,id,i,18]
  | .error e => .error (e ++ [c,id,i])
def AjX (ops:List Oper) (recs:List Rec):Bool:=indep [] recs (masks (ops.map Jb) [])&&backs (ops.map Jb) 0
def fin2 (c id:Nat) (draw:Bool) (ops:List Oper):Except (List Nat) (List Rec×CS)→Ans
 | .ok (recs,s)=>bif !draw||AjX ops recs then .code .normal s else .err [c,id,3]
 | .error e => .err e
noncomputable def AgH (c id:Nat) (s:CS):CS :=
 match assoc ((assoc H.frz c).getD []) id with
 | some ts=>frzT s (Agp (dedup (ts.flatMap fun t=>AbQ owns1 3 ((s.sl.get t).getD .any)) []))
 | none=>s
noncomputable def AbT (c:Nat) (s:CS) (d d2 k g:Nat) (f:Int→PV) (rem:Int→Bool):List Int→Ans
 | [] => .code .normal ⟨(s.sl.put TD d none).put TD d2 (some (pB false)),s.ob,s.ml⟩
 | [n] => .code .normal ⟨(s.sl.put TD d none).put TD d2 (some (pB true)),s.ob.put TD k (some ⟨g,.mq (.it f (Ay rem n false) (some n))⟩),s.ml⟩
 | _ => .err [c,31]
def AeQ : List Int→List Int
 | [] => []
 | n::r=>n::(AeQ r).filter fun m => !decide (m=n)
noncomputable def doNext1 (c:Nat) (s:CS) (d d2 k g:Nat):Option Obj→Option (List Int)→Ans
 | some ⟨g',.mq (.it f rem _)⟩,some L=>bif Nat.beq g' g&&Nat.blt k 1000000 then AbT c s d d2 k g f rem ((AeQ L).filter rem) else .err [c,32]
 | _,_ => .err [c,33]
noncomputable def AjW (c nt:Nat) (s:CS):Nat×Nat×Nat→Ans
 | (t,d,d2)=>bif Nat.blt d nt&&Nat.blt d2 nt&&Nat.blt d 1000000&&Nat.blt d2 1000000 then (match s.st.slots t with
  | .ref k g 0=>doNext1 c s d d2 k g (s.ob.get k) (s.ml.get k)
  | _ => .err [c,34]) else .err [c,35]
noncomputable def Acf (c nt id:Nat) (ops:List Oper) (draw:Bool) (s:CS):Ans :=
 match Aev ops with
 | some q=>bif draw then .err [c,36] else AjW c nt s q
 | none=>fin2 c id draw ops (Ada T H self c nt id (ops.map (·.dst)) ops 0 (AgH H c id s) [])
noncomputable def Gh (c nt:Nat) (cd:Code) (s:CS):Ans :=
 match cd with
 | .skip => .code .normal s
 | .ret => .code .ret s
 | .exit id => .code (.exit id) s
 | .seq x y=>Afo self c nt y (self (.code c nt x s))
 | .cond q x y=>Akj self c nt x y s (bif An q then Afl (ev s.st q) else none)
 | .block id x=>Tk id (self (.code c nt x s))
 | .loop x=>Ace self c nt x (self (.code c nt x s))
 | .region id ops draw=>Acf T H self c nt id ops.toList draw s
 | _ => .err [c,4]
noncomputable def doEnd3 (f m:Nat):Option (MV×List Body)→Ans
 | some (res,bs)=>bif Nat.ble m bs.length then .fn (nnM 3 res) (bs.take m) (bs.drop m) else .err [f,20]
 | none => .err [f,14]
noncomputable def Agm (fn:Func) (fz:Bool) (m:Nat) (s:CS):CS :=
 bif fz then (match rvs T ⟨s.st.slots,Wb m s.ob.get⟩ fn.results.toList with
  | some ys=>frzT s (Agp (((reach s.ob.get 200 [] (ys.flatMap (AbQ both1 3))).filter fun k=>Nat.ble m k).reverse))
  | none=>s) else s
noncomputable def doEnd2 (f:Nat) (fn:Func) (m:Nat) (s:CS):Option (List MV)→Ans
 | some ys =>
  let ob:=Wb m s.ob.get
  let ex:=(reach ob 200 [] (ys.flatMap (AbQ both1 3)++(upN m 0).flatMap (boxKeys ob))).filter fun k=>Nat.ble m k
  doEnd3 f m (fin T fn.results.toList m ex (normT s (Agp (upN m 0++ex))).st)
 | none => .err [f,13]
noncomputable def Ake (f:Nat) (fn:Func) (m:Nat) (s:CS):Ans:=doEnd2 T f fn m s (rvs T ⟨s.st.slots,Wb m s.ob.get⟩ fn.results.toList)
noncomputable def doEnd (f:Nat) (fn:Func) (fz:Bool) (m:Nat):Ans→Ans
 | .code .ret s=>Ake T f fn m (Agm T fn fz m s)
 | .code .normal s=>Ake T f fn m (Agm T fn fz m s)
 | .err l => .err l
 | _ => .err [f,15]
noncomputable def Ahc (sl:List (Nat×MV)) (ob:List (Nat×Obj)):CS:=⟨putR sl,putR ob,.lf⟩
noncomputable def doFn3 (f:Nat) (fn:Func) (fz:Bool) (n m:Nat) (cd:Code) (sl:List (Nat×MV)) (ob:List (Nat×Obj)):Ans :=
 bif Nat.ble n fn.ntmps&&Nat.ble m 1000&&En sl&&En ob then doEnd T f fn fz m (self (.code f fn.ntmps cd (Ahc sl ob))) else .err [f,19]
noncomputable def doFn2 (f:Nat) (fn:Func) (fz:Bool) (args:List MV) (outs:List Body):Option Code→Ans
 | some cd=>doFn3 T self f fn fz args.length outs.length cd (Ki (upN args.length 0) (upN outs.length 0) ⟨fun t=>(args[t]?).getD .any,Bq outs⟩) (Gz (upN outs.length 0) ⟨fun t=>(args[t]?).getD .any,Bq outs⟩)
 | none => .err [f,12]
noncomputable def doFn (f:Nat) (fz:Bool) (args:List MV) (outs:List Body):Option Func→Ans
 | some fn=>doFn2 T self f fn fz args outs fn.body
 | none => .err [f,11]
def AgT : List MV→List Body→Bool
 | [.own 0 0 0 1,.p (.v (.int .i64 0)),.own 1 0 0 1],[.row 3 1 _,.row 3 1 _]=>true
 | _,_=>false
def doWk : Bool→Ans→Ans
 | true,_ => .fn .any [.dead,.dead] []
 | false,a=>a
def doKn : Option MV→Ans→Ans
 | some r,_ => .fn r [] []
 | none,a=>a
noncomputable def doTask:Todo→Ans
 | .code c nt cd s=>Gh T H self c nt cd s
 | .fn f fz args outs=>doWk (elem f H.weak&&AgT (args.map (nnM 3)) outs) (doKn (bif outs.isEmpty then kn H.known f (args.map (nnM 3)) else none) (doFn T self f fz (args.map (nnM 3)) outs P.funcs[f]?))
end
noncomputable def Hs (P:Program) (T:Ty) (H:Wh) (n:Nat):Todo→Ans :=
 Nat.rec (motive:=fun _=>Todo→Ans) (fun _ => .err [0]) (fun _ ih=>doTask P T H ih) n
def Afm (R:MV):Ans→Bool
 | .fn r [] []=>eqM 4 r R
 | _=>false
end Go.Dm

namespace Go.Dm
section
variable {α β:Type}
theorem Aqr (n:Nat):(Tr.lf:Tr α).get n=none:=rfl
theorem Aqo (x:Option α) (l r:Tr α) (n:Nat):(Tr.nd x l r).get n=bif Nat.beq n 0 then x else bif Nat.beq (n % 2) 1 then l.get (n / 2) else r.get (n / 2-1):=rfl
theorem Aqk (t:Tr α) (n:Nat):t.get n=bif Nat.beq n 0 then t.val else bif Nat.beq (n % 2) 1 then t.lft.get (n / 2) else t.rgt.get (n / 2-1):=by
 cases t with
 | lf=>cases Nat.beq n 0 <;> cases Nat.beq (n % 2) 1 <;> rfl
 | nd x l r=>rfl
theorem ApX (d:Nat) (t:Tr α) (n:Nat) (x:Option α):t.put (d+1) n x=bif Nat.beq n 0 then .nd x t.lft t.rgt else bif Nat.beq (n % 2) 1 then .nd t.val (t.lft.put d (n / 2) x) t.rgt else .nd t.val t.lft (t.rgt.put d (n / 2-1) x):=rfl
theorem Aqd : ∀ (d:Nat) (t:Tr α) (n:Nat) (x:Option α) (m:Nat),n+1<2 ^ d→(t.put d n x).get m=bif Nat.beq m n then x else t.get m:=by
 intro d
 induction d with
 | zero=>intro t n x m h; simp at h
 | succ d ih =>
  intro t n x m h
  have hp:2 ^ (d+1)=2*2 ^ d:=by rw [Nat.pow_succ]; omega
  rw [ApX]
  by_cases h0:n=0
  ·subst h0
   rw [Nat.beq_refl,cond_true,Aqo]
   by_cases hm:m=0
   ·subst hm; simp [Nat.beq_refl]
   ·rw [De hm,cond_false,cond_false,Aqk t m,De hm,cond_false]
  ·rw [De h0,cond_false]
   by_cases h1:n % 2=1
   ·rw [h1,Nat.beq_refl,cond_true,Aqo,Aqk t m]
    by_cases hm:m=0
    ·subst hm
     rw [Nat.beq_refl,cond_true,cond_true,De (Ne.symm h0),cond_false]
    ·rw [De hm,cond_false,cond_false]
     by_cases hm1:m % 2=1
     ·rw [hm1,Nat.beq_refl,cond_true,cond_true,ih _ _ _ _ (by omega)]
      by_cases e:m=n
      ·subst e; rw [Nat.beq_refl,Nat.beq_refl]
      ·rw [De e,De (by omega)]
     ·rw [De hm1,cond_false,cond_false,De (by omega:m≠n),cond_false]
   ·rw [De h1,cond_false,Aqo,Aqk t m]
    by_cases hm:m=0
    ·subst hm
     rw [Nat.beq_refl,cond_true,cond_true,De (Ne.symm h0),cond_false]
    ·rw [De hm,cond_false,cond_false]
     by_cases hm1:m % 2=1
     ·rw [hm1,Nat.beq_refl,cond_true,cond_true,De (by omega:m≠n),cond_false]
     ·rw [De hm1,cond_false,cond_false,ih _ _ _ _ (by omega)]
      by_cases e:m=n
      ·subst e; rw [Nat.beq_refl,Nat.beq_refl]
      ·rw [De e,De (by omega)]
theorem Aqa {t:Tr α} {n:Nat} {x:Option α} (h:Nat.blt n 1000000=true) (m:Nat):(t.put TD n x).get m=bif Nat.beq m n then x else t.get m:=by
 have:=Nat.le_of_ble_eq_true h
 exact Aqd TD t n x m (by show n+1<2 ^ 20; omega)
theorem Aqe (f:α→β):∀ (t:Tr α) (n:Nat),(t.map f).get n=(t.get n).map f
 | .lf,n=>rfl
 | .nd x l r,n=>by
  rw [Tr.map,Aqo,Aqo,Aqe f l,Aqe f r]
  cases Nat.beq n 0 <;> cases Nat.beq (n % 2) 1 <;> rfl
end
theorem putL_sl : ∀ (ws:List (Nat×MV)) (t:Tr MV),En ws=true→(fun n=>((putL ws t).get n).getD .any)=Nd (fun n=>(t.get n).getD .any) ws
 | [],t,_=>rfl
 | (k,x)::r,t,h=>by
  simp only [En,Bool.and_eq_true] at h
  rw [putL,putL_sl r _ h.2,Nd]
  congr 1
  funext n
  rw [Aqa h.1]
  simp only [Cd]
  cases Nat.beq n k <;> rfl
theorem Alf : ∀ (wo:List (Nat×Obj)) (t:Tr Obj),En wo=true→(putL wo t).get=Cb t.get wo
 | [],t,_=>rfl
 | (k,x)::r,t,h=>by
  simp only [En,Bool.and_eq_true] at h
  rw [putL,Alf r _ h.2,Cb]
  congr 1
  funext n
  rw [Aqa h.1]
  rfl
theorem updC_st (s:CS) (r:Rec) (ml:Tr (List Int)) (h:(En r.ws&&En r.wo)=true):(updC s r ml).st=Fh s.st r:=by
 simp only [Bool.and_eq_true] at h
 unfold CS.st updC Fh
 simp only
 rw [putL_sl _ _ h.1,Alf _ _ h.2]
theorem Ajk {α:Type} : ∀ (l:List (Nat×α)),En l=true→∀ n,(putR l).get n=assoc l n
 | [],_,n=>rfl
 | (k,x)::r,h,n=>by
  simp only [En,Bool.and_eq_true] at h
  rw [putR,Aqa h.1,Ajk r h.2,assoc]
theorem Kf {e:Option Eff} {b:Bool} {y:MV} {wo:List (Nat×Obj)} (h:okE e b=some (y,wo)):∃ obl,e=some (y,wo,obl)∧b=true:=by
 unfold okE at h
 split at h
 ·rename_i y' wo' obl
  simp only [Option.some.injEq,Prod.mk.injEq] at h
  obtain ⟨rfl,rfl⟩:=h
  exact ⟨obl,rfl,rfl⟩
 ·simp at h
theorem Alt {g:Option Eff} {xs:List MV} {y:MV} {wo:List (Nat×Obj)} (h:f0 g xs=some (y,wo)):xs = []∧∃ obl,g=some (y,wo,obl):=by
 unfold f0 at h
 split at h
 ·obtain ⟨obl,h1,_⟩:=Kf h
  exact ⟨rfl,obl,h1⟩
 ·simp at h
theorem Hh {g:MV→Option Eff} {c:MV→Bool} {xs:List MV} {y:MV} {wo:List (Nat×Obj)} (h:f1 g c xs=some (y,wo)):∃ x,xs = [x]∧∃ obl,g x=some (y,wo,obl)∧c x=true:=by
 unfold f1 at h
 split at h
 ·rename_i x
  obtain ⟨obl,h1,h2⟩:=Kf h
  exact ⟨x,rfl,obl,h1,h2⟩
 ·simp at h
theorem Oq {g:MV→MV→Option Eff} {c:MV→MV→Bool} {xs:List MV} {y:MV} {wo:List (Nat×Obj)} (h:f2 g c xs=some (y,wo)):∃ x z,xs = [x,z]∧∃ obl,g x z=some (y,wo,obl)∧c x z=true:=by
 unfold f2 at h
 split at h
 ·rename_i x z
  obtain ⟨obl,h1,h2⟩:=Kf h
  exact ⟨x,z,rfl,obl,h1,h2⟩
 ·simp at h
theorem AhE {g:MV→MV→MV→Option Eff} {c:MV→MV→MV→Bool} {xs:List MV} {y:MV} {wo:List (Nat×Obj)} (h:f3 g c xs=some (y,wo)):∃ x z u,xs = [x,z,u]∧∃ obl,g x z u=some (y,wo,obl)∧c x z u=true:=by
 unfold f3 at h
 split at h
 ·rename_i x z u
  obtain ⟨obl,h1,h2⟩:=Kf h
  exact ⟨x,z,u,rfl,obl,h1,h2⟩
 ·simp at h
section
variable {T : Ty} {t dst:Nat} {ob:Ar} {x z u y:MV} {wo:List (Nat×Obj)} {obl:List Prop}
theorem AmY (h:Xc x=some (y,wo,obl)):All obl:=by
 simp only [Xc,Option.some.injEq,Prod.mk.injEq] at h
 obtain ⟨_,_,rfl⟩:=h
 trivial
theorem all_alloc (h:Zu T t dst ob=some (y,wo,obl)):All obl:=by
 unfold Zu AaE at h
 (repeat' split at h) <;> simp at h <;> (obtain ⟨_,_,rfl⟩:=h; trivial)
theorem all_box (h:AeA dst ob x=some (y,wo,obl)):All obl:=by
 unfold AeA AaE at h
 (repeat' split at h) <;> simp at h <;> (obtain ⟨_,_,rfl⟩:=h; trivial)
theorem all_build {ps:List (Nat×MV)} (h:Ws T t ps=some (y,wo,obl)):All obl:=by
 unfold Ws at h
 (repeat' split at h) <;> simp at h <;> (obtain ⟨_,_,rfl⟩:=h; trivial)
theorem Alg {len:Nat} {ps:List (Nat×MV)} (h:Kb T t len dst ob ps=some (y,wo,obl)):All obl:=by
 unfold Kb Ob at h
 simp only [Bool.cond_eq_ite] at h
 (repeat' split at h) <;> simp at h <;> (obtain ⟨_,_,rfl⟩:=h; trivial)
theorem all_nil (h:Aeq x=some (y,wo,obl)):All obl:=by
 unfold Aeq at h
 (repeat' split at h) <;> simp at h <;> (obtain ⟨_,_,rfl⟩:=h; trivial)
theorem all_un {op:UnOp} (h:AhU op x=some (y,wo,obl)):All obl:=by
 unfold AhU at h
 (repeat' split at h) <;> simp at h <;> (obtain ⟨_,_,rfl⟩:=h; trivial)
theorem all_conv1 {d:Nat} (h:Ts T d x=some (y,wo,obl)):All obl:=by
 unfold Ts at h
 (repeat' split at h) <;> simp at h <;> (obtain ⟨_,_,rfl⟩:=h; trivial)
theorem all_conv2 {d:Nat} (h:Zp T d x=some (y,wo,obl)):All obl:=by
 unfold Zp at h
 (repeat' split at h) <;> simp at h <;> (obtain ⟨_,_,rfl⟩:=h; trivial)
theorem all_conv {s d:Nat} (h:fConv T s d x=some (y,wo,obl)):All obl:=by
 unfold fConv at h
 cases hb:(assoc T s).isSome with
 | false=>simp [hb] at h
 | true =>
  simp only [hb,cond_true] at h
  split at h
  ·rename_i e he
   rw [h] at he
   exact all_conv1 he
  ·exact all_conv2 h
theorem all_bound {f:Nat} {xs:List MV} (h:Zm f xs=some (y,wo,obl)):All obl:=by
 simp only [Zm,Option.some.injEq,Prod.mk.injEq] at h
 obtain ⟨-,-,rfl⟩:=h
 trivial
theorem all_func {f:Nat} {xs:List MV} (h:AbU f xs=some (y,wo,obl)):All obl:=by
 unfold AbU at h
 cases hb:Nat.blt f BND <;> rw [hb] at h <;> (split at h <;> simp at h <;> (obtain ⟨_,_,rfl⟩:=h; trivial))
theorem AmD {f:Nat} (h:Om T t f x=some (y,wo,obl)):All obl:=by
 unfold Om at h
 simp only [Bool.cond_eq_ite] at h
 (repeat' split at h) <;> simp at h <;> (obtain ⟨_,_,rfl⟩:=h; trivial)
theorem all_field {f:Nat} (h:Aac T t f x=some (y,wo,obl)):All obl:=by
 unfold Aac at h
 (repeat' split at h) <;> simp at h <;> (obtain ⟨_,_,rfl⟩:=h; trivial)
theorem Aoz {i:Nat} (h:Tp i x=some (y,wo,obl)):All obl:=by
 unfold Tp at h
 (repeat' split at h) <;> simp at h <;> (obtain ⟨_,_,rfl⟩:=h; trivial)
theorem all_len (h:Aet T t x=some (y,wo,obl)):All obl:=by
 unfold Aet at h
 (repeat' split at h) <;> simp at h <;> (obtain ⟨_,_,rfl⟩:=h; trivial)
theorem all_min {b:Bool} (h:Aay b x z=some (y,wo,obl)):All obl:=by
 unfold Aay at h
 (repeat' split at h) <;> simp at h <;> (obtain ⟨_,_,rfl⟩:=h; trivial)
theorem all_del (h:Wz T t ob x z=some (y,wo,obl)):All obl:=by
 unfold Wz at h
 (repeat' split at h) <;> simp at h <;> (obtain ⟨_,_,rfl⟩:=h; trivial)
theorem ApA (h:Pi T t x=some (y,wo,obl)):All obl:=by
 unfold Pi at h
 simp only [Bool.cond_eq_ite] at h
 (repeat' split at h) <;> simp at h <;> (obtain ⟨_,_,rfl⟩:=h; trivial)
theorem all_mkmap (h:orE (Mq T t dst ob) (Lc T t dst ob)=some (y,wo,obl)):All obl:=by
 rcases Qe h with h|h
 ·unfold Mq at h
  (repeat' split at h) <;> simp at h <;> (obtain ⟨_,_,rfl⟩:=h; trivial)
 ·unfold Lc at h
  (repeat' split at h) <;> simp at h <;> (obtain ⟨_,_,rfl⟩:=h; trivial)
theorem Ajy (h:orE (Lb T t ob x z u) (Je T t ob x z u)=some (y,wo,obl)):All obl:=by
 rcases Qe h with h|h
 ·unfold Lb at h
  (repeat' split at h) <;> simp at h <;> (obtain ⟨_,_,rfl⟩:=h; trivial)
 ·unfold Je at h
  (repeat' split at h) <;> simp at h <;> (obtain ⟨_,_,rfl⟩:=h; trivial)
theorem all_make (h:AbV T t dst ob x z=some (y,wo,obl)) (hc:chkM T t x z=true):All obl:=by
 unfold AbV Ob at h
 simp only [Bool.cond_eq_ite] at h
 split at h
 case h_2=>simp at h
 rename_i e s1 s2 s3 s4 k1 p k2 c hi
 split at h
 case h_2=>simp at h
 rename_i i hi2
 split at h
 case isFalse=>simp at h
 split at h
 case h_2=>simp at h
 simp only [Option.some.injEq,Prod.mk.injEq] at h
 obtain ⟨_,_,rfl⟩:=h
 simp only [chkM,hi,hi2,Fu,Bool.and_eq_true,decide_eq_true_eq] at hc
 exact ⟨hc.1.1.1,hc.1.1.2,hc.1.2,hc.2,trivial⟩
theorem Apz (h:Ph T t dst ob x=some (y,wo,obl)):All obl:=by
 unfold Ph at h
 (repeat' split at h) <;> simp at h <;> (obtain ⟨_,_,rfl⟩:=h; trivial)
theorem all_nextS (h:Zw (sitB ob x) ob x=some (y,wo,obl)):All obl:=by
 unfold Zw at h
 split at h
 case h_2=>simp at h
 rename_i k g
 split at h
 case h_2=>simp at h
 rename_i s pos hs
 have e:sitB ob (.ref k g 0)=Nat.blt pos s.size:=by simp [sitB,hs]
 rw [e] at h
 cases hb:Nat.blt pos s.size with
 | true =>
  simp only [hb,cond_true,Option.some.injEq,Prod.mk.injEq] at h
  obtain ⟨-,-,rfl⟩:=h
  exact ⟨Nat.le_of_ble_eq_true hb,trivial⟩
 | false =>
  simp only [hb,cond_false,Option.some.injEq,Prod.mk.injEq] at h
  obtain ⟨-,-,rfl⟩:=h
  refine ⟨fun hq => ?_,trivial⟩
  have h2:Nat.blt pos s.size=true:=Nat.ble_eq_true_of_le hq
  rw [h2] at hb
  simp at hb
theorem all_range (h:Sr T t dst ob x=some (y,wo,obl)):All obl:=by
 unfold Sr at h
 split at h
 ·simp only [Option.some.injEq,Prod.mk.injEq] at h; obtain ⟨-,-,rfl⟩:=h; trivial
 ·rename_i q2 g3 hmt
  split at h
  ·cases hb:Nat.beq q2 (key dst 0) with
   | true=>simp [hb] at h
   | false=>simp only [hb,cond_false,Option.some.injEq,Prod.mk.injEq] at h; obtain ⟨-,-,rfl⟩:=h; trivial
  ·simp at h
 ·simp at h
theorem all_rng (h:orE (Sr T t dst ob x) (Ph T t dst ob x)=some (y,wo,obl)):All obl:=by
 unfold orE at h
 split at h
 ·rename_i e he
  injection h with h
  subst h
  exact all_range he
 ·exact Apz h
theorem all_entry (h:Zn ob x=some (y,wo,obl)):All obl:=by
 unfold Zn at h
 repeat' split at h
 all_goals first
  | (simp only [Option.some.injEq,Prod.mk.injEq] at h; obtain ⟨-,-,rfl⟩:=h; trivial)
  | simp at h
theorem all_load (h:Tm T t ob x=some (y,wo,obl)) (hc:chkE ob x=true):All obl:=by
 unfold Tm at h
 split at h
 ·simp at h
 ·cases x with
  | eref k g ix off =>
   simp only [chkE] at hc
   simp only at h
   split at h
   ·rename_i W n f hr
    rw [hr] at hc
    simp only at hc
    split at h
    ·simp only [Option.some.injEq,Prod.mk.injEq] at h
     obtain ⟨_,_,rfl⟩:=h
     exact ⟨Nat.le_of_ble_eq_true hc,trivial⟩
    ·simp at h
   ·simp at h
  | _ =>
   simp only at h
   (repeat' split at h) <;> simp at h <;> (obtain ⟨_,_,rfl⟩:=h; trivial)
theorem all_store (h:Zs T t ob x z=some (y,wo,obl)) (hc:chkE ob x=true):All obl:=by
 unfold Zs at h
 simp only [Bool.cond_eq_ite] at h
 split at h
 ·split at h
  ·cases x with
   | eref k g ix off =>
    simp only [chkE] at hc
    simp only at h
    split at h
    ·rename_i hr _
     rw [hr] at hc
     simp only at hc
     split at h
     ·simp only [Option.some.injEq,Prod.mk.injEq] at h
      obtain ⟨_,_,rfl⟩:=h
      exact ⟨Nat.le_of_ble_eq_true hc,trivial⟩
     ·simp at h
    ·simp at h
   | _ =>
    simp only at h
    (repeat' split at h) <;> simp at h <;> (obtain ⟨_,_,rfl⟩:=h; trivial)
  ·simp at h
 ·simp at h
theorem AmE (h:Oe T t ob x z=some (y,wo,obl)) (hc:chkI x z=true):All obl:=by
 unfold Oe at h
 simp only [Bool.cond_eq_ite] at h
 (repeat' split at h) <;> simp at h
 all_goals
  obtain ⟨_,_,rfl⟩:=h
  simp only [chkI,lenB,Fu,Bool.and_eq_true,decide_eq_true_eq] at hc
  exact ⟨hc.1,hc.2,trivial⟩
theorem all_index (h:Zk T t x z=some (y,wo,obl)) (hc:chkI x z=true):All obl:=by
 unfold Zk at h
 (repeat' split at h) <;> simp at h
 all_goals
  obtain ⟨_,_,rfl⟩:=h
  simp only [chkI,lenB,Fu,Bool.and_eq_true,decide_eq_true_eq] at hc
  exact ⟨hc.1,hc.2,trivial⟩
theorem AdA {lo hi:Option Int} (h:Kg T t ob x lo hi=some (y,wo,obl)) (hc:chkS lo hi x=true):All obl:=by
 unfold Kg at h
 simp only [Bool.cond_eq_ite] at h
 (repeat' split at h) <;> simp at h
 all_goals
  obtain ⟨_,_,rfl⟩:=h
  simp only [chkS,lenB,Bool.and_eq_true,decide_eq_true_eq] at hc
  exact ⟨hc.1.1,hc.1.2,hc.2,trivial⟩
theorem all_append {t2:Nat} (h:Xg T t t2 dst ob x z=some (y,wo,obl)) (hc:chkA T t x z=true):All obl:=by
 unfold Xg Ob at h
 simp only [Bool.cond_eq_ite] at h
 split at h
 case h_2=>simp at h
 rename_i e s1 s2 s3 s4 hi
 split at h
 case h_2=>simp at h
 rename_i i hi2
 simp only [chkA,hi,hi2] at hc
 split at h
 case isFalse=>simp at h
 split at h
 case h_2=>simp at h
 rename_i n2 f2 k2 hs
 have hl:lenB z=some n2:=by
  unfold AcN at hs
  simp only [Bool.cond_eq_ite] at hs
  (repeat' split at hs) <;> simp at hs
  all_goals
   obtain ⟨rfl,_⟩:=hs
   rfl
 rw [hl] at hc
 split at h
 ·simp only [Option.some.injEq,Prod.mk.injEq] at h
  obtain ⟨_,_,rfl⟩:=h
  simp only [lenB,Nat.zero_add] at hc
  exact ⟨Nat.le_of_ble_eq_true hc,trivial⟩
 ·simp only [Option.some.injEq,Prod.mk.injEq] at h
  obtain ⟨_,_,rfl⟩:=h
  simp only [lenB,Nat.zero_add] at hc
  exact ⟨Nat.le_of_ble_eq_true hc,trivial⟩
 ·split at h
  ·split at h
   ·simp only [Option.some.injEq,Prod.mk.injEq] at h
    obtain ⟨_,_,rfl⟩:=h
    simp only [lenB] at hc
    exact ⟨Nat.le_of_ble_eq_true hc,trivial⟩
   ·simp at h
  ·simp at h
 ·simp at h
theorem all_clear (h:Zz T t ob x=some (y,wo,obl)) (hc:chkF ob x=true):All obl:=by
 unfold Zz at h
 simp only [Bool.cond_eq_ite] at h
 split at h
 case h_2=>simp at h
 split at h
 case h_2=>simp at h
 rename_i i W n f _ hr
 split at h
 case isFalse=>simp at h
 split at h
 case h_2=>simp at h
 simp only [Option.some.injEq,Prod.mk.injEq] at h
 obtain ⟨_,_,rfl⟩:=h
 simp only [chkF,hr] at hc
 exact ⟨Nat.le_of_ble_eq_true hc,trivial⟩
theorem all_copy (h:AbY T t ob x z=some (y,wo,obl)) (hc:chkF ob x=true):All obl:=by
 unfold AbY at h
 simp only [Bool.cond_eq_ite] at h
 split at h
 case h_2=>simp at h
 split at h
 case h_2=>simp at h
 rename_i i W n f _ hr
 split at h
 case isFalse=>simp at h
 split at h
 case h_2=>simp at h
 simp only [Option.some.injEq,Prod.mk.injEq] at h
 obtain ⟨_,_,rfl⟩:=h
 simp only [chkF,hr] at hc
 exact ⟨Nat.le_of_ble_eq_true hc,trivial⟩
theorem eqPV_le {a b:PV} (h:eqPV a b=true):PLe a b:=by
 unfold eqPV at h
 split at h
 ·simp only [Bool.and_eq_true,decide_eq_true_eq] at h
  obtain ⟨rfl,rfl⟩:=h
  exact fun _ _ _ h=>h
 ·simp only [beq_iff_eq] at h
  subst h
  exact fun _ _ _ h=>h
 ·intro S w v h
  cases h with
  | slnil fl W f h=>exact .slnil _ _ _ (by simp)
  | sl _ _ _ _ _ _ _ _ hfl=>exact absurd rfl hfl.1
 ·simp at h
theorem Apa {ok:Bool} (h:orE (Xj T t ob ok x z) (Ua T t ob ok x z)=some (y,wo,obl)) (hc:chkZ T t ob x=true):All obl:=by
 have hz:∀ (e:Nat) (a b:PV),(∃ k s1 s2 s3 s4,assoc T t=some ⟨.map k e,s1,s2,s3,s4⟩)→Ye T e=some a→mapZ ob x=some b→PLe a b:=by
  rintro e a b ⟨k,s1,s2,s3,s4,he⟩ ha hb
  simp only [chkZ,he,ha,hb] at hc
  exact eqPV_le hc
 rcases Qe h with h|h
 ·unfold Xj at h
  split at h
  case h_2=>simp at h
  rename_i e n hmt _
  split at h
  case h_2=>simp at h
  rename_i z0 zz has f hz0 hm
  simp only [Option.some.injEq,Prod.mk.injEq] at h
  obtain ⟨_,_,rfl⟩:=h
  refine ⟨hz e z0 zz ?_ hz0 ?_,trivial⟩
  ·unfold AbK at hmt
   split at hmt
   ·rename_i k e' s1 s2 s3 s4 hi
    split at hmt
    ·simp at hmt; subst hmt; exact ⟨k,s1,s2,s3,s4,hi⟩
    ·simp at hmt
   ·simp at hmt
  ·split at hm
   ·simp only [mapZ,hm]
   ·simp at hm; simp [mapZ,hm.1]
   ·simp at hm
 ·unfold Ua at h
  split at h
  case h_2=>simp at h
  rename_i k e a c p q k1 g hmt _ _
  split at h
  case h_2=>simp at h
  rename_i z0 zz has f hz0 hm
  simp only [Option.some.injEq,Prod.mk.injEq] at h
  obtain ⟨_,_,rfl⟩:=h
  refine ⟨hz e z0 zz ?_ hz0 ?_,trivial⟩
  ·unfold AeB at hmt
   split at hmt
   ·rename_i k' e' s1 s2 s3 s4 hi
    (repeat' split at hmt) <;> simp at hmt
    obtain ⟨_,rfl,_⟩:=hmt
    exact ⟨k',s1,s2,s3,s4,hi⟩
   ·simp at hmt
  ·have hn:Km ob k1 g=none:=by
    have hp:=AeG hm
    unfold Km
    rw [hp]
   simp only [mapZ,hn,hm]
theorem all_bin {op:BinOp} (h:AbR T op t x z=some (y,wo,obl)) (hc:chkB op x z=true):All obl:=by
 unfold AbR at h
 split at h
 ·rename_i e he
  simp only [Option.some.injEq] at h
  subst h
  unfold Akg at he
  split at he
  case h_2=>simp at he
  rename_i a b
  split at he
  case h_2=>simp at he
  rename_i c ob' hs
  simp only [Option.some.injEq,Prod.mk.injEq] at he
  obtain ⟨_,_,rfl⟩:=he
  simp only [chkB] at hc
  unfold scal at hs
  split at hs
  ·rename_i k p k' q
   simp only [scalB] at hc
   split at hs
   ·simp at hs; obtain ⟨_,rfl⟩:=hs; exact ⟨by simpa using hc,trivial⟩
   ·simp at hs; obtain ⟨_,rfl⟩:=hs; exact ⟨by simpa using hc,trivial⟩
   ·split at hs
    ·(repeat' split at hs) <;> simp at hs
     all_goals
      obtain ⟨_,rfl⟩:=hs
      first|trivial|exact ⟨by simpa using hc,trivial⟩
    ·simp at hs
  ·(repeat' split at hs) <;> simp at hs
   all_goals
    obtain ⟨_,rfl⟩:=hs
    first|trivial|exact ⟨Nat.le_of_ble_eq_true (by simpa [scalB] using hc),trivial⟩
  ·simp at hs
 ·split at h
  ·rename_i e he
   simp only [Option.some.injEq] at h
   subst h
   unfold effEq at he
   (repeat' split at he) <;> simp at he <;> (obtain ⟨_,_,rfl⟩:=he; trivial)
  ·split at h
   ·rename_i e he
    simp only [Option.some.injEq] at h
    subst h
    unfold AcP at he
    (repeat' split at he) <;> simp at he <;> (obtain ⟨_,_,rfl⟩:=he; trivial)
   ·unfold AeK at h
    (repeat' split at h) <;> simp at h <;> (obtain ⟨_,_,rfl⟩:=h; trivial)
end
theorem fop_sound {T:Ty} {op:Op} {dst:Nat} {ob:Ar} {xs:List MV} {y:MV} {wo:List (Nat×Obj)} (h:fop T op dst ob xs=some (y,wo)) :
  ∃ obl,Bx T op dst (doPk ob op xs).bit ob xs=some (y,wo,obl)∧All obl:=by
 cases op with
 | move q=>obtain ⟨x,rfl,obl,h1,_⟩:=Hh h; exact ⟨obl,h1,AmY h1⟩
 | assign q=>obtain ⟨x,rfl,obl,h1,_⟩:=Hh h; exact ⟨obl,h1,AmY h1⟩
 | pick c a b =>
  simp only [fop,fPick] at h
  split at h
  ·rename_i c a b
   split at h
   ·rename_i t ht
    simp only [Option.some.injEq,Prod.mk.injEq] at h
    obtain ⟨rfl,rfl⟩:=h
    unfold Afl at ht
    split at ht
    ·simp only [Option.some.injEq] at ht
     subst ht
     exact ⟨_,rfl,rfl,trivial⟩
    ·simp at ht
   ·simp at h
  ·simp at h
 | alloc t=>obtain ⟨rfl,obl,h1⟩:=Alt h; exact ⟨obl,h1,all_alloc h1⟩
 | box t q=>obtain ⟨x,rfl,obl,h1,_⟩:=Hh h; exact ⟨obl,h1,all_box h1⟩
 | build t ps=>obtain ⟨obl,h1,_⟩:=Kf h; exact ⟨obl,h1,all_build h1⟩
 | buildSlice t len ps=>obtain ⟨obl,h1,_⟩:=Kf h; exact ⟨obl,h1,Alg h1⟩
 | load t q=>obtain ⟨x,rfl,obl,h1,h2⟩:=Hh h; exact ⟨obl,h1,all_load h1 h2⟩
 | store t q r=>obtain ⟨x,z,rfl,obl,h1,h2⟩:=Oq h; exact ⟨obl,h1,all_store h1 h2⟩
 | nilCheck q=>obtain ⟨x,rfl,obl,h1,_⟩:=Hh h; exact ⟨obl,h1,all_nil h1⟩
 | binOp o t p q r=>obtain ⟨x,z,rfl,obl,h1,h2⟩:=Oq h; exact ⟨obl,h1,all_bin h1 h2⟩
 | unOp o t q=>obtain ⟨x,rfl,obl,h1,_⟩:=Hh h; exact ⟨obl,h1,all_un h1⟩
 | convert s d q=>obtain ⟨x,rfl,obl,h1,_⟩:=Hh h; exact ⟨obl,h1,all_conv h1⟩
 | slice t q l hh m =>
  simp only [fop,fSl] at h
  split at h
  ·obtain ⟨x,rfl,obl,h1,h2⟩:=Hh h; exact ⟨obl,h1,AdA h1 h2⟩
  ·unfold fSl1 at h
   split at h
   ·split at h
    ·rename_i zl hz
     obtain ⟨obl,h1,h2⟩:=Kf h
     exact ⟨obl,by simp only [Bx,hz]; exact h1,AdA h1 h2⟩
    ·simp at h
   ·simp at h
  ·unfold fSl2 at h
   split at h
   ·split at h
    ·rename_i zl hz
     obtain ⟨obl,h1,h2⟩:=Kf h
     exact ⟨obl,by simp only [Bx,hz]; exact h1,AdA h1 h2⟩
    ·simp at h
   ·simp at h
  ·unfold fSl3 at h
   split at h
   ·split at h
    ·rename_i zl zh hz hz2
     obtain ⟨obl,h1,h2⟩:=Kf h
     exact ⟨obl,by simp only [Bx,hz,hz2]; exact h1,AdA h1 h2⟩
    ·simp at h
   ·simp at h
  ·rename_i q1 q2
   cases hb:(Qw q1&&Qw q2) with
   | false=>simp [hb] at h
   | true =>
    simp only [hb,cond_true] at h
    split at h
    ·obtain ⟨obl,h1,h2⟩:=Kf h
     exact ⟨obl,by simp only [Bx,hb,cond_true]; exact h1,ApA h1⟩
    ·simp at h
  ·simp at h
 | makeFunc fn first cap =>
  simp only [fop,fFun] at h
  split at h
  ·rename_i f
   cases hb:first.isEmpty with
   | false =>
    cases hc:cap.isEmpty with
    | false=>simp [hb,hc] at h
    | true =>
    simp only [hb,hc,cond_true,cond_false] at h
    obtain ⟨obl,h1,h2⟩:=Kf h
    exact ⟨obl,by simp only [Bx,hb,hc,cond_true,cond_false]; exact h1,all_bound h1⟩
   | true =>
    simp only [hb,cond_true] at h
    obtain ⟨obl,h1,h2⟩:=Kf h
    exact ⟨obl,by simp only [Bx,hb,cond_true]; exact h1,all_func h1⟩
  ·simp at h
 | fieldAddr t q f=>obtain ⟨x,rfl,obl,h1,_⟩:=Hh h; exact ⟨obl,h1,AmD h1⟩
 | field t q f=>obtain ⟨x,rfl,obl,h1,_⟩:=Hh h; exact ⟨obl,h1,all_field h1⟩
 | indexAddr t p q=>obtain ⟨x,z,rfl,obl,h1,h2⟩:=Oq h; exact ⟨obl,h1,AmE h1 h2⟩
 | index t p q=>obtain ⟨x,z,rfl,obl,h1,h2⟩:=Oq h; exact ⟨obl,h1,all_index h1 h2⟩
 | extract q i=>obtain ⟨x,rfl,obl,h1,_⟩:=Hh h; exact ⟨obl,h1,Aoz h1⟩
 | makeSlice t q r=>obtain ⟨x,z,rfl,obl,h1,h2⟩:=Oq h; exact ⟨obl,h1,all_make h1 h2⟩
 | makeMap t r =>
  cases r with
  | none=>obtain ⟨rfl,obl,h1⟩:=Alt h; exact ⟨obl,h1,all_mkmap h1⟩
  | some r=>simp [fop] at h
 | lookup t p q ok=>obtain ⟨x,z,rfl,obl,h1,h2⟩:=Oq h; exact ⟨obl,h1,Apa h1 h2⟩
 | range t q=>obtain ⟨x,rfl,obl,h1,_⟩:=Hh h; exact ⟨obl,h1,all_rng h1⟩
 | entry q=>obtain ⟨x,rfl,obl,h1,_⟩:=Hh h; exact ⟨obl,h1,all_entry h1⟩
 | next q b =>
  cases b with
  | true=>obtain ⟨x,rfl,obl,h1,_⟩:=Hh h; exact ⟨obl,h1,all_nextS h1⟩
  | false=>simp [fop] at h
 | mapUpdate t p q r=>obtain ⟨x,z,u,rfl,obl,h1,_⟩:=AhE h; exact ⟨obl,h1,Ajy h1⟩
 | insert t p q r=>obtain ⟨x,z,u,rfl,obl,h1,_⟩:=AhE h; exact ⟨obl,h1,Ajy h1⟩
 | call c =>
  obtain ⟨callee,args,ts⟩:=c
  cases callee with
  | builtin b =>
   simp only [fop,fCall,fBlt] at h
   cases b with
   | len =>
    simp only at h
    split at h
    ·rename_i t hts
     obtain ⟨x,rfl,obl,h1,_⟩:=Hh h
     exact ⟨obl,by simp only [Bx,hts]; exact h1,all_len h1⟩
    ·simp at h
   | append =>
    simp only [fApp] at h
    split at h
    ·rename_i t t2 hts
     obtain ⟨x,z,rfl,obl,h1,h2⟩:=Oq h
     exact ⟨obl,by simp only [Bx,hts,h1],all_append h1 h2⟩
    ·simp at h
   | clear =>
    simp only at h
    split at h
    ·rename_i t hts
     obtain ⟨x,rfl,obl,h1,h2⟩:=Hh h
     exact ⟨obl,by simp only [Bx,hts]; exact h1,all_clear h1 h2⟩
    ·simp at h
   | copy =>
    simp only at h
    split at h
    ·rename_i t t2 hts
     obtain ⟨x,z,rfl,obl,h1,h2⟩:=Oq h
     exact ⟨obl,by simp only [Bx,hts]; exact h1,all_copy h1 h2⟩
    ·simp at h
   | delete =>
    simp only at h
    split at h
    ·rename_i t t2 hts
     obtain ⟨x,z,rfl,obl,h1,h2⟩:=Oq h
     exact ⟨obl,by simp only [Bx,hts]; exact h1,all_del h1⟩
    ·simp at h
   | min=>obtain ⟨x,z,rfl,obl,h1,h2⟩:=Oq h; exact ⟨obl,h1,all_min h1⟩
   | max=>obtain ⟨x,z,rfl,obl,h1,h2⟩:=Oq h; exact ⟨obl,h1,all_min h1⟩
   | _=>simp at h
  | _=>simp [fop,fCall] at h
 | _=>simp [fop] at h
theorem Zt {ks:List Nat} {ob:Ar} {k:Nat} (h:k∈ks):only ks ob k=ob k:=by
 unfold only
 rw [(Qb k ks).2 h]
 rfl
theorem Ss {k:Nat} : ∀ {l:List Nat} {i j:Nat},Il k l i=some j→k∈l
 | [],i,j,h=>by simp [Il] at h
 | x::r,i,j,h=>by
  simp only [Il] at h
  cases hb:Nat.beq k x with
  | true=>simp [Nat.eq_of_beq_eq_true hb]
  | false=>simp [hb] at h; exact List.mem_cons_of_mem _ (Ss h)
theorem Jj {ob:Ar} {ks ro:List Nat} (hk:∀ k∈ks,k∈ro) {x y:MV} (hb:∀ k∈Sn ks x,k∈ro) (h:Wu ob ks x=some y):Wu (only ro ob) ks x=some y:=by
 cases x with
 | own k g off len =>
  have hin:k∈ro:=by
   cases hi:Il k ks 0 with
   | some i=>exact hk k (Ss hi)
   | none=>exact hb k (by simp [Sn,hi])
  simp only [Wu,Hf,Zt hin] at h ⊢
  exact h
 | ref k g off =>
  have hin:k∈ro:=by
   cases hi:Il k ks 0 with
   | some i=>exact hk k (Ss hi)
   | none=>exact hb k (by simp [Sn,hi])
  simp only [Wu,Yn,Zt hin] at h ⊢
  exact h
 | mref k g =>
  have hin:k∈ro:=by
   cases hi:Il k ks 0 with
   | some i=>exact hk k (Ss hi)
   | none=>exact hb k (by simp [Sn,hi])
  simp only [Wu,Km,Zt hin] at h ⊢
  exact h
 | _=>exact h
theorem Tq {α:Type} {f g:α→Option α} : ∀ {l m:List α},(∀ x∈l,∀ y,f x=some y→g x=some y)→Sm f l=some m→Sm g l=some m
 | [],m,_,h=>h
 | x::r,m,hfg,h=>by
  simp only [Sm] at h ⊢
  split at h
  ·rename_i y s h1 h2
   rw [hfg x (by simp) y h1,Tq (fun z hz=>hfg z (by simp [hz])) h2]
   exact h
  ·simp at h
theorem toC_only {ob:Ar} {ks ro:List Nat} (hk:∀ k∈ks,k∈ro) {x y:MV} (hb:∀ k∈bor ks x,k∈ro) (h:toC ob ks x=some y):toC (only ro ob) ks x=some y:=by
 cases x with
 | agg cs =>
  simp only [toC] at h ⊢
  split at h
  ·rename_i ds hd
   rw [Tq (fun c hc y hy=>Jj hk (fun k hk'=>hb k (by simp only [bor,List.mem_flatMap]; exact ⟨c,hc,hk'⟩)) hy) hd]
   exact h
  ·simp at h
 | fn f cs =>
  simp only [toC] at h ⊢
  split at h
  ·rename_i ds hd
   rw [Tq (fun c hc y hy=>Jj hk (fun k hk'=>hb k (by simp only [bor,List.mem_flatMap]; exact ⟨c,hc,hk'⟩)) hy) hd]
   exact h
  ·simp at h
 | p q=>exact Jj (ob:=ob) (ro:=ro) (x := .p q) hk hb h
 | own a b c d=>exact Jj (ob:=ob) (ro:=ro) (x := .own a b c d) hk hb h
 | ref a b c=>exact Jj (ob:=ob) (ro:=ro) (x := .ref a b c) hk hb h
 | eref a b c d=>exact Jj (ob:=ob) (ro:=ro) (x := .eref a b c d) hk hb h
 | fptr a=>exact Jj (ob:=ob) (ro:=ro) (x := .fptr a) hk hb h
 | tup a=>exact Jj (ob:=ob) (ro:=ro) (x := .tup a) hk hb h
 | mref a b=>exact Jj (ob:=ob) (ro:=ro) (x := .mref a b) hk hb h
 | und=>exact Jj (ob:=ob) (ro:=ro) (x := .und) hk hb h
 | any=>exact Jj (ob:=ob) (ro:=ro) (x := .any) hk hb h
theorem Hz {ob:Ar} {ks ro:List Nat} (hk:∀ k∈ks,k∈ro) {x y:MV} (h:Uc ob ks x=some y):Uc (only ro ob) ks x=some y:=by
 cases x with
 | own k g off len =>
  simp only [Uc] at h
  split at h
  ·rename_i q i hq hi
   simp only [Uc,Hf,Zt (hk k (Ss hi))] at hq ⊢
   rw [hi,hq]
   exact h
  ·simp at h
 | ref k g off =>
  simp only [Uc] at h
  split at h
  ·rename_i q i hq hi
   simp only [Uc,Yn,Zt (hk k (Ss hi))] at hq ⊢
   rw [hi,hq]
   exact h
  ·simp at h
 | mref k g =>
  simp only [Uc] at h
  split at h
  ·rename_i q i hq hi
   simp only [Uc,Km,Zt (hk k (Ss hi))] at hq ⊢
   rw [hi,hq]
   exact h
  ·simp at h
 | _=>exact h
theorem toC2_only {ob:Ar} {ks ro:List Nat} (hk:∀ k∈ks,k∈ro) {x y:MV} (h:toC2 ob ks x=some y):toC2 (only ro ob) ks x=some y:=by
 cases x with
 | fn f cs =>
  simp only [toC2] at h ⊢
  split at h
  ·rename_i ds hd
   rw [Tq (fun c hc y hy=>Hz hk hy) hd]
   exact h
  ·simp at h
 | p q=>exact Hz (ob:=ob) (ro:=ro) (x := .p q) hk h
 | own a b c d=>exact Hz (ob:=ob) (ro:=ro) (x := .own a b c d) hk h
 | ref a b c=>exact Hz (ob:=ob) (ro:=ro) (x := .ref a b c) hk h
 | eref a b c d=>exact Hz (ob:=ob) (ro:=ro) (x := .eref a b c d) hk h
 | fptr a=>exact Hz (ob:=ob) (ro:=ro) (x := .fptr a) hk h
 | agg a=>exact Hz (ob:=ob) (ro:=ro) (x := .agg a) hk h
 | tup a=>exact Hz (ob:=ob) (ro:=ro) (x := .tup a) hk h
 | mref a b=>exact Hz (ob:=ob) (ro:=ro) (x := .mref a b) hk h
 | und=>exact Hz (ob:=ob) (ro:=ro) (x := .und) hk h
 | any=>exact Hz (ob:=ob) (ro:=ro) (x := .any) hk h
theorem toB_only {ob:Ar} {ks ro:List Nat} (hk:∀ k∈ks,k∈ro) {b c:Body} (h:toB ob ks b=some c):toB (only ro ob) ks b=some c:=by
 cases b with
 | box cs =>
  simp only [toB] at h ⊢
  split at h
  ·rename_i ds hd
   rw [Tq (fun c hc y hy=>toC2_only hk hy) hd]
   exact h
  ·simp at h
 | _=>exact h
theorem AjR {ob:Ar} {kall ro:List Nat} (hk:∀ k∈kall,k∈ro):∀ {l:List Nat} {os:List (Nat×Body)},(∀ k∈l,k∈ro)→Adt ob kall l=some os→Adt (only ro ob) kall l=some os
 | [],os,_,h=>h
 | k::r,os,hl,h=>by
  simp only [Adt] at h ⊢
  rw [Zt (hl k (by simp))]
  split at h
  ·rename_i o s h1 h2
   rw [h1,AjR hk (fun j hj=>hl j (by simp [hj])) h2]
   split at h
   ·rename_i b hb
    simp only [toB_only hk hb]
    exact h
   ·simp at h
  ·simp at h
theorem sameB_D {b c:Body} (h:sameB b c=true):sameD b c:=by
 cases b <;> cases c <;> simp_all [sameB,sameD,Body.same]
theorem AmX : ∀ {l m:List Body},AgP l m=true→All (Afq l m)
 | [],_,_=>trivial
 | _::_,[],_=>trivial
 | b::r,c::s,h=>by
  simp only [AgP,Bool.and_eq_true] at h
  exact ⟨sameB_D h.1,AmX h.2⟩
theorem AlH : ∀ (l:List (Nat×Obj)),Vy [] l=l
 | []=>rfl
 | (k,o)::r=>by simp [Vy,elem,AlH r]
theorem AlT (ob:Ar):∀ (l:List (Nat×Obj)),Aap [] ob l = []
 | []=>rfl
 | (k,o)::r=>by simp [Aap,elem,AlT ob r]
theorem Pk {o:Oper} {nt:Nat} {α:Type} {x y:α} (hc:((match o.dst with|some t=>Nat.blt t nt|none=>true)&&Hi o.op)=true):(bif (match o.dst with|some t=>Nat.blt t nt|none=>true)&&Hi o.op then x else y)=x:=by
 rw [hc]
 rfl
theorem Akm {o:Oper} {nt:Nat} {α:Type} {x y:α} (hc:¬ ((match o.dst with|some t=>Nat.blt t nt|none=>true)&&Hi o.op)=true):(bif (match o.dst with|some t=>Nat.blt t nt|none=>true)&&Hi o.op then x else y)=y:=by
 simp only [Bool.not_eq_true] at hc
 rw [hc]
 rfl
theorem nnP_rep {S:Nat→Prop} {w:World} : ∀ (d:Nat) (x:PV) (v:Value),Rep S w v x→Rep S w v (nnP d x):=by
 have sl:∀ (d:Nat) (fl:Fl) (W n:Nat) (f:Nat→List PV) (v:Value),Rep S w v (.sl fl W n f)→Rep S w v (nnP d (.sl fl W n f)):=by
  intro d fl W n f v h
  cases fl with
  | unk =>
   have e:nnP d (.sl .unk W n f)=bif Nat.beq n 0 then .sl .unk W n f else .sl .nn W n f:=by cases d <;> rfl
   rw [e]
   by_cases h0:n=0
   ·subst h0; exact h
   ·rw [De h0]
    cases h with
    | slnil=>exact absurd rfl h0
    | sl _ _ _ cap b o _ c hfl hcap hs hlen hc h1 hr=>exact .sl _ _ _ _ _ _ _ c (by simp) hcap hs hlen hc h1 hr
  | _=>cases d <;> exact h
 intro d
 induction d with
 | zero =>
  intro x v h
  cases x with
  | sl fl W n f=>exact sl 0 fl W n f v h
  | _=>exact h
 | succ d ih =>
  intro x v h
  cases x with
  | sl fl W n f=>exact sl (d+1) fl W n f v h
  | agg cs =>
   cases h with
   | agg _ vs hl hr h1 =>
    refine .agg _ _ (by simpa using hl) (fun i y hy => ?_) (fun i y hy => ?_)
    ·rw [List.getElem?_map] at hy
     cases hq:cs[i]? with
     | none=>simp [hq] at hy
     | some q=>simp [hq] at hy; subst hy; exact ih _ _ (hr i q hq)
    ·rw [List.getElem?_map] at hy
     cases hq:cs[i]? with
     | none=>simp [hq] at hy
     | some q=>exact h1 i q hq
  | tup cs =>
   cases h with
   | tup _ vs hl hr =>
    refine .tup _ _ (by simpa using hl) (fun i y hy => ?_)
    rw [List.getElem?_map] at hy
    cases hq:cs[i]? with
    | none=>simp [hq] at hy
    | some q=>simp [hq] at hy; subst hy; exact ih _ _ (hr i q hq)
  | _=>exact h
theorem nnM_rel {β:Bi} {objs:Ar} {S:Nat→Prop} {w:World} : ∀ (d:Nat) (x:MV) (v:Value),RelV β objs S w v x→RelV β objs S w v (nnM d x):=by
 have nnP1:∀ (d:Nat) (q:PV) (v:Value),Rep S w v q→RelV β objs S w v (nnM d (.p q)):=by
  intro d q v h
  cases q with
  | ptr cs =>
   have e:nnM d (.p (.ptr cs)) = .fptr cs:=by cases d <;> rfl
   rw [e]
   cases h with
   | ptr _ b o hs c hc h1 hr=>exact .fptr _ _ _ hs c hc h1 hr
  | _=>cases d <;> exact .p _ _ (nnP_rep _ _ _ h)
 intro d
 induction d with
 | zero =>
  intro x v h
  cases x with
  | p q=>exact nnP1 0 q v h.inv_p
  | _=>exact h
 | succ d ih =>
  intro x v h
  cases x with
  | p q=>exact nnP1 (d+1) q v h.inv_p
  | agg cs =>
   cases h with
   | agg _ vs hl hr h1 =>
    refine .agg _ _ (by simpa using hl) (fun i y hy => ?_) (fun i y hy => ?_)
    ·rw [List.getElem?_map] at hy
     cases hq:cs[i]? with
     | none=>simp [hq] at hy
     | some q=>simp [hq] at hy; subst hy; exact ih _ _ (hr i q hq)
    ·rw [List.getElem?_map] at hy
     cases hq:cs[i]? with
     | none=>simp [hq] at hy
     | some q=>exact h1 i q hq
  | tup cs =>
   cases h with
   | tup _ vs hl hr =>
    refine .tup _ _ (by simpa using hl) (fun i y hy => ?_)
    rw [List.getElem?_map] at hy
    cases hq:cs[i]? with
    | none=>simp [hq] at hy
    | some q=>simp [hq] at hy; subst hy; exact ih _ _ (hr i q hq)
  | _=>exact h
theorem ApZ {P:Program} {f:FuncId} {args:List MV} {outs outs' news:List Body} {res:MV} {d:Nat} (h:Spec P f (args.map (nnM d)) outs res outs' news):Spec P f args outs res outs' news:=by
 refine ⟨h.1,fun w Av β vs hp=>h.2 w Av β vs ⟨hp.gl,hp.av,by simpa using hp.len,fun i x hx => ?_,hp.ob,hp.blk,hp.inj⟩⟩
 rw [List.getElem?_map] at hx
 cases hq:args[i]? with
 | none=>simp [hq] at hx
 | some q=>simp [hq] at hx; subst hx; exact nnM_rel d _ _ (hp.args i q hq)
theorem Aqh {P:Program} {f:FuncId} {args:List MV} {outs outs' news:List Body} {res:MV} {d:Nat} (h:Spec P f args outs res outs' news):Spec P f args outs (nnM d res) outs' news:=by
 refine ⟨h.1,fun w Av β vs hp=>(h.2 w Av β vs hp).mono fun e w' ⟨v,β',he,hq⟩=>⟨v,β',he,⟨hq.kept,hq.loc,hq.len,nnM_rel d _ _ hq.res,hq.ob,hq.blk,hq.inj⟩⟩⟩
theorem eqV_eq {a b:Value} (h:eqV a b=true):a=b:=by
 unfold eqV at h
 split at h
 ·simp only [Bool.and_eq_true,decide_eq_true_eq] at h
  rw [h.1,h.2]
 ·rw [eq_of_beq h]
 ·rename_i x y
  have h:=of_decide_eq_true h
  have:x=y:=by
   cases x; cases y
   simp only [ByteArray.mk.injEq]
   exact Array.toList_inj.1 h
  rw [this]
 ·rfl
 ·rfl
 ·rfl
 ·rfl
 ·simp at h
theorem Hc {α:Type} {g:α→α→Bool} : ∀ {l m:List α},Zo g l m=true→l.length=m.length∧∀ (i:Nat) y,m[i]? = some y→∃ x,l[i]? = some x∧g x y=true
 | [],[],_=>⟨rfl,fun i y h=>by simp at h⟩
 | x::l,y::m,h=>by
  simp only [Zo,Bool.and_eq_true] at h
  obtain ⟨a,b⟩:=Hc h.2
  refine ⟨by simp [a],fun i z hz => ?_⟩
  cases i with
  | zero=>simp only [List.getElem?_cons_zero,Option.some.injEq] at hz; subst hz; exact ⟨x,rfl,h.1⟩
  | succ i=>exact b i z hz
 | [],_::_,h=>by simp [Zo] at h
 | _::_,[],h=>by simp [Zo] at h
theorem AkJ {q:Nat→Bool} {n:Nat} (h:(upN n 0).all q=true) (i:Nat) (hi:i<n):q i=true:=by
 rw [List.all_eq_true] at h
 exact h i (List.mem_of_getElem? (by rw [Alh n 0 i hi,Nat.zero_add]))
theorem eqP_rep {S:Nat→Prop} {w:World} : ∀ (d:Nat) (x y:PV) (v:Value),eqP d x y=true→Rep S w v x→Rep S w v y:=by
 have base:∀ (d:Nat) (a:Value) (y:PV) (v:Value),eqP d (.v a) y=true→Rep S w v (.v a)→Rep S w v y:=by
  intro d a y v h hr
  unfold eqP at h
  split at h
  ·rw [← eqV_eq h]; exact hr
  ·simp at h
 intro d
 induction d with
 | zero =>
  intro x y v h hr
  cases x with
  | v a=>exact base 0 a y v h hr
  | _=>simp [eqP] at h
 | succ d ih =>
  intro x y v h hr
  cases x with
  | v a=>exact base (d+1) a y v h hr
  | sl fl W n f =>
   unfold eqP at h
   split at h
   case h_2=>simp at h
   rename_i fl' W' n' f'
   simp only [Bool.and_eq_true,decide_eq_true_eq] at h
   obtain ⟨⟨⟨rfl,hW⟩,hn⟩,ha⟩:=h
   have hW:=Nat.eq_of_beq_eq_true hW
   have hn:=Nat.eq_of_beq_eq_true hn
   subst hW hn
   cases hr with
   | slnil _ _ _ h=>exact .slnil _ _ _ h
   | sl _ _ _ cap b o _ c hfl hcap hs hlen hc h1 hr =>
    refine .sl _ _ _ cap b o _ c hfl hcap hs (fun i hi => ?_) hc h1 (fun i j z hi hz => ?_)
    ·rw [← (Hc (AkJ ha i hi)).1]; exact hlen i hi
    ·obtain ⟨q,hq,e⟩:=(Hc (AkJ ha i hi)).2 j z hz
     exact ih _ _ _ e (hr i j q hi hq)
  | agg l =>
   unfold eqP at h
   split at h
   case h_2=>simp at h
   rename_i m
   cases hr with
   | agg _ vs hl hr h1 =>
    refine .agg _ _ (by rw [hl,(Hc h).1]) (fun i z hz => ?_) (fun i z hz => ?_)
    ·obtain ⟨q,hq,e⟩:=(Hc h).2 i z hz
     exact ih _ _ _ e (hr i q hq)
    ·obtain ⟨q,hq,e⟩:=(Hc h).2 i z hz
     exact h1 i q hq
  | tup l =>
   unfold eqP at h
   split at h
   case h_2=>simp at h
   rename_i m
   cases hr with
   | tup _ vs hl hr =>
    refine .tup _ _ (by rw [hl,(Hc h).1]) (fun i z hz => ?_)
    obtain ⟨q,hq,e⟩:=(Hc h).2 i z hz
    exact ih _ _ _ e (hr i q hq)
  | _=>simp [eqP] at h
theorem eqM_rel {β:Bi} {objs:Ar} {S:Nat→Prop} {w:World} : ∀ (d:Nat) (x y:MV) (v:Value),eqM d x y=true→RelV β objs S w v x→RelV β objs S w v y:=by
 have base:∀ (d:Nat) (a:PV) (y:MV) (v:Value),eqM d (.p a) y=true→RelV β objs S w v (.p a)→RelV β objs S w v y:=by
  intro d a y v h hr
  unfold eqM at h
  split at h
  ·exact .p _ _ (eqP_rep _ _ _ _ h hr.inv_p)
  ·simp at h
 have any:∀ (d:Nat) (y:MV) (v:Value),eqM d .any y=true→RelV β objs S w v y:=by
  intro d y v h
  cases d with
  | zero =>
   unfold eqM at h
   split at h
   ·exact .any _
   ·simp at h
  | succ d =>
   unfold eqM at h
   split at h
   ·exact .any _
   ·simp at h
 intro d
 induction d with
 | zero =>
  intro x y v h hr
  cases x with
  | p a=>exact base 0 a y v h hr
  | any=>exact any 0 y v h
  | _=>simp [eqM] at h
 | succ d ih =>
  intro x y v h hr
  cases x with
  | p a=>exact base (d+1) a y v h hr
  | agg l =>
   unfold eqM at h
   split at h
   case h_2=>simp at h
   rename_i m
   cases hr with
   | agg _ vs hl hr h1 =>
    refine .agg _ _ (by rw [hl,(Hc h).1]) (fun i z hz => ?_) (fun i z hz => ?_)
    ·obtain ⟨q,hq,e⟩:=(Hc h).2 i z hz
     exact ih _ _ _ e (hr i q hq)
    ·obtain ⟨q,hq,e⟩:=(Hc h).2 i z hz
     exact h1 i q hq
  | tup l =>
   unfold eqM at h
   split at h
   case h_2=>simp at h
   rename_i m
   cases hr with
   | tup _ vs hl hr =>
    refine .tup _ _ (by rw [hl,(Hc h).1]) (fun i z hz => ?_)
    obtain ⟨q,hq,e⟩:=(Hc h).2 i z hz
    exact ih _ _ _ e (hr i q hq)
  | any=>exact any (d+1) y v h
  | _=>simp [eqM] at h
theorem Aqi {P:Program} {f:FuncId} {args:List MV} {outs outs' news:List Body} {res r:MV} {d:Nat} (hk:eqM d r res=true) (h:Spec P f args outs r outs' news):Spec P f args outs res outs' news :=
 ⟨h.1,fun w Av β vs hp=>(h.2 w Av β vs hp).mono fun e w' ⟨v,β',he,hq⟩=>⟨v,β',he,⟨hq.kept,hq.loc,hq.len,eqM_rel d _ _ _ hk hq.res,hq.ob,hq.blk,hq.inj⟩⟩⟩
theorem Aqb {P:Program} {f:FuncId} {args key:List MV} {outs outs' news:List Body} {res:MV} {d:Nat} (hk:Zo (eqM d) args key=true) (h:Spec P f key outs res outs' news):Spec P f args outs res outs' news:=by
 refine ⟨h.1,fun w Av β vs hp=>h.2 w Av β vs ⟨hp.gl,hp.av,by rw [hp.len,(Hc hk).1],fun i x hx => ?_,hp.ob,hp.blk,hp.inj⟩⟩
 obtain ⟨q,hq,e⟩:=(Hc hk).2 i x hx
 exact eqM_rel d _ _ _ e (hp.args i q hq)
def Aek (P:Program):List (Nat×List MV×MV)→Prop
 | []=>True
 | (f,key,r)::l=>Spec P f key [] r [] []∧Aek P l
theorem kn_ok {P:Program} : ∀ {l:List (Nat×List MV×MV)} {f:Nat} {asx:List MV} {r:MV},Aek P l→kn l f asx=some r→Spec P f asx [] r [] []
 | [],_,_,_,_,h=>by simp [kn] at h
 | (g,key,q)::l,f,asx,r,hk,h=>by
  unfold kn at h
  cases hc:(Nat.beq g f&&Zo (eqM 4) asx key) with
  | true =>
   rw [hc] at h
   simp only [cond_true,Option.some.injEq] at h
   subst h
   simp only [Bool.and_eq_true] at hc
   have hg:=Nat.eq_of_beq_eq_true hc.1
   subst hg
   exact Aqb hc.2 hk.1
  | false =>
   rw [hc] at h
   exact kn_ok hk.2 h
def AjF (P:Program) (l:List Nat):Prop:=∀ f,elem f l=true→∀ g1 g2,Spec P f [.own 0 0 0 1,.p (.v (.int .i64 0)),.own 1 0 0 1] [.row 3 1 g1,.row 3 1 g2] .any [.dead,.dead] []
theorem wkArgs_of {asx:List MV} {os:List Body} (h:AgT asx os=true):∃ g1 g2,asx = [.own 0 0 0 1,.p (.v (.int .i64 0)),.own 1 0 0 1]∧os = [.row 3 1 g1,.row 3 1 g2]:=by
 unfold AgT at h
 split at h
 ·exact ⟨_,_,rfl,rfl⟩
 ·simp at h
def FnsOK (P:Program) (self:Todo→Ans):Prop:=∀ f fz args outs res o n,self (.fn f fz args outs) = .fn res o n→Spec P f args outs res o n
section
variable {P : Program} {T:Ty} {H:Wh} {self:Todo→Ans}
def AaJ (P:Program) (l:List (Nat×NatK)):Prop:=∀ f k vs z,assoc l f=some k→natV k vs=some z→NatRun P f vs.toArray z
structure OpGo (P:Program) (T:Ty) (gt:List Nat) (o:Oper) (σ:St) (x:Orc) (r:Rec):Prop where
 sk:x.isSkip=false
 go:∀ nt gs gobl,Tc gs o.guard false σ=some (gt,gobl)→((match o.dst with|some t=>Nat.blt t nt|none=>true)&&Hi o.op)=true→All gobl→∃ obl,dstep P T nt gs o x σ=some (r,obl)∧All obl
theorem AlF : ∀ {l:List Body},l.all flatN=true→All (AbZ l)
 | [],_=>trivial
 | b::r,h=>by
  rw [List.all_cons,Bool.and_eq_true] at h
  have ih:=AlF h.2
  cases b with
  | row W n f=>exact ⟨fun i hi=>AkJ h.1 i hi,ih⟩
  | _=>exact ih
theorem AoW (hs:FnsOK P self) {gt:List Nat} {o:Oper} {fop:Operand} {args:Array Operand} {ts:Array TypeId} (ho:o.op = .call ⟨.value fop,args,ts⟩) {dst f:Nat} (hdst:dst=o.dst.getD 0) {xs:List MV} {σ:St}
  (hf:Aeu (ev σ fop) (args.toList.map (ev σ))=some (f,xs)) {ks:List Nat} {asx:List MV} {os:List (Nat×Body)} (h1:Sm (toC σ.objs ks) xs=some asx) (h2:Oa σ.objs ks=some os) {fz:Bool} {x:Orc} {r:Rec}
  (h:Aef gt o dst f ks xs σ (self (.fn f fz asx (os.map (·.2)))) = .ok (x,r)):OpGo P T gt o σ x r:=by
 generalize hans:self (.fn f fz asx (os.map (·.2)))=ans at h
 cases ans with
 | err l=>simp [Aef] at h
 | code e s=>simp [Aef] at h
 | fn res outs' news =>
  have hsp:=hs _ _ _ _ _ _ _ hans
  simp only [Aef] at h
  generalize hbs:dedup (xs.flatMap (bor ks)) []=bs at h
  generalize hkeep:(bs.isEmpty||(news.isEmpty&&outs'.all Body.flatB&&res.scalar)||((outs'++news).all Body.flatR&&(outs'++news).all flatN&&res.scalR))=keep at h
  generalize hro:ks++xs.flatMap (bor ks)++AbX dst news.length 0=ro at h
  split at h
  case h_2=>simp at h
  rename_i as' os' y wo obl hce
  cases hb:AgP os' outs' with
  | false=>simp [hb] at h
  | true =>
  simp only [hb,cond_true,Except.ok.injEq,Prod.mk.injEq] at h
  obtain ⟨rfl,rfl⟩:=h
  have hks:∀ k∈ks,k∈ro:=fun k hk=>by rw [← hro]; simp [hk]
  have hA:Sm (toC (only ro σ.objs) ks) xs=some asx:=Tq (fun c hc y hy=>toC_only hks (fun k hk=>by
   rw [← hro]
   simp only [List.mem_append,List.mem_flatMap]
   exact .inl (.inr ⟨c,hc,hk⟩)) hy) h1
  have hO:Oa (only ro σ.objs) ks=some os:=AjR hks hks h2
  have hce0:=hce
  unfold Xe at hce
  rw [hA,hO] at hce
  simp only [hbs] at hce
  rw [Bool.cond_eq_ite] at hce
  split at hce
  case isFalse=>simp at hce
  simp only [Option.some.injEq,Prod.mk.injEq] at hce
  obtain ⟨e1,e2,e3,e4,e5⟩:=hce
  have hobl:All obl:=by
   rw [← e5]
   cases ho:(!keep||bs.isEmpty||(news.isEmpty&&outs'.all Body.flatB&&res.scalar)) with
   | true=>trivial
   | false =>
    have hf:(outs'++news).all flatN=true:=by
     simp only [Bool.or_eq_false_iff,Bool.not_eq_false'] at ho
     rw [ho.1.1,ho.1.2,ho.2] at hkeep
     simp only [Bool.false_or,Bool.and_eq_true] at hkeep
     exact hkeep.1.2
    exact AlF hf
  refine ⟨rfl,fun nt gs gobl hg hc hgo => ?_⟩
  have hd:dcall P o.op dst f ks keep res outs' news [] σ=some (ro,y,wo,Spec P f as' os' res outs' news::(Afq os' outs'++(Aap [] (only ro σ.objs) wo++obl))):=by
   unfold dcall
   rw [ho]
   simp only [hf,Nat.beq_refl,cond_true,hro,hce0,AlH]
  refine ⟨gobl++(Spec P f as' os' res outs' news::(Afq os' outs'++(Aap [] (only ro σ.objs) wo++obl))),?_,?_⟩
  ·unfold dstep
   simp only [Orc.isSkip,hg]
   refine (Pk hc).trans ?_
   rw [← hdst,hd]
   rfl
  ·rw [All_append]
   refine ⟨hgo,?_⟩
   rw [← e1,← e2]
   refine ⟨hsp,?_⟩
   rw [All_append,All_append,AlT]
   exact ⟨AmX (by rw [e2]; exact hb),trivial,hobl⟩
theorem AnM (n:Nat) (f:Nat→List PV) (i:Nat) (hi:i<n):ofL (rowL n f) i=f i:=by
 unfold ofL rowL
 rw [List.getElem?_map,Alh n 0 i hi]
 simp
theorem Apk {gt:List Nat} {c:Nat} {o:Oper} {σ:St} {x:Orc} {r:Rec}
  (h:AhX T H gt c o (o.dst.getD 0) σ (o.op.operands.toList.map (ev σ)) (Ik o.op (o.dst.getD 0) (o.op.operands.toList.map (ev σ))) = .ok (x,r)):OpGo P T gt o σ x r:=by
 unfold AhX at h
 split at h
 case h_2=>simp at h
 rename_i q hf
 obtain ⟨y,wo⟩:=q
 obtain ⟨obl,h1,h2⟩:=fop_sound hf
 cases hn:elem (o.dst.getD 0) ((assoc H.new c).getD []) with
 | false =>
  simp only [hn,cond_false,Except.ok.injEq,Prod.mk.injEq] at h
  obtain ⟨rfl,rfl⟩:=h
  have hpk:doPk (only (Ik o.op (o.dst.getD 0) (o.op.operands.toList.map (ev σ))) σ.objs) o.op (o.op.operands.toList.map (ev σ)) = .no∨∃ b,doPk (only (Ik o.op (o.dst.getD 0) (o.op.operands.toList.map (ev σ))) σ.objs) o.op (o.op.operands.toList.map (ev σ)) = .pk b:=by
   unfold doPk
   split
   ·split
    ·exact .inr ⟨_,rfl⟩
    ·exact .inl rfl
   ·exact .inr ⟨_,rfl⟩
   ·exact .inl rfl
  refine ⟨by rcases hpk with e|⟨b,e⟩ <;> rw [e] <;> rfl,fun nt gs gobl hg hc hgo => ?_⟩
  refine ⟨gobl++obl,?_,by rw [All_append]; exact ⟨hgo,h2⟩⟩
  unfold dstep
  rcases hpk with e|⟨b,e⟩
  ·rw [e] at h1 ⊢
   simp only [Orc.isSkip,hg]
   refine (Pk hc).trans ?_
   simp only [h1]
   rfl
  ·rw [e] at h1 ⊢
   simp only [Orc.isSkip,hg]
   refine (Pk hc).trans ?_
   simp only [h1]
   rfl
 | true =>
  simp only [hn,cond_true] at h
  unfold doFrz at h
  split at h
  ·rename_i k g len k' g' W m f t hq hd
   simp only [Prod.mk.injEq] at hq
   obtain ⟨rfl,rfl⟩:=hq
   cases hb:(Nat.beq k k'&&Nat.beq g g'&&Nat.beq len m&&(doPk (only (Ik o.op (o.dst.getD 0) (o.op.operands.toList.map (ev σ))) σ.objs) o.op (o.op.operands.toList.map (ev σ))).bit) with
   | false=>simp [hb] at h
   | true =>
   simp only [hb,cond_true,Except.ok.injEq,Prod.mk.injEq] at h
   obtain ⟨rfl,rfl⟩:=h
   simp only [Bool.and_eq_true] at hb
   rw [hb.2] at h1
   refine ⟨rfl,fun nt gs gobl hg hc hgo=>⟨gobl++(obl ++ [m=m∧∀ i,i<m→f i=ofL (rowL m f) i]),?_,?_⟩⟩
   ·unfold dstep
    simp only [Orc.isSkip,hg]
    refine (Pk hc).trans ?_
    simp only [hd] at h1 ⊢
    simp only [h1,hb.1.1.1,hb.1.1.2,hb.1.2,Bool.and_self,cond_true]
   ·rw [All_append,All_append]
    exact ⟨hgo,h2,⟨rfl,fun i hi=>(AnM m f i hi).symm⟩,trivial⟩
  ·simp at h
theorem doNat_go (hX:AaJ P H.nat) {gt:List Nat} {o:Oper} {fop:Operand} {args:Array Operand} {ts:Array TypeId} (ho:o.op = .call ⟨.value fop,args,ts⟩) {f:Nat} {caps:List MV} {k:NatK} {σ:St} (hf:fnOf (ev σ fop)=some (f,caps)) (hk:assoc H.nat f=some k)
  {x:Orc} {r:Rec} (h:doNat gt o k f caps (Aau (args.toList.map (ev σ))) = .ok (x,r)):OpGo P T gt o σ x r:=by
 generalize hvs:Aau (args.toList.map (ev σ))=ovs at h
 unfold doNat at h
 split at h
 ·rename_i vs
  split at h
  ·rename_i z hz
   simp only [Except.ok.injEq,Prod.mk.injEq] at h
   obtain ⟨rfl,rfl⟩:=h
   refine ⟨rfl,fun nt gs gobl hg hc hgo=>⟨gobl ++ [NatRun P f vs.toArray z],?_,?_⟩⟩
   ·unfold dstep
    simp only [Orc.isSkip,hg]
    refine (Pk hc).trans ?_
    simp only [ho,hf,hvs]
    rw [← ho]
    rfl
   ·rw [All_append]
    exact ⟨hgo,hX f k vs z hk hz,trivial⟩
  ·simp at h
 ·simp at h
theorem Aoy {g:MV} {f f2:Nat} {xs caps asx:List MV} (h2:fnOf g=some (f2,caps)) (h:Aeu g asx=some (f,xs)):f2=f:=by
 unfold fnOf at h2
 unfold Aeu at h
 split at h2
 ·simp only [Option.some.injEq,Prod.mk.injEq] at h h2
  exact h2.1.symm.trans h.1
 ·rename_i f3 caps3
  cases hb:Nat.blt f3 BND with
  | false=>simp [hb] at h2
  | true =>
   simp only [hb,cond_true,Option.some.injEq,Prod.mk.injEq] at h h2
   exact h2.1.symm.trans h.1
 ·simp at h2
theorem AoU (hX:AaJ P H.nat) (hs:FnsOK P self) {c nt:Nat} {gs:List (Option Nat)} {o:Oper} {σ:St} {x:Orc} {r:Rec} (h:doOp T H self c nt gs o σ = .ok (x,r)):∃ obl,dstep P T nt gs o x σ=some (r,obl)∧All obl:=by
 unfold doOp at h
 by_cases hc:((match o.dst with|some t=>Nat.blt t nt|none=>true)&&Hi o.op)=true
 case neg =>
  have h:=(Akm hc).symm.trans h
  simp at h
 have h:=(Pk hc).symm.trans h
 split at h
 ·-- it goes
  rename_i gt hg
  have hgE:∃ gobl,Tc gs o.guard false σ=some (gt,gobl)∧All gobl:=by
   unfold Tc
   cases hgd:o.guard with
   | none =>
    rw [hgd] at hg
    simp only [AeD,Option.some.injEq,Prod.mk.injEq,and_true] at hg
    subst hg
    exact ⟨[],rfl,trivial⟩
   | some q =>
    obtain ⟨j,want⟩:=q
    rw [hgd] at hg
    simp only [AeD] at hg
    split at hg
    ·rename_i t ht
     split at hg
     ·rename_i b hb
      simp only [Option.some.injEq,Prod.mk.injEq] at hg
      obtain ⟨rfl,hw⟩:=hg
      refine ⟨[b=want],by simp only [ht,hb,cond_false],?_,trivial⟩
      cases want <;> cases b <;> simp_all
     ·simp at hg
     ·simp at hg
    ·simp at hg
  obtain ⟨gobl,hg1,hg2⟩:=hgE
  have go:OpGo P T gt o σ x r:=by
   unfold doOp2 at h
   split at h
   ·rename_i fop args ts hop
    unfold doCall at h
    split at h
    case h_2=>simp at h
    rename_i f xs hf
    split at h
    ·rename_i k hk
     unfold doNat0 at h
     split at h
     case h_2=>simp at h
     rename_i f2 caps hf2
     have:f2=f:=Aoy hf2 hf
     subst this
     exact doNat_go hX hop hf2 hk h
    unfold doCall2 at h
    split at h
    ·rename_i asx os h1 h2
     exact AoW hs hop rfl hf h1 h2 h
    ·simp at h
    ·simp at h
   ·rename_i op _ hop
    exact Apk h
  exact go.go nt gs gobl hg1 hc hg2
 ·-- it does not
  rename_i gt hg
  simp only [Except.ok.injEq,Prod.mk.injEq] at h
  obtain ⟨rfl,rfl⟩:=h
  cases hgd:o.guard with
  | none =>
   rw [hgd] at hg
   simp [AeD] at hg
  | some q =>
   obtain ⟨j,want⟩:=q
   rw [hgd] at hg
   simp only [AeD] at hg
   split at hg
   ·rename_i t ht
    split at hg
    ·rename_i b hb
     simp only [Option.some.injEq,Prod.mk.injEq] at hg
     obtain ⟨rfl,hw⟩:=hg
     refine ⟨[b = !want],?_,?_,trivial⟩
     ·unfold dstep Tc
      simp only [hgd,ht,hb,Orc.isSkip,cond_true]
      exact Pk hc
     ·cases want <;> cases b <;> simp_all
    ·rename_i hb
     simp only [Option.some.injEq,Prod.mk.injEq,and_true] at hg
     subst hg
     refine ⟨[],?_,trivial⟩
     unfold dstep Tc
     simp only [hgd,ht,hb,Orc.isSkip,cond_true]
     exact Pk hc
    ·simp at hg
   ·simp at hg
 ·simp at h
theorem AiE (hX:AaJ P H.nat) (hs:FnsOK P self) {c nt id:Nat} {gs:List (Option Nat)} : ∀ (os:List Oper) (i:Nat) (s:CS) (acc R:List Rec) (s':CS),Ada T H self c nt id gs os i s acc = .ok (R,s') →
  ∃ recs xs obl,R=acc.reverse++recs∧drun P T nt gs os xs s.st=some (recs,obl,s'.st)∧All obl
 | [],i,s,acc,R,s',h=>by
  simp only [Ada,Except.ok.injEq,Prod.mk.injEq] at h
  obtain ⟨rfl,rfl⟩:=h
  exact ⟨[],[],[],by simp,rfl,trivial⟩
 | o::os,i,s,acc,R,s',h=>by
  simp only [Ada] at h
  split at h
  ·rename_i x q hq
   cases hb:(En q.ws&&En q.wo) with
   | false=>simp [hb] at h
   | true =>
   simp only [hb,cond_true] at h
   obtain ⟨obl1,h1,h2⟩:=AoU hX hs hq
   obtain ⟨recs,xs,obl,h3,h4,h5⟩:=AiE hX hs os (i+1) _ _ R s' h
   refine ⟨q::recs,x::xs,obl1++obl,by rw [h3]; simp,?_,by rw [All_append]; exact ⟨h2,h5⟩⟩
   rw [updC_st _ _ _ hb] at h4
   simp only [drun,h1,h4]
  ·simp at h
end
def ObOK (L:List Int):Option Obj→Prop
 | some ⟨_,.mp _ has _⟩=>∀ n,has n=true→n∈L
 | some ⟨_,.mq (.it _ rem _)⟩=>∀ n,rem n=true→n∈L
 | _=>True
def Mg (s:CS):Prop:=∀ k L,s.ml.get k=some L→ObOK L (s.ob.get k)
theorem Afk : ∀ (wo:List (Nat×Obj)) (ml:Tr (List Int)) (k:Nat) (L:List Int),En wo=true→(AaN ml wo).get k=some L→(∀ o,(k,o)∉wo)∧ml.get k=some L
 | [],ml,k,L,_,h=>by
  cases ml with
  | lf=>simp only [AaN,Aqr] at h; simp at h
  | nd x l r=>exact ⟨by simp,by simpa only [AaN] using h⟩
 | (j,o)::r,ml,k,L,hb,h=>by
  simp only [En,Bool.and_eq_true] at hb
  cases ml with
  | lf=>simp only [AaN,Aqr] at h; simp at h
  | nd x l rr =>
   simp only [AaN] at h
   obtain ⟨h1,h2⟩:=Afk r _ k L hb.2 h
   rw [Aqa hb.1] at h2
   cases e:Nat.beq k j with
   | true=>rw [e] at h2; simp at h2
   | false =>
    rw [e] at h2
    refine ⟨fun o' hm => ?_,h2⟩
    rcases List.mem_cons.1 hm with q|q
    ·injection q with q1 q2
     subst q1
     rw [Nat.beq_refl] at e
     simp at e
    ·exact h1 o' q
theorem Ahv : ∀ (wo:List (Nat×Obj)) (ob:Ar) (k:Nat),(∀ o,(k,o)∉wo)→Cb ob wo k=ob k
 | [],_,_,_=>rfl
 | (j,o)::r,ob,k,h=>by
  rw [Cb,Ahv r _ k (fun o' hm=>h o' (by simp [hm]))]
  have:k≠j:=fun e=>h o (by simp [e])
  simp only [Bj,De this,cond_false]
theorem CSok_upd {s:CS} {o:Oper} {q:Rec} (hs:Mg s) (hb:(En q.ws&&En q.wo)=true)
  (h:∀ k L,Aab o.op (o.op.operands.toList.map (ev s.st)) s.ml q.wo=some (k,L)→Nat.blt k 1000000=true∧ObOK L (Cb s.ob.get q.wo k)):Mg (updC s q (AgX o s q)):=by
 simp only [Bool.and_eq_true] at hb
 intro k L hk
 show ObOK L ((putL q.wo s.ob).get k)
 rw [Alf _ _ hb.2]
 change (AgX o s q).get k=some L at hk
 unfold AgX at hk
 split at hk
 ·rename_i e
  rw [e]
  exact hs k L hk
 ·rename_i e
  generalize hm:Aab o.op (o.op.operands.toList.map (ev s.st)) s.ml q.wo=m at hk h
  cases m with
  | none =>
   obtain ⟨h1,h2⟩:=Afk _ _ _ _ hb.2 hk
   rw [Ahv _ _ _ h1]
   exact hs k L h2
  | some p =>
   obtain ⟨k0,L0⟩:=p
   obtain ⟨b1,b2⟩:=h k0 L0 rfl
   simp only [mlPut] at hk
   rw [Aqa b1] at hk
   cases e1:Nat.beq k k0 with
   | true =>
    rw [e1] at hk
    simp only [cond_true,Option.some.injEq] at hk
    subst hk
    have:=Nat.eq_of_beq_eq_true e1
    subst this
    exact b2
   | false =>
    rw [e1] at hk
    obtain ⟨h1,h2⟩:=Afk _ _ _ _ hb.2 hk
    rw [Ahv _ _ _ h1]
    exact hs k L h2
theorem AlD {ob:Ar} {k g:Nat} {z:PV} {has:Int→Bool} {f:Int→PV} (h:Km ob k g=some (z,has,f)):ob k=some ⟨g,.mp z has f⟩:=by
 unfold Km at h
 split at h
 ·rename_i g' z' has' f' ho
  cases hb:Nat.beq g' g with
  | false=>simp [hb] at h
  | true =>
   simp [hb] at h
   rw [ho,Nat.eq_of_beq_eq_true hb,h.1,h.2.1,h.2.2]
 ·simp at h
theorem AlQ {T:Ty} {t dst:Nat} {ro:List Nat} {s:CS} (hs:Mg s) {q q' g':Nat} {n:Int} {u y:MV} {wo:List (Nat×Obj)} {obl:List Prop} {g:Nat} {k':Nat} {z:PV} {has:Int→Bool} {f:Int→PV} {L:List Int}
  (h:orE (Lb T t (only ro s.ob.get) (.mref q g') (.p (.v (.int .i64 n))) u) (Je T t (only ro s.ob.get) (.mref q g') (.p (.v (.int .i64 n))) u)=some (y,wo,obl)) (hwo:wo = [(k',⟨g,.mp z has f⟩)]) (hL:s.ml.get q=some L) :
  ∀ m,has m=true→m∈n::L:=by
 unfold orE at h
 split at h
 ·rename_i e he
  injection h with h
  subst h
  unfold Lb at he
  split at he
  ·rename_i q1 g1 n1 x1 hmt hm hk hv
   simp only [MV.mref.injEq] at hm
   obtain ⟨rfl,rfl⟩:=hm
   simp only [MV.p.injEq,PV.v.injEq,Value.int.injEq,true_and] at hk
   subst hk
   split at he
   ·rename_i z1 has1 f1 hg
    simp only [Option.some.injEq,Prod.mk.injEq] at he
    obtain ⟨-,rfl,-⟩:=he
    simp only [List.cons.injEq,Prod.mk.injEq,Obj.mk.injEq,Body.mp.injEq,and_true] at hwo
    obtain ⟨-,-,-,rfl,-⟩:=hwo
    have ho:=Cj (AlD hg)
    have:=hs q L hL
    rw [ho] at this
    intro m hm
    simp only [Ay] at hm
    split at hm
    ·rename_i e; subst e; simp
    ·exact List.mem_cons_of_mem _ (this m hm)
   ·simp at he
  ·simp at he
 ·unfold Je at h
  split at h
  ·split at h
   ·simp only [Option.some.injEq,Prod.mk.injEq] at h
    obtain ⟨-,rfl,-⟩:=h
    simp at hwo
   ·simp at h
  ·simp at h
theorem fop_ml {T:Ty} {op:Op} {dst:Nat} {ro:List Nat} {s:CS} (hs:Mg s) {xs:List MV} {y:MV} {wo:List (Nat×Obj)} (h:fop T op dst (only ro s.ob.get) xs=some (y,wo)) {k:Nat} {L:List Int}
  (hm:Aab op xs s.ml wo=some (k,L)):ObOK L (Cb s.ob.get wo k):=by
 cases op with
 | makeMap t r =>
  cases r with
  | some r=>simp [fop] at h
  | none =>
   simp only [Aab] at hm
   split at hm
   ·rename_i k1 g1 z1 has1 f1
    simp only [Option.some.injEq,Prod.mk.injEq] at hm
    obtain ⟨rfl,rfl⟩:=hm
    obtain ⟨rfl,obl,h1⟩:=Alt h
    simp only [Cb,Bj,Ch,cond_true]
    unfold orE at h1
    split at h1
    ·rename_i e he
     injection h1 with h1
     subst h1
     unfold Mq at he
     split at he
     ·split at he
      ·simp only [Option.some.injEq,Prod.mk.injEq,List.cons.injEq,Obj.mk.injEq,Body.mp.injEq,and_true] at he
       obtain ⟨-,⟨-,-,-,rfl,-⟩,-⟩:=he
       intro n hn
       simp at hn
      ·simp at he
     ·simp at he
    ·unfold Lc at h1
     split at h1
     ·split at h1
      ·simp at h1
      ·simp at h1
     ·simp at h1
   ·simp at hm
 | mapUpdate t p q r =>
  obtain ⟨x,z,u,rfl,obl,h1,_⟩:=AhE h
  simp only [Aab] at hm
  split at hm
  ·rename_i q1 g1 n u1 k1 g2 z1 has1 f1 hx
   simp only [List.cons.injEq,and_true] at hx
   obtain ⟨rfl,rfl,rfl⟩:=hx
   simp only [Option.map_eq_some_iff,Prod.mk.injEq] at hm
   obtain ⟨L0,hL,rfl,rfl⟩:=hm
   simp only [Cb,Bj,Ch,cond_true]
   exact AlQ hs (dst:=dst) (q':=0) h1 rfl hL
  ·simp at hm
 | insert t p q r =>
  obtain ⟨x,z,u,rfl,obl,h1,_⟩:=AhE h
  simp only [Aab] at hm
  split at hm
  ·rename_i q1 g1 n u1 k1 g2 z1 has1 f1 hx
   simp only [List.cons.injEq,and_true] at hx
   obtain ⟨rfl,rfl,rfl⟩:=hx
   simp only [Option.map_eq_some_iff,Prod.mk.injEq] at hm
   obtain ⟨L0,hL,rfl,rfl⟩:=hm
   simp only [Cb,Bj,Ch,cond_true]
   exact AlQ hs (dst:=dst) (q':=0) h1 rfl hL
  ·simp at hm
 | range t q =>
  obtain ⟨x,rfl,obl,h1,_⟩:=Hh h
  simp only [Aab] at hm
  split at hm
  ·rename_i q1 g1 o1 d1 g2 f1 rem1 cur1 hx
   simp only [List.cons.injEq,and_true] at hx
   subst hx
   simp only [Option.map_eq_some_iff,Prod.mk.injEq] at hm
   obtain ⟨L0,hL,rfl,rfl⟩:=hm
   unfold orE at h1
   split at h1
   ·rename_i e he
    injection h1 with h1
    subst h1
    unfold Sr at he
    split at he
    ·rename_i hh; simp at hh
    ·rename_i q2 g3 hmt hx2
     simp only [MV.mref.injEq] at hx2
     obtain ⟨rfl,rfl⟩:=hx2
     split at he
     ·rename_i z3 has3 f3 hg
      cases hb:Nat.beq q1 (key dst 0) with
      | true=>simp [hb] at he
      | false =>
       simp only [hb,cond_false,Option.some.injEq,Prod.mk.injEq,List.cons.injEq,Obj.mk.injEq,Body.mq.injEq,MQ.it.injEq,and_true] at he
       obtain ⟨-,⟨rfl,rfl,-,-,rfl,-⟩,-⟩:=he
       have ho:=Cj (AlD hg)
       have hq:=hs q1 L0 hL
       rw [ho] at hq
       simp only [Cb,Bj,Ch,cond_true]
       exact hq
     ·simp at he
    ·simp at he
   ·unfold Ph at h1
    repeat' split at h1
    all_goals simp at h1
  ·simp at hm
 | _=>simp [Aab] at hm
theorem doOp_wo {P:Program} {T:Ty} {H:Wh} {self:Todo→Ans} {c nt:Nat} {gs:List (Option Nat)} {o:Oper} {σ:St} {x:Orc} {q:Rec} (h:doOp T H self c nt gs o σ = .ok (x,q)) :
  (∃ y ro,fop T o.op (o.dst.getD 0) (only ro σ.objs) (o.op.operands.toList.map (ev σ))=some (y,q.wo))∨q.wo = []∨(∃ k g,q.wo = [(k,⟨g,.dead⟩)])∨∃ c,o.op = .call c:=by
 unfold doOp at h
 by_cases hc:((match o.dst with|some t=>Nat.blt t nt|none=>true)&&Hi o.op)=true
 case neg =>
  have h:=(Akm hc).symm.trans h
  simp at h
 have h:=(Pk hc).symm.trans h
 split at h
 ·unfold doOp2 at h
  split at h
  ·rename_i hop
   exact .inr (.inr (.inr ⟨_,hop⟩))
  ·unfold AhX at h
   split at h
   case h_2=>simp at h
   rename_i p hf
   obtain ⟨y,wo⟩:=p
   cases hn:elem (o.dst.getD 0) ((assoc H.new c).getD []) with
   | false =>
    simp only [hn,cond_false,Except.ok.injEq,Prod.mk.injEq] at h
    obtain ⟨rfl,rfl⟩:=h
    exact .inl ⟨y,_,hf⟩
   | true =>
    simp only [hn,cond_true] at h
    unfold doFrz at h
    split at h
    ·rename_i k g len k' g' W m f t hq hd
     cases hb:(Nat.beq k k'&&Nat.beq g g'&&Nat.beq len m&&(doPk (only (Ik o.op (o.dst.getD 0) (o.op.operands.toList.map (ev σ))) σ.objs) o.op (o.op.operands.toList.map (ev σ))).bit) with
     | false=>simp [hb] at h
     | true =>
      simp only [hb,cond_true,Except.ok.injEq,Prod.mk.injEq] at h
      obtain ⟨-,rfl⟩:=h
      exact .inr (.inr (.inl ⟨_,_,rfl⟩))
    ·simp at h
 ·simp only [Except.ok.injEq,Prod.mk.injEq] at h
  obtain ⟨-,rfl⟩:=h
  exact .inr (.inl rfl)
 ·simp at h
theorem doOp_ml {T:Ty} {H:Wh} {self:Todo→Ans} {c nt:Nat} {gs:List (Option Nat)} {o:Oper} {s:CS} {x:Orc} {q:Rec} (h:doOp T H self c nt gs o s.st = .ok (x,q)) (hs:Mg s) (hb:(En q.ws&&En q.wo)=true) :
  Mg (updC s q (AgX o s q)):=by
 refine CSok_upd hs hb fun k L hm => ?_
 simp only [Bool.and_eq_true] at hb
 have hbk:Nat.blt k 1000000=true:=by
  have hb2:=hb.2
  revert hm
  unfold Aab
  repeat' split
  all_goals first
   | (intro hm; simp at hm; done)
   | (intro hm; simp only [Option.map_eq_some_iff,Option.some.injEq,Prod.mk.injEq] at hm; first|(obtain ⟨_,-,rfl,-⟩:=hm; simp_all [En]; done)|(obtain ⟨rfl,-⟩:=hm; simp_all [En]; done))
 refine ⟨hbk,?_⟩
 rcases doOp_wo (P:=default) h with ⟨y,ro,hf⟩|hw|⟨k1,g1,hw⟩|⟨c1,hop⟩
 ·exact fop_ml hs hf hm
 ·rw [hw] at hm
  revert hm
  unfold Aab
  repeat' split
  all_goals (intro hm; first|contradiction|(simp at hm; done))
 ·rw [hw] at hm
  revert hm
  unfold Aab
  repeat' split
  all_goals (intro hm; simp_all)
 ·rw [hop] at hm
  simp [Aab] at hm
theorem AnH {T:Ty} {H:Wh} {self:Todo→Ans} {c nt id:Nat} {gs:List (Option Nat)} : ∀ (os:List Oper) (i:Nat) (s:CS) (acc R:List Rec) (s':CS),Ada T H self c nt id gs os i s acc = .ok (R,s')→Mg s→Mg s'
 | [],i,s,acc,R,s',h,hs=>by
  simp only [Ada,Except.ok.injEq,Prod.mk.injEq] at h
  obtain ⟨rfl,rfl⟩:=h
  exact hs
 | o::os,i,s,acc,R,s',h,hs=>by
  simp only [Ada] at h
  split at h
  ·rename_i x q hq
   cases hb:(En q.ws&&En q.wo) with
   | false=>simp [hb] at h
   | true =>
   simp only [hb,cond_true] at h
   exact AnH os (i+1) _ _ R s' h (doOp_ml hq hs hb)
  ·simp at h
theorem frzT_ml : ∀ (ks:List Nat) (s:CS),(∀ k∈ks,Nat.blt k 1000000=true)→Mg s→Mg (frzT s ks)
 | [],s,_,h=>h
 | k::r,s,hk,h=>by
  rw [frzT]
  refine frzT_ml r _ (fun j hj=>hk j (by simp [hj])) fun j L hj => ?_
  have h1:=h j L hj
  show ObOK L (((s.ob.put TD k none).map fun o=>⟨o.gen,AaY s.ob.get k o.body⟩).get j)
  rw [Aqe,Aqa (hk k (by simp))]
  cases Nat.beq j k with
  | true=>trivial
  | false =>
   simp only [cond_false]
   revert h1
   cases s.ob.get j with
   | none=>exact fun _=>trivial
   | some o =>
    obtain ⟨g,b⟩:=o
    cases b <;> exact fun h=>h
section
variable {P : Program} {T:Ty} {cx:Cx P} {β:Bi} {a:Act} {w:World}
theorem Alx : ∀ (ks:List Nat) (s:CS),(∀ k∈ks,Nat.blt k 1000000=true)→Rel cx β s.st a w→Rel cx β (normT s ks).st a w
 | [],s,_,h=>h
 | k::r,s,hk,h=>by
  rw [normT]
  refine Alx r _ (fun j hj=>hk j (by simp [hj])) ?_
  split
  ·rename_i g W n f ho
   have:=h.rowAs (f':=ofL (rowL n f)) (show s.st.objs k=some ⟨g,.row W n f⟩ from ho) (fun i hi=>(AnM n f i hi).symm)
   have e:(CS.mk s.sl (s.ob.put TD k (some ⟨g,.row W n (ofL (rowL n f))⟩)) s.ml).st=⟨s.st.slots,Bj s.st.objs k ⟨g,.row W n (ofL (rowL n f))⟩⟩:=by
    unfold CS.st
    congr 1
    funext j
    rw [Aqa (hk k (by simp))]
    rfl
   rw [e]
   exact this
  ·exact h
theorem AiV : ∀ (ks:List Nat) (s:CS),(∀ k∈ks,Nat.blt k 1000000=true)→Rel cx β s.st a w→Rel cx β (frzT s ks).st a w
 | [],s,_,h=>h
 | k::r,s,hk,h=>by
  rw [frzT]
  refine AiV r _ (fun j hj=>hk j (by simp [hj])) ?_
  refine ApY k (fun t => ?_) (fun j => ?_) h
  ·show (((s.sl.map (frzN s.ob.get k 2)).get t).getD .any)=frzN s.ob.get k 2 ((s.sl.get t).getD .any)
   rw [Aqe]
   cases s.sl.get t <;> rfl
  ·show (j=k∧((s.ob.put TD k none).map _).get j=none)∨(j≠k∧((s.ob.put TD k none).map _).get j=(s.ob.get j).map _)
   rw [Aqe,Aqa (hk k (by simp))]
   by_cases e:j=k
   ·subst e
    rw [Nat.beq_refl]
    exact .inl ⟨rfl,rfl⟩
   ·rw [De e]
    exact .inr ⟨e,rfl⟩
theorem Ady (ks:List Nat):∀ k∈Agp ks,Nat.blt k 1000000=true:=by
 intro k hk
 unfold Agp at hk
 cases hb:ks.all (fun k=>Nat.blt k 1000000) with
 | false=>simp [hb] at hk
 | true =>
  simp only [hb,cond_true] at hk
  exact List.all_eq_true.mp hb k hk
end
section
variable {P : Program} {T:Ty} {H:Wh}
abbrev endsQ (e:Exit) (s:CS):Exit→St→Prop:=fun e' σ=>e'=e∧σ=s.st
theorem doFrzR_ml {c id:Nat} {s:CS} (hs:Mg s):Mg (AgH H c id s):=by
 unfold AgH
 split
 ·exact frzT_ml _ _ (Ady _) hs
 ·exact hs
theorem AlN : ∀ (L:List Int) (n:Int),n∈L→n∈AeQ L
 | [],n,h=>by simp at h
 | m::r,n,h=>by
  rw [AeQ]
  by_cases e:n=m
  ·simp [e]
  ·rcases List.mem_cons.1 h with q|q
   ·exact absurd q e
   ·exact List.mem_cons_of_mem _ (List.mem_filter.2 ⟨AlN r n q,by simpa using e⟩)
theorem next_ml {c d d2 k g:Nat} {s s':CS} {e:Exit} {f:Int→PV} {rem:Int→Bool} {cur:Option Int} {L:List Int} (hs:Mg s) (hk:Nat.blt k 1000000=true) (ho:s.ob.get k=some ⟨g,.mq (.it f rem cur)⟩) {l:List Int}
  (h:AbT c s d d2 k g f rem l = .code e s'):Mg s':=by
 unfold AbT at h
 split at h
 ·simp only [Ans.code.injEq] at h
  obtain ⟨-,rfl⟩:=h
  exact hs
 ·rename_i n
  simp only [Ans.code.injEq] at h
  obtain ⟨-,rfl⟩:=h
  intro j L hj
  show ObOK L ((s.ob.put TD k _).get j)
  have h1:=hs j L hj
  rw [Aqa hk]
  cases e:Nat.beq j k with
  | false=>exact h1
  | true =>
   have:=Nat.eq_of_beq_eq_true e
   subst this
   rw [ho] at h1
   intro m hm
   simp only [Ay] at hm
   split at hm
   ·simp at hm
   ·exact h1 m hm
 ·simp at h
theorem AjL {c nt t d d2:Nat} {s s':CS} {e:Exit} (h:AjW c nt s (t,d,d2) = .code e s'):(Nat.blt d nt&&Nat.blt d2 nt&&Nat.blt d 1000000&&Nat.blt d2 1000000)=true ∧
  ∃ k g f rem cur L,s.st.slots t = .ref k g 0∧s.ob.get k=some ⟨g,.mq (.it f rem cur)⟩∧s.ml.get k=some L∧Nat.blt k 1000000=true∧AbT c s d d2 k g f rem ((AeQ L).filter rem) = .code e s':=by
 unfold AjW at h
 cases hb:(Nat.blt d nt&&Nat.blt d2 nt&&Nat.blt d 1000000&&Nat.blt d2 1000000) with
 | false=>simp [hb] at h
 | true =>
 simp only [hb,cond_true] at h
 refine ⟨rfl,?_⟩
 split at h
 ·rename_i k g hsl
  unfold doNext1 at h
  split at h
  ·rename_i g' f rem cur L ho hL
   cases hb2:(Nat.beq g' g&&Nat.blt k 1000000) with
   | false=>simp [hb2] at h
   | true =>
    simp only [hb2,cond_true] at h
    simp only [Bool.and_eq_true] at hb2
    have:=Nat.eq_of_beq_eq_true hb2.1
    subst this
    exact ⟨k,g',f,rem,cur,L,hsl,ho,hL,hb2.2,h⟩
  ·simp at h
 ·simp at h
theorem region_ml {self:Todo→Ans} {c nt id:Nat} {ops:List Oper} {draw:Bool} {s s':CS} {e:Exit} (h:Acf T H self c nt id ops draw s = .code e s') (hs:Mg s):Mg s':=by
 unfold Acf at h
 split at h
 ·rename_i q hq
  obtain ⟨t,d,d2⟩:=q
  cases draw with
  | true=>simp at h
  | false =>
   simp only [cond_false] at h
   obtain ⟨_,k,g,f,rem,cur,L,_,h2,_,h4,h5⟩:=AjL h
   exact next_ml (L:=L) hs h4 h2 h5
 ·unfold fin2 at h
  split at h
  case h_2=>simp at h
  rename_i recs s2 hd
  cases hb:(!draw||AjX ops recs) with
  | false=>simp [hb] at h
  | true =>
  simp only [hb,cond_true,Ans.code.injEq] at h
  obtain ⟨-,rfl⟩:=h
  exact AnH _ _ _ _ _ _ hd (doFrzR_ml hs)
theorem Apc {c nt id:Nat} {ops:Array Oper} {s s':CS} {e:Exit} {t d d2:Nat} (hq:Aev ops.toList=some (t,d,d2)) (h:AjW c nt s (t,d,d2) = .code e s') (hok:Mg s) {cx:Cx P} (hnt:cx.nt=nt) :
  DWP P cx (.region id ops false) s.st (endsQ e s'):=by
 obtain ⟨hb,k,g,f,rem,cur,L,h1,h2,h3,h4,h5⟩:=AjL h
 simp only [Bool.and_eq_true] at hb
 obtain ⟨⟨⟨b1,b2⟩,b3⟩,b4⟩:=hb
 have hL:∀ n,rem n=true→n∈(AeQ L).filter rem:=by
  intro n hn
  have:=hok k L h3
  rw [h2] at this
  exact List.mem_filter.2 ⟨AlN L n (this n hn),hn⟩
 have hst:∀ (v:Bool) (ob:Tr Obj),(CS.mk ((s.sl.put TD d none).put TD d2 (some (pB v))) ob s.ml).st=⟨Cd (Cd s.st.slots d .any) d2 (pB v),ob.get⟩:=by
  intro v ob
  unfold CS.st
  congr 1
  funext j
  rw [Aqa b4,Aqa b3]
  simp only [Cd]
  cases Nat.beq j d2 with
  | true=>rfl
  | false=>cases Nat.beq j d <;> rfl
 refine DWP.next (by rw [hnt]; exact Nat.le_of_ble_eq_true b1) (by rw [hnt]; exact Nat.le_of_ble_eq_true b2) hq h1 h2 (fun n hn => ?_) (fun hn => ?_)
 ·have hmem:=hL n hn
  unfold AbT at h5
  split at h5
  ·rename_i hl; rw [hl] at hmem; simp at hmem
  ·rename_i m hl
   rw [hl] at hmem
   simp only [List.mem_singleton] at hmem
   subst hmem
   simp only [Ans.code.injEq] at h5
   obtain ⟨rfl,rfl⟩:=h5
   refine ⟨rfl,?_⟩
   rw [hst]
   congr 1
   funext j
   rw [Aqa h4]
   rfl
  ·simp at h5
 ·have hnil:(AeQ L).filter rem = []:=by
   rw [List.filter_eq_nil_iff]
   intro n _
   simp [hn n]
  rw [hnil] at h5
  simp only [AbT,Ans.code.injEq] at h5
  obtain ⟨rfl,rfl⟩:=h5
  refine ⟨rfl,?_⟩
  rw [hst]
  rfl
theorem AmN (hT:Gi P T) (hm:P.follows .mixedOrders=true) (hX:AaJ P H.nat) {self:Todo→Ans} (hs:FnsOK P self) {c nt id:Nat} {ops:Array Oper} {draw:Bool} {s s':CS} {e:Exit} (h:Acf T H self c nt id ops.toList draw s = .code e s')
  (hok:Mg s) {cx:Cx P} (hnt:cx.nt=nt):DWP P cx (.region id ops draw) s.st (endsQ e s'):=by
 unfold Acf at h
 split at h
 ·rename_i q hq
  obtain ⟨t,d,d2⟩:=q
  cases draw with
  | true=>simp at h
  | false=>exact Apc hq (by simpa using h) hok hnt
 generalize hs1:AgH H c id s=s1 at h
 have hrel:∀ {β:Bi} {a:Act} {w:World},Rel cx β s.st a w→Rel cx β s1.st a w:=by
  intro β a w hr
  rw [← hs1]
  unfold AgH
  split
  ·exact AiV _ _ (Ady _) hr
  ·exact hr
 unfold fin2 at h
 split at h
 case h_2=>simp at h
 rename_i recs s2 hd
 cases hb:(!draw||AjX ops.toList recs) with
 | false=>simp [hb] at h
 | true =>
 simp only [hb,cond_true,Ans.code.injEq] at h
 obtain ⟨rfl,rfl⟩:=h
 obtain ⟨recs',xs,obl,h1,h2,h3⟩:=AiE hX hs _ _ _ _ _ _ hd
 simp only [List.reverse_nil,List.nil_append] at h1
 subst h1
 intro β a w hr
 have hfin:∀ β a w,Rel cx β s2.st a w→∃ β' σ',endsQ .normal s2 .normal σ'∧Rel cx β' σ' a w:=fun β a w hr=>⟨β,_,⟨rfl,rfl⟩,hr⟩
 cases draw with
 | false=>exact AiU hT h2 h3 hnt (hrel hr) hfin
 | true =>
  simp only [Bool.not_true,Bool.false_or,AjX,Bool.and_eq_true] at hb
  exact AiJ hT hm h2 h3 hb.1 hb.2 hnt (hrel hr) hfin
theorem run_ml (P:Program) (T:Ty) (H:Wh):∀ (n:Nat) (c nt:Nat) (cd:Code) (s:CS) (e:Exit) (s':CS),Hs P T H n (.code c nt cd s) = .code e s'→Mg s→Mg s'
 | 0,_,_,_,_,_,_,h,_=>by simp [Hs] at h
 | n+1,c,nt,cd,s,e,s',h,hs=>by
  have ih:=run_ml P T H n
  change Gh T H (Hs P T H n) c nt cd s = .code e s' at h
  cases cd with
  | seq x y =>
   simp only [Gh] at h
   generalize hx:Hs P T H n (.code c nt x s)=ans at h
   cases ans with
   | err l=>simp [Afo] at h
   | fn r o q=>simp [Afo] at h
   | code e1 s1 =>
    have i1:=ih _ _ _ _ _ _ hx hs
    cases e1 with
    | normal=>exact ih _ _ _ _ _ _ h i1
    | _ =>
     simp only [Afo,Ans.code.injEq] at h
     obtain ⟨-,rfl⟩:=h
     exact i1
  | cond q x y =>
   simp only [Gh] at h
   generalize (bif An q then Afl (ev s.st q) else none)=ob at h
   cases ob with
   | none=>simp [Akj] at h
   | some b=>exact ih _ _ _ _ _ _ h hs
  | block id x =>
   simp only [Gh] at h
   generalize hx:Hs P T H n (.code c nt x s)=ans at h
   cases ans with
   | err l=>simp [Tk] at h
   | fn r o q=>simp [Tk] at h
   | code e1 s1 =>
    have i1:=ih _ _ _ _ _ _ hx hs
    cases e1 with
    | exit id' =>
     simp only [Tk] at h
     cases hb:Nat.beq id' id <;> simp only [hb,cond_true,cond_false,Ans.code.injEq] at h <;> (obtain ⟨-,rfl⟩:=h; exact i1)
    | _ =>
     simp only [Tk,Ans.code.injEq] at h
     obtain ⟨-,rfl⟩:=h
     exact i1
  | loop x =>
   simp only [Gh] at h
   generalize hx:Hs P T H n (.code c nt x s)=ans at h
   cases ans with
   | err l=>simp [Ace] at h
   | fn r o q=>simp [Ace] at h
   | code e1 s1 =>
    have i1:=ih _ _ _ _ _ _ hx hs
    cases e1 with
    | normal=>exact ih _ _ _ _ _ _ h i1
    | _ =>
     simp only [Ace,Ans.code.injEq] at h
     obtain ⟨-,rfl⟩:=h
     exact i1
  | region id ops draw=>exact region_ml (by simpa only [Gh] using h) hs
  | skip=>simp only [Gh,Ans.code.injEq] at h; obtain ⟨-,rfl⟩:=h; exact hs
  | ret=>simp only [Gh,Ans.code.injEq] at h; obtain ⟨-,rfl⟩:=h; exact hs
  | exit id=>simp only [Gh,Ans.code.injEq] at h; obtain ⟨-,rfl⟩:=h; exact hs
  | _=>simp [Gh] at h
structure Snd (P:Program) (T:Ty) (H:Wh) (n:Nat):Prop where
 code:∀ c nt cd s e s',Hs P T H n (.code c nt cd s) = .code e s'→Mg s→∀ cx:Cx P,cx.nt=nt→DWP P cx cd s.st (endsQ e s')
 fn:FnsOK P (Hs P T H n)
theorem run_sound (hT:Gi P T) (hm:P.follows .mixedOrders=true) (hX:AaJ P H.nat) (hK:Aek P H.known) (hW:AjF P H.weak) (hN:∀ (f:Nat) (fn:Func),P.funcs[f]? = some fn→fn.name ≠ "runtime.NumGoroutine"):∀ n,Snd P T H n:=by
 intro n
 induction n using Nat.strongRecOn with
 | _ n ih =>
 cases n with
 | zero=>exact ⟨fun c nt cd s e s' h=>by simp [Hs] at h,fun f fz args outs res o n h=>by simp [Hs] at h⟩
 | succ n =>
 have ihn:=ih n (by omega)
 refine ⟨?_,?_⟩
 ·intro c nt cd s e s' h hok cx hnt
  have h0:=h
  change Gh T H (Hs P T H n) c nt cd s = .code e s' at h
  cases cd with
  | skip =>
   simp only [Gh,Ans.code.injEq] at h
   obtain ⟨rfl,rfl⟩:=h
   exact DWP.skip ⟨rfl,rfl⟩
  | ret =>
   simp only [Gh,Ans.code.injEq] at h
   obtain ⟨rfl,rfl⟩:=h
   exact DWP.ret ⟨rfl,rfl⟩
  | exit id =>
   simp only [Gh,Ans.code.injEq] at h
   obtain ⟨rfl,rfl⟩:=h
   exact DWP.exit ⟨rfl,rfl⟩
  | seq x y =>
   simp only [Gh] at h
   generalize hx:Hs P T H n (.code c nt x s)=ans at h
   cases ans with
   | err l=>simp [Afo] at h
   | fn r o q=>simp [Afo] at h
   | code e1 s1 =>
    have i1:=ihn.code _ _ _ _ _ _ hx hok cx hnt
    have hok1:=run_ml P T H n _ _ _ _ _ _ hx hok
    refine DWP.seq (i1.mono ?_)
    rintro e' σ ⟨rfl,rfl⟩
    cases e' with
    | normal=>exact ihn.code _ _ _ _ _ _ h hok1 cx hnt
    | _ =>
     simp only [Afo,Ans.code.injEq] at h
     obtain ⟨rfl,rfl⟩:=h
     exact ⟨rfl,rfl⟩
  | cond q x y =>
   simp only [Gh] at h
   cases hk:An q with
   | false=>simp [hk,Akj] at h
   | true =>
   simp only [hk,cond_true] at h
   generalize hb:Afl (ev s.st q)=ob at h
   cases ob with
   | none=>simp [Akj] at h
   | some b =>
    have hev:ev s.st q = .p (.v (.bool b)):=by
     unfold Afl at hb
     split at hb
     ·rename_i b' he; simp only [Option.some.injEq] at hb; rw [he,hb]
     ·simp at hb
    refine DWP.cond hk hev (fun e1 => ?_) (fun e1 => ?_)
    ·subst e1; exact ihn.code _ _ _ _ _ _ h hok cx hnt
    ·subst e1; exact ihn.code _ _ _ _ _ _ h hok cx hnt
  | block id x =>
   simp only [Gh] at h
   generalize hx:Hs P T H n (.code c nt x s)=ans at h
   cases ans with
   | err l=>simp [Tk] at h
   | fn r o q=>simp [Tk] at h
   | code e1 s1 =>
    have i1:=ihn.code _ _ _ _ _ _ hx hok cx hnt
    refine DWP.block (i1.mono ?_)
    rintro e' σ ⟨rfl,rfl⟩
    cases e' with
    | exit id' =>
     simp only [Tk] at h
     simp only [Ng]
     by_cases hid:id'=id
     ·subst hid
      simp only [Nat.beq_refl,cond_true,Ans.code.injEq] at h
      obtain ⟨rfl,rfl⟩:=h
      rw [if_pos rfl]
      exact ⟨rfl,rfl⟩
     ·rw [De hid] at h
      simp only [cond_false,Ans.code.injEq] at h
      obtain ⟨rfl,rfl⟩:=h
      rw [if_neg hid]
      exact ⟨rfl,rfl⟩
    | _ =>
     simp only [Tk,Ans.code.injEq] at h
     obtain ⟨rfl,rfl⟩:=h
     exact ⟨rfl,rfl⟩
  | loop x =>
   refine DWP.loop (ι:=Nat×CS) (fun i=>i.2.st) (fun i=>i.1≤n+1∧Mg i.2∧Hs P T H i.1 (.code c nt (.loop x) i.2) = .code e s') (fun i=>i.1) (n+1,s) ⟨Nat.le_refl _,hok,h0⟩ rfl ?_
   rintro ⟨m,s0⟩ ⟨hle,hok0,hm0⟩
   simp only at hle hok0 hm0 ⊢
   cases m with
   | zero=>simp [Hs] at hm0
   | succ m =>
   have ihm:=ih m (by omega)
   change Gh T H (Hs P T H m) c nt (.loop x) s0 = .code e s' at hm0
   simp only [Gh] at hm0
   generalize hx:Hs P T H m (.code c nt x s0)=ans at hm0
   cases ans with
   | err l=>simp [Ace] at hm0
   | fn r o q=>simp [Ace] at hm0
   | code e1 s1 =>
    have hok1:=run_ml P T H m _ _ _ _ _ _ hx hok0
    refine (ihm.code _ _ _ _ _ _ hx hok0 cx hnt).mono ?_
    rintro e' σ ⟨rfl,rfl⟩
    cases e' with
    | normal=>exact ⟨(m,s1),⟨by simp only; omega,hok1,hm0⟩,rfl,by simp only; omega⟩
    | _ =>
     simp only [Ace,Ans.code.injEq] at hm0
     obtain ⟨rfl,rfl⟩:=hm0
     exact ⟨rfl,rfl⟩
  | region id ops draw=>exact AmN hT hm hX ihn.fn (by simpa only [Gh] using h) hok hnt
  | _=>simp [Gh] at h
 ·intro f fz args outs res o q h
  change doWk (elem f H.weak&&AgT (args.map (nnM 3)) outs) (doKn (bif outs.isEmpty then kn H.known f (args.map (nnM 3)) else none) (doFn T (Hs P T H n) f fz (args.map (nnM 3)) outs P.funcs[f]?)) = .fn res o q at h
  refine ApZ (d:=3) ?_
  generalize args.map (nnM 3)=args at h ⊢
  cases hwk:(elem f H.weak&&AgT args outs) with
  | true =>
   rw [hwk] at h
   simp only [doWk,Ans.fn.injEq] at h
   obtain ⟨rfl,rfl,rfl⟩:=h
   rw [Bool.and_eq_true] at hwk
   obtain ⟨g1,g2,rfl,rfl⟩:=wkArgs_of hwk.2
   exact hW f hwk.1 g1 g2
  | false =>
  rw [hwk] at h
  change doKn (bif outs.isEmpty then kn H.known f args else none) (doFn T (Hs P T H n) f fz args outs P.funcs[f]?) = .fn res o q at h
  generalize hkn:(bif outs.isEmpty then kn H.known f args else none)=kr at h
  cases kr with
  | some r =>
   simp only [doKn,Ans.fn.injEq] at h
   obtain ⟨rfl,rfl,rfl⟩:=h
   cases outs with
   | nil=>exact kn_ok hK hkn
   | cons=>simp at hkn
  | none =>
  change doFn T (Hs P T H n) f fz args outs P.funcs[f]? = .fn res o q at h
  unfold doFn at h
  split at h
  case h_2=>simp at h
  rename_i fn hf
  unfold doFn2 at h
  split at h
  case h_2=>simp at h
  rename_i cd hcd
  unfold doFn3 at h
  generalize hsl:Ki (upN args.length 0) (upN outs.length 0) ⟨fun t=>(args[t]?).getD .any,Bq outs⟩=sl at h
  generalize hob:Gz (upN outs.length 0) ⟨fun t=>(args[t]?).getD .any,Bq outs⟩=ob at h
  cases hb:(Nat.ble args.length fn.ntmps&&Nat.ble outs.length 1000&&En sl&&En ob) with
  | false=>simp [hb] at h
  | true =>
  simp only [hb,cond_true] at h
  simp only [Bool.and_eq_true] at hb
  have hst:Ae sl ob=(Ahc sl ob).st:=by
   unfold Ae CS.st Ahc
   congr 1
   ·funext t; rw [Ajk _ hb.1.2]
   ·funext t; rw [Ajk _ hb.2]
  generalize hx:Hs P T H n (.code f fn.ntmps cd (Ahc sl ob))=ans at h
  cases ans with
  | err l=>simp [doEnd] at h
  | fn r o q=>simp [doEnd] at h
  | code e1 s1 =>
   have main:(e1 = .ret∨e1 = .normal)→Ake T f fn outs.length (Agm T fn fz outs.length s1) = .fn res o q→Spec P f args outs res o q:=by
    intro he hh
    generalize hs2:Agm T fn fz outs.length s1=s2 at hh
    unfold Ake doEnd2 at hh
    split at hh
    case h_2=>simp at hh
    simp only at hh
    generalize (reach (Wb outs.length s2.ob.get) 200 [] _).filter _=ex at hh
    unfold doEnd3 at hh
    split at hh
    case h_2=>simp at hh
    rename_i res' bs hfin
    cases hle:Nat.ble outs.length bs.length with
    | false=>simp [hle] at hh
    | true =>
    simp only [hle,cond_true,Ans.fn.injEq] at hh
    obtain ⟨rfl,rfl,rfl⟩:=hh
    have hle:=Nat.le_of_ble_eq_true hle
    refine Aqh (spec_of hT hf (hN f fn hf) hcd (by simp; omega) (Nat.le_of_ble_eq_true hb.1.1.1) (Nat.le_of_ble_eq_true hb.1.1.2) hsl hob fun cx hnt => ?_)
    rw [hst]
    intro β a w hr
    refine wpIn_mono (ihn.code _ _ _ _ _ _ hx (fun k L hk=>by simp [Ahc,Aqr] at hk) cx hnt β a w hr) ?_
    rintro e' a' w' ⟨β',σ',⟨rfl,rfl⟩,hr'⟩
    have hr2:Rel cx β' s2.st a' w':=by
     rw [← hs2]
     unfold Agm
     cases fz with
     | false=>exact hr'
     | true =>
      simp only [cond_true]
      split
      ·exact AiV _ _ (Ady _) hr'
      ·exact hr'
    refine ⟨β',_,?_,Alx _ _ (Ady (upN outs.length 0++ex)) hr2⟩
    rcases he with rfl|rfl
    ·exact ⟨ex,by rw [List.take_append_drop]; exact hfin⟩
    ·exact ⟨ex,by rw [List.take_append_drop]; exact hfin⟩
   cases e1 with
   | ret=>exact main (.inl rfl) h
   | normal=>exact main (.inr rfl) h
   | _=>simp [doEnd] at h
theorem Lv (hT:Gi P T) (hm:P.follows .mixedOrders=true) (hN:∀ (f:Nat) (fn:Func),P.funcs[f]? = some fn→fn.name ≠ "runtime.NumGoroutine") (H:Wh) (hX:AaJ P H.nat) (hK:Aek P H.known) (hW:AjF P H.weak) (n:Nat) {f:Nat} {fz:Bool} {args:List MV} {outs:List Body} {res:MV} {o q:List Body}
  (h:Hs P T H n (.fn f fz args outs) = .fn res o q):Spec P f args outs res o q:=(run_sound hT hm hX hK hW hN n).fn _ _ _ _ _ _ _ h
theorem AbS (hT:Gi P T) (hm:P.follows .mixedOrders=true) (hN:∀ (f:Nat) (fn:Func),P.funcs[f]? = some fn→fn.name ≠ "runtime.NumGoroutine") (H:Wh) (hX:AaJ P H.nat) (hK:Aek P H.known) (hW:AjF P H.weak) (n:Nat) {f:Nat} {fz:Bool} {args:List MV} {R:MV}
  (h:Afm R (Hs P T H n (.fn f fz args []))=true):Spec P f args [] R [] []:=by
 unfold Afm at h
 split at h
 ·rename_i r hr
  exact Aqi h (Lv hT hm hN H hX hK hW n hr)
 ·simp at h
end
end Go.Dm
