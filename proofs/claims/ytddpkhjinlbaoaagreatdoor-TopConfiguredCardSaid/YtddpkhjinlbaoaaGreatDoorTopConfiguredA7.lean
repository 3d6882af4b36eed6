/- Texts of the proof of TopConfigured: the data machine, the models of the Go functions, their contracts. -/
import Derived.Test.YtddpkhjinlbaoaaGreatDoorTopConfiguredA6
import Derived.Test.YtddpkhjinlbaoaaGreatDoorTopConfiguredA2
import Derived.Test.YtddpkhjinlbaoaaGreatDoorTopConfiguredA3
import Derived.Sort.Grow
import Derived.Lib.LaidTab
import Derived.Lib.ItoaNum
import Derived.Below
import Derived.Deep.Draws
set_option linter.unusedVariables false
set_option linter.unusedSimpArgs false
namespace Go.Dm
open Go.Proofs
theorem AmJ : Spec Tryz.prog 48 [pS (bs [112,105,100,115,46,109,97,120])] [] (.p (.tup [.agg [vs (bs [112,105,100,115,46,109,97,120]),vi 8,.fn 168 [.ptr [.fn 100 []]],.fn 170 [.ptr [vb true],.ptr [.fn 100 []]]],vb true])) [] []:=Lv (fz:=true) TgR Ul Nt (HTR []) Nr trivial Ig 1000000 (by kernel_rfl)
theorem Anf : Spec Tryz.prog 48 [pS (bs [99,112,117,46,119,101,105,103,104,116])] [] (.p (.tup [.agg [vs (bs [99,112,117,46,119,101,105,103,104,116]),vi 1,.fn 168 [.ptr [.fn 101 []]],.fn 170 [.ptr [vb false],.ptr [.fn 101 []]]],vb true])) [] []:=Lv (fz:=true) TgR Ul Nt (HTR []) Nr trivial Ig 1000000 (by kernel_rfl)
theorem Ano : Spec Tryz.prog 48 [pS (bs [99,112,117,46,109,97,120])] [] (.p (.tup [.agg [vs (bs [99,112,117,46,109,97,120]),vi 1,.fn 102 [],.fn 103 []],vb true])) [] []:=Lv (fz:=true) TgR Ul Nt (HTR []) Nr trivial Ig 1000000 (by kernel_rfl)
theorem AnB : Spec Tryz.prog 48 [pS (bs [99,112,117,46,109,97,120,46,98,117,114,115,116])] [] (.p (.tup [.agg [vs (bs [99,112,117,46,109,97,120,46,98,117,114,115,116]),vi 1,.fn 168 [.ptr [.fn 104 []]],.fn 170 [.ptr [vb false],.ptr [.fn 104 []]]],vb true])) [] []:=Lv (fz:=true) TgR Ul Nt (HTR []) Nr trivial Ig 1000000 (by kernel_rfl)
theorem AnN : Spec Tryz.prog 48 [pS (bs [99,112,117,46,117,99,108,97,109,112,46,109,105,110])] [] (.p (.tup [.agg [vs (bs [99,112,117,46,117,99,108,97,109,112,46,109,105,110]),vi 1,.fn 173 [.ptr [.fn 106 []]],.fn 175 [.ptr [.fn 106 []]]],vb true])) [] []:=Lv (fz:=true) TgR Ul Nt (HTR []) Nr trivial Ig 1000000 (by kernel_rfl)
theorem Ant : Spec Tryz.prog 48 [pS (bs [99,112,117,46,117,99,108,97,109,112,46,109,97,120])] [] (.p (.tup [.agg [vs (bs [99,112,117,46,117,99,108,97,109,112,46,109,97,120]),vi 1,.fn 173 [.ptr [.fn 107 []]],.fn 175 [.ptr [.fn 107 []]]],vb true])) [] []:=Lv (fz:=true) TgR Ul Nt (HTR []) Nr trivial Ig 1000000 (by kernel_rfl)
theorem AnQ : Spec Tryz.prog 48 [pS (bs [99,112,117,115,101,116,46,99,112,117,115])] [] (.p (.tup [.agg [vs (bs [99,112,117,115,101,116,46,99,112,117,115]),vi 16,.fn 177 [.ptr [.fn 109 []]],.fn 179 [.ptr [vi 16],.ptr [.fn 109 []]]],vb true])) [] []:=Lv (fz:=true) TgR Ul Nt (HTR []) Nr trivial Ig 1000000 (by kernel_rfl)
theorem AmW : Spec Tryz.prog 48 [pS (bs [99,112,117,115,101,116,46,109,101,109,115])] [] (.p (.tup [.agg [vs (bs [99,112,117,115,101,116,46,109,101,109,115]),vi 16,.fn 177 [.ptr [.fn 110 []]],.fn 179 [.ptr [vi 8],.ptr [.fn 110 []]]],vb true])) [] []:=Lv (fz:=true) TgR Ul Nt (HTR []) Nr trivial Ig 1000000 (by kernel_rfl)
theorem AnL : Spec Tryz.prog 48 [pS (bs [99,112,117,115,101,116,46,99,112,117,115,46,112,97,114,116,105,116,105,111,110])] [] (.p (.tup [.agg [vs (bs [99,112,117,115,101,116,46,99,112,117,115,46,112,97,114,116,105,116,105,111,110]),vi 16,.fn 111 [],.fn 112 []],vb true])) [] []:=Lv (fz:=true) TgR Ul Nt (HTR []) Nr trivial Ig 1000000 (by kernel_rfl)
def namesL : List ByteArray := [bs [112,105,100,115,46,109,97,120],bs [99,112,117,46,119,101,105,103,104,116],bs [99,112,117,46,109,97,120],bs [99,112,117,46,109,97,120,46,98,117,114,115,116],bs [99,112,117,46,117,99,108,97,109,112,46,109,105,110],bs [99,112,117,46,117,99,108,97,109,112,46,109,97,120],bs [99,112,117,115,101,116,46,99,112,117,115],bs [99,112,117,115,101,116,46,109,101,109,115],bs [99,112,117,115,101,116,46,99,112,117,115,46,112,97,114,116,105,116,105,111,110]]
theorem namesRun : Spec Tryz.prog 12 [pB false,pI 31] [] (.p (.sl .nn 1 namesL.length (elems Xw ByteArray.empty namesL))) [] []:=AbS (fz:=true) TgR Ul Nt (HTR []) Nr trivial Ig 1000000 (by kernel_rfl)
end Go.Dm

namespace Go.Dm
variable {P : Program}
theorem GlOK.tab {out:Nat→Prop} {w:World} (h:GlOK P out w) {g:Nat} (hg:P.globalNamed "internal/strconv.uint64pow10" = some g):Lib.TabIs P w "internal/strconv.uint64pow10" .u64 Lib.pow10Tab:=by
 obtain ⟨_,cs,e,f,h1,h2⟩:=h _ (by unfold Akv; exact .head _) g hg
 unfold Lib.TabIs World.var?
 rw [hg,Option.bind_some,h1]
 exact congrArg some h2
theorem GlOK.maxLen {out:Nat→Prop} {w:World} (h:GlOK P out w) {g:Nat} (hg:P.globalNamed "internal/bytealg.MaxLen" = some g):∃ m,w.cell? ⟨g,0,none⟩=some (.int .i64 m):=by
 obtain ⟨_,cs,e,f,h1,m,h2⟩:=h _ (by unfold Akv; exact .tail _ (.head _)) g hg
 exact ⟨m,by unfold World.cell?; simp only [h1]; exact h2⟩
theorem Alz (o:Nat→Prop) (w:World) (k:Nat) (os:Array Go.Obj):Kept o w (Sort.grow (w.drewN k) os) :=
 ⟨rfl,rfl,rfl,by simp [Sort.grow,World.drewN],fun i hi _=>by simp [Sort.grow,World.drewN,Array.getElem?_append,hi]⟩
theorem Apg (o:Nat→Prop) (w:World) (k:Nat):Kept o w (w.drewN k):=⟨rfl,rfl,rfl,Nat.le_refl _,fun _ _ _=>rfl⟩
theorem AoN (o:Nat→Prop) {w w':World} (h:RowKit.Below w.heap.size w w'):Kept o w w':=⟨h.os,h.tape,h.output,h.size,fun k hk _=>h.block k hk⟩
theorem Apq (o:Nat→Prop) (w:World) (b:Go.Obj):Kept o w (w.alloc b):=by
 rw [Sort.alloc_eq_grow]
 exact Alz o w 0 #[b]
theorem Yv {f:FuncId} {args:List MV} {x:PV} (hf:FnOK P f)
  (h:∀ (w:World) (β:Bi) (vs:Array Value),GlOK P (fun _=>False) w→vs.size=args.length→(∀ (i:Nat) y,args[i]? = some y→RelV β (Bq []) (fun b=>b<w.heap.size) w (vs.getD i undef) y) →
   Calls P f vs w fun e w'=>∃ v,e = .returned v∧Kept (fun _=>False) w w'∧∀ S β,RelV β (Bq []) S w' v (.p x)):Spec P f args [] (.p x) [] []:=by
 refine ⟨hf,fun w Av β vs hp => ?_⟩
 refine (h w β vs (fun y hy g hg=>⟨id,(hp.gl y hy g hg).2⟩) hp.len fun i y hy=>(hp.args i y hy).mono (Grows.refl _ _) (fun b hb=>hb.1) (fun _ _=>rfl)).mono ?_
 rintro e w' ⟨v,rfl,hk,hr⟩
 refine ⟨v,β,rfl,⟨hk.os,hk.tape,hk.output,hk.size,fun k hl _=>hk.block k hl id⟩,fun _ _ _ _ _=>rfl,rfl,hr _ _,fun k bd hb => ?_,fun k bd b hb => ?_,fun k k' bd bd' b hb => ?_⟩
 all_goals simp at hb
theorem spec_rowS {f:FuncId} {args:List MV} {L:List ByteArray} (hf:FnOK P f)
  (h:∀ (w:World) (β:Bi) (vs:Array Value),GlOK P (fun _=>False) w→vs.size=args.length→(∀ (i:Nat) y,args[i]? = some y→RelV β (Bq []) (fun b=>b<w.heap.size) w (vs.getD i undef) y) →
   Calls P f vs w fun e w'=>∃ ty,e = .returned (.slice (some ⟨w.heap.size,0,none⟩) L.length L.length)∧w'=w.alloc (Go.Obj.cells (L.map Value.string).toArray ty)):Spec P f args [] (ow 0 L.length) [] [roS L]:=by
 refine ⟨hf,fun w Av β vs hp => ?_⟩
 refine (h w β vs (fun y hy g hg=>⟨id,(hp.gl y hy g hg).2⟩) hp.len fun i y hy=>(hp.args i y hy).mono (Grows.refl _ _) (fun b hb=>hb.1) (fun _ _=>rfl)).mono ?_
 rintro e w' ⟨ty,rfl,rfl⟩
 have hk:=Apq (fun _=>False) w (Go.Obj.cells (L.map Value.string).toArray ty)
 have hh:(w.alloc (Go.Obj.cells (L.map Value.string).toArray ty)).heap[w.heap.size]? = some (.cells (L.map Value.string).toArray ty):=by
  show (w.heap.push _)[w.heap.size]? = _
  exact Array.getElem?_push_size
 have one:∀ {k:Nat} {bd:Body},(([]:List Body) ++ [roS L])[k]? = some bd→k=0∧bd=roS L:=by
  intro k bd hb
  match k,hb with
  | 0,hb=>exact ⟨rfl,(Option.some.inj hb).symm⟩
  | k+1,hb=>simp at hb
 refine ⟨_,fun _ => .row w.heap.size 0 L.length,rfl,⟨hk.os,hk.tape,hk.output,hk.size,fun k hl _=>hk.block k hl id⟩,fun k bd hl=>by simp at hl,rfl,?_,fun k bd hb => ?_,fun k bd b hb hl hB => ?_,fun k k' bd bd' b hb hb' _ _ hne => ?_⟩
 ·refine .own 0 0 0 L.length _ _ ⟨⟨0,roS L⟩,rfl,Nat.le_refl _,fun _ => ?_⟩
  exact ⟨by omega,w.heap.size,0,rfl,by omega,fun _=>⟨rfl,rfl⟩⟩
 ·obtain ⟨rfl,rfl⟩:=one hb
  refine .inr ⟨w.heap.size,0,L.length,_,ty,rfl,hh,by simp,Nat.le_refl _,fun i hi=>⟨rfl,fun j x hx => ?_⟩⟩
  match j,hx with
  | 0,hx =>
   obtain rfl:=Option.some.inj hx
   refine ⟨.string (L.getD i ByteArray.empty),?_,rfl,.v _ rfl⟩
   simp [List.getD_eq_getElem?_getD,List.getElem?_eq_getElem hi]
  | j+1,hx=>simp [elems,Xw] at hx
 ·obtain ⟨rfl,rfl⟩:=one hb
  obtain rfl:w.heap.size=b:=Option.some.inj hB
  exact ⟨by rw [Sort.alloc_eq_grow]; simp [Sort.grow],.inr (.inl (Nat.le_refl _))⟩
 ·obtain ⟨rfl,_⟩:=one hb
  obtain ⟨rfl,_⟩:=one hb'
  exact absurd rfl hne
theorem MLe.ptr {cs:List PV} : MLe (.p (.ptr cs)) (.fptr cs):=fun β objs S w v h=>by
 have h:=h.inv_p
 cases h with
 | ptr _ b o hs c hc h1 hr=>exact .fptr _ _ _ hs c hc h1 hr
theorem AcB {vs:Array Value} {args:List MV} (h:vs.size=args.length) (h2:args.length=2):vs = #[vs.getD 0 undef,vs.getD 1 undef]:=by
 match vs,h with
 | ⟨[a,b]⟩,_=>rfl
 | ⟨[]⟩,h=>simp [h2] at h
 | ⟨[a]⟩,h=>simp [h2] at h
 | ⟨a::b::c::r⟩,h=>simp [h2] at h
theorem one_arg {vs:Array Value} {args:List MV} (h:vs.size=args.length) (h2:args.length=1):vs = #[vs.getD 0 undef]:=by
 match vs,h with
 | ⟨[a]⟩,_=>rfl
 | ⟨[]⟩,h=>simp [h2] at h
 | ⟨a::c::r⟩,h=>simp [h2] at h
theorem slS_cells {β:Bi} {objs:Ar} {S:Nat→Prop} {w:World} {v:Value} {L:List ByteArray} (h:RelV β objs S w v (.p (slS L))) :
  (L = []∧v = .slice none 0 0)∨∃ b o cap,v = .slice (some ⟨b,o,none⟩) L.length cap∧L.length≤cap∧(L ≠ []→S b)∧∀ (j:Nat) x,L[j]? = some x→w.cell? ⟨b,o+j,none⟩=some (.string x):=by
 have h:=h.inv_p
 generalize hx:(slS L:PV)=x at h
 cases h with
 | slnil fl W f hfl =>
  unfold slS Gy at hx
  injection hx with _ _ h3 _
  exact .inl ⟨List.eq_nil_of_length_eq_zero h3,rfl⟩
 | sl fl W n cap b o f c hfl hcap hs hlen hc h1 hr =>
  unfold slS Gy at hx
  injection hx with _ hW h3 h4
  subst hW h3 h4
  refine .inr ⟨b,o,cap,rfl,hcap,fun hne=>hs (by cases L <;> simp_all),fun j x hj => ?_⟩
  have hl:j<L.length:=(List.getElem?_eq_some_iff.1 hj).1
  have e:=hc j 0 hl (by decide)
  have hq:=hr j 0 (vs x) hl (by simp [elems,Xw,List.getD_eq_getElem?_getD,hj])
  generalize c j 0=u at e hq
  cases hq
  simpa [at_] using e
 | _=>simp [slS,Gy] at hx
end Go.Dm
