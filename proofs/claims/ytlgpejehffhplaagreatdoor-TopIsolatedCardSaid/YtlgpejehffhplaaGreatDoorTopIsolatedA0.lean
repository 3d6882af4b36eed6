/- Texts of the proof of TopIsolated: the data machine, the models of the Go functions, their contracts. -/
import Derived.Orders
import Derived.OrdersIn
import Derived.Laws.AppendOwn
import Derived.Below
import Derived.KernelRfl
import Derived.Laws.StructEq
import Derived.IntWalk
set_option linter.unusedVariables false
set_option linter.unusedSimpArgs false
namespace Go.Dm
abbrev A0:=@Option.bind_some
abbrev A1:=@Option.some.injEq
abbrev A2:=@Bool.false_eq_true
abbrev A3:=@Nat.eq_of_beq_eq_true
abbrev A4:=@Prod.mk.injEq
abbrev A5:=@Array.getD_eq_getD_getElem?
abbrev A6:=@Bool.and_eq_true
abbrev A7:=@List.getElem?_map
abbrev A8:=@Nat.le_of_ble_eq_true
abbrev A9:=@List.getElem?_eq_some_iff
abbrev B0:=@List.getElem?_eq_getElem
abbrev B1:=@List.mem_append
abbrev B2:=@Nat.le_refl
abbrev B3:=@List.mem_of_getElem?
abbrev B4:=@Bool.not_true
abbrev B5:=@List.getD_eq_getElem?_getD
abbrev B6:=@List.all_eq_true
abbrev B7:=@Bool.or_eq_true
abbrev B8:=@List.mem_map
abbrev B9:=@List.getElem?_append_right
abbrev C0:=@List.mem_cons
abbrev C1:=@List.mem_filter
abbrev C2:=@List.getElem?_append_left
abbrev C3:=@Array.getElem?_eq_some_iff
abbrev C4:=@Array.getElem?_eq_getElem
abbrev C5:=@Nat.mul_le_mul_right
abbrev C6:=@List.eq_nil_of_length_eq_zero
abbrev C7:=@Option.map_eq_some_iff
abbrev C8:=@List.map_congr_left
abbrev C9:=@List.pairwise_iff_getElem
abbrev D0:=@List.mem_of_find?_eq_some
abbrev D1:=@List.getElem_of_mem
abbrev D2:=@Nat.add_mul
abbrev D3:=@Array.getElem?_setIfInBounds_ne
abbrev D4:=@Nat.beq_refl
abbrev D5:=@Nat.zero_add
abbrev D6:=@Option.elim_some
abbrev D7:=@Bool.not_eq_true'
abbrev D8:=@List.map_cons
abbrev D9:=@Nat.lt_of_lt_of_le
abbrev E0:=@Option.map_some
abbrev E1:=@Option.getD_some
abbrev E2:=@Bool.cond_eq_ite
abbrev E3:=@Bool.or_eq_false_iff
abbrev E4:=@List.pairwise_append
abbrev E5:=@List.contains_eq_mem
abbrev E6:=@List.filter_append
abbrev E7:=@List.mem_singleton
abbrev E8:=@Bool.false_or
abbrev E9:=@List.length_cons
abbrev F0:=@Array.mem_of_getElem?
abbrev F1:=@Nat.ble_eq_true_of_le
abbrev F2:=@List.length_filter_le
abbrev F3:=@List.find?_some
abbrev F4:=@Array.getElem?_push
abbrev F5:=@List.getElem?_toArray
abbrev F6:=@List.any_eq_true
abbrev F7:=@Array.getElem?_append_left
abbrev F8:=@List.mem_range
abbrev F9:=@List.take_of_length_le
abbrev G0:=@List.pairwise_map
abbrev G1:=@List.contains_iff_mem
abbrev G2:=@List.map_nil
abbrev G3:=@List.filter_cons
abbrev G4:=@List.find?_eq_none
abbrev G5:=@Bool.true_and
abbrev G6:=@Bool.not_false
abbrev G7:=@List.take_add_one
abbrev G8:=@List.length_map
abbrev G9:=@List.map_append
abbrev H0:=@List.getElem_mem
abbrev H1:=@List.getElem?_take
abbrev H2:=@Nat.succ_mul
abbrev H3:=@List.cons.injEq
abbrev H4:=@List.nodup_cons
abbrev H5:=@List.mem_cons_of_mem
abbrev H6:=@Array.eq_empty_of_size_eq_zero
abbrev H7:=@List.map_map
abbrev H8:=@List.append_assoc
abbrev H9:=@Nat.le_trans
abbrev I0:=@Option.isSome_some
abbrev I1:=@List.length_append
abbrev I2:=@Array.getElem?_toList
abbrev I3:=@List.append_nil
abbrev I4:=@Int.toNat_natCast
abbrev I5:=@List.drop_eq_getElem_cons
abbrev I6:=@List.ext_getElem
abbrev I7:=@List.length_take
abbrev I8:=@List.take_length
abbrev I9:=@List.length_drop
abbrev J0:=@List.reverse_append
abbrev J1:=@List.getElem?_drop
abbrev J2:=@List.find?_cons
abbrev J3:=@Option.some.inj
abbrev J4:=@Bool.not_eq_false'
abbrev J5:=@List.nil_append
abbrev J6:=@List.length_nil
abbrev J7:=@Int.le_refl
abbrev J8:=@List.nodup_append
abbrev J9:=@List.filter_congr
abbrev K0:=@Nat.add_zero
abbrev K1:=@Array.getElem?_modify
abbrev K2:=@List.mem_flatMap
abbrev K3:=@List.getElem_map
abbrev K4:=@Option.elim_none
abbrev K5:=@Array.length_toList
abbrev K6:=@List.filter_sublist
abbrev K7:=@Array.contains_push
abbrev K8:=@Nat.not_lt_zero
abbrev K9:=@Bool.eq_iff_iff
abbrev L0:=@Nat.lt_or_gt_of_ne
abbrev L1:=@List.pairwise_cons
abbrev L2:=@List.length_eq_zero_iff
abbrev L3:=@List.reverse_cons
abbrev L4:=@Nat.zero_le
abbrev L5:=@List.length_pos_of_mem
abbrev L6:=@Array.mem_iff_getElem?
abbrev L7:=@List.findIdx?_eq_some_iff_getElem
abbrev L8:=@Nat.add_assoc
abbrev L9:=@List.all_cons
abbrev M0:=@Nat.mod_eq_of_lt
abbrev M1:=@List.reverse_nil
abbrev M2:=@List.append_inj'
abbrev M3:=@List.getElem_set
abbrev M4:=@Array.mem_filter
abbrev M5:=@List.getElem?_eq_none
abbrev M6:=@List.singleton_append
abbrev M7:=@List.take_append_drop
abbrev M8:=@Nat.mul_comm
abbrev M9:=@List.any_append
abbrev N0:=@List.take_append_of_le_length
abbrev N1:=@List.length_reverse
abbrev N2:=@List.filter_eq_self
abbrev N3:=@List.mem_map_of_mem
abbrev N4:=@Nat.le_succ
abbrev N5:=@Array.getElem?_append_right
abbrev N6:=@List.any_cons
abbrev N7:=@List.find?_append
abbrev N8:=@List.countP_congr
abbrev N9:=@Bool.not_eq_false
abbrev O1:=@Array.all_toList
abbrev O2:=@Array.toList_map
abbrev O3:=@Option.getD_none
abbrev O4:=@List.not_mem_nil
abbrev O5:=@Nat.lt_succ_self
abbrev O6:=@List.map_reverse
abbrev O9:=@List.foldl_cons
abbrev P0:=@Nat.mul_add_mod
abbrev P1:=@List.filter_nil
abbrev P2:=@List.filter_map
inductive Fl where
 |unk|nil|nn|cap0
 deriving DecidableEq
inductive PV where
 |v (x:Value)
 |sl (fl:Fl) (W n:Nat) (f:Nat->List PV)
 |fn (f:FuncId) (caps:List PV)
 |agg (cs:List PV)
 |tup (cs:List PV)
 |mp (z:PV) (has:Int->Bool) (f:Int->PV)
 |ptr (cs:List PV)
inductive MV where
 |p (x:PV)
 |own (k g off len:Nat)
 |ref (k g off:Nat)
 |eref (k g i off:Nat)
 |fptr (cs:List PV)
 |agg (cs:List MV)
 |tup (cs:List MV)
 |fn (f:FuncId) (caps:List MV)
 |mref (k g:Nat)
 |und
 |any
inductive MQ where
 |clk (z:PV) (has:Int->Bool) (f:Int->PV) (born:Int->Nat) (clock:Nat)
 |it (f:Int->PV) (rem:Int->Bool) (cur:Option Int)
 |pm (z:PV) (has:Int->Int->Bool) (f:Int->Int->PV)
 |sit (s:ByteArray) (pos:Nat)
inductive Body where
 |mq (q:MQ)
 |box (cs:List MV)
 |row (W n:Nat) (f:Nat->List PV)
 |mp (z:PV) (has:Int->Bool) (f:Int->PV)
 |dead
structure Obj where
 gen:Nat
 body:Body
def Body.live:Body->Prop
 | .dead=>False
 |_=>True
def Body.same:Body->Body->Prop
 | .box _,.box _=>True
 | .row W n _,.row W' n' _=>W=W'/\n=n'
 | .mp _ _ _,.mp _ _ _=>True
 | .mp _ _ _,.mq _=>True
 | .mq _,.mp _ _ _=>True
 | .mq _,.mq _=>True
 | .dead,.dead=>True
 |_,_=>False
theorem Body.same_refl(b:Body):b.same b:=by cases b<;>simp[Body.same]
theorem Axt{b c:Body}(h:b.same c):b.live↔c.live:=by
 cases b<;>cases c<;>simp_all[Body.same,Body.live]
inductive Loc where
 |box (b:Nat)
 |row (b off cap:Nat)
 |nilrow
def Loc.block:Loc->Option Nat
 | .box b=>some b
 | .row b _ _=>some b
 | .nilrow=>none
abbrev Ay:=Nat->Option Obj
abbrev Bs:=Nat->Loc
structure St where
 slots:Nat->MV
 objs:Ay
def Ap(Av:Nat->Prop)(U:Bs)(objs:Ay)(w:World)(b:Nat):Prop:=
 b<w.heap.size/\¬ Av b/\∀k o,objs k=some o->o.body.live->(U k).block≠some b
def at_(b o:Nat):Addr:=⟨b,o,none⟩
def Acu(a:Array MapEntry)(clock:Nat)(has:Int->Bool):Prop:=
 (∀(i:Nat) (e:MapEntry),a[i]?=some e->∃n,e.key=.int .i64 n/\has n=true) /\
 (∀n,has n=true->∃(i:Nat) (e:MapEntry),a[i]?=some e/\e.key=.int .i64 n) /\
 (∀(i j:Nat) (e b:MapEntry) (n:Int),a[i]?=some e->a[j]?=some b->e.key=.int .i64 n->b.key=.int .i64 n->i=j) /\
 (∀(i:Nat) (e:MapEntry),a[i]?=some e->e.born<clock) /\
 (∀(i j:Nat) (e b:MapEntry),a[i]?=some e->a[j]?=some b->e.born=b.born->i=j)
def kp(a c:Int):Value:=.agg #[.int .i64 a,.int .i64 c]
def PMOK(b:Array MapEntry)(has:Int->Int->Bool):Prop:=
 (∀(i:Nat) (e:MapEntry),b[i]?=some e->∃a c,e.key=kp a c/\has a c=true) /\
 (∀a c,has a c=true->∃(i:Nat) (e:MapEntry),b[i]?=some e/\e.key=kp a c) /\
 (∀(i j:Nat) (e f:MapEntry),b[i]?=some e->b[j]?=some f->e.key=f.key->i=j)
inductive Rep (S:Nat->Prop) (w:World):Value->PV->Prop where
 |v (x:Value) (h:x.oneCell'=true):Rep S w x (.v x)
 |slnil (fl:Fl) (W:Nat) (f:Nat->List PV) (h:fl≠.nn):Rep S w (.slice none 0 0) (.sl fl W 0 f)
 |sl (fl:Fl) (W n cap b o:Nat) (f:Nat->List PV) (c:Nat->Nat->Value)
   (hfl:fl≠.nil/\(fl=.cap0->cap=0)) (hcap:n<=cap)
   (hs:n≠0->S b)
   (hlen:∀i,i<n->(f i).length=W)
   (hc:∀i j,i<n->j<W->w.cell? (at_ b (o+(i*W+j)))=some (c i j))
   (h1:∀i j,i<n->j<W->(c i j).oneCell'=true)
   (hr:∀i j x,i<n->(f i)[j]?=some x->Rep S w (c i j) x):
   Rep S w (.slice (some (at_ b o)) n cap) (.sl fl W n f)
 |fn (f:FuncId) (caps:List PV) (vs:Array Value) (hl:vs.size=caps.length)
   (hr:∀(i:Nat) x,caps[i]?=some x->Rep S w (vs.getD i undef) x):Rep S w (.func (.func f) #[] vs) (.fn f caps)
 |agg (cs:List PV) (vs:Array Value) (hl:vs.size=cs.length)
   (hr:∀(i:Nat) x,cs[i]?=some x->Rep S w (vs.getD i undef) x)
   (h1:∀(i:Nat) x,cs[i]?=some x->(vs.getD i undef).oneCell'=true):Rep S w (.agg vs) (.agg cs)
 |tup (cs:List PV) (vs:Array Value) (hl:vs.size=cs.length)
   (hr:∀(i:Nat) x,cs[i]?=some x->Rep S w (vs.getD i undef) x):Rep S w (.tuple vs) (.tup cs)
 |mp (z:PV) (has:Int->Bool) (f:Int->PV) (b clock:Nat) (es:Array MapEntry) (hs:S b) (hh:w.heap[b]?=some (.map es clock)) (hk:Acu es clock has) (hz:∀n,has n=false->f n=z)
   (hr:∀(i:Nat) (e:MapEntry) (n:Int),es[i]?=some e->e.key=.int .i64 n->Rep S w e.val (f n)):Rep S w (.map (some b)) (.mp z has f)
 |ptr (cs:List PV) (b o:Nat) (hs:S b) (c:Nat->Value)
   (hc:∀j,j<cs.length->w.cell? (at_ b (o+j))=some (c j))
   (h1:∀j,j<cs.length->(c j).oneCell'=true)
   (hr:∀(j:Nat) x,cs[j]?=some x->Rep S w (c j) x):Rep S w (.pointer (some (at_ b o))) (.ptr cs)
theorem Rep.mono{S C:Nat->Prop}{w w':World}(A:∀b,S b->C b)(t:∀b,S b->w'.heap[b]?=w.heap[b]?)
  {v:Value} {x:PV} (h:Rep S w v x):Rep C w' v x:=by
 induction h with
 |v x h=>exact .v x h
 |slnil fl W f h=>exact .slnil fl W f h
 |sl fl W n cap b o f c u l g m B k r a=>
  refine .sl fl W n cap b o f c u l (fun H=>A _ (g H)) m ?_ k a;intro i j hi y;rw[<-B i j hi y]
  exact World.cell?_of_block (t b (g (by omega)))
 |fn f s vs q r a=>exact .fn f s vs q a
 |agg cs vs q r k a=>exact .agg cs vs q a k
 |tup cs vs q r a=>exact .tup cs vs q a
 |mp z has f b clock G g F D E r a=>exact .mp z has f b clock G (A _ g) (by rw[t _ g];exact F) D E a
 |ptr cs b o g c B k r a=>
  refine .ptr cs b o (A _ g) c (fun j y=>?_) k a;rw[<-B j y];exact World.cell?_of_block (t b g)
def OwnAt(l:Loc)(bd:Body)(off len:Nat)(base:Option Addr)(c:Nat):Prop:=
 match bd with
 | .row W n _=>off+len<=n /\
  match l with
  | .nilrow=>(base=none\/∃b o,base=some (at_ b o))/\c=0/\off=0/\len=0
  | .row b o cap=>∃a f,base=some (at_ a f)/\off+c=cap/\(c≠0->a=b/\f=o+off*W)
  | .box _=>False
 |_=>False
def ERefAt(l:Loc)(bd:Body)(i b a:Nat):Prop:=
 match bd with
 | .row W n _=>i<n/\∃o cap,l=.row b o cap/\a=o+i*W
 |_=>False
def Known(U:Bs)(objs:Ay)(k g:Nat)(F:Loc->Body->Prop):Prop:=
 ∃o,objs k=some o/\g<=o.gen/\(o.gen=g->F (U k) o.body)
def BND:Nat:=1048576
def fnV(f:FuncId)(vs:Array Value):Value:=bif Nat.blt f BND then .func (.func f) #[] vs else .func (.func (f-BND)) vs #[]
theorem AgM{f:FuncId}{vs:Array Value}(h:Nat.blt f BND=true):fnV f vs=.func (.func f) #[] vs:=by unfold fnV;rw[h];rfl
theorem fnV_ge{f:FuncId}{vs:Array Value}(h:Nat.blt f BND=false):fnV f vs=.func (.func (f-BND)) vs #[]:=by unfold fnV;rw[h];rfl
theorem fnV_cell(f:FuncId)(vs:Array Value):(fnV f vs).oneCell'=true:=by unfold fnV;cases Nat.blt f BND<;>rfl
inductive RelV (U:Bs) (objs:Ay) (S:Nat->Prop) (w:World):Value->MV->Prop where
 |p (v:Value) (x:PV) (h:Rep S w v x):RelV U objs S w v (.p x)
 |own (k g off len:Nat) (base:Option Addr) (c:Nat) (h:Known U objs k g fun l bd=>OwnAt l bd off len base c):RelV U objs S w (.slice base len c) (.own k g off len)
 |ref (k g off b:Nat) (h:Known U objs k g fun l _=>l=.box b):RelV U objs S w (.pointer (some (at_ b off))) (.ref k g off)
 |eref (k g i off b oo:Nat) (h:Known U objs k g fun l bd=>ERefAt l bd i b oo):RelV U objs S w (.pointer (some (at_ b (oo+off)))) (.eref k g i off)
 |fptr (cs:List PV) (b o:Nat) (hs:S b) (c:Nat->Value)
   (hc:∀j,j<cs.length->w.cell? (at_ b (o+j))=some (c j))
   (h1:∀j,j<cs.length->(c j).oneCell'=true)
   (hr:∀j x,cs[j]?=some x->Rep S w (c j) x):RelV U objs S w (.pointer (some (at_ b o))) (.fptr cs)
 |agg (cs:List MV) (vs:Array Value) (hl:vs.size=cs.length)
   (hr:∀(i:Nat) x,cs[i]?=some x->RelV U objs S w (vs.getD i undef) x)
   (h1:∀(i:Nat) x,cs[i]?=some x->(vs.getD i undef).oneCell'=true):RelV U objs S w (.agg vs) (.agg cs)
 |tup (cs:List MV) (vs:Array Value) (hl:vs.size=cs.length)
   (hr:∀(i:Nat) x,cs[i]?=some x->RelV U objs S w (vs.getD i undef) x):RelV U objs S w (.tuple vs) (.tup cs)
 |fn (f:FuncId) (caps:List MV) (vs:Array Value) (hl:vs.size=caps.length)
   (hr:∀(i:Nat) x,caps[i]?=some x->RelV U objs S w (vs.getD i undef) x):RelV U objs S w (fnV f vs) (.fn f caps)
 |mref (k g b:Nat) (h:Known U objs k g fun l _=>l=.box b):RelV U objs S w (.map (some b)) (.mref k g)
 |und:RelV U objs S w undef .und
 |any (v:Value):RelV U objs S w v .any
def Grows(U b:Bs)(objs objs':Ay):Prop:=
 ∀k o,objs k=some o->∃a,objs' k=some a/\o.gen<=a.gen/\(o.gen=a.gen->b k=U k/\o.body.same a.body)
theorem Grows.refl(U:Bs)(objs:Ay):Grows U U objs objs:=fun _ o h=>⟨o,h,B2 _,fun _=>⟨rfl,o.body.same_refl⟩⟩
theorem OwnAt.same{l:Loc}{b c:Body}{off len:Nat}{v:Option Addr}{q:Nat}(h:OwnAt l b off len v q)(a:b.same c):OwnAt l c off len v q:=by
 cases b<;>cases c<;>simp_all[OwnAt,Body.same]
theorem ERefAt.same{l:Loc}{b c:Body}{i a off:Nat}(h:ERefAt l b i a off)(f:b.same c):ERefAt l c i a off:=by
 cases b<;>cases c<;>simp_all[ERefAt,Body.same]
theorem Known.mono{U i:Bs}{objs objs':Ay}(u:Grows U i objs objs'){k g:Nat}{F:Loc->Body->Prop}
  (v:∀l b c,F l b->b.same c->F l c) (h:Known U objs k g F):Known i objs' k g F:=by
 obtain⟨o,r,m,q⟩:=h;obtain⟨n,j,f,a⟩:=u k o r;refine⟨n,j,H9 m f,fun x=>?_⟩;have e1:o.gen=g:=by omega
 have e2:o.gen=n.gen:=by omega
 obtain⟨s,t⟩:=a e2;rw[s];exact v _ _ _ (q e1) t
theorem RelV.mono{U q:Bs}{objs objs':Ay}{S z:Nat->Prop}{w w':World}(r:Grows U q objs objs')
  (y:∀b,S b->z b) (u:∀b,S b->w'.heap[b]?=w.heap[b]?) {v:Value} {x:MV} (h:RelV U objs S w v x):
  RelV q objs' z w' v x:=by
 induction h with
 |p v x h=>exact .p v x (h.mono y u)
 |own k g off len base c h=>exact .own k g off len base c (h.mono r fun _ _ _ h a=>OwnAt.same h a)
 |ref k g off b h=>exact .ref k g off b (h.mono r fun _ _ _ h _=>h)
 |eref k g i off b A h=>exact .eref k g i off b A (h.mono r fun _ _ _ h a=>ERefAt.same h a)
 |fptr cs b o a c D t s=>
  refine .fptr cs b o (y _ a) c (fun j C=>?_) t (fun j x B=>(s j x B).mono y u);rw[<-D j C]
  exact World.cell?_of_block (u b a)
 |agg cs vs l s t m=>exact .agg cs vs l m t
 |tup cs vs l s m=>exact .tup cs vs l m
 |fn f n vs l s m=>exact .fn f n vs l m
 |mref k g b h=>exact .mref k g b (h.mono r fun _ _ _ h _=>h)
 |und=>exact .und
 |any v=>exact .any v
def HoldsP(S:Nat->Prop)(w:World)(cur:Array Value)(o:Nat)(xs:List PV):Prop:=
 ∀(j:Nat) x,xs[j]?=some x->∃u,cur[o+j]?=some u/\u.oneCell'=true/\Rep S w u x
def QRel(S:Nat->Prop)(w:World)(l:Loc):MQ->Prop
 | .clk z has f born clock=>∃b g,l=.box b/\w.heap[b]?=some (.map g clock)/\Acu g clock has/\(∀n,has n=false->f n=z) /\
   (∀(i:Nat) (e:MapEntry) (n:Int),g[i]?=some e->e.key=.int .i64 n->Rep S w e.val (f n)) /\
   ∀(i:Nat) (e:MapEntry) (n:Int),g[i]?=some e->e.key=.int .i64 n->e.born=born n
 | .it f rem cur=>∃b j g clock h seen k has,l=.box b/\w.heap[b]?=some (.mapIter (some j) h seen k)/\S j/\w.heap[j]?=some (.map g clock)/\Acu g clock has/\h=clock/\k=clock /\
   (∀(i:Nat) (e:MapEntry) (n:Int),g[i]?=some e->e.key=.int .i64 n->Rep S w e.val (f n)) /\
   (∀n,rem n=true↔∃(i:Nat) (e:MapEntry),g[i]?=some e/\e.key=.int .i64 n/\seen.contains e.born=false) /\
   ∀n,cur=some n->k=clock/\∃(i:Nat) (e:MapEntry),g[i]?=some e/\e.key=.int .i64 n/\seen.back?=some e.born
 | .pm z has f=>∃b g clock,l=.box b/\w.heap[b]?=some (.map g clock)/\PMOK g has/\(∀a c,has a c=false->f a c=z) /\
   ∀(i:Nat) (e:MapEntry) (a c:Int),g[i]?=some e->e.key=kp a c->Rep S w e.val (f a c)
 | .sit s pos=>∃b,l=.box b/\w.heap[b]?=some (.stringIter s pos)
theorem QRel.mono{S B:Nat->Prop}{w w':World}(y:∀b,S b->B b)(x:∀b,S b->w'.heap[b]?=w.heap[b]?){l:Loc}{q:MQ}
  (v:∀b,l.block=some b->w'.heap[b]?=w.heap[b]?) (h:QRel S w l q):QRel B w' l q:=by
 cases q with
 |clk z has f born clock=>
  obtain⟨b,o,rfl,g,k,r,m,A⟩:=h
  exact⟨b,o,rfl,by rw[v b rfl,g],k,r,fun i e n u t=>(m i e n u t).mono y x,A⟩
 |it f rem cur=>
  obtain⟨b,E,o,clock,j,seen,D,has,rfl,g,k,r,m,A,G,C,F,H⟩:=h
  exact⟨b,E,o,clock,j,seen,D,has,rfl,by rw[v b rfl,g],y _ k,by rw[x _ k,r],m,A,G,fun i e n u t=>(C i e n u t).mono y x,F,H⟩
 |pm z has f=>
  obtain⟨b,o,clock,rfl,g,k,r,m⟩:=h
  exact⟨b,o,clock,rfl,by rw[v b rfl,g],k,r,fun i e a c u t=>(m i e a c u t).mono y x⟩
 |sit s pos=>
  obtain⟨b,rfl,g⟩:=h;exact⟨b,rfl,by rw[v b rfl,g]⟩
def ObjRel(U:Bs)(objs:Ay)(S:Nat->Prop)(w:World)(l:Loc):Body->Prop
 | .box cs=>∃b cur e,l=.box b/\w.heap[b]?=some (.cells cur e (0,0))/\cur.size=cs.length /\
   ∀(j:Nat) x,cs[j]?=some x->∃u,cur[j]?=some u/\u.oneCell'=true/\RelV U objs S w u x
 | .row W n f=>(l=.nilrow/\n=0) \/
   ∃b o cap cur e,l=.row b o cap/\w.heap[b]?=some (.cells cur e (0,0))/\o+cap*W<=cur.size/\n<=cap /\
    ∀i,i<n->(f i).length=W/\HoldsP S w cur (o+i*W) (f i)
 | .mp z has f=>∃b a clock,l=.box b/\w.heap[b]?=some (.map a clock)/\Acu a clock has/\(∀n,has n=false->f n=z) /\
   ∀(i:Nat) (e:MapEntry) (n:Int),a[i]?=some e->e.key=.int .i64 n->Rep S w e.val (f n)
 | .mq q=>QRel S w l q
 | .dead=>True
theorem HoldsP.mono{S a:Nat->Prop}{w w':World}(i:∀b,S b->a b)(f:∀b,S b->w'.heap[b]?=w.heap[b]?)
  {cur:Array Value} {o:Nat} {xs:List PV} (h:HoldsP S w cur o xs):HoldsP a w' cur o xs:=fun j x m=>by
 obtain⟨u,k,g,l⟩:=h j x m;exact⟨u,k,g,l.mono i f⟩
theorem ObjRel.mono{U m:Bs}{objs objs':Ay}{S y:Nat->Prop}{w w':World}(A:Grows U m objs objs')
  (v:∀b,S b->y b) (t:∀b,S b->w'.heap[b]?=w.heap[b]?) {l:Loc} {bd:Body}
  (r:∀b,l.block=some b->w'.heap[b]?=w.heap[b]?) (h:ObjRel U objs S w l bd):ObjRel m objs' y w' l bd:=by
 cases bd with
 |box cs=>
  obtain⟨b,cur,e,rfl,g,a,k⟩:=h;refine⟨b,cur,e,rfl,by rw[r b rfl,g],a,fun j x E=>?_⟩;obtain⟨u,C,B,H⟩:=k j x E
  exact⟨u,C,B,H.mono A v t⟩
 |row W n f=>
  rcases h with h|⟨b,o,cap,cur,e,rfl,g,a,k,s⟩
  ·exact .inl h
  ·refine .inr ⟨b,o,cap,cur,e,rfl,by rw[r b rfl,g],a,k,fun i hi=>⟨(s i hi).1,(s i hi).2.mono v t⟩⟩
 |mp z has f=>
  obtain⟨b,D,clock,rfl,g,a,k,s⟩:=h
  exact⟨b,D,clock,rfl,by rw[r b rfl,g],a,k,fun i e n G F=>(s i e n G F).mono v t⟩
 |mq q=>exact QRel.mono v t r h
 |dead=>trivial
structure Kept(out:Nat->Prop)(w w':World):Prop where
 os:w'.os=w.os
 tape:w'.tape=w.tape
 output:w'.output=w.output
 size:w.heap.size<=w'.heap.size
 block:∀k,k<w.heap.size->¬ out k->w'.heap[k]?=w.heap[k]?
theorem Kept.refl(out:Nat->Prop)(w:World):Kept out w w:=⟨rfl,rfl,rfl,B2 _,fun _ _ _=>rfl⟩
theorem Kept.trans{out:Nat->Prop}{a b c:World}(h:Kept out a b)(k:Kept out b c):Kept out a c:=
 ⟨k.os.trans h.os,k.tape.trans h.tape,k.output.trans h.output,H9 h.size k.size,
  fun i hi f=>(k.block i (D9 hi h.size) f).trans (h.block i hi f)⟩
def glTabs:List (String×(Array Value->Prop)):=
 [("internal/strconv.uint64pow10",fun c=>c=(((List.range 20).map fun i=>((10 ^ i:Nat):Int)).map fun z=>Value.int .u64 z).toArray),("internal/bytealg.MaxLen",fun c=>∃m,c[0]?=some (.int .i64 m))]
def GlOK(P:Program)(out:Nat->Prop)(w:World):Prop:=∀x∈glTabs,∀g,P.globalNamed x.1=some g->¬ out g/\∃cs e f,w.heap[g]?=some (.cells cs e f)/\x.2 cs
theorem GlOK.mono{P:Program}{out a:Nat->Prop}{w w':World}(h:GlOK P out w)(q:Kept out w w')(l:∀b,b<w.heap.size->¬ out b->¬ a b):GlOK P a w':=fun x o g n=>by
 obtain⟨j,cs,e,f,k,m⟩:=h x o g n;have i:g<w.heap.size:=(C3.1 k).1;exact⟨l g i j,cs,e,f,by rw[q.block g i j,k],m⟩
structure Cx(P:Program) where
 w0:World
 Av:Nat->Prop
 out:Nat->Prop
 nt:Nat
 m:Nat
 β0:Bs
 rd:Option Nat:=none
 gl:GlOK P out w0
structure Marked(w0:World)(ds:List Deferred)(w:World):Prop where
 nodup:ds.Nodup
 mark:∀d∈ds,∃D,d={target:=.collected D,args:=#[]}/\w0.heap.size<=D/\w.heap[D]?=some (.deferred (some []))
theorem Marked.nil{w0 w:World}:Marked w0 [] w:=⟨.nil,fun _ h=>by simp at h⟩
theorem Marked.mono{w0 w w':World}{a:List Deferred}(h:Marked w0 a w)(f:∀D,w0.heap.size<=D->w.heap[D]?=some (.deferred (some []))->w'.heap[D]?=w.heap[D]?):Marked w0 a w':=
 ⟨h.nodup,fun d b=>let ⟨D,e,h1,h2⟩:=h.mark d b;⟨D,e,h1,(f D h1 h2).trans h2⟩⟩
structure Rel{P:Program}(cx:Cx P)(U:Bs)(O:St)(a:Act)(w:World):Prop where
 nd:Marked cx.w0 a.defers w
 sz:a.tmps.size=cx.nt
 sl:∀t,RelV U O.objs (Ap cx.Av U O.objs w) w (a.tmps.getD t undef) (O.slots t)
 ob:∀k o,O.objs k=some o->ObjRel U O.objs (Ap cx.Av U O.objs w) w (U k) o.body
 blk:∀k o b,O.objs k=some o->o.body.live->(U k).block=some b->b<w.heap.size/\¬ cx.Av b/\(cx.w0.heap.size<=b\/cx.out b)
 inj:∀k k' o o' b,O.objs k=some o->O.objs k'=some o'->o.body.live->o'.body.live->k≠k'->(U k).block=some b->(U k').block≠some b
 kept:Kept cx.out cx.w0 w
 avo:∀b,cx.Av b->¬ cx.out b
 avlt:∀b,cx.Av b->b<cx.w0.heap.size
 mle:cx.m<=1000
 oloc:∀k o,k<cx.m->O.objs k=some o->o.gen=0->U k=cx.β0 k
theorem Rel.mark_safe{P:Program}{cx:Cx P}{U:Bs}{O:St}{a:Act}{w:World}(h:Rel cx U O a w){D:Nat}{o:Go.Obj}(I:cx.w0.heap.size<=D)(m:w.heap[D]?=some o)(B:∀c e f,o≠.cells c e f)(x:∀r c,o≠.map r c)(hi:∀b s n c,o≠.mapIter b s n c)(u:∀s p,o≠.stringIter s p):Ap cx.Av U O.objs w D:=by
 have t:D<w.heap.size:=(C3.1 m).1;refine⟨t,fun G=>by have:=h.avlt D G;omega,fun k q F C j=>?_⟩;have:=h.ob k q F;generalize y:q.body=bd at this;rw[y]at C
 cases bd with
 |dead=>exact C
 |box cs=>
  obtain⟨b,cur,e,l,i,A,E⟩:=this;rw[l]at j;injection j with j
  subst j;rw[m]at i;injection i with i
  exact B _ _ _ i
 |row W n f=>
  rcases this with g|⟨b,K,cap,cur,e,l,i,A,E,H⟩
  ·rw[g.1]at j;simp[Loc.block]at j
  ·rw[l]at j;injection j with j
   subst j;rw[m]at i;injection i with i
   exact B _ _ _ i
 |mp z has f=>
  obtain⟨b,r,clock,l,i,A,E,H⟩:=this;rw[l]at j;injection j with j
  subst j;rw[m]at i;injection i with i
  exact x _ _ i
 |mq q=>
  cases q with
  |clk z has f born clock=>
   obtain⟨b,r,l,i,_⟩:=this;rw[l]at j;injection j with j
   subst j;rw[m]at i;injection i with i
   exact x _ _ i
  |it f rem cur=>
   obtain⟨b,J,r,clock,v,seen,L,has,l,i,_⟩:=this;rw[l]at j;injection j with j
   subst j;rw[m]at i;injection i with i
   exact hi _ _ _ _ i
  |pm z has f=>
   obtain⟨b,r,clock,l,i,_⟩:=this;rw[l]at j;injection j with j
   subst j;rw[m]at i;injection i with i
   exact x _ _ i
  |sit s pos=>
   obtain⟨b,l,i⟩:=this;rw[l]at j;injection j with j
   subst j;rw[m]at i;injection i with i
   exact u _ _ i
theorem Rel.nd_mono{P:Program}{cx:Cx P}{U:Bs}{O:St}{a:Act}{w w':World}(h:Rel cx U O a w)(f:∀b,Ap cx.Av U O.objs w b->w'.heap[b]?=w.heap[b]?):Marked cx.w0 a.defers w':=
 h.nd.mono fun _ i g=>f _ (h.mark_safe i g (fun _ _ _ e=>by simp at e) (fun _ _ e=>by simp at e) (fun _ _ _ _ e=>by simp at e) (fun _ _ e=>by simp at e))
def fen(r:Option Nat):Fence:={Fence.wide with round:=r}
theorem Avj(r:Option Nat)(n:Nat):(fen r).room n:=fun _ h=>by simp[fen,Fence.wide]at h
theorem AvY{r:Option Nat}{n m:Nat}{P:Program}{f:FuncId}{args:Array Value}{w:World}{R:Ending->World->Prop}:CallsIn (fen r) n P f args w R↔Calls P f args w R:=
 ⟨fun h=>callsIn_wide (n:=m).1 ⟨h.1,fun cs _=>h.2 cs (Avj r _)⟩,fun h=>⟨trivial,fun cs _=>(callsIn_wide (n:=n).2 h).2 cs (room_wide _)⟩⟩
def AjI:Op->Bool
 | .defer _=>true
 |_=>false
theorem Pq{r:Option Nat}{n:Nat}{P:Program}{o:Oper}{a:Act}{w:World}{K:Act->World->Prop}{Q:Exit->Act->World->Prop}(i:AjI o.op=false)(h:o.wp P a w K Q):o.wpIn (fen r) n P a w K Q:=by
 refine⟨fun _ _=>trivial,?_⟩
 have s:o.semAt (fen r).round a.eval=execOp a.eval o:=by
  cases u:(fen r).round with
  |none=>simp[Oper.semAt]
  |some l=>
   unfold Oper.semAt;cases j:o.op<;>first|rfl|simp[j,AjI]at i
 rw[s];unfold Oper.wp at h;generalize (execOp a.eval o).run P w=q at *
 cases q with
 |ok x w'=>
  cases x with
  |enter f args=>exact⟨fun h=>by simp[fen,Fence.wide]at h,AvY (m:=0).2 h⟩
  |row rw args=>
   refine⟨fun h=>by simp[fen,Fence.wide]at h,fun c cs _=>?_⟩;obtain⟨v,b,t,k⟩:=h c cs
   exact⟨v,b,t,(StepsIn.of_steps k).mono fun m _=>fenced_wide P m⟩
  |round l f g assign body=>exact absurd h id
  |_=>exact h
 |halt x w'=>cases x<;>exact h
end Go.Dm

namespace Go.Dm
inductive Kd where
 |int (k:IntKind)|str|bool|slice (elem:Nat)|map (key elem:Nat)|struct (fs:List (Nat×Nat))|ptr (elem:Nat)|func|other
def Kd.of:TypeDesc->Kd
 | .int k=>.int k
 | .string=>.str
 | .bool=>.bool
 | .slice e=>.slice e
 | .map k e=>.map k e
 | .struct fs=>.struct (fs.toList.map fun f=>(f.offset,f.type))
 | .pointer e=>.ptr e
 | .func .. =>.func
 |_=>.other
def isArr:TypeDesc->Bool
 | .array .. =>true
 |_=>false
structure TI where
 kd:Kd
 size:Nat
 bytes:Nat
 zero:List Value
 eq:Bool:=false
abbrev Ty:=List (Nat×TI)
def assoc{V:Type}:List (Nat×V)->Nat->Option V
 |[],_=>none
 |(k,x)::r,j=>bif Nat.beq j k then some x else assoc r j
def Agv:Value->Bool
 | .agg _=>true
 |_=>false
def Kd.agg:Kd->Bool
 | .struct _=>true
 |_=>false
def TyFact(P:Program)(t:Nat)(i:TI):Prop:=
 (P.underlying t).map (fun d=>(Kd.of d,isArr d))=some (i.kd,false) /\
 (P.info? t).map (fun x=>(x.size,x.bytes,x.zero.map fun z=>(z.cells.toList,Agv z)))=some (i.size,i.bytes,some (i.zero,i.kd.agg))
def Ip(P:Program)(T:Ty):Prop:=∀t i,assoc T t=some i->TyFact P t i
def Ol:Value->MV
 | .slice none 0 0=>.p (.sl .nil 0 0 fun _=>[])
 | .slice _ _ _=>.any
 | .agg _=>.any
 | .tuple _=>.any
 |x=>.p (.v x)
def mvOf:Value->MV
 | .agg cs=>.agg (cs.toList.map Ol)
 |x=>Ol x
def ev(O:St):Operand->MV
 | .tmp t=>O.slots t
 | .const x=>mvOf x
 | .func f=>.p (.fn f [])
 | .global _=>.any
def MV.cells:MV->Option (List MV)
 | .agg cs=>some cs
 | .p (.agg cs)=>some (cs.map .p)
 | .p (.tup _)=>none
 | .tup _ | .und | .any=>none
 |x=>some [x]
def MV.aggc:MV->Option (List MV)
 | .agg cs=>some cs
 | .p (.agg cs)=>some (cs.map .p)
 |_=>none
def MV.pure1:MV->Option PV
 | .p x=>some x
 |_=>none
def pures:List MV->Option (List PV)
 |[]=>some []
 |x::r=>match x.pure1,pures r with
  |some y,some s=>some (y::s)
  |_,_=>none
def key(dst idx:Nat):Nat:=1000+8*dst+idx
def Bt:Option Obj->Nat
 |none=>0
 |some o=>o.gen+1
def All:List Prop->Prop
 |[]=>True
 |q::r=>q/\All r
abbrev Eff:=MV×List (Nat×Obj)×List Prop
def AbN(x:MV):Option Eff:=some (x,[],[])
def Cb(s:ByteArray)(i:Nat):Nat:=((s[i]?).getD 0).toNat
def scal(op:BinOp):Value->Value->Option (Value×List Prop)
 | .int k a,.int k' b=>
  match op with
  | .shl=>some (.int k (k.wrap (a*2 ^ (min b.toNat k.bits))),[0<=b])
  | .shr=>some (.int k (a.fdiv (2 ^ (min b.toNat k.bits))),[0<=b])
  |_=>if k=k' then
   match op with
   | .add=>some (.int k (k.wrap (a+b)),[])
   | .sub=>some (.int k (k.wrap (a-b)),[])
   | .mul=>some (.int k (k.wrap (a*b)),[])
   | .quo=>some (.int k (k.wrap (a.tdiv b)),[b≠0])
   | .rem=>some (.int k (a.tmod b),[b≠0])
   | .eql=>some (.bool (a==b),[])
   | .neq=>some (.bool (a !=b),[])
   | .lss=>some (.bool (decide (a<b)),[])
   | .leq=>some (.bool (decide (a<=b)),[])
   | .gtr=>some (.bool (decide (a>b)),[])
   | .geq=>some (.bool (decide (a>=b)),[])
   | .and=>some (.int k (k.wrap (BitVec.ofInt k.bits a &&& BitVec.ofInt k.bits b).toNat),[])
   | .or=>some (.int k (k.wrap (BitVec.ofInt k.bits a ||| BitVec.ofInt k.bits b).toNat),[])
   | .xor=>some (.int k (k.wrap (BitVec.ofInt k.bits a ^^^ BitVec.ofInt k.bits b).toNat),[])
   | .andNot=>some (.int k (k.wrap (BitVec.ofInt k.bits a &&& ~~~(BitVec.ofInt k.bits b)).toNat),[])
   |_=>none
  else none
 | .string a,.string b=>
   match op with
   | .eql=>some (.bool (a.toList==b.toList),[])
   | .neq=>some (.bool (!(a.toList==b.toList)),[])
   | .lss=>some (.bool (Op.bytesLess a.toList b.toList),[])
   | .add=>some (.string (a++b),[a.size+b.size<=9223372036854775807])
   |_=>none
 |_,_=>none
def ArC(bx:Bool):MV->MV->MV->Option Eff
 | .p (.v (.bool t)),a,b=>some (bif bx then a else b,[],[t=bx])
 |_,_,_=>none
def AeQ(dst:Nat)(ob:Nat->Option Obj)(bd:Body):Eff:=
 (.ref (key dst 0) (Bt (ob (key dst 0))) 0,[(key dst 0,⟨Bt (ob (key dst 0)),bd⟩)],[])
def Ta(dst:Nat)(ob:Nat->Option Obj)(W n:Nat)(f:Nat->List PV)(obl:List Prop):Eff:=
 (.own (key dst 0) (Bt (ob (key dst 0))) 0 n,[(key dst 0,⟨Bt (ob (key dst 0)),.row W n f⟩)],obl)
def AdJ(T:Ty)(t dst:Nat)(ob:Nat->Option Obj):Option Eff:=
 match assoc T t with
 |some i=>some (AeQ dst ob (.box (i.zero.map Ol)))
 |none=>none
def Ajf(dst:Nat)(ob:Nat->Option Obj)(x:MV):Option Eff:=
 match x.cells with
 |some cs=>some (AeQ dst ob (.box cs))
 |none=>none
def setRange{V:Type}:List V->Nat->List V->List V
 |l,_,[]=>l
 |l,o,x::r=>setRange (l.set o x) (o+1) r
def Aga(place:Nat->Option (Nat×Nat))(cells:List MV):List (Nat×MV)->Option (List MV)
 |[]=>some cells
 |(i,x)::rest=>
  match place i,x.cells with
  |some (off,size),some cs=>bif Nat.beq cs.length size&&Nat.ble (off+size) cells.length then Aga place (setRange cells off cs) rest else none
  |_,_=>none
def Adn(T:Ty)(a:List (Nat×Nat))(i:Nat):Option (Nat×Nat):=
 match a[i]? with
 |some (off,ft)=>match assoc T ft with
  |some j=>some (off,j.size)
  |none=>none
 |none=>none
def Abw(T:Ty)(t:Nat)(parts:List (Nat×MV)):Option Eff:=
 match assoc T t with
 |some ⟨.struct fs,_,_,zero,_⟩=>
  match Aga (Adn T fs) (zero.map Ol) parts with
  |some cs=>some (.agg cs,[],[])
  |none=>none
 |_=>none
def reps{V:Type}:Nat->List V->List V
 |0,_=>[]
 |n+1,l=>l++reps n l
def cut(W:Nat)(l:List PV)(i:Nat):List PV:=(l.drop (i*W)).take W
def Ob(T:Ty)(t len dst:Nat)(ob:Nat->Option Obj)(parts:List (Nat×MV)):Option Eff:=
 match assoc T t with
 |some ⟨.slice e,_,_,_,_⟩=>
  match assoc T e with
  |some i=>
   bif Nat.ble (len*i.size) 16777216&&Nat.beq i.zero.length i.size&&Nat.blt 0 i.size then
    match Aga (fun j=>some (j*i.size,i.size)) (reps len (i.zero.map Ol)) parts with
    |some cs=>match pures cs with
     |some a=>some (Ta dst ob i.size len (cut i.size a) [])
     |none=>none
    |none=>none
   else none
  |none=>none
 |_=>none
def Ace(ob:Nat->Option Obj)(k g:Nat):Option (List MV):=
 match ob k with
 |some ⟨g',.box cs⟩=>bif Nat.beq g' g then some cs else none
 |_=>none
def Om(ob:Nat->Option Obj)(k g:Nat):Option (PV×(Int->Bool)×(Int->PV)):=
 match ob k with
 |some ⟨g',.mp z has f⟩=>bif Nat.beq g' g then some (z,has,f)else none
 |_=>none
def Ka(ob:Nat->Option Obj)(k g:Nat):Option (Nat×Nat×(Nat->List PV)):=
 match ob k with
 |some ⟨g',.row W n f⟩=>bif Nat.beq g' g then some (W,n,f)else none
 |_=>none
def AnH(agg:Bool)(size off:Nat)(cs:List MV):Option MV:=
 bif agg then(bif Nat.ble (off+size) cs.length then some (.agg ((cs.drop off).take size))else none)else cs[off]?
def takeP(agg:Bool)(size off:Nat)(cs:List PV):Option MV:=
 bif agg then(bif Nat.ble (off+size) cs.length then some (.agg (((cs.drop off).take size).map .p))else none)
 else match cs[off]? with
  |some x=>some (.p x)
  |none=>none
def Zg(T:Ty)(t:Nat)(ob:Nat->Option Obj)(x:MV):Option Eff:=
 match assoc T t with
 |none=>none
 |some i=>
  match x with
  | .ref k g off=>match Ace ob k g with
   |some cs=>match AnH i.kd.agg i.size off cs with
    |some y=>some (y,[],[])
    |none=>none
   |none=>none
  | .eref k g ix off=>match Ka ob k g with
   |some (_,n,f)=>match takeP i.kd.agg i.size off (f ix)with
    |some y=>some (y,[],[ix<n])
    |none=>none
   |none=>none
  | .fptr cs=>match takeP i.kd.agg i.size 0 cs with
   |some y=>some (y,[],[])
   |none=>none
  |_=>none
def Cg{V:Type}(f:Nat->V)(i:Nat)(x:V):Nat->V:=fun j=>bif Nat.beq j i then x else f j
def Ads(T:Ty)(t:Nat)(ob:Nat->Option Obj)(x y:MV):Option Eff:=
 match assoc T t,y.cells with
 |some i,some cs=>
  bif Nat.beq cs.length i.size then
   match x with
   | .ref k g off=>match Ace ob k g with
    |some old=>bif Nat.ble (off+i.size) old.length then some (.und,[(k,⟨g,.box (setRange old off cs)⟩)],[])else none
    |none=>none
   | .eref k g ix off=>match Ka ob k g,pures cs with
    |some (W,n,f),some ps=>bif Nat.ble (off+i.size) W then some (.und,[(k,⟨g,.row W n (Cg f ix (setRange (f ix) off ps))⟩)],[ix<n])else none
    |_,_=>none
   |_=>none
  else none
 |_,_=>none
def Ady(T:Ty)(t a:Nat)(x:MV):Option Eff:=
 match assoc T t with
 |some ⟨.struct fs,_,_,_,_⟩=>
  match fs[a]? with
  |some (off,ft)=>match assoc T ft,x.aggc with
   |some i,some cs=>match AnH i.kd.agg i.size off cs with
    |some y=>some (y,[],[])
    |none=>none
   |_,_=>none
  |none=>none
 |_=>none
def Tz(T:Ty)(t a:Nat)(x:MV):Option Eff:=
 match assoc T t with
 |some ⟨.struct fs,_,_,_,_⟩=>
  match fs[a]? with
  |some (off,ft)=>match assoc T ft with
   |some i=>bif Nat.beq i.size 0 then none else
    match x with
    | .ref k g o=>some (.ref k g (o+off),[],[])
    | .eref k g ix o=>some (.eref k g ix (o+off),[],[])
    | .fptr cs=>some (.fptr (cs.drop off),[],[])
    |_=>none
   |none=>none
  |none=>none
 |_=>none
def Adq(a b:Nat):Nat:=bif Nat.beq a 0 then b else a+b
def Ub(T:Ty)(t:Nat)(ob:Nat->Option Obj)(x y:MV):Option Eff:=
 match assoc T t,y with
 |some ⟨.slice e,_,_,_,_⟩,.p (.v (.int _ z))=>
  match assoc T e with
  |some i=>
   match x with
   | .p (.sl _ W n f)=>bif Nat.beq W i.size then some (.fptr (f z.toNat),[],[0<=z,z<(n:Int)])else none
   | .own k g off len=>match Ka ob k g with
    |some (W,_,_)=>bif Nat.beq W i.size then some (.eref k g (Adq off z.toNat) 0,[],[0<=z,z<(len:Int)])else none
    |none=>none
   |_=>none
  |none=>none
 |_,_=>none
def Adi(T:Ty)(t:Nat)(x y:MV):Option Eff:=
 match assoc T t,x,y with
 |some ⟨.str,_,_,_,_⟩,.p (.v (.string s)),.p (.v (.int _ z))=>
  some (.p (.v (.int .u8 (Cb s z.toNat))),[],[0<=z,z<(s.size:Int)])
 |_,_,_=>none
def Zs(a:Nat):MV->Option Eff
 | .tup cs=>match cs[a]? with
  |some x=>some (x,[],[])
  |none=>none
 | .p (.tup cs)=>match cs[a]? with
  |some x=>some (.p x,[],[])
  |none=>none
 |_=>none
def Apu(op:BinOp)(x y:MV):Option Eff:=
 match x,y with
 | .p (.v a),.p (.v b)=>match scal op a b with
  |some (c,obl)=>some (.p (.v c),[],obl)
  |none=>none
 |_,_=>none
def AnC(op:UnOp)(x:MV):Option Eff:=
 match op,x with
 | .not,.p (.v (.bool b))=>some (.p (.v (.bool !b)),[],[])
 | .neg,.p (.v (.int k n))=>some (.p (.v (.int k (k.wrap (0-n)))),[],[])
 |_,_=>none
def Ajq:MV->Option Eff
 | .ref k g o=>some (.ref k g o,[],[])
 | .eref k g i o=>some (.eref k g i o,[],[])
 | .fptr cs=>some (.fptr cs,[],[])
 | .fn f cs=>some (.fn f cs,[],[])
 | .p (.fn f cs)=>some (.p (.fn f cs),[],[])
 |_=>none
def Zx(T:Ty)(d:Nat)(x:MV):Option Eff:=
 match assoc T d,x with
 |some ⟨.int k,_,_,_,_⟩,.p (.v (.int _ n))=>some (.p (.v (.int k (k.wrap n))),[],[])
 |some ⟨.str,_,_,_,_⟩,.p (.v (.string s))=>some (.p (.v (.string s)),[],[])
 |_,_=>none
def Agq(f:FuncId)(xs:List MV):Option Eff:=
 match pures xs with
 |some a=>some (.p (.fn f a),[],[])
 |none=>bif Nat.blt f BND then some (.fn f xs,[],[])else none
def AdB(f:FuncId)(xs:List MV):Option Eff:=some (.fn (f+BND) xs,[],[])
def AjN(T:Ty)(t:Nat)(x:MV):Option Eff:=
 match assoc T t,x with
 |some ⟨.str,_,_,_,_⟩,.p (.v (.string s))=>some (.p (.v (.int .i64 s.size)),[],[])
 |some ⟨.slice _,_,_,_,_⟩,.p (.sl _ _ n _)=>some (.p (.v (.int .i64 n)),[],[])
 |some ⟨.slice _,_,_,_,_⟩,.own _ _ _ len=>some (.p (.v (.int .i64 len)),[],[])
 |_,_=>none
def Qn(n:Nat)(f g:Nat->List PV):Nat->List PV:=fun i=>bif Nat.blt i n then f i else g (i-n)
def shF(off:Nat)(f:Nat->List PV):Nat->List PV:=bif Nat.beq off 0 then f else fun i=>f (off+i)
def AhU(ob:Nat->Option Obj)(W:Nat):MV->Option (Nat×(Nat->List PV)×Option Nat)
 | .p (.sl _ W' n f)=>bif Nat.beq W' W||Nat.beq n 0 then some (n,f,none)else none
 | .own k g off len=>match Ka ob k g with
  |some (W',_,f)=>bif Nat.beq W' W then some (len,shF off f,some k)else none
  |none=>none
 |_=>none
def AbF(T:Ty)(t t2 dst:Nat)(ob:Nat->Option Obj)(s x:MV):Option Eff:=
 match assoc T t with
 |some ⟨.slice e,_,_,_,_⟩=>
  match assoc T e with
  |some i=>
   bif Nat.beq t t2&&Nat.beq i.zero.length i.size&&Nat.blt 0 i.size&&Nat.blt 0 i.bytes then
    match AhU ob i.size x with
    |some (n2,f2,k2)=>
     match s with
     | .p (.sl .nil _ 0 _) | .p (.sl .cap0 _ 0 _)=>
      some (Ta dst ob i.size n2 f2 [n2*i.bytes<=140737488355328])
     | .own k g off len=>
      match Ka ob k g with
      |some (W,_,f)=>
       bif Nat.beq W i.size&&!(k2==some k)then
        some (.own k (g+1) 0 (len+n2),[(k,⟨g+1,.row W (len+n2) (Qn len (shF off f) f2)⟩)],[(len+n2)*i.bytes<=140737488355328])
       else none
      |none=>none
     |_=>none
    |none=>none
   else none
  |none=>none
 |_=>none
def Hq:MV->Option Int
 | .p (.v (.int _ z))=>some z
 |_=>none
def Cq(h l:Nat):Nat:=bif Nat.beq l 0 then h else h-l
def Of(T:Ty)(t:Nat)(ob:Nat->Option Obj)(x:MV)(lo hi:Option Int):Option Eff:=
 match assoc T t,x with
 |some ⟨.str,_,_,_,_⟩,.p (.v (.string s))=>
  let l:=lo.getD 0
  let h:=hi.getD s.size
  some (.p (.v (.string (s.extract l.toNat h.toNat))),[],[0<=l,l<=h,h<=(s.size:Int)])
 |some ⟨.slice e,_,_,_,_⟩,.p (.sl _ W n f)=>
  match assoc T e with
  |some i=>
   bif Nat.beq W i.size||Nat.beq n 0 then
    let l:=lo.getD 0
    let h:=hi.getD n
    some (.p (.sl .unk i.size (Cq h.toNat l.toNat) (shF l.toNat f)),[],[0<=l,l<=h,h<=(n:Int)])
   else none
  |none=>none
 |some ⟨.slice e,_,_,_,_⟩,.own k g off len=>
  match assoc T e,Ka ob k g with
  |some i,some (W,_,_)=>
   bif Nat.beq W i.size then
    let l:=lo.getD 0
    let h:=hi.getD len
    some (.own k g (Adq off l.toNat) (Cq h.toNat l.toNat),[],[0<=l,l<=h,h<=(len:Int)])
   else none
  |_,_=>none
 |_,_=>none
def Ul(T:Ty)(t:Nat)(x:MV):Option Eff:=
 match assoc T t,x with
 |some ⟨.slice e,_,_,_,_⟩,.p (.sl _ W _ f)=>bif (assoc T e).isSome then some (.p (.sl .cap0 W 0 f),[],[])else none
 |_,_=>none
def AeK:PV->PV->Option Bool
 | .v (.int k a),.v (.int k' b)=>if k=k' then some (a==b)else none
 | .v (.string a),.v (.string b)=>some (a.toList==b.toList)
 | .v (.bool a),.v (.bool b)=>some (a==b)
 |_,_=>none
def Ky:Kd->PV->Bool
 | .int _,.v (.int _ _)=>true
 | .str,.v (.string _)=>true
 | .bool,.v (.bool _)=>true
 |_,_=>false
def eqFields(T:Ty):List (Nat×Nat)->List PV->List PV->Option Bool
 |[],_,_=>some true
 |(off,ft)::r,xs,ys=>
  match assoc T ft,xs[off]?,ys[off]? with
  |some i,some x,some y=>
   bif Ky i.kd x&&Ky i.kd y then
    match AeK x y,eqFields T r xs ys with
    |some b,some c=>some (b&&c)
    |_,_=>none
   else none
  |_,_,_=>none
def effEq(T:Ty)(op:BinOp)(t:Nat)(x y:MV):Option Eff:=
 match assoc T t,x.aggc,y.aggc with
 |some ⟨.struct fs,_,_,_,true⟩,some cs,some ds=>
  match pures cs,pures ds with
  |some ps,some qs=>match eqFields T fs ps qs with
   |some b=>match op with
    | .eql=>some (.p (.v (.bool b)),[],[])
    | .neq=>some (.p (.v (.bool !b)),[],[])
    |_=>none
   |none=>none
  |_,_=>none
 |_,_,_=>none
def Akj(T:Ty)(op:BinOp)(t:Nat)(x y:MV):Option Eff:=
 match assoc T t,x,y with
 |some ⟨.slice _,_,_,_,_⟩,.p (.sl fl _ _ _),.p (.sl .nil _ _ _)=>
  match op,fl with
  | .eql,.nil=>some (.p (.v (.bool true)),[],[])
  | .eql,.nn=>some (.p (.v (.bool false)),[],[])
  | .neq,.nil=>some (.p (.v (.bool false)),[],[])
  | .neq,.nn=>some (.p (.v (.bool true)),[],[])
  |_,_=>none
 |_,_,_=>none
def AhK(T:Ty)(op:BinOp)(t:Nat)(x y:MV):Option Eff:=
 match assoc T t,x,y with
 |some ⟨.bool,_,_,_,_⟩,.p (.v (.bool a)),.p (.v (.bool b))=>
  match op with
  | .eql=>some (.p (.v (.bool (a==b))),[],[])
  | .neq=>some (.p (.v (.bool (a !=b))),[],[])
  |_=>none
 |_,_,_=>none
def Agl(T:Ty)(op:BinOp)(t:Nat)(x y:MV):Option Eff:=
 match Apu op x y with
 |some e=>some e
 |none=>match effEq T op t x y with
  |some e=>some e
  |none=>match AhK T op t x y with
   |some e=>some e
   |none=>Akj T op t x y
def AmC(s:ByteArray):Nat->List PV:=fun i=>[.v (.int .u8 (Cb s i))]
def Adv(T:Ty)(d:Nat)(x:MV):Option Eff:=
 match assoc T d,x with
 |some ⟨.slice e,_,_,_,_⟩,.p (.v (.string s))=>
  match assoc T e with
  |some ⟨.int .u8,_,_,_,_⟩=>some (.p (.sl .unk 1 s.size (AmC s)),[],[])
  |_=>none
 |_,_=>none
def inR(a b j:Nat):Bool:=Nat.ble a j&&Nat.blt j b
def Sy(f:Nat->List PV)(at_ n:Nat)(g:Nat->List PV):Nat->List PV:=fun j=>bif inR at_ (at_+n) j then g (j-at_)else f j
def Qm(a b:Nat):Nat:=bif Nat.ble a b then a else b
def AdA(T:Ty)(t:Nat)(ob:Nat->Option Obj)(x:MV):Option Eff:=
 match assoc T t,x with
 |some ⟨.slice e,_,_,_,_⟩,.own k g off len=>
  match assoc T e,Ka ob k g with
  |some i,some (W,n,f)=>
   bif Nat.beq W i.size&&Nat.beq i.zero.length i.size&&Nat.blt 0 i.size then
    match pures (i.zero.map Ol)with
    |some a=>some (.und,[(k,⟨g,.row W n (Sy f off len fun _=>a)⟩)],[off+len<=n])
    |none=>none
   else none
  |_,_=>none
 |_,_=>none
def Agr(T:Ty)(t:Nat)(ob:Nat->Option Obj)(x y:MV):Option Eff:=
 match assoc T t,x with
 |some ⟨.slice e,_,_,_,_⟩,.own k g off len=>
  match assoc T e,Ka ob k g with
  |some i,some (W,n,f)=>
   bif Nat.beq W i.size&&Nat.blt 0 i.size then
    match AhU ob i.size y with
    |some (n2,f2,_)=>some (.p (.v (.int .i64 (Qm n2 len))),[(k,⟨g,.row W n (Sy f off (Qm n2 len) f2)⟩)],[off+len<=n])
    |none=>none
   else none
  |_,_=>none
 |_,_=>none
def Aet(mx:Bool):MV->MV->Option Eff
 | .p (.v (.int k a)),.p (.v (.int k' b))=>if k=k' then some (.p (.v (.int k (bif mx then(if a<b then b else a)else(if b<a then b else a)))),[],[])else none
 |_,_=>none
def Agn(T:Ty)(t dst:Nat)(ob:Nat->Option Obj)(x y:MV):Option Eff:=
 match assoc T t,x,y with
 |some ⟨.slice e,_,_,_,_⟩,.p (.v (.int _ z)),.p (.v (.int _ c))=>
  match assoc T e with
  |some i=>
   bif Nat.beq i.zero.length i.size&&Nat.blt 0 i.size then
    match pures (i.zero.map Ol)with
    |some a=>some (Ta dst ob i.size z.toNat (fun _=>a) [0<=z,z=c,z<=9223372036854775807,z*i.bytes<=140737488355328])
    |none=>none
   else none
  |none=>none
 |_,_,_=>none
def AcW(T:Ty)(t:Nat):Option PV:=
 match assoc T t with
 |some i=>match pures (i.zero.map Ol)with
  |some a=>bif i.kd.agg then some (.agg a)else a[0]?
  |none=>none
 |none=>none
def Bf{V:Type}(f:Int->V)(n:Int)(x:V):Int->V:=fun j=>if j=n then x else f j
def AfS(T:Ty)(t:Nat):Option Nat:=
 match assoc T t with
 |some ⟨.map k e,_,_,_,_⟩=>match assoc T k with
  |some ⟨.int .i64,_,_,_,_⟩=>some e
  |_=>none
 |_=>none
def Rs(T:Ty)(t dst:Nat)(ob:Nat->Option Obj):Option Eff:=
 match AfS T t with
 |some e=>match AcW T e with
  |some z=>some (.mref (key dst 0) (Bt (ob (key dst 0))),[(key dst 0,⟨Bt (ob (key dst 0)),.mp z (fun _=>false) (fun _=>z)⟩)],[])
  |none=>none
 |none=>none
def PLe(x y:PV):Prop:=∀S w v,Rep S w v x->Rep S w v y
def AkW(z:PV)(has:Int->Bool)(f:Int->PV)(b:PV)(a:Int->Bool)(f':Int->PV):Prop:=
 has=a/\(∀n,PLe (f n) (f' n))/\((∀n,has n=false->f n=z)->∀n,a n=false->f' n=b)
def AbK(T:Ty)(t:Nat)(ob:Nat->Option Obj)(ok:Bool)(x y:MV):Option Eff:=
 match AfS T t,y with
 |some e,.p (.v (.int .i64 n))=>
  match AcW T e,(match x with
   | .mref k g=>Om ob k g
   | .p (.mp z has f)=>some (z,has,f)
   |_=>none)with
  |some z0,some (z,has,f)=>some (bif ok then .tup [.p (f n),.p (.v (.bool (has n)))]else .p (f n),[],[PLe z0 z])
  |_,_=>none
 |_,_=>none
def MV.whole:MV->Option PV
 | .p x=>some x
 | .agg cs=>match pures cs with
  |some a=>some (.agg a)
  |none=>none
 |_=>none
def Pi(T:Ty)(t:Nat)(ob:Nat->Option Obj)(m k v:MV):Option Eff:=
 match AfS T t,m,k,v.whole with
 |some _,.mref q g,.p (.v (.int .i64 n)),some x=>match Om ob q g with
  |some (z,has,f)=>some (.und,[(q,⟨g,.mp z (Bf has n true) (Bf f n x)⟩)],[])
  |none=>none
 |_,_,_,_=>none
def AmK(T:Ty)(t:Nat)(ob:Nat->Option Obj)(x:MV)(l h m:Int):Option Eff:=
 match assoc T t,x with
 |some ⟨.slice e,_,_,_,_⟩,.own k g _ len=>
  match assoc T e,Ka ob k g with
  |some _,some _=>some (.any,[],[0<=l,l<=h,h<=m,m<=(len:Int)])
  |_,_=>none
 |_,_=>none
def AiT(T:Ty)(t t2:Nat)(ob:Nat->Option Obj)(s x:MV):Option Eff:=
 match assoc T t,s with
 |some ⟨.slice e,_,_,_,_⟩,.own k g off len=>
  match assoc T e,Ka ob k g with
  |some i,some (W,n,f)=>
   bif Nat.beq t t2&&Nat.beq W i.size&&Nat.blt 0 i.size then
    match AhU ob i.size x with
    |some (n2,f2,some k2)=>bif Nat.beq k2 k then some (.own k g off (len+n2),[(k,⟨g,.row W n (Sy f (off+len) n2 f2)⟩)],[off+len+n2<=n,off<n])else none
    |_=>none
   else none
  |_,_=>none
 |_,_=>none
def AiO(T:Ty)(t:Nat)(ob:Nat->Option Obj)(x:MV)(l h:Int):Option Eff:=
 match assoc T t,x with
 |some ⟨.slice e,_,_,_,_⟩,.own k g off _=>
  match assoc T e,Ka ob k g with
  |some i,some (W,n,_)=>
   bif Nat.beq W i.size then some (.own k g (Adq off l.toNat) (Cq h.toNat l.toNat),[],[0<=l,l<=h,off+h.toNat<=n])else none
  |_,_=>none
 |_,_=>none
def Aqk(ob:Nat->Option Obj)(k g:Nat):Option (PV×(Int->Bool)×(Int->PV)×(Int->Nat)×Nat):=
 match ob k with
 |some ⟨g',.mq (.clk z has f born clock)⟩=>bif Nat.beq g' g then some (z,has,f,born,clock)else none
 |_=>none
def getIt(ob:Nat->Option Obj)(k g:Nat):Option ((Int->PV)×(Int->Bool)×Option Int):=
 match ob k with
 |some ⟨g',.mq (.it f rem cur)⟩=>bif Nat.beq g' g then some (f,rem,cur)else none
 |_=>none
def AbJ(T:Ty)(t:Nat)(ob:Nat->Option Obj)(m k:MV):Option Eff:=
 match AfS T t,m,k with
 |some _,.mref q g,.p (.v (.int .i64 n))=>match Om ob q g with
  |some (z,has,f)=>some (.p (.tup []),[(q,⟨g,.mp z (Bf has n false) (Bf f n z)⟩)],[])
  |none=>none
 |_,_,_=>none
def AiK(T:Ty)(t:Nat)(ob:Nat->Option Obj)(m k:MV):Option Eff:=
 match AfS T t,m,k with
 |some e,.mref q g,.p (.v (.int .i64 n))=>match AcW T e,Aqk ob q g with
  |some z0,some (z,has,f,born,clock)=>
   some (.tup [.p (f n),.p (.v (.int .i64 (bif has n then born n else clock:Nat)))],
    [(q,⟨g,.mq (.clk z (Bf has n true) f (Bf born n (bif has n then born n else clock)) (bif has n then clock else clock+1))⟩)],[PLe z0 z])
  |_,_=>none
 |_,_,_=>none
def Aff(n:Int)(ob:Nat->Option Obj)(m s v:MV):Option Eff:=
 match m,s,v.whole with
 | .mref q g,.p (.v (.int .i64 st)),some x=>match Aqk ob q g with
  |some (z,has,f,born,clock)=>some (.und,[(q,⟨g,.mq (.clk z has (Bf f n x) born clock)⟩)],[has n=true,st=(born n:Int)])
  |none=>none
 |_,_,_=>none
def Xx(T:Ty)(t dst:Nat)(ob:Nat->Option Obj)(x:MV):Option Eff:=
 match AfS T t,x with
 |some _,.p (.mp _ has f)=>some (.ref (key dst 0) (Bt (ob (key dst 0))) 0,[(key dst 0,⟨Bt (ob (key dst 0)),.mq (.it f has none)⟩)],[])
 |some _,.mref q g=>match Om ob q g with
  |some (_,has,f)=>bif Nat.beq q (key dst 0)then none else some (.ref (key dst 0) (Bt (ob (key dst 0))) 0,[(q,⟨g+1,.dead⟩),(key dst 0,⟨Bt (ob (key dst 0)),.mq (.it f has none)⟩)],[])
  |none=>none
 |_,_=>none
def Adp(ob:Nat->Option Obj)(x:MV):Option Eff:=
 match x with
 | .ref k g 0=>match getIt ob k g with
  |some (f,_,some n)=>some (.tup [.p (.v (.int .i64 n)),.p (f n)],[],[])
  |_=>none
 |_=>none
end Go.Dm

namespace Go.Dm
def Bm(objs:Ay)(k:Nat)(o:Obj):Ay:=fun j=>bif Nat.beq j k then some o else objs j
def Hl(U:Bs)(k:Nat)(l:Loc):Bs:=fun j=>bif Nat.beq j k then l else U j
def Cf(objs:Ay):List (Nat×Obj)->Ay
 |[]=>objs
 |(k,o)::r=>Cf (Bm objs k o) r
theorem Cr(k:Nat):Nat.beq k k=true:=D4 k
theorem Dt{j k:Nat}(h:j≠k):Nat.beq j k=false:=by
 cases b:Nat.beq j k with
 |false=>rfl
 |true=>exact absurd (A3 b) h
theorem Bj(objs:Ay)(k:Nat)(o:Obj):Bm objs k o k=some o:=by simp[Bm,Cr]
theorem Cl(objs:Ay){j k:Nat}(o:Obj)(h:j≠k):Bm objs k o j=objs j:=by simp[Bm,Dt h]
theorem Dq(U:Bs)(k:Nat)(l:Loc):Hl U k l k=l:=by simp[Hl,Cr]
theorem Lg(U:Bs){j k:Nat}(l:Loc)(h:j≠k):Hl U k l j=U j:=by simp[Hl,Dt h]
section
variable {P:Program} {cx:Cx P} {U:Bs} {O:St} {a:Act} {w:World}
theorem Rel.step(h:Rel cx U O a w)(f:Bs)(objs':Ay)(w':World)(n:Grows U f O.objs objs')
  (m:∀b,Ap cx.Av U O.objs w b->Ap cx.Av f objs' w' b)
  (j:∀b,Ap cx.Av U O.objs w b->w'.heap[b]?=w.heap[b]?)
  (ob:∀k o,objs' k=some o->ObjRel f objs' (Ap cx.Av f objs' w') w' (f k) o.body)
  (blk:∀k o b,objs' k=some o->o.body.live->(f k).block=some b->b<w'.heap.size/\¬ cx.Av b/\(cx.w0.heap.size<=b\/cx.out b))
  (inj:∀k i o l b,objs' k=some o->objs' i=some l->o.body.live->l.body.live->k≠i->(f k).block=some b->(f i).block≠some b)
  (kept:Kept cx.out cx.w0 w') (g:∀k o,k<cx.m->objs' k=some o->o.gen=0->f k=cx.β0 k):Rel cx f ⟨O.slots,objs'⟩ a w':=
 ⟨h.nd_mono j,h.sz,fun t=>(h.sl t).mono n m j,ob,blk,inj,kept,h.avo,h.avlt,h.mle,g⟩
theorem Rel.upd1(h:Rel cx U O a w)(k:Nat)(u:Obj)(x:Loc)(w':World)
  (v:∀o,O.objs k=some o->o.gen<=u.gen/\(o.gen=u.gen->x=U k/\o.body.same u.body))
  (D:∀b,u.body.live->x.block=some b->b<w'.heap.size/\¬ cx.Av b/\(cx.w0.heap.size<=b\/cx.out b))
  (i:∀b,u.body.live->x.block=some b->¬ Ap cx.Av U O.objs w b/\∀R K,R≠k->O.objs R=some K->K.body.live->(U R).block≠some b)
  (hheap:∀b,b<w.heap.size->(u.body.live->x.block≠some b)->w'.heap[b]?=w.heap[b]?)
  (s:w.heap.size<=w'.heap.size) (X:w'.os=w.os) (F:w'.tape=w.tape) (L:w'.output=w.output)
  (J:k<cx.m->u.gen=0->∃o,O.objs k=some o/\o.gen=0)
  (Q:ObjRel (Hl U k x) (Bm O.objs k u) (Ap cx.Av (Hl U k x) (Bm O.objs k u) w') w' x u.body):
  Rel cx (Hl U k x) ⟨O.slots,Bm O.objs k u⟩ a w':=by
 have Y:Grows U (Hl U k x) O.objs (Bm O.objs k u):=by
  intro j o g
  by_cases l:j=k
  ·subst l;obtain⟨T,N⟩:=v o g;refine⟨u,Bj _ _ _,T,fun e=>?_⟩;rw[Dq];exact N e
  ·exact⟨o,by rw[Cl _ _ l];exact g,B2 _,fun _=>⟨by rw[Lg _ _ l],o.body.same_refl⟩⟩
 have hS:∀b,Ap cx.Av U O.objs w b->Ap cx.Av (Hl U k x) (Bm O.objs k u) w' b:=by
  intro b m;refine⟨D9 m.1 s,m.2.1,fun j o g t=>?_⟩
  by_cases l:j=k
  ·subst l;rw[Dq];rw[Bj]at g;injection g with g
   subst g;intro A;exact(i b t A).1 m
  ·rw[Lg _ _ l];rw[Cl _ _ l]at g;exact m.2.2 j o g t
 have hw:∀b,Ap cx.Av U O.objs w b->w'.heap[b]?=w.heap[b]?:=fun b m=>
  hheap b m.1 fun t A=>(i b t A).1 m
 refine h.step _ _ w' Y hS hw ?_ ?_ ?_ ?_ ?_
 ·intro j o g
  by_cases l:j=k
  ·subst l;rw[Bj]at g;injection g with g
   subst g;rw[Dq];exact Q
  ·rw[Cl _ _ l]at g;rw[Lg _ _ l]
   by_cases hlv:o.body.live
   ·refine(h.ob j o g).mono Y hS hw fun b m=>hheap b (h.blk j o b g hlv m).1 fun t A=>?_
    exact(i b t A).2 j o l g hlv m
   ·cases B:o.body with
    |dead=>trivial
    |box cs=>simp[B,Body.live]at hlv
    |row W n f=>simp[B,Body.live]at hlv
    |mp z has f=>simp[B,Body.live]at hlv
    |mq q=>simp[B,Body.live]at hlv
 ·intro j o b g t m
  by_cases l:j=k
  ·subst l;rw[Bj]at g;injection g with g
   subst g;rw[Dq]at m;exact D b t m
  ·rw[Cl _ _ l]at g;rw[Lg _ _ l]at m;obtain⟨T,N⟩:=h.blk j o b g t m;exact⟨D9 T s,N⟩
 ·intro j M o K b g r t E y m
  by_cases l:j=k
  ·subst l;rw[Bj]at g;injection g with g
   subst g;rw[Dq]at m;rw[Cl _ _ (Ne.symm y)]at r;rw[Lg _ _ (Ne.symm y)];exact(i b t m).2 M K (Ne.symm y) r E
  ·rw[Cl _ _ l]at g;rw[Lg _ _ l]at m
   by_cases hj':M=k
   ·subst hj';rw[Bj]at r;injection r with r
    subst r;rw[Dq];intro A;exact(i b E A).2 j o l g t m
   ·rw[Cl _ _ hj']at r;rw[Lg _ _ hj'];exact h.inj j M o K b g r t E y m
 ·have G:=h.kept;refine⟨X.trans G.os,F.trans G.tape,L.trans G.output,H9 G.size s,fun b m H=>?_⟩;rw[hheap b (D9 m G.size) fun t A=>?_]
  ·exact G.block b m H
  ·rcases(D b t A).2.2 with h1|h1
   ·omega
   ·exact H h1
 ·intro j o l g C
  by_cases hjk:j=k
  ·subst hjk;rw[Bj]at g;injection g with g
   subst g;obtain⟨o0,I,V⟩:=J l C;rw[Dq,((v o0 I).2 (by omega)).1];exact h.oloc j o0 l I V
  ·rw[Cl _ _ hjk]at g;rw[Lg _ _ hjk];exact h.oloc j o l g C
theorem Rel.put(h:Rel cx U O a w)(t:Nat)(f:t<cx.nt)(v:Value)(x:MV)
  (g:RelV U O.objs (Ap cx.Av U O.objs w) w v x):
  Rel cx U ⟨Cg O.slots t x,O.objs⟩ (a.put (some t) v) w:=by
 refine⟨h.nd,by simp[Act.put,h.sz],fun j=>?_,h.ob,h.blk,h.inj,h.kept,h.avo,h.avlt,h.mle,h.oloc⟩
 by_cases hj:j=t
 ·subst hj;have b:j<a.tmps.size:=by rw[h.sz];exact f
  simp[Act.put,Cg,Cr,b];exact g
 ·have:=h.sl j;simp only[Act.put,Cg,Dt hj,cond_false];rw[A5,D3 (Ne.symm hj),<-A5];exact this
theorem Rel.drew(h:Rel cx U O a w):Rel cx U O a w.drew:=by
 have g:∀b,Ap cx.Av U O.objs w b↔Ap cx.Av U O.objs w.drew b:=fun b=>Iff.rfl
 exact⟨h.nd_mono (w':=w.drew) (fun _ _=>rfl),h.sz,fun t=>(h.sl t).mono (w:=w) (w':=w.drew) (Grows.refl _ _) (fun b f=>(g b).1 f) (fun _ _=>rfl),
  fun k o i=>(h.ob k o i).mono (w:=w) (w':=w.drew) (Grows.refl _ _) (fun b f=>(g b).1 f) (fun _ _=>rfl) (fun _ _=>rfl),
  h.blk,h.inj,⟨h.kept.os,h.kept.tape,h.kept.output,h.kept.size,h.kept.block⟩,h.avo,h.avlt,h.mle,h.oloc⟩
theorem Rel.fresh(h:Rel cx U O a w)(k:Nat)(bd:Body)(r:Loc)(m:World)(ob:Go.Obj)
  (g:m.heap=w.heap/\m.os=w.os/\m.tape=w.tape/\m.output=w.output)
  (y:r.block=some w.heap.size) (n:1000<=k\/(O.objs k).isSome=true)
  (v:∀C t objs',(∀b,Ap cx.Av U O.objs w b->C b)->Grows U t O.objs objs'->ObjRel t objs' C (m.alloc ob) r bd):
  Rel cx (Hl U k r) ⟨O.slots,Bm O.objs k ⟨Bt (O.objs k),bd⟩⟩ a (m.alloc ob):=by
 have I:(m.alloc ob).heap.size=w.heap.size+1:=by simp[g.1]
 have i:∀o,O.objs k=some o->o.gen<=(Bt (O.objs k))/\(o.gen=(Bt (O.objs k))->r=U k/\o.body.same bd):=by
  intro o l;rw[l];simp only[Bt];exact⟨by omega,fun e=>by omega⟩
 have E:Grows U (Hl U k r) O.objs (Bm O.objs k ⟨Bt (O.objs k),bd⟩):=by
  intro j o l
  by_cases hj:j=k
  ·subst hj;obtain⟨J,F⟩:=i o l;refine⟨_,Bj _ _ _,J,fun e=>?_⟩;rw[Dq];exact F e
  ·exact⟨o,by rw[Cl _ _ hj];exact l,B2 _,fun _=>⟨by rw[Lg _ _ hj],o.body.same_refl⟩⟩
 have u:∀b,b<w.heap.size->(m.alloc ob).heap[b]?=w.heap[b]?:=fun b f=>by
  rw[heap_alloc_old m ob b (by rw[g.1];exact f),g.1]
 refine h.upd1 k _ r _ i ?_ ?_ ?_ (by omega) g.2.1 g.2.2.1 g.2.2.2 ?_ (v _ _ _ ?_ E)
 ·intro b q f;rw[y]at f;injection f with f
  subst f;refine⟨by omega,fun G=>?_,.inl h.kept.size⟩;have x:=h.avlt _ G;have M:=h.kept.size;omega
 ·intro b q f;rw[y]at f;injection f with f
  subst f;exact⟨fun K=>by have:=K.1;omega,fun H L _ B z A=>by have:=(h.blk H L _ B z A).1;omega⟩
 ·intro b f _;exact u b f
 ·intro D s;rcases n with x|x
  ·have:=h.mle;omega
  ·cases l:O.objs k with
   |none=>simp[l]at x
   |some o=>simp[l,Bt]at s
 ·intro b f;refine⟨by have:=f.1;omega,f.2.1,fun j o l q=>?_⟩
  by_cases hj:j=k
  ·subst hj;rw[Dq,y];intro e;injection e with e
   have:=f.1;omega
  ·rw[Lg _ _ hj];rw[Cl _ _ hj]at l;exact f.2.2 j o l q
end
end Go.Dm

namespace Go.Dm
section types
variable {P:Program} {t:Nat} {i:TI}
theorem TyFact.under(h:TyFact P t i):∃d,P.underlying t=some d/\Kd.of d=i.kd/\isArr d=false:=by
 have b:=h.1;simp_all
theorem TyFact.info(h:TyFact P t i):∃x z,P.info? t=some x/\x.size=i.size/\x.bytes=i.bytes/\x.zero=some z/\z.cells.toList=i.zero/\Agv z=i.kd.agg:=by
 have b:=h.2;simp_all
theorem TyFact.sizeOf(h:TyFact P t i)(w:World):(Go.sizeOf t).run P w=.ok i.size w:=by
 obtain⟨x,z,b,f,_⟩:=h.info;simp[Go.sizeOf,typeInfo,b,f]
theorem TyFact.isAgg(h:TyFact P t i)(w:World):(Go.isAgg t).run P w=.ok i.kd.agg w:=by
 obtain⟨d,b,f,g⟩:=h.under;unfold Go.isAgg;rw[Sem.run_bind,run_underlying b w];rw[<-f];clear f b;cases d<;>simp_all[Kd.of,Kd.agg,isArr]
theorem TyFact.zeroValue(h:TyFact P t i)(w:World):∃z,(Go.zeroValue t).run P w=.ok z w/\z.cells.toList=i.zero:=by
 obtain⟨x,z,b,_,_,g,f,_⟩:=h.info;exact⟨z,by simp[Go.zeroValue,typeInfo,b,g],f⟩
theorem TyFact.zeroValue2(h:TyFact P t i)(w:World):∃z,(Go.zeroValue t).run P w=.ok z w/\z.cells.toList=i.zero/\Agv z=i.kd.agg:=by
 obtain⟨x,z,g,_,_,f,j,b⟩:=h.info;exact⟨z,by simp[Go.zeroValue,typeInfo,g,f],j,b⟩
theorem TyFact.slice{e:Nat}(h:TyFact P t i)(b:i.kd=.slice e):P.underlying t=some (.slice e):=by
 obtain⟨d,g,f,j⟩:=h.under;rw[b]at f;cases d<;>simp_all[Kd.of]
theorem TyFact.struct{b:List (Nat×Nat)}(h:TyFact P t i)(g:i.kd=.struct b):
  ∃fields,P.underlying t=some (.struct fields)/\fields.toList.map (fun f=>(f.offset,f.type))=b:=by
 obtain⟨d,k,j,l⟩:=h.under;rw[g]at j;cases d<;>simp_all[Kd.of]
theorem TyFact.str(h:TyFact P t i)(b:i.kd=.str):P.underlying t=some .string:=by
 obtain⟨d,g,f,j⟩:=h.under;rw[b]at f;cases d<;>simp_all[Kd.of]
theorem TyFact.int{k:IntKind}(h:TyFact P t i)(b:i.kd=.int k):P.underlying t=some (.int k):=by
 obtain⟨d,g,f,j⟩:=h.under;rw[b]at f;cases d<;>simp_all[Kd.of]
end types
section inv
variable {U:Bs} {objs:Ay} {S:Nat->Prop} {w:World} {v:Value}
theorem RelV.inv_v{x:Value}(h:RelV U objs S w v (.p (.v x))):v=x/\x.oneCell'=true:=by
 cases h with
 |p _ _ h=>cases h with
  |v _ h=>exact⟨rfl,h⟩
theorem RelV.inv_p{x:PV}(h:RelV U objs S w v (.p x)):Rep S w v x:=by
 cases h with
 |p _ _ h=>exact h
theorem RelV.inv_ref{k g off:Nat}(h:RelV U objs S w v (.ref k g off)):∃b,v=.pointer (some (at_ b off))/\Known U objs k g fun l _=>l=.box b:=by
 cases h with
 |ref _ _ _ b h=>exact⟨b,rfl,h⟩
theorem RelV.inv_mref{k g:Nat}(h:RelV U objs S w v (.mref k g)):∃b,v=.map (some b)/\Known U objs k g fun l _=>l=.box b:=by
 cases h with
 |mref _ _ b h=>exact⟨b,rfl,h⟩
theorem RelV.inv_own{k g off len:Nat}(h:RelV U objs S w v (.own k g off len)):∃base c,v=.slice base len c/\Known U objs k g fun l bd=>OwnAt l bd off len base c:=by
 cases h with
 |own _ _ _ _ base c h=>exact⟨base,c,rfl,h⟩
theorem RelV.inv_eref{k g i off:Nat}(h:RelV U objs S w v (.eref k g i off)):∃b f,v=.pointer (some (at_ b (f+off)))/\Known U objs k g fun l bd=>ERefAt l bd i b f:=by
 cases h with
 |eref _ _ _ _ b f h=>exact⟨b,f,rfl,h⟩
theorem RelV.inv_fptr{cs:List PV}(h:RelV U objs S w v (.fptr cs)):∃(b o:Nat) (c:Nat->Value),v=.pointer (some (at_ b o))/\S b /\
  (∀j,j<cs.length->w.cell? (at_ b (o+j))=some (c j))/\(∀j,j<cs.length->(c j).oneCell'=true)/\(∀j x,cs[j]?=some x->Rep S w (c j) x):=by
 cases h with
 |fptr _ b o k c l g f=>exact⟨b,o,c,rfl,k,l,g,f⟩
theorem RelV.mk_v{x:Value}(h:x.oneCell'=true):RelV U objs S w x (.p (.v x)):=.p _ _ (.v x h)
theorem AfV(x:Value):RelV U objs S w x (Ol x):=by
 unfold Ol;split
 ·exact .p _ _ (.slnil _ _ _ (by simp))
 ·exact .any _
 ·exact .any _
 ·exact .any _
 ·rename_i b g f h;refine .p _ _ (.v _ ?_);cases x<;>simp_all[Value.oneCell']
theorem mvOf_rel(x:Value)(g:∀cs,x=.agg cs->∀c∈cs.toList,c.oneCell'=true):RelV U objs S w x (mvOf x):=by
 unfold mvOf;split
 ·rename_i cs;refine .agg _ _ (by simp) (fun i y b=>?_) (fun i y b=>?_)
  ·rw[A7]at b
   cases f:cs.toList[i]? with
   |none=>simp[f]at b
   |some c=>
    simp[f]at b;subst b;simp_all[AfV]
  ·rw[A7]at b
   cases f:cs.toList[i]? with
   |none=>simp[f]at b
   |some c=>
    have:cs.getD i undef=c:=by simp_all
    grind
 ·exact AfV x
end inv
def Au:Operand->Bool
 | .const (.agg cs)=>cs.all fun c=>c.oneCell'
 |_=>true
section
variable {P:Program} {T:Ty} {cx:Cx P} {U:Bs} {O:St} {a:Act} {w:World}
theorem Bi(h:Rel cx U O a w)(x:Operand)(b:Au x=true):RelV U O.objs (Ap cx.Av U O.objs w) w (a.eval x) (ev O x):=by
 cases x with
 |tmp t=>exact h.sl t
 |const c=>
  refine mvOf_rel c fun cs e y j=>?_
  subst e;simp only[Au]at b;rw[<-O1,B6]at b
  exact b y j
 |global g=>exact .any _
 |func f=>exact .p _ _ (.fn f [] #[] rfl (fun i x b=>by simp at b))
def Out(P:Program)(cx:Cx P)(O:St)(a:Act)(m:Sem Value)(w:World)(y:MV)(wo:List (Nat×Obj)):Prop:=
 ∃v w' b,m.run P w=.ok v w'/\Rel cx b ⟨O.slots,Cf O.objs wo⟩ a w' /\
  RelV b (Cf O.objs wo) (Ap cx.Av b (Cf O.objs wo) w') w' v y
theorem AxP(h:Rel cx U O a w){m:Sem Value}{v:Value}{y:MV}(f:m.run P w=.ok v w)
  (b:RelV U O.objs (Ap cx.Av U O.objs w) w v y):Out P cx O a m w y []:=⟨v,w,U,f,h,b⟩
theorem Aiq{S:Nat->Prop}{objs:Ay}{v:Value}{x:MV}{cs:List MV}(h:RelV U objs S w v x)(j:x.cells=some cs):
  v.cells.size=cs.length/\(∀(i:Nat) y,cs[i]?=some y->RelV U objs S w (v.cells.getD i undef) y/\(v.cells.getD i undef).oneCell'=true):=by
 have one:∀y,RelV U objs S w v y->v.oneCell'=true->cs=[y] ->
   v.cells.size=cs.length/\(∀(i:Nat) y,cs[i]?=some y->RelV U objs S w (v.cells.getD i undef) y/\(v.cells.getD i undef).oneCell'=true):=by
  intro y r l e;subst e;have L:v.cells= #[v]:=by cases v<;>simp_all[Value.cells,Value.oneCell']
  rw[L];refine⟨rfl,fun i z F=>?_⟩
  cases i with
  |zero=>simp at F;subst F;exact⟨r,l⟩
  |succ i=>simp at F
 cases h with
 |p v x h=>
  cases h with
  |v x l=>simp[MV.cells]at j;exact one _ (.p _ _ (.v _ l)) l j.symm
  |slnil fl W f l=>simp[MV.cells]at j;exact one _ (.p _ _ (.slnil _ _ _ l)) rfl j.symm
  |sl fl W n cap b o f c l m s D E K J=>simp[MV.cells]at j;exact one _ (.p _ _ (.sl _ _ _ _ _ _ _ c l m s D E K J)) rfl j.symm
  |fn f u vs l m=>simp[MV.cells]at j;exact one _ (.p _ _ (.fn _ _ _ l m)) rfl j.symm
  |agg I vs l m s=>
   simp[MV.cells]at j;subst j;refine⟨by simpa[Value.cells]using l,fun i y r=>?_⟩;rw[A7]at r
   cases A:I[i]? with
   |none=>simp[A]at r
   |some q=>
    simp[A]at r;subst r
    exact⟨.p _ _ (m i q A),s i q A⟩
  |tup I vs l m=>simp[MV.cells]at j
  |mp z has f b clock M l m s D E=>simp[MV.cells]at j;exact one _ (.p _ _ (.mp _ _ _ _ _ _ l m s D E)) rfl j.symm
  |ptr cs b o H c l m s=>simp[MV.cells]at j;exact one _ (.p _ _ (.ptr _ _ _ H c l m s)) rfl j.symm
 |own k g off len base c h=>simp[MV.cells]at j;exact one _ (.own _ _ _ _ _ _ h) rfl j.symm
 |ref k g off b h=>simp[MV.cells]at j;exact one _ (.ref _ _ _ _ h) rfl j.symm
 |eref k g i off b N h=>simp[MV.cells]at j;exact one _ (.eref _ _ _ _ _ _ h) rfl j.symm
 |fptr cs b o H c l m s=>simp[MV.cells]at j;exact one _ (.fptr _ _ _ H c l m s) rfl j.symm
 |agg G vs B C l=>
  simp[MV.cells]at j;subst j
  exact⟨by simpa[Value.cells]using B,fun i y r=>⟨C i y r,l i y r⟩⟩
 |tup G vs B C=>simp[MV.cells]at j
 |fn f u vs B C=>simp[MV.cells]at j;exact one _ (.fn _ _ _ B C) (fnV_cell _ _) j.symm
 |mref k g b h=>simp[MV.cells]at j;exact one _ (.mref _ _ _ h) rfl j.symm
 |und=>simp[MV.cells]at j
 |any v=>simp[MV.cells]at j
theorem snd_scal{op:BinOp}{x y c:Value}{obl:List Prop}(t:TypeId)(f:scal op x y=some (c,obl))(g:All obl):
  (binOp op t x y).run P w=.ok c w/\c.oneCell'=true:=by
 unfold scal at f;split at f
 ·rename_i k a l b;split at f
  ·simp at f;obtain⟨rfl,rfl⟩:=f;simp[All]at g;simp[binOp,Op.shift,Value.oneCell'];intro h;omega
  ·simp at f;obtain⟨rfl,rfl⟩:=f;simp[All]at g;simp[binOp,Op.shift,Value.oneCell'];intro h;omega
  ·split at f
   ·rename_i j;subst j
    cases op<;>simp at f<;>obtain⟨rfl,rfl⟩:=f<;>simp[All]at g <;>
     simp[binOp,Op.intArith,Op.intDiv,Op.intCmp,Op.intBits,Op.shift,Value.oneCell',g]
   ·simp at f
 ·rename_i a b
  cases op<;>simp at f<;>obtain⟨rfl,rfl⟩:=f<;>simp[All]at g <;>
   simp[binOp,Op.stringOp,Value.oneCell']
  omega
 ·simp at f
theorem snd_bin(h:Rel cx U O a w){op:BinOp}{t t2:TypeId}{ox b:Operand}(s:Au ox=true)(m:Au b=true){y:MV}{wo obl}
  (f:Apu op (ev O ox) (ev O b)=some (y,wo,obl)) (l:All obl):
  Out P cx O a (do eqGuard op t ox b (a.eval ox) (a.eval b);binOp op t (a.eval ox) (a.eval b)) w y wo:=by
 have g:=Bi h ox s;have j:=Bi h b m;unfold Apu at f;split at f
 ·rename_i p q k u;split at f
  ·rename_i c ob o;simp at f;obtain⟨rfl,rfl,rfl⟩:=f;rw[k]at g;rw[u]at j;obtain⟨e1,A⟩:=g.inv_v;obtain⟨e2,z⟩:=j.inv_v;obtain⟨n,x⟩:=snd_scal (P:=P) (w:=w) t o l;refine AxP h (v:=c) ?_ (.mk_v x);rw[e1,e2,Sem.run_bind]
   have r:(eqGuard op t ox b p q).run P w=.ok () w:=by
    unfold eqGuard;cases p<;>cases q<;>simp_all[scal]<;>split<;>simp_all
   rw[r];simpa using n
  ·simp at f
 ·simp at f
theorem snd_un(h:Rel cx U O a w){op:UnOp}{ox:Operand}(m:Au ox=true){y:MV}{wo obl}
  (f:AnC op (ev O ox)=some (y,wo,obl)):Out P cx O a (Op.unary op (a.eval ox)) w y wo:=by
 have g:=Bi h ox m;unfold AnC at f;split at f
 ·rename_i b j;simp at f;obtain⟨rfl,rfl,rfl⟩:=f;rw[j]at g;obtain⟨e1,l⟩:=g.inv_v;exact AxP h (v:=.bool !b) (by rw[e1];rfl) (.mk_v rfl)
 ·rename_i k n j;simp at f;obtain⟨rfl,rfl,rfl⟩:=f;rw[j]at g;obtain⟨e1,l⟩:=g.inv_v;exact AxP h (v:=.int k (k.wrap (0-n))) (by rw[e1];rfl) (by simpa using RelV.mk_v rfl)
 ·simp at f
theorem snd_pick(h:Rel cx U O a w){bx:Bool}{g ox f:Operand}(m:Au g=true)(q:Au ox=true)(n:Au f=true){y:MV}{wo obl}
  (b:ArC bx (ev O g) (ev O ox) (ev O f)=some (y,wo,obl)) (j:All obl):
  Out P cx O a (do pure (if <-asBool (a.eval g)then a.eval ox else a.eval f)) w y wo:=by
 have k:=Bi h g m;unfold ArC at b;split at b
 ·rename_i t l;simp at b;obtain⟨rfl,rfl,rfl⟩:=b;simp[All]at j;subst j;rw[l]at k;obtain⟨e1,o⟩:=k.inv_v;refine AxP h (v:=if t then a.eval ox else a.eval f) (by rw[e1];simp[asBool]) ?_;grind[Bi]
 ·simp at b
theorem Known.get{k g:Nat}{F:Loc->Body->Prop}{bd:Body}{objs:Ay}(h:Known U objs k g F)(b:objs k=some ⟨g,bd⟩):F (U k) bd:=by
 obtain⟨o,j,f,l⟩:=h;grind
theorem Aaq{ob:Nat->Option Obj}{k g:Nat}{cs:List MV}(h:Ace ob k g=some cs):ob k=some ⟨g,.box cs⟩:=by
 unfold Ace at h;split at h
 ·rename_i j b l
  cases f:Nat.beq j g with
  |false=>simp[f]at h
  |true=>simp_all
 ·simp at h
theorem Gc{ob:Nat->Option Obj}{k g W n:Nat}{f:Nat->List PV}(h:Ka ob k g=some (W,n,f)):ob k=some ⟨g,.row W n f⟩:=by
 unfold Ka at h;split at h
 ·rename_i j o l f' m
  cases b:Nat.beq j g with
  |false=>simp[b]at h
  |true=>simp_all
 ·simp at h
theorem Aao{t b o:Nat}{i:TI}(f:TyFact P t i)(c:Nat->Value)
  (g:∀j,j<(if i.kd.agg then i.size else 1)->w.cell? (at_ b (o+j))=some (c j)):
  (loadVar t (at_ b o)).run P w=.ok (if i.kd.agg then .agg ((List.range i.size).map c).toArray else c 0) w:=by
 unfold loadVar;rw[Sem.run_bind,f.isAgg w]
 cases h:i.kd.agg with
 |true=>
  simp only[h,if_true]at g;simp only[Result.andThen_ok,if_true,Sem.run_bind,f.sizeOf w];rw[run_loadCells w (at_ b o) i.size c (fun j k=>by rw[at_,Addr.add_lit];exact g j k)]
  rfl
 |false=>simp_all
theorem AiC{S:Nat->Prop}{objs:Ay}{agg:Bool}{size off:Nat}{cs:List MV}{y:MV}(h:AnH agg size off cs=some y)(c:Nat->Value)
  (l:∀(j:Nat) x,cs[j]?=some x->RelV U objs S w (c j) x/\(c j).oneCell'=true):
  (∀j,j<(if agg then size else 1)->off+j<cs.length) /\
  RelV U objs S w (if agg then .agg ((List.range size).map fun j=>c (off+j)).toArray else c off) y:=by
 unfold AnH at h
 cases agg with
 |true=>
  simp only[cond_true]at h
  cases b:Nat.ble (off+size) cs.length with
  |false=>simp[b]at h
  |true=>
   simp[b]at h;have g:=A8 b;subst h;refine⟨fun j f=>by simp at f;omega,?_⟩;have key:∀(i:Nat) x,((cs.drop off).take size)[i]?=some x->i<size/\cs[off+i]?=some x:=by grind
   refine .agg _ _ (by simp;omega) (fun i x k=>?_) (fun i x k=>?_)
   all_goals simp_all
 |false=>grind
theorem Aon{agg:Bool}{size off:Nat}{cs:List PV}{y:MV}(h:takeP agg size off cs=some y):AnH agg size off (cs.map .p)=some y:=by
 unfold takeP at h;unfold AnH
 cases agg with
 |true=>simpa[List.map_drop,List.map_take]using h
 |false=>grind
theorem Aqa(hT:Ip P T)(h:Rel cx U O a w){t:Nat}{ox:Operand}(A:Au ox=true){y:MV}{wo obl}{ob:Nat->Option Obj}
  (G:∀k o,ob k=some o->O.objs k=some o) (m:Zg T t ob (ev O ox)=some (y,wo,obl)) (ho:All obl):
  ∃v,(Instr.loadAt t (a.eval ox)).run P w=.ok v w/\RelV U O.objs (Ap cx.Av U O.objs w) w v y/\wo=[]:=by
 have F:=Bi h ox A;unfold Zg at m;split at m
 ·simp at m
 ·rename_i i hi;have hF:=hT t i hi;split at m
  ·rename_i k g off H;rw[H]at F;split at m
   ·rename_i cs N;split at m
    ·rename_i z I;simp at m;obtain⟨rfl,rfl,rfl⟩:=m;have C:=G _ _ (Aaq N)
     ·obtain⟨b,K,Q⟩:=F.inv_ref;have M:=Q.get C;obtain⟨b',cur,e,l,hheap,V,X⟩:=h.ob k _ C;rw[M]at l;injection l with l
      subst l;have s:∀j,w.cell? (at_ b j)=cur[j]?:=fun j=>cell_of_row w b j cur e (0,0) hheap
      obtain⟨B,r⟩:=AiC (U:=U) (objs:=O.objs) (S:=Ap cx.Av U O.objs w) (w:=w) I (fun j=>cur.getD j undef) (fun j x A=>by
       obtain⟨u,J,R,g3⟩:=X j x A
       simp[A5,J,R,g3])
      refine⟨_,?_,r,rfl⟩;rw[K];simp only[Instr.loadAt,Instr.sureAddr,Sem.run_bind,Sem.run_pure,Result.andThen_ok]
      exact Aao hF (fun j=>cur.getD (off+j) undef) (fun j Y=>by
       have:=B j Y;rw[s];rw[<-V]at this
       simp[A5,this])
    ·simp at m
   ·simp at m
  ·rename_i k g E off H;rw[H]at F;split at m
   ·rename_i W n f N;split at m
    ·rename_i z I;simp at m;obtain⟨rfl,rfl,rfl⟩:=m;simp[All]at ho;have C:=G _ _ (Gc N)
     ·obtain⟨b,oo,K,Q⟩:=F.inv_eref;obtain⟨hin,o,cap,M,hoo⟩:=Q.get C;rcases h.ob k _ C with⟨l,_⟩|⟨b',o',cap',cur,e,l,hheap,hcap,hn,L⟩
      ·rw[M]at l;simp at l
      ·rw[M]at l;injection l with e1 e2 e3
       subst e1;subst e2;subst e3;obtain⟨hW,hh⟩:=L E ho;have s:∀j,w.cell? (at_ b j)=cur[j]?:=fun j=>cell_of_row w b j cur e (0,0) hheap
       obtain⟨B,r⟩:=AiC (U:=U) (objs:=O.objs) (S:=Ap cx.Av U O.objs w) (w:=w) (Aon I) (fun j=>cur.getD (o+E*W+j) undef) (fun j x A=>by
        rw[A7]at A
        cases D:(f E)[j]? with
        |none=>simp[D]at A
        |some q=>
         simp[D]at A;subst A;obtain⟨u,J,R,g3⟩:=hh j q D;simp only[A5,J,E1]
         exact⟨.p _ _ g3,R⟩)
       refine⟨_,?_,r,rfl⟩;rw[K];simp only[Instr.loadAt,Instr.sureAddr,Sem.run_bind,Sem.run_pure,Result.andThen_ok];refine Aao hF (fun j=>cur.getD (o+E*W+(off+j)) undef) (fun j Y=>?_);have h3:=B j Y;rw[G8]at h3;obtain⟨u,J,_,_⟩:=hh (off+j) (f E)[off+j] (B0 h3);rw[s];have e2:oo+off+j=o+E*W+(off+j):=by omega
       rw[e2,A5,J];rfl
    ·simp at m
   ·simp at m
  ·rename_i cs H;rw[H]at F;split at m
   ·rename_i z I;simp at m;obtain⟨rfl,rfl,rfl⟩:=m
    ·obtain⟨b,o,c,K,hs,hc,h1,hr⟩:=F.inv_fptr
     obtain⟨B,r⟩:=AiC (U:=U) (objs:=O.objs) (S:=Ap cx.Av U O.objs w) (w:=w) (Aon I) c (fun j x A=>by
      rw[A7]at A
      cases D:cs[j]? with
      |none=>simp[D]at A
      |some q=>
       simp[D]at A;subst A
       exact⟨.p _ _ (hr j q D),h1 j (A9.1 D).1⟩)
     simp only[D5]at r B;refine⟨_,?_,r,rfl⟩;rw[K];simp only[Instr.loadAt,Instr.sureAddr,Sem.run_bind,Sem.run_pure,Result.andThen_ok];grind[Aao]
   ·simp at m
  ·simp at m
theorem snd_load(j:Ip P T)(h:Rel cx U O a w){t:Nat}{ox:Operand}(l:Au ox=true){y:MV}{wo obl}{ob:Nat->Option Obj}
  (b:∀k o,ob k=some o->O.objs k=some o) (g:Zg T t ob (ev O ox)=some (y,wo,obl)) (f:All obl):
  Out P cx O a (Instr.loadAt t (a.eval ox)) w y wo:=by
 grind[Aqa,AxP]
end
end Go.Dm

namespace Go.Dm
section
variable {P:Program} {T:Ty} {cx:Cx P} {U:Bs} {O:St} {a:Act} {w:World}
theorem Auf{fields:Array Field}{k:List (Nat×Nat)}(h:fields.toList.map (fun f=>(f.offset,f.type))=k){b off j:Nat}
  (g:k[b]?=some (off,j)):∃f,fields[b]?=some f/\f.offset=off/\f.type=j:=by
 rw[<-h,A7]at g
 cases i:fields.toList[b]? with
 |none=>simp[i]at g
 |some f=>
  simp[i]at g;exact⟨f,by simpa using i,g.1,g.2⟩
theorem fptr_drop{S:Nat->Prop}{objs:Ay}{cs:List PV}{b o:Nat}(n:Nat)(c:Nat->Value)(h:S b)
  (l:∀j,j<cs.length->w.cell? (at_ b (o+j))=some (c j)) (i:∀j,j<cs.length->(c j).oneCell'=true)
  (k:∀j x,cs[j]?=some x->Rep S w (c j) x):RelV U objs S w (.pointer (some (at_ b (o+n)))) (.fptr (cs.drop n)):=by
 refine .fptr _ b (o+n) h (fun j=>c (n+j)) (fun j f=>?_) (fun j f=>?_) (fun j x g=>?_)
 ·rw[L8];exact l (n+j) (by simp at f;omega)
 ·exact i (n+j) (by simp at f;omega)
 ·rw[J1]at g;exact k _ _ g
theorem Atg(D:Ip P T)(h:Rel cx U O a w){t m:Nat}{ox:Operand}(L:Au ox=true){y:MV}{wo obl}
  (l:Tz T t m (ev O ox)=some (y,wo,obl)):Out P cx O a (Instr.fieldAt t (a.eval ox) m) w y wo:=by
 have n:=Bi h ox L;unfold Tz at l;split at l
 ·rename_i V W Q Y N hi;obtain⟨fields,J,z⟩:=(D t _ hi).struct rfl;split at l
  ·rename_i off E H;obtain⟨f,C,B,u⟩:=Auf z H;split at l
   ·rename_i i x
    cases s:Nat.beq i.size 0 with
    |true=>simp[s]at l
    |false=>
     simp only[s,cond_false]at l;have A:¬ i.size=0:=fun e=>by rw[e]at s;simp at s
     have G:=D E i x
     have j:∀b o,(Instr.fieldAt t (.pointer (some (at_ b o))) m).run P w=.ok (.pointer (some (at_ b (o+off)))) w:=by
      intro b o;simp only[Instr.fieldAt,Sem.run_bind,run_underlying J,Result.andThen_ok,C,Instr.sureAddr,Sem.run_pure,fieldPlace,u,G.sizeOf,A,if_false,at_,Addr.add_lit,B]
     split at l
     ·rename_i k g o q;simp at l;obtain⟨rfl,rfl,rfl⟩:=l;rw[q]at n;obtain⟨b,r,v⟩:=n.inv_ref;rw[r];exact AxP h (j b o) (.ref _ _ _ _ v)
     ·rename_i k g R o q;simp at l;obtain⟨rfl,rfl,rfl⟩:=l;rw[q]at n;obtain⟨b,X,r,v⟩:=n.inv_eref;rw[r];refine AxP h (j b _) ?_;rw[L8];exact .eref _ _ _ _ _ _ v
     ·rename_i cs q;simp at l;obtain⟨rfl,rfl,rfl⟩:=l;rw[q]at n;obtain⟨b,o,c,r,K,M,F,I⟩:=n.inv_fptr;rw[r];exact AxP h (j b o) (fptr_drop off c K M F I)
     ·simp at l
   ·simp at l
  ·simp at l
 ·simp at l
theorem AkA{S:Nat->Prop}{objs:Ay}{v:Value}{x:MV}{cs:List MV}(h:RelV U objs S w v x)(j:x.aggc=some cs):
  ∃vs,v=.agg vs/\vs.size=cs.length/\(∀(i:Nat) y,cs[i]?=some y->RelV U objs S w (vs.getD i undef) y/\(vs.getD i undef).oneCell'=true):=by
 have b:x.cells=some cs:=by
  cases x<;>simp_all[MV.aggc,MV.cells];rename_i q;cases q<;>simp_all
 obtain⟨g,f⟩:=Aiq h b
 cases h with
 |agg _ vs _ _ _=>exact⟨vs,rfl,by simpa[Value.cells]using g,by simpa[Value.cells]using f⟩
 |p _ _ h=>cases h with
  |agg _ vs _ _ _=>exact⟨vs,rfl,by simpa[Value.cells]using g,by simpa[Value.cells]using f⟩
  |_=>simp[MV.aggc]at j
 |_=>simp[MV.aggc]at j
theorem snd_field(A:Ip P T)(h:Rel cx U O a w){t l:Nat}{ox:Operand}(K:Au ox=true){y:MV}{wo obl}
  (b:Ady T t l (ev O ox)=some (y,wo,obl)):Out P cx O a (Instr.field t (a.eval ox) l) w y wo:=by
 have J:=Bi h ox K;unfold Ady at b;split at b
 ·rename_i R V N W M hi;obtain⟨fields,I,o⟩:=(A t _ hi).struct rfl;split at b
  ·rename_i off E G;obtain⟨f,s,r,m⟩:=Auf o G;split at b
   ·rename_i i cs n q;have B:=A E i n;split at b
    ·rename_i z F;simp at b;obtain⟨rfl,rfl,rfl⟩:=b;obtain⟨vs,L,C,H⟩:=AkA J q;obtain⟨g,k⟩:=AiC (U:=U) (objs:=O.objs) (S:=Ap cx.Av U O.objs w) (w:=w) F (fun j=>vs.getD j undef) H;refine AxP h ?_ k;rw[L];simp only[Instr.field,Sem.run_bind,run_underlying I,Result.andThen_ok,s,asAgg,Sem.run_pure,part,m,B.isAgg,r]
     cases x:i.kd.agg with
     |true=>
      simp only[x,if_true]at g;simp only[if_true,Sem.run_bind,B.sizeOf,Result.andThen_ok,Sem.run_pure];congr 2;apply Array.ext
      ·simp
       by_cases hs:i.size=0
       ·omega
       ·have:=g (i.size-1) (by omega);omega
      ·intro j Q v;simp at v;have:=g j v
       simp[A5,C,this]
     |false=>
      have:=g 0 (by simp[x]);simp only[K0]at this;have D:vs[off]?=some (vs.getD off undef):=by simp[A5,C,this]
      generalize vs.getD off undef=u at D ⊢;simp[D]
    ·simp at b
   ·simp at b
  ·simp at b
 ·simp at b
theorem sl_at{S:Nat->Prop}{objs:Ay}{v:Value}{fl:Fl}{W n:Nat}{f:Nat->List PV}(h:Rep S w v (.sl fl W n f))(i:Nat)(hi:i<n):
  ∃b o cap,v=.slice (some (at_ b o)) n cap/\RelV U objs S w (.pointer (some (at_ b (o+i*W)))) (.fptr (f i)):=by
 cases h with
 |slnil _ _ _ _=>omega
 |sl _ _ _ cap b o _ c m l r g u t q=>
  refine⟨b,o,cap,rfl,.fptr _ b _ (r (by omega)) (c i) (fun j k=>?_) (fun j k=>?_) (fun j x s=>q i j x hi s)⟩
  ·rw[L8];exact u i j hi (by rw[g i hi]at k;exact k)
  ·exact t i j hi (by rw[g i hi]at k;exact k)
theorem Za(a b:Nat):Adq a b=a+b:=by
 unfold Adq
 cases h:Nat.beq a 0 with
 |true=>have:=A3 h;simp[this]
 |false=>rfl
theorem Atb(M:Ip P T)(h:Rel cx U O a w){t:Nat}{ox A:Operand}(hx:Au ox=true)(hy:Au A=true){y:MV}{wo obl}{ob:Nat->Option Obj}
  (F:∀k o,ob k=some o->O.objs k=some o) (j:Ub T t ob (ev O ox) (ev O A)=some (y,wo,obl)) (B:All obl):
  Out P cx O a (Instr.indexAt t (a.eval ox) (a.eval A)) w y wo:=by
 have D:=Bi h ox hx;have X:=Bi h A hy;unfold Ub at j;split at j
 ·rename_i e s1 s2 s3 s4 kk z hi hq;have V:=(M t _ hi).slice rfl;rw[hq]at X;obtain⟨Y,_⟩:=X.inv_v;split at j
  ·rename_i i G;have R:=M e i G;split at j
   ·rename_i fl W n f I
    cases q:Nat.beq W i.size with
    |false=>simp[q]at j
    |true=>
     have H:=A3 q;simp[q]at j;obtain⟨rfl,rfl,rfl⟩:=j;simp only[All]at B;obtain⟨E,J,_⟩:=B;rw[I]at D;obtain⟨b,o,cap,K,u⟩:=sl_at (U:=U) (objs:=O.objs) D.inv_p z.toNat (by omega);rw[K,Y];refine AxP h ?_ u;simp only[Instr.indexAt,asIntOf,Sem.run_bind,Sem.run_pure,Result.andThen_ok,run_underlying V];have L:0<=z/\z<(n:Int):=⟨E,J⟩;simp[L,R.sizeOf,at_,Addr.add_lit,H]
   ·rename_i k g off len I;split at j
    ·rename_i W n f hg
     cases q:Nat.beq W i.size with
     |false=>simp[q]at j
     |true=>
      have H:=A3 q;simp[q]at j;obtain⟨rfl,rfl,rfl⟩:=j;simp only[All]at B;obtain⟨E,J,_⟩:=B;rw[I]at D;obtain⟨base,c,K,hk⟩:=D.inv_own;have r:=F _ _ (Gc hg);have s:=hk.get r;obtain⟨hle,C⟩:=s;have m:=h.ob k _ r;rcases m with⟨l,hn0⟩|⟨b,o,cap,cur,e',l,hheap,N,hnn,m⟩
      ·rw[l]at C;obtain⟨_,_,_,Q⟩:=C;omega
      ·rw[l]at C;obtain⟨b',o',hb,hcc,x⟩:=C;obtain⟨rfl,rfl⟩:=x (by omega);rw[K,Y,hb];refine AxP h (v:=.pointer (some (at_ b' ((o+(Adq off z.toNat)*W)+0)))) ?_ (.eref _ _ _ _ _ _ ?_)
       ·simp only[Instr.indexAt,asIntOf,Sem.run_bind,Sem.run_pure,Result.andThen_ok,run_underlying V];have L:0<=z/\z<(len:Int):=⟨E,J⟩;simp[L,R.sizeOf,at_,Addr.add_lit,Za,D2,<-H,L8]
       ·refine⟨_,r,B2 _,fun _=>?_⟩;refine⟨?_,o,cap,l,rfl⟩;rw[Za];omega
    ·simp at j
   ·simp at j
  ·simp at j
 ·simp at j
theorem snd_index(n:Ip P T)(h:Rel cx U O a w){t:Nat}{ox f:Operand}(u:Au ox=true)(q:Au f=true){y:MV}{wo obl}
  (b:Adi T t (ev O ox) (ev O f)=some (y,wo,obl)) (i:All obl):
  Out P cx O a (Instr.index t (a.eval ox) (a.eval f)) w y wo:=by
 have j:=Bi h ox u;have k:=Bi h f q;unfold Adi at b;split at b
 ·rename_i D C F A s B z hi o m;have r:=(n t _ hi).str rfl;simp at b;obtain⟨rfl,rfl,rfl⟩:=b;rw[o]at j;rw[m]at k;obtain⟨ex,_⟩:=j.inv_v;obtain⟨x,_⟩:=k.inv_v;simp only[All]at i;obtain⟨l,E,_⟩:=i;have g:z.toNat<s.size:=by omega
  refine AxP h (v:=.int .u8 (Cb s z.toNat)) ?_ (.mk_v rfl);rw[ex,x];simp only[Instr.index,asIntOf,Sem.run_bind,Sem.run_pure,Result.andThen_ok,run_underlying r,l,if_true];simp[Cb,g]
 ·simp at b
theorem AvZ(h:Rel cx U O a w){f:Nat}{ox:Operand}(o:Au ox=true){y:MV}{wo obl}
  (b:Zs f (ev O ox)=some (y,wo,obl)):Out P cx O a (Instr.extract (a.eval ox) f) w y wo:=by
 have i:=Bi h ox o;unfold Zs at b;split at b
 ·rename_i cs k;split at b
  ·rename_i x j;simp at b;obtain⟨rfl,rfl,rfl⟩:=b;rw[k]at i;generalize a.eval ox=v at i
   cases i with
   |tup _ vs l m=>
    have g:f<vs.size:=by rw[l];exact(A9.1 j).1
    refine AxP h (v:=vs.getD f undef) ?_ (m f _ j);simp[Instr.extract,g]
  ·simp at b
 ·rename_i cs k;split at b
  ·rename_i x j;simp at b;obtain⟨rfl,rfl,rfl⟩:=b;rw[k]at i;have n:=i.inv_p;generalize a.eval ox=v at n
   cases n with
   |tup _ vs l m=>
    have g:f<vs.size:=by rw[l];exact(A9.1 j).1
    refine AxP h (v:=vs.getD f undef) ?_ (.p _ _ (m f _ j));simp[Instr.extract,g]
  ·simp at b
 ·simp at b
theorem AvQ(m:Ip P T)(h:Rel cx U O a w){s d:Nat}{o:TI}(t:assoc T s=some o){ox:Operand}(u:Au ox=true){y:MV}{wo obl}
  (f:Zx T d (ev O ox)=some (y,wo,obl)):Out P cx O a (convert s d (a.eval ox)) w y wo:=by
 have i:=Bi h ox u;obtain⟨A,g,_⟩:=(m s o t).under;unfold Zx at f;split at f
 ·rename_i k r z x q B n hi j;have l:=(m d _ hi).int rfl;simp at f;obtain⟨rfl,rfl,rfl⟩:=f;rw[j]at i;obtain⟨ex,_⟩:=i.inv_v;refine AxP h (v:=.int k (k.wrap n)) ?_ (.mk_v rfl);rw[ex];simp only[convert,Sem.run_bind,run_underlying g,run_underlying l,Result.andThen_ok];simp[Conv.intToInt]
 ·rename_i r z x q b hi j;have l:=(m d _ hi).str rfl;simp at f;obtain⟨rfl,rfl,rfl⟩:=f;rw[j]at i;obtain⟨ex,_⟩:=i.inv_v;refine AxP h (v:=.string b) ?_ (.mk_v rfl);rw[ex];simp only[convert,Sem.run_bind,run_underlying g,run_underlying l,Result.andThen_ok];simp
 ·simp at f
theorem snd_len(m:Ip P T)(h:Rel cx U O a w){t ty:Nat}{ox:Operand}(z:Au ox=true){y:MV}{wo obl}
  (b:AjN T t (ev O ox)=some (y,wo,obl)):Out P cx O a (Builtin.len_ #[t] ty #[a.eval ox]) w y wo:=by
 have i:=Bi h ox z;unfold AjN at b;split at b
 ·rename_i r x u o s hi j;have l:=(m t _ hi).str rfl;simp at b;obtain⟨rfl,rfl,rfl⟩:=b;rw[j]at i;obtain⟨ex,_⟩:=i.inv_v;refine AxP h (v:=.int .i64 s.size) ?_ (.mk_v rfl);rw[ex];simp[Builtin.len_,run_underlying l,goInt]
 ·rename_i e r x u o fl W n f hi j;have l:=(m t _ hi).slice rfl;simp at b;obtain⟨rfl,rfl,rfl⟩:=b;rw[j]at i;have q:=i.inv_p;refine AxP h (v:=.int .i64 n) ?_ (.mk_v rfl);generalize a.eval ox=v at q;cases q<;>simp[Builtin.len_,run_underlying l,goInt]
 ·rename_i e r x u o k g off len hi j;have l:=(m t _ hi).slice rfl;simp at b;obtain⟨rfl,rfl,rfl⟩:=b;rw[j]at i;obtain⟨base,c,A,_⟩:=i.inv_own;refine AxP h (v:=.int .i64 len) ?_ (.mk_v rfl);rw[A];simp[Builtin.len_,run_underlying l,goInt]
 ·simp at b
theorem Hv{xs:List MV}{b:List PV}(h:pures xs=some b):xs=b.map .p:=by
 induction xs generalizing b with
 |nil=>simp[pures]at h;subst h;rfl
 |cons x r g=>
  unfold pures at h;split at h
  ·rename_i y s f i;simp at h;subst h;have:=g i;cases x<;>simp[MV.pure1]at f;subst f;simp[this]
  ·simp at h
theorem snd_func(h:Rel cx U O a w){f:FuncId}{xs:Array Operand}(o:∀x∈xs,Au x=true){y:MV}{wo obl}
  (g:Agq f (xs.toList.map (ev O))=some (y,wo,obl)):Out P cx O a (Instr.makeFunc (.func f) #[] (xs.map a.eval)) w y wo:=by
 have b:∀(i:Nat) x,(xs.toList.map (ev O))[i]?=some x->RelV U O.objs (Ap cx.Av U O.objs w) w ((xs.map a.eval).getD i undef) x:=by
  intro i x hi;rw[A7]at hi
  cases l:xs.toList[i]? with
  |none=>simp[l]at hi
  |some q=>
   simp[l]at hi;subst hi;have j:xs[i]?=some q:=by simpa using l
   have:(xs.map a.eval).getD i undef=a.eval q:=by simp[A5,j]
   rw[this];exact Bi h q (o q (F0 j))
 unfold Agq at g;split at g
 ·rename_i r m;simp at g;obtain⟨rfl,rfl,rfl⟩:=g;refine AxP h (v:=.func (.func f) #[] (xs.map a.eval)) rfl (.p _ _ (.fn _ _ _ ?_ ?_))
  ·have:=Hv m;have n:=congrArg List.length this;simpa using n
  ·intro i x hi;have:=b i (.p x) (by rw[Hv m,A7,hi];rfl);exact this.inv_p
 ·cases k:Nat.blt f BND with
  |false=>simp[k]at g
  |true=>
  simp[k]at g;obtain⟨rfl,rfl,rfl⟩:=g;refine AxP h (v:=.func (.func f) #[] (xs.map a.eval)) rfl ?_;rw[<-AgM k];exact .fn _ _ _ (by simp) b
theorem snd_bound(h:Rel cx U O a w){f:FuncId}{xs:Array Operand}(m:∀x∈xs,Au x=true){y:MV}{wo obl}
  (j:AdB f (xs.toList.map (ev O))=some (y,wo,obl)):Out P cx O a (Instr.makeFunc (.func f) (xs.map a.eval) #[]) w y wo:=by
 simp only[AdB,A1,A4]at j;obtain⟨rfl,rfl,rfl⟩:=j;refine AxP h (v:=.func (.func f) (xs.map a.eval) #[]) rfl ?_
 have k:Nat.blt (f+BND) BND=false:=by
  cases l:Nat.blt (f+BND) BND with
  |false=>rfl
  |true=>
   have:=A8 l;omega
 have e:=fnV_ge (vs:=xs.map a.eval) k;rw[Nat.add_sub_cancel]at e;rw[<-e];refine .fn _ _ _ (by simp) fun i x hi=>?_
 rw[A7]at hi
 cases g:xs.toList[i]? with
 |none=>simp[g]at hi
 |some q=>
  simp[g]at hi;subst hi;have b:xs[i]?=some q:=by simpa using g
  have:(xs.map a.eval).getD i undef=a.eval q:=by simp[A5,b]
  rw[this];exact Bi h q (m q (F0 b))
theorem snd_nil(h:Rel cx U O a w){o:Oper}{ox:Operand}(x:o.op=.nilCheck ox)(B:Au ox=true){y:MV}{wo obl}
  (j:Ajq (ev O ox)=some (y,wo,obl)):∃v,(execOp a.eval o).run P w=.ok (.value v) w/\RelV U O.objs (Ap cx.Av U O.objs w) w v y/\wo=[]:=by
 have l:=Bi h ox B;refine⟨a.eval ox,?_⟩;unfold execOp;rw[x];simp only;unfold Ajq at j;split at j
 ·rename_i k g s m;simp at j;obtain⟨rfl,rfl,rfl⟩:=j;rw[m]at l;obtain⟨b,n,t⟩:=l.inv_ref;rw[n];exact⟨rfl,.ref _ _ _ _ t,rfl⟩
 ·rename_i k g i s m;simp at j;obtain⟨rfl,rfl,rfl⟩:=j;rw[m]at l;obtain⟨b,s,n,t⟩:=l.inv_eref;rw[n];exact⟨rfl,.eref _ _ _ _ _ _ t,rfl⟩
 ·rename_i cs m;simp at j;obtain⟨rfl,rfl,rfl⟩:=j;rw[m]at l;obtain⟨b,s,c,n,D,z,A,C⟩:=l.inv_fptr;rw[n];exact⟨rfl,.fptr _ _ _ D _ z A C,rfl⟩
 ·rename_i f cs m;simp at j;obtain⟨rfl,rfl,rfl⟩:=j;rw[m]at l;generalize a.eval ox=v at l
  cases l with
  |fn _ _ vs q r=>exact⟨by unfold fnV;cases Nat.blt f BND<;>rfl,.fn _ _ _ q r,rfl⟩
 ·rename_i f cs m;simp at j;obtain⟨rfl,rfl,rfl⟩:=j;rw[m]at l;have u:=l.inv_p;generalize a.eval ox=v at u
  cases u with
  |fn _ _ vs q r=>exact⟨rfl,.p _ _ (.fn _ _ _ q r),rfl⟩
 ·simp at j
end
end Go.Dm

namespace Go.Dm
section
variable {P:Program} {T:Ty} {cx:Cx P} {U:Bs} {O:St} {a:Act} {w:World}
theorem snd_new(h:Rel cx U O a w){ob:Nat->Option Obj}(dst:Nat)(f:ob (key dst 0)=O.objs (key dst 0))(e:TypeId)(v:Value)(cs:List MV)
  (k:v.cells.size=cs.length)
  (n:∀(i:Nat) y,cs[i]?=some y->RelV U O.objs (Ap cx.Av U O.objs w) w (v.cells.getD i undef) y/\(v.cells.getD i undef).oneCell'=true):
  Out P cx O a (do pure (.pointer (some (<-newVar e v)))) w (AeQ dst ob (.box cs)).1 (AeQ dst ob (.box cs)).2.1:=by
 refine⟨.pointer (some (at_ w.heap.size 0)),w.alloc (.cells v.cells e),Hl U (key dst 0) (.box w.heap.size),?_,?_,?_⟩
 ·simp[newVar,newRow,at_]
 ·simp only[AeQ,Cf,f];refine h.fresh (key dst 0) (.box cs) (.box w.heap.size) w (.cells v.cells e) ⟨rfl,rfl,rfl,rfl⟩ rfl (.inl (by unfold key;omega)) ?_;intro u t objs' s q;refine⟨w.heap.size,v.cells,e,rfl,heap_alloc_new w _,k,fun j x l=>?_⟩;obtain⟨m,r⟩:=n j x l;refine⟨v.cells.getD j undef,?_,r,m.mono q s fun b o=>heap_alloc_old w _ b o.1⟩;have g:j<v.cells.size:=by rw[k];exact(A9.1 l).1
  simp[A5,g]
 ·simp only[AeQ,Cf,f];exact .ref _ _ _ _ ⟨_,Bj _ _ _,B2 _,fun _=>by rw[Dq]⟩
theorem Ahn(h:Rel cx U O a w){z:Value}{g:List Value}(l:z.cells.toList=g)(k:g.all (fun c=>c.oneCell')=true):
  z.cells.size=(g.map Ol).length /\
  (∀(i:Nat) y,(g.map Ol)[i]?=some y->RelV U O.objs (Ap cx.Av U O.objs w) w (z.cells.getD i undef) y/\(z.cells.getD i undef).oneCell'=true):=by
 subst l;refine⟨by simp,fun i y f=>?_⟩;rw[A7]at f
 cases b:z.cells.toList[i]? with
 |none=>simp[b]at f
 |some q=>
  simp[b]at f;subst f;have j:z.cells[i]?=some q:=by simpa using b
  have:z.cells.getD i undef=q:=by simp[A5,j]
  rw[this];rw[B6]at k;exact⟨AfV q,k q (B3 b)⟩
theorem snd_alloc(q:Ip P T)(h:Rel cx U O a w){t dst:Nat}{y:MV}{wo obl}{ob:Nat->Option Obj}(j:ob (key dst 0)=O.objs (key dst 0))
  (k:∀i,assoc T t=some i->i.zero.all (fun c=>c.oneCell')=true)
  (f:AdJ T t dst ob=some (y,wo,obl)):Out P cx O a (Instr.alloc t true (.tuple #[])) w y wo:=by
 unfold AdJ at f;split at f
 ·rename_i i hi;simp only[A1]at f;obtain⟨z,s,g⟩:=(q t i hi).zeroValue w;obtain⟨r,n⟩:=Ahn h g (k i hi);obtain⟨v,w',l,o,b,m⟩:=snd_new (P:=P) h dst j t z _ r n;rw[f]at b m;refine⟨v,w',l,?_,b,m⟩;simp only[Instr.alloc,Sem.run_bind,s,Result.andThen_ok];simpa using o
 ·simp at f
theorem snd_box(h:Rel cx U O a w){t dst:Nat}{ox:Operand}(k:Au ox=true){y:MV}{wo obl}{ob:Nat->Option Obj}(f:ob (key dst 0)=O.objs (key dst 0))
  (b:Ajf dst ob (ev O ox)=some (y,wo,obl)):Out P cx O a (Instr.box t (a.eval ox)) w y wo:=by
 unfold Ajf at b;split at b
 ·rename_i cs g;simp only[A1]at b;obtain⟨j,i⟩:=Aiq (Bi h ox k) g;have:=snd_new (P:=P) h dst f t (a.eval ox) cs j i;rw[b]at this;exact this
 ·simp at b
theorem Is{V:Type}(xs:List V):∀(l:List V) (o:Nat),(setRange l o xs).length=l.length:=by
 induction xs with
 |nil=>intro l o;rfl
 |cons x r b=>intro l o;simp[setRange,b]
theorem Hr{V:Type}(xs:List V):∀(l:List V) (o j:Nat),o+xs.length<=l.length ->
  (setRange l o xs)[j]?=if o<=j/\j<o+xs.length then xs[j-o]? else l[j]?:=by
 induction xs with
 |nil=>intro l o j h;simp[setRange];intro f b;omega
 |cons x r g=>
  intro l o j h;simp only[setRange,E9]at h ⊢;rw[g (l.set o x) (o+1) j (by simp;omega)]
  by_cases hj:j=o
  ·subst hj;have f:¬ (j+1<=j/\j<j+1+r.length):=by omega
   have b:j<=j/\j<j+(r.length+1):=by omega
   rw[if_neg f,if_pos b];have:j<l.length:=by omega
   simp[this]
  ·rw[List.getElem?_set_ne (Ne.symm hj)]
   by_cases hb:o+1<=j/\j<o+1+r.length
   ·have b:o<=j/\j<o+(r.length+1):=by omega
    rw[if_pos hb,if_pos b];have:j-o=(j-(o+1))+1:=by omega
    rw[this];simp
   ·have b:¬ (o<=j/\j<o+(r.length+1)):=by omega
    rw[if_neg hb,if_neg b]
theorem AsS(vs:List Value):∀(o:Nat) (cs:Array Value) (n:Nat),o+n+vs.length<=cs.size ->
  ((vs.zipIdx n).foldl (fun cs (c,j)=>cs.setIfInBounds (o+j) c) cs).toList=setRange cs.toList (o+n) vs:=by
 induction vs with
 |nil=>intro o cs n h;simp[setRange]
 |cons v r b=>
  intro o cs n h;simp only[List.zipIdx_cons,O9,setRange];simp only[E9]at h;rw[b o (cs.setIfInBounds (o+n) v) (n+1) (by simp;omega)];simp[L8]
def Cells(U:Bs)(objs:Ay)(S:Nat->Prop)(w:World)(vs:List Value)(cs:List MV):Prop:=
 vs.length=cs.length/\∀(i:Nat) v y,vs[i]?=some v->cs[i]?=some y->RelV U objs S w v y/\v.oneCell'=true
theorem Cells.setRange{S:Nat->Prop}{objs:Ay}{vs us:List Value}{cs k:List MV}{o:Nat}(h:Cells U objs S w vs cs)(h':Cells U objs S w us k)
  (j:o+us.length<=vs.length):Cells U objs S w (setRange vs o us) (Dm.setRange cs o k):=by
 refine⟨by rw[Is,Is];exact h.1,fun i v y f b=>?_⟩;rw[Hr _ _ _ _ j]at f;rw[Hr _ _ _ _ (by rw[<-h.1,<-h'.1];exact j)]at b;rw[<-h'.1]at b;split at f
 ·rename_i g;rw[if_pos g]at b;exact h'.2 _ _ _ f b
 ·rename_i g;rw[if_neg g]at b;exact h.2 _ _ _ f b
theorem Cells.of{S:Nat->Prop}{objs:Ay}{v:Value}{cs:List MV}(h:v.cells.size=cs.length)
  (g:∀(i:Nat) y,cs[i]?=some y->RelV U objs S w (v.cells.getD i undef) y/\(v.cells.getD i undef).oneCell'=true):
  Cells U objs S w v.cells.toList cs:=by
 refine⟨by simpa using h,fun i u y j f=>?_⟩;have:=g i y f;have b:v.cells[i]?=some u:=by simpa using j
 have e:v.cells.getD i undef=u:=by simp[A5,b]
 rw[e]at this;exact this
theorem AoD{S:Nat->Prop}{objs:Ay}{place:Nat->Option (Nat×Nat)}:∀(parts:List (Nat×MV)) (b:List (Nat×Value)) (cs:List MV) (f:Array Value) (out:List MV),
  parts.map (·.1)=b.map (·.1)->(∀(i:Nat) x v,parts[i]?=some x->b[i]?=some v->RelV U objs S w v.2 x.2) ->
  Cells U objs S w f.toList cs->Aga place cs parts=some out ->
  ∃g,Instr.fill place f b=some g/\Cells U objs S w g.toList out:=by
 intro parts
 induction parts with
 |nil=>
  intro b cs f out k _ q h
  have:b=[]:=by
   cases b with
   |nil=>rfl
   |cons v r=>simp at k
  subst this;simp[Aga]at h;subst h
  exact⟨f,rfl,q⟩
 |cons p r F=>
  intro b cs f out k y q h
  cases b with
  |nil=>simp at k
  |cons v B=>
   simp at k;obtain⟨t,z⟩:=p;obtain⟨vi,m⟩:=v;simp at k;obtain⟨rfl,k⟩:=k;have r0:=y 0 (t,z) (t,m) rfl rfl;simp at r0;unfold Aga at h;split at h
   ·rename_i off size u J s
    cases o:(Nat.beq u.length size&&Nat.ble (off+size) cs.length)with
    |false=>simp[o]at h
    |true=>
     simp only[o,cond_true]at h;simp only[A6]at o;have e1:=A3 o.1;have e2:=A8 o.2;obtain⟨K,H⟩:=Aiq r0 s;have G:=Cells.of K H;have D:f.size=cs.length:=by have:=q.1;simpa using this
     have n:¬ (m.cells.size≠size\/off+m.cells.size>f.size):=by omega
     have l:(m.cells.zipIdx.foldl (fun cs (c,j)=>cs.setIfInBounds (off+j) c) f).toList=setRange f.toList off m.cells.toList:=by
      have:=AsS m.cells.toList off f 0 (by simp;omega);rw[<-Array.foldl_toList];simpa using this
     obtain⟨g,I,A⟩:=F B (setRange cs off u) (m.cells.zipIdx.foldl (fun cs (c,j)=>cs.setIfInBounds (off+j) c) f) out k
      (fun i x v C E=>y (i+1) x v (by simpa using C) (by simpa using E)) (by rw[l];exact q.setRange G (by simp;omega)) h
     refine⟨g,?_,A⟩;simp only[Instr.fill,J];rw[if_neg (by simpa using n)];exact I
   ·simp at h
theorem Awe(s:Ip P T):∀(fields:List Field) (b:List (Nat×Nat)),fields.map (fun f=>(f.offset,f.type))=b ->
  b.all (fun p=>(assoc T p.2).isSome)=true ->
  ∃places:List (Nat×Nat),fields.mapM (fun f=>(P.info? f.type).map fun i=>(f.offset,i.size))=some places/\∀i:Nat,places[i]?=Adn T b i:=by
 intro fields
 induction fields with
 |nil=>intro b h _;subst h;exact⟨[],rfl,fun i=>by simp[Adn]⟩
 |cons f r q=>
  intro b h g;subst h;simp only[D8,L9,A6]at g;obtain⟨t,l⟩:=g;obtain⟨places,k,o⟩:=q _ rfl l
  cases hi:assoc T f.type with
  |none=>simp[hi]at t
  |some i=>
   obtain⟨x,z,n,m,_⟩:=(s _ i hi).info;refine⟨(f.offset,i.size)::places,?_,fun j=>?_⟩
   ·simp[List.mapM_cons,n,k,m]
   ·cases j with
    |zero=>simp[Adn,hi]
    |succ j=>
     have:=o j;simpa[Adn]using this
theorem AtA(k:Ip P T){fields:Array Field}{b:List (Nat×Nat)}(g:fields.toList.map (fun f=>(f.offset,f.type))=b)
  (h:b.all (fun p=>(assoc T p.2).isSome)=true):
  ∃places:Array (Nat×Nat),(fields.mapM (m:=Sem) fun f=>do pure (f.offset,<-Go.sizeOf f.type)).run P w=.ok places w /\
   ∀i:Nat,places[i]?=Adn T b i:=by
 obtain⟨places,l,j⟩:=Awe k fields.toList b g h;refine⟨places.toArray,?_,fun i=>by simpa using j i⟩;have:=run_places (P:=P) w _ _ l;simp[Array.mapM_eq_mapM_toList,this]
theorem snd_build(u:Ip P T)(h:Rel cx U O a w){t:Nat}{parts:Array (Nat×Operand)}(N:∀x∈parts,Au x.2=true){y:MV}{wo obl}
  (B:∀i,assoc T t=some i->i.zero.all (fun c=>c.oneCell')=true)
  (I:∀l s b z q,assoc T t=some ⟨.struct l,s,b,z,q⟩->l.all (fun p=>(assoc T p.2).isSome)=true)
  (k:Abw T t (parts.toList.map fun x=>(x.1,ev O x.2))=some (y,wo,obl)):
  Out P cx O a (Instr.build t (parts.map fun(i,x)=>(i,a.eval x))) w y wo:=by
 unfold Abw at k;split at k
 ·rename_i l W V zero Q hi;obtain⟨fields,M,A⟩:=(u t _ hi).struct rfl;obtain⟨z,J,D⟩:=(u t _ hi).zeroValue w;obtain⟨places,o,f⟩:=AtA (w:=w) u A (I _ _ _ _ _ hi);split at k
  ·rename_i cs E;simp at k;obtain⟨rfl,rfl,rfl⟩:=k;obtain⟨L,H⟩:=Ahn h D (B _ hi)
   obtain⟨j,K,n⟩:=AoD (U:=U) (objs:=O.objs) (S:=Ap cx.Av U O.objs w) (w:=w) (parts.toList.map fun x=>(x.1,ev O x.2)) (parts.map fun(i,x)=>(i,a.eval x)).toList _ z.cells cs
    (by simp) (fun i x v g F=>by
     rw[A7]at g;simp only[O2,A7]at F
     cases r:parts.toList[i]? with
     |none=>simp[r]at g
     |some q=>
      simp[r]at g F;subst g;subst F
      exact Bi h q.2 (N q (by simpa using B3 r))) (Cells.of L H) E
   have G:(fun x=>places[x]?)=Adn T l:=funext f;refine AxP h (v:=.agg j) ?_ (.agg _ _ (by simpa using n.1) (fun i y C=>?_) (fun i y C=>?_))
   ·simp only[Instr.build,Sem.run_bind,J,Result.andThen_ok,run_underlying M,o,G,K];rfl
   all_goals
    have m:i<j.size:=by have:=n.1;have R:=(A9.1 C).1;simp at this;omega
    have:=n.2 i (j.getD i undef) y (by simp[A5,m]) C
   ·exact this.1
   ·exact this.2
  ·simp at k
 ·simp at k
end
end Go.Dm

namespace Go.Dm
theorem AeE(U:Bs)(k:Nat):Hl U k (U k)=U:=by
 funext j
 by_cases h:j=k
 ·subst h;rw[Dq]
 ·rw[Lg _ _ h]
theorem AiG{V:Type}(l vs:List V)(o:Nat)(h:o+vs.length<=l.length):l.take o++vs++l.drop (o+vs.length)=setRange l o vs:=by
 apply List.ext_getElem?;intro j;rw[Hr _ _ _ _ h]
 by_cases h1:j<o
 ·rw[if_neg (by omega),H8,C2 (by simp;omega),H1];simp[h1]
 ·by_cases h2:j<o+vs.length
  ·rw[if_pos (by omega),H8,B9 (by simp;omega),C2 (by simp;omega)];congr 1;simp;omega
  ·rw[if_neg (by omega),B9 (by simp;omega),J1];congr 1;simp;omega
section
variable {P:Program} {T:Ty} {cx:Cx P} {U:Bs} {O:St} {a:Act} {w:World}
theorem Rel.inplace(h:Rel cx U O a w)(k g:Nat)(bd bd':Body)(q:O.objs k=some ⟨g,bd⟩)(x:bd.same bd')(i:bd.live)(b:Nat)
  (r:(U k).block=some b) (cur l:Array Value) (e:TypeId) (G:w.heap[b]?=some (.cells cur e (0,0)))
  (y:∀A objs',(∀b,Ap cx.Av U O.objs w b->A b)->Grows U U O.objs objs'->(∀b,Ap cx.Av U O.objs w b->(w.setRow b l).heap[b]?=w.heap[b]?->True) ->
   ObjRel U objs' A (w.setRow b l) (U k) bd'):
  Rel cx U ⟨O.slots,Bm O.objs k ⟨g,bd'⟩⟩ a (w.setRow b l):=by
 have C:Grows U U O.objs (Bm O.objs k ⟨g,bd'⟩):=by
  intro j o m
  by_cases hj:j=k
  ·subst hj;rw[q]at m;injection m with m
   subst m;exact⟨_,Bj _ _ _,B2 _,fun _=>⟨rfl,x⟩⟩
  ·exact⟨o,by rw[Cl _ _ hj];exact m,B2 _,fun _=>⟨rfl,o.body.same_refl⟩⟩
 have s:=h.blk k _ b q i r
 have key:=h.upd1 k ⟨g,bd'⟩ (U k) (w.setRow b l)
  (fun o m=>by rw[q]at m;injection m with m;subst m;exact⟨B2 _,fun _=>⟨rfl,x⟩⟩)
  (fun t _ f=>by rw[r]at f;injection f with f;subst f;simpa using s)
  (fun t _ f=>by
   rw[r]at f;injection f with f;subst f
   exact⟨fun E=>E.2.2 k _ q i r,fun F D n z u f=>h.inj k F _ D b q z i u (Ne.symm n) r f⟩)
  (fun t f n=>setRow_other w b t l (fun e=>n ((Axt x).1 i) (by rw[e];exact r)))
  (by simp) rfl rfl rfl (fun _ v=>⟨_,q,v⟩)
 rw[AeE]at key;refine key (y _ _ ?_ C (fun _ _ _=>trivial));intro t f;refine⟨by simpa using f.1,f.2.1,fun j o m B=>?_⟩
 by_cases hj:j=k
 ·subst hj;exact f.2.2 j _ q i
 ·rw[Cl _ _ hj]at m;exact f.2.2 j o m B
theorem Aml{t b o:Nat}{i:TI}(g:TyFact P t i){v:Value}(f:v.cells.size=i.size){cur:Array Value}{e:TypeId}(h:w.heap[b]?=some (.cells cur e (0,0)))
  (j:o+i.size<=cur.size) (k:∀u∈v.cells.toList,u.oneCell'=true):
  (Instr.storeAt t (.pointer (some (at_ b o))) v).run P w=.ok () (w.setRow b (setRange cur.toList o v.cells.toList).toArray):=by
 have:=run_storeCells_at P b o e v.cells.toList 0 cur w h (by simp;omega) k;simp only[K0]at this;rw[AiG _ _ _ (by simp;omega)]at this;simp only[Instr.storeAt,Instr.sureAddr,storeVar,Sem.run_bind,Sem.run_pure,Result.andThen_ok,g.sizeOf,f,ne_eq,not_true_eq_false,if_false,at_];exact this
theorem Cells.one{S:Nat->Prop}{objs:Ay}{vs:List Value}{cs:List MV}(h:Cells U objs S w vs cs):∀u∈vs,u.oneCell'=true:=by
 intro u b;obtain⟨i,hi,rfl⟩:=D1 b;exact(h.2 i _ (cs[i]'(by rw[<-h.1];exact hi)) (B0 hi) (B0 _)).2
theorem Cells.get{S:Nat->Prop}{objs:Ay}{vs:List Value}{cs:List MV}(h:Cells U objs S w vs cs){i:Nat}{y:MV}(f:cs[i]?=some y):
  ∃u,vs[i]?=some u/\u.oneCell'=true/\RelV U objs S w u y:=by
 have b:i<vs.length:=by rw[h.1];exact(A9.1 f).1
 have:=h.2 i vs[i] y (B0 b) f;exact⟨vs[i],B0 b,this.2,this.1⟩
theorem Cells.mk'{S:Nat->Prop}{objs:Ay}{vs:List Value}{cs:List MV}(g:vs.length=cs.length)
  (h:∀(i:Nat) y,cs[i]?=some y->∃u,vs[i]?=some u/\u.oneCell'=true/\RelV U objs S w u y):Cells U objs S w vs cs:=by
 refine⟨g,fun i v y f j=>?_⟩;obtain⟨u,b,k,l⟩:=h i y j;rw[f]at b;injection b with b
 subst b;exact⟨l,k⟩
theorem Cells.mono{f:Bs}{objs objs':Ay}{S g:Nat->Prop}{w':World}(n:Grows U f objs objs')
  (m:∀b,S b->g b) (l:∀b,S b->w'.heap[b]?=w.heap[b]?) {vs:List Value} {cs:List MV} (h:Cells U objs S w vs cs):Cells f objs' g w' vs cs:=
 ⟨h.1,fun i v y j k=>⟨((h.2 i v y j k).1).mono n m l,(h.2 i v y j k).2⟩⟩
theorem snd_store(hT:Ip P T)(h:Rel cx U O a w){t:Nat}{ox H:Operand}(s:Au ox=true)(hy:Au H=true){y:MV}{wo obl}{ob:Nat->Option Obj}
  (V:∀k o,ob k=some o->O.objs k=some o) (q:Ads T t ob (ev O ox) (ev O H)=some (y,wo,obl)) (ho:All obl):
  ∃w' β',(Instr.storeAt t (a.eval ox) (a.eval H)).run P w=.ok () w'/\Rel cx β' ⟨O.slots,Cf O.objs wo⟩ a w'/\y=.und:=by
 have rx:=Bi h ox s;have ry:=Bi h H hy;unfold Ads at q;split at q
 ·rename_i i ds hi hds;have hF:=hT t i hi;obtain⟨g1,g2⟩:=Aiq ry hds;have hC:=Cells.of g1 g2
  cases hb:Nat.beq ds.length i.size with
  |false=>simp[hb]at q
  |true=>
   have R:=A3 hb;simp only[hb,cond_true]at q;split at q
   ·rename_i k g off hp;rw[hp]at rx;split at q
    ·rename_i old hg
     cases r:Nat.ble (off+i.size) old.length with
     |false=>simp[r]at q
     |true=>
      have N:=A8 r;simp[r]at q;obtain⟨rfl,rfl,rfl⟩:=q;have m:=V _ _ (Aaq hg);obtain⟨b,hv,hk⟩:=rx.inv_ref;have z:=hk.get m;obtain⟨D,cur,e,l,hheap,M,hcs⟩:=h.ob k _ m;rw[z]at l;injection l with l
      subst l
      have I:Cells U O.objs (Ap cx.Av U O.objs w) w cur.toList old:=Cells.mk' (by simpa using M) (fun j x s=>by
       obtain⟨u,E,B,A⟩:=hcs j x s
       exact⟨u,by simpa using E,B,A⟩)
      refine⟨_,U,by rw[hv];exact Aml hF (by omega) hheap (by omega) hC.one,?_,rfl⟩;refine h.inplace k g (.box old) (.box (setRange old off ds)) m trivial trivial b (by rw[z];rfl) cur _ e hheap ?_;intro S' objs' Y X _;refine⟨b,_,e,z,setRow_heap w b cur _ e _ hheap,by simp[Is,M],fun j x s=>?_⟩
      have hCn:=(I.setRange hC (o:=off) (by simp;omega)).mono (w':=w.setRow b (setRange cur.toList off (a.eval H).cells.toList).toArray) X Y (fun D J=>setRow_other w b D _ (fun e=>by
       subst e
       exact J.2.2 k _ m trivial (by rw[z];rfl)))
      obtain⟨u,E,B,A⟩:=hCn.get s;exact⟨u,by simpa using E,B,A⟩
    ·simp at q
   ·rename_i k g v off hp;rw[hp]at rx;split at q
    ·rename_i W n f ps hg hps
     cases r:Nat.ble (off+i.size) W with
     |false=>simp[r]at q
     |true=>
      have N:=A8 r;simp[r]at q;obtain⟨rfl,rfl,rfl⟩:=q;simp[All]at ho;have m:=V _ _ (Gc hg);obtain⟨b,oo,hv,hk⟩:=rx.inv_eref;obtain⟨_,o,cap,z,hoo⟩:=hk.get m;rcases h.ob k _ m with⟨l,_⟩|⟨D,o',cap',cur,e,l,hheap,L,hn,Q⟩
      ·rw[z]at l;simp at l
      ·rw[z]at l;injection l with e1 e2 e3
       subst e1;subst e2;subst e3;subst hoo;have hmul:(v+1)*W<=cap*W:=C5 _ (by omega);have hexp:(v+1)*W=v*W+W:=H2 v W;have C:o+v*W+off+i.size<=cur.size:=by omega
       have G:ds=ps.map .p:=Hv hps;refine⟨_,U,by rw[hv];exact Aml hF (by omega) hheap C hC.one,?_,rfl⟩;refine h.inplace k g (.row W n f) (.row W n (Cg f v (setRange (f v) off ps))) m ⟨rfl,rfl⟩ trivial b (by rw[z];rfl) cur _ e hheap ?_;intro S' objs' Y X _
       have K:∀D,Ap cx.Av U O.objs w D->(w.setRow b (setRange cur.toList (o+v*W+off) (a.eval H).cells.toList).toArray).heap[D]?=w.heap[D]?:=fun D J=>setRow_other w b D _ (fun e=>by
        subst e
        exact J.2.2 k _ m trivial (by rw[z];rfl))
       refine .inr ⟨b,o,cap,_,e,z,setRow_heap w b cur _ e _ hheap,by simpa[Is]using L,hn,fun F hi'=>?_⟩;obtain⟨hW,hh⟩:=Q F hi';have hlen:ps.length=i.size:=by rw[G]at R;simpa using R
       have hvl:(a.eval H).cells.toList.length=i.size:=by simp;omega
       by_cases hii:F=v
       ·subst hii;simp only[Cg,Cr,cond_true];refine⟨by rw[Is];exact hW,fun j x s=>?_⟩;rw[Hr _ _ _ _ (by omega)]at s;split at s
        ·rename_i hj;obtain⟨u,E,B,A⟩:=hC.get (i:=j-off) (y:=.p x) (by rw[G,A7,s];rfl);refine⟨u,?_,B,(A.inv_p).mono Y K⟩;simp only[F5];rw[Hr _ _ _ _ (by simp;omega),if_pos (by omega)];have:o+F*W+j-(o+F*W+off)=j-off:=by omega
         rw[this];exact E
        ·rename_i hj;obtain⟨u,E,B,A⟩:=hh j x s;refine⟨u,?_,B,A.mono Y K⟩;simp only[F5];rw[Hr _ _ _ _ (by simp;omega),if_neg (by omega)];simpa using E
       ·simp only[Cg,Dt hii,cond_false];refine⟨hW,fun j x s=>?_⟩;obtain⟨u,E,B,A⟩:=hh j x s;refine⟨u,?_,B,A.mono Y K⟩;have hj:j<W:=by rw[<-hW];exact(A9.1 s).1
        simp only[F5];rw[Hr _ _ _ _ (by simp;omega),if_neg ?_]
        ·simpa using E
        ·rcases L0 hii with hlt|hgt
         ·have h1:(F+1)*W<=v*W:=C5 _ hlt;have h2:(F+1)*W=F*W+W:=H2 F W;omega
         ·have h1:(v+1)*W<=F*W:=C5 _ hgt;omega
    ·simp at q
   ·simp at q
 ·simp at q
end
end Go.Dm

namespace Go.Dm
section
variable {P:Program} {T:Ty} {cx:Cx P} {U:Bs} {O:St} {a:Act} {w:World}
theorem Rel.newRow(h:Rel cx U O a w)(k W n cap:Nat)(cur:Array Value)(e:TypeId)(f:Nat->List PV)(g:World)
  (j:g.heap=w.heap/\g.os=w.os/\g.tape=w.tape/\g.output=w.output) (l:1000<=k\/(O.objs k).isSome=true) (m:n<=cap) (t:cap*W<=cur.size)
  (o:∀i,i<n->(f i).length=W/\HoldsP (Ap cx.Av U O.objs w) w cur (i*W) (f i)):
  Rel cx (Hl U k (.row w.heap.size 0 cap)) ⟨O.slots,Bm O.objs k ⟨Bt (O.objs k),.row W n f⟩⟩ a (g.alloc (.cells cur e)) /\
  RelV (Hl U k (.row w.heap.size 0 cap)) (Bm O.objs k ⟨Bt (O.objs k),.row W n f⟩)
   (Ap cx.Av (Hl U k (.row w.heap.size 0 cap)) (Bm O.objs k ⟨Bt (O.objs k),.row W n f⟩) (g.alloc (.cells cur e))) (g.alloc (.cells cur e))
   (.slice (some (at_ w.heap.size 0)) n cap) (.own k (Bt (O.objs k)) 0 n):=by
 refine⟨?_,?_⟩
 ·refine h.fresh k _ _ g _ j rfl l ?_;intro v s objs' r u;refine .inr ⟨w.heap.size,0,cap,cur,e,rfl,by rw[<-j.1];exact heap_alloc_new g _,by omega,m,fun i hi=>⟨(o i hi).1,?_⟩⟩;rw[D5];exact(o i hi).2.mono r fun b q=>by rw[heap_alloc_old g _ b (by rw[j.1];exact q.1),j.1]
 ·refine .own _ _ _ _ _ _ ⟨_,Bj _ _ _,B2 _,fun _=>?_⟩;rw[Dq];exact⟨by omega,w.heap.size,0,rfl,by omega,fun _=>⟨rfl,by omega⟩⟩
theorem Kj{V:Type}(l:List V):∀n,(reps n l).length=n*l.length:=by
 intro n
 induction n with
 |zero=>simp[reps]
 |succ n b=>simp[reps,b,H2];omega
theorem Adr{V:Type}(l:List V)(f:0<l.length):∀n i,i<n*l.length->(reps n l)[i]?=l[i % l.length]?:=by
 intro n
 induction n with
 |zero=>intro i hi;omega
 |succ n b=>
  intro i hi;rw[H2]at hi;simp only[reps]
  by_cases h1:i<l.length
  ·rw[C2 h1,M0 h1]
  ·rw[B9 (by omega),b (i-l.length) (by omega)];congr 1;rw[Nat.mod_eq_sub_mod (a:=i) (by omega)]
theorem Akl(z:Array Value)(n:Nat)(b:0<z.size):((Array.range (n*z.size)).map (z[· % z.size]!)).toList=reps n z.toList:=by
 apply List.ext_getElem?;intro i
 by_cases hi:i<n*z.size
 ·rw[Adr _ (by simpa using b) n i (by simpa using hi)];have:=Nat.mod_lt i b;simp[hi,this]
 ·rw[M5 (by simp;omega),M5 (by rw[Kj];simp;omega)]
theorem Arq(hT:Ip P T)(h:Rel cx U O a w){t len dst:Nat}{parts:Array (Nat×Operand)}(s:∀x∈parts,Au x.2=true){y:MV}{wo obl}{ob:Nat->Option Obj}
  (M:ob (key dst 0)=O.objs (key dst 0)) (N:∀t i,assoc T t=some i->i.zero.all (fun c=>c.oneCell')=true)
  (f:Ob T t len dst ob (parts.toList.map fun x=>(x.1,ev O x.2))=some (y,wo,obl)):
  Out P cx O a (Instr.buildSlice t len (parts.map fun(i,x)=>(i,a.eval x))) w y wo:=by
 unfold Ob at f;split at f
 ·rename_i e s1 s2 s3 s4 hi;have hu:=(hT t _ hi).slice rfl;split at f
  ·rename_i i C;have hF:=hT e i C
   cases o:(Nat.ble (len*i.size) 16777216&&Nat.beq i.zero.length i.size&&Nat.blt 0 i.size)with
   |false=>simp only[o,cond_false]at f;simp at f
   |true=>
    simp only[o,cond_true]at f;simp only[A6]at o;have b1:=A8 o.1.1;have G:=A3 o.1.2;have b3:0<i.size:=A8 o.2;obtain⟨z,hz,E⟩:=hF.zeroValue w;have b:z.cells.size=i.size:=by rw[<-G,<-E];simp
    split at f
    ·rename_i cs H;split at f
     ·rename_i R Q;simp only[A1,Ta,A4]at f;obtain⟨rfl,rfl,rfl⟩:=f;obtain⟨g1,g2⟩:=Ahn h E (N _ _ C);have L:=Cells.of g1 g2
      have n:Cells U O.objs (Ap cx.Av U O.objs w) w ((Array.range (len*i.size)).map (z.cells[· % z.cells.size]!)).toList (reps len (i.zero.map Ol)):=by
       have e1:=Akl z.cells len (by omega);rw[b]at e1;rw[b,e1];refine Cells.mk' (by rw[Kj,Kj];simp[b,G]) (fun j x s=>?_)
       have A:j<len*(i.zero.map Ol).length:=by
        have:=(A9.1 s).1;rw[Kj]at this;exact this
       rw[Adr _ (by simp;omega) len j A]at s;rw[Adr _ (by simp;omega) len j (by simp at A;simp[b];rw[G]at A;exact A)];have e2:(i.zero.map Ol).length=z.cells.toList.length:=by simp[b,G]
       rw[e2]at s;exact L.get s
      obtain⟨B,hf,hC⟩:=AoD (U:=U) (objs:=O.objs) (S:=Ap cx.Av U O.objs w) (w:=w) (parts.toList.map fun x=>(x.1,ev O x.2)) (parts.map fun(i,x)=>(i,a.eval x)).toList _ _ cs
       (by simp) (fun i x v k J=>by
        rw[A7]at k;simp only[O2,A7]at J
        cases l:parts.toList[i]? with
        |none=>simp[l]at k
        |some q=>
         simp[l]at k J;subst k;subst J
         exact Bi h q.2 (s q (by simpa using B3 l))) n H
      have g:=Hv Q
      have W:R.length=len*i.size:=by
       have h3:∀(Y:Nat->Option (Nat×Nat)) (parts:List (Nat×MV)) (F c1:List MV),Aga Y F parts=some c1->c1.length=F.length:=by
        intro Y parts
        induction parts with
        |nil=>intro F c1 m;simp[Aga]at m;rw[m]
        |cons p r ih=>
         intro F c1 m;obtain⟨pi,px⟩:=p;unfold Aga at m;split at m
         ·rename_i off size ds _ _
          cases D:(Nat.beq ds.length size&&Nat.ble (off+size) F.length)with
          |false=>simp[D]at m
          |true=>
           simp only[D,cond_true]at m;rw[ih _ _ m,Is]
         ·simp at m
       have V:=h3 _ _ _ _ H;rw[g,Kj]at V;simpa[G]using V
      have hzl:B.size=len*i.size:=by
       have:=hC.1;rw[g]at this;simp at this;omega
      obtain⟨r1,r2⟩:=h.newRow (key dst 0) i.size len len B e (cut i.size R) w ⟨rfl,rfl,rfl,rfl⟩ (.inl (by unfold key;omega)) (B2 _) (by omega) (fun j A=>by
       have X:(j+1)*i.size<=len*i.size:=C5 _ A;have hexp:(j+1)*i.size=j*i.size+i.size:=H2 j i.size;refine⟨by simp[cut];omega,fun q x l=>?_⟩;simp only[cut,H1]at l;split at l
       ·rw[J1]at l;obtain⟨u,q1,q2,q3⟩:=hC.get (i:=j*i.size+q) (y:=.p x) (by rw[g,A7,l];rfl);exact⟨u,by simpa using q1,q2,q3.inv_p⟩
       ·simp at l)
      rw[M];refine⟨_,_,_,?_,r1,r2⟩;have K:¬ (len*i.size>2 ^ 24):=by omega
      simp only[Instr.buildSlice,Sem.run_bind,run_underlying hu,Result.andThen_ok,hF.sizeOf,K,if_false]
      by_cases h0:len*i.size=0
      ·simp only[h0,if_true,Sem.run_pure,Result.andThen_ok]
       have I:((Array.range 0).map fun x=>(#[]:Array Value)[x % (#[]:Array Value).size]!)=((Array.range (len*i.size)).map (z.cells[· % z.cells.size]!)):=by
        rw[h0];simp
       simp only[I,hf,newRow,run_newObj,Sem.run_bind,Result.andThen_ok,Sem.run_pure];rfl
      ·simp only[h0,if_false,Sem.run_bind,hz,Result.andThen_ok,Sem.run_pure,hf,newRow,run_newObj];rfl
     ·simp at f
    ·simp at f
  ·simp at f
 ·simp at f
def SrcOK(P:Program)(S:Nat->Prop)(w:World)(x:Value)(W n:Nat)(f:Nat->List PV):Prop:=
 ∃src:List Value,src.length=n*W/\(∀w':World,(Builtin.lenOf x).run P w'=.ok n w') /\
  (∀w':World,w'.heap=w.heap->(Builtin.firstCells W n x).run P w'=.ok src.toArray w') /\
  (∀u∈src,u.oneCell'=true)/\∀i,i<n->(f i).length=W/\∀(j:Nat) y,(f i)[j]?=some y->∃u,src[i*W+j]?=some u/\Rep S w u y
def SrcM(P:Program)(S:Nat->Prop)(w:World)(x:Value)(W n:Nat)(f:Nat->List PV):Prop:=
 ∃src:List Value,src.length=n*W/\(∀w':World,w'.heap=w.heap->(Builtin.firstCells W n x).run P w'=.ok src.toArray w') /\
  (∀u∈src,u.oneCell'=true)/\∀i,i<n->(f i).length=W/\∀(j:Nat) y,(f i)[j]?=some y->∃u,src[i*W+j]?=some u/\Rep S w u y
def SrcAll(P:Program)(S:Nat->Prop)(w:World)(x:Value)(W n:Nat)(f:Nat->List PV):Prop:=
 (∀w':World,(Builtin.lenOf x).run P w'=.ok n w')/\∀m,m<=n->SrcM P S w x W m f
theorem SrcAll.full{S:Nat->Prop}{x:Value}{W n:Nat}{f:Nat->List PV}(h:SrcAll P S w x W n f):SrcOK P S w x W n f:=by
 obtain⟨src,i,b,j,g⟩:=h.2 n (B2 _);exact⟨src,i,h.1,b,j,g⟩
theorem SrcAll.zero{S:Nat->Prop}{x:Value}{W:Nat}{f:Nat->List PV}(h:x=.slice none 0 0\/∃b c,x=.slice (some b) 0 c):SrcAll P S w x W 0 f:=by
 refine⟨fun w'=>?_,fun m g=>?_⟩
 ·rcases h with rfl|⟨b,c,rfl⟩<;>simp[Builtin.lenOf]
 ·obtain rfl:m=0:=by omega
  refine⟨[],by simp,fun w' _=>?_,by simp,fun i hi=>by omega⟩;rcases h with rfl|⟨b,c,rfl⟩<;>simp[Builtin.firstCells,loadCells,loadCellsFrom]
theorem Asy{w w':World}(h:w'.heap=w.heap)(p:Addr):w'.cell? p=w.cell? p:=by simp[World.cell?,h]
theorem src_rowsM{S:Nat->Prop}{W n A b o cap:Nat}{f:Nat->List PV}(c:Nat->Nat->Value)
  (h:∀i,i<n->(f i).length=W)
  (H:∀i j,i<n->j<W->w.cell? (at_ b (o+(i*W+j)))=some (c i j)) (G:∀i j,i<n->j<W->(c i j).oneCell'=true)
  (I:∀i j x,i<n->(f i)[j]?=some x->Rep S w (c i j) x):SrcM P S w (.slice (some (at_ b o)) A cap) W n f:=by
 have k:∀q,q<n*W->q / W<n/\q % W<W/\q / W*W+q % W=q:=by
  intro q g;have m:0<W:=Nat.pos_of_ne_zero fun e=>by rw[e]at g;simp at g
  exact⟨(Nat.div_lt_iff_lt_mul m).2 g,Nat.mod_lt _ m,by rw[M8];exact Nat.div_add_mod q W⟩
 refine⟨(List.range (n*W)).map fun q=>c (q / W) (q % W),by simp,fun w' s=>?_,?_,fun i hi=>⟨h i hi,fun j y C=>?_⟩⟩
 ·refine run_firstCells_some w' W n (at_ b o) A cap _ (by simp) (fun j v r=>?_);rw[Asy s];simp only[A7]at r
  cases g:(List.range (n*W))[j]? with
  |none=>simp[g]at r
  |some q=>
   have l:=(A9.1 g).1;simp at l;have z:q=j:=by rw[List.getElem?_range l]at g;injection g with g;exact g.symm
   subst z;simp[g]at r;subst r;obtain⟨t,d2,F⟩:=k q l;have:=H _ _ t d2;rw[F]at this;rw[at_,Addr.add_lit];exact this
 ·intro u J;obtain⟨q,g,rfl⟩:=B8.1 J;simp at g;obtain⟨t,d2,_⟩:=k q g;exact G _ _ t d2
 ·have E:j<W:=by rw[<-h i hi];exact(A9.1 C).1
  have m:0<W:=by omega
  have B:(i+1)*W<=n*W:=C5 _ hi;have D:(i+1)*W=i*W+W:=H2 i W;refine⟨c i j,?_,I i j y hi C⟩;have e1:(i*W+j) / W=i:=by rw[M8,Nat.mul_add_div m,Nat.div_eq_of_lt E,K0]
  have e2:(i*W+j) % W=j:=by rw[M8,P0,M0 E]
  rw[A7,List.getElem?_range (by omega)];simp[e1,e2]
theorem Aux{S:Nat->Prop}{W n b o cap:Nat}{f:Nat->List PV}(c:Nat->Nat->Value)
  (g:∀i,i<n->(f i).length=W)
  (r:∀i j,i<n->j<W->w.cell? (at_ b (o+(i*W+j)))=some (c i j)) (q:∀i j,i<n->j<W->(c i j).oneCell'=true)
  (k:∀i j x,i<n->(f i)[j]?=some x->Rep S w (c i j) x):SrcAll P S w (.slice (some (at_ b o)) n cap) W n f:=
 ⟨fun w'=>by simp[Builtin.lenOf],fun m s=>src_rowsM c (fun i hi=>g i (by omega)) (fun i j hi h=>r i j (by omega) h) (fun i j hi h=>q i j (by omega) h) (fun i j x hi l=>k i j x (by omega) l)⟩
theorem AcD(off:Nat)(f:Nat->List PV)(i:Nat):shF off f i=f (off+i):=by
 unfold shF
 cases h:Nat.beq off 0 with
 |true=>have:=A3 h;simp[this]
 |false=>rfl
theorem src_all(h:Rel cx U O a w){x:Value}{mx:MV}(J:RelV U O.objs (Ap cx.Av U O.objs w) w x mx){ob:Nat->Option Obj}(F:∀k o,ob k=some o->O.objs k=some o)
  {W n:Nat} {f:Nat->List PV} {k2:Option Nat} (l:AhU ob W mx=some (n,f,k2)):SrcAll P (Ap cx.Av U O.objs w) w x W n f:=by
 unfold AhU at l;split at l
 ·rename_i fl q H f'
  cases s:(Nat.beq q W||Nat.beq H 0)with
  |false=>simp[s]at l
  |true=>
   simp only[s,cond_true,A1,A4]at l;obtain⟨rfl,rfl,rfl⟩:=l;have R:=J.inv_p
   cases R with
   |slnil _ _ _ _=>exact SrcAll.zero (.inl rfl)
   |sl _ _ _ cap b o _ c hfl y hs z Q h1 hr=>
    rcases((B7 _ _).mp s).symm with V|hW
    ·have:=A3 V;subst this;exact SrcAll.zero (.inr ⟨_,_,rfl⟩)
    ·have:=A3 hW;subst this;exact Aux c z Q h1 hr
 ·rename_i k g off len;split at l
  ·rename_i q H f' X
   cases s:Nat.beq q W with
   |false=>simp[s]at l
   |true=>
    have K:=A3 s;subst K;simp only[s,cond_true,A1,A4]at l;obtain⟨rfl,rfl,rfl⟩:=l;have A:=F _ _ (Gc X);obtain⟨base,c,M,hk⟩:=J.inv_own;subst M;obtain⟨hle,C⟩:=hk.get A;rcases h.ob k _ A with⟨v,hn0⟩|⟨b,o,cap,cur,e',v,hheap,y,hnn,m⟩
    ·rw[v]at C;obtain⟨E,rfl,_,rfl⟩:=C;rcases E with rfl|⟨bb,oo,rfl⟩
     ·exact SrcAll.zero (.inl rfl)
     ·exact SrcAll.zero (.inr ⟨_,_,rfl⟩)
    ·rw[v]at C;obtain⟨I,o',rfl,Y,B⟩:=C
     by_cases hlen0:len=0
     ·subst hlen0;exact SrcAll.zero (.inr ⟨_,_,rfl⟩)
     ·obtain⟨rfl,rfl⟩:=B (by omega);have t:∀j,w.cell? (at_ I j)=cur[j]?:=fun j=>cell_of_row w I j cur e' (0,0) hheap
      have r:∀i j,i<len->j<q->∃u,cur[o+off*q+(i*q+j)]?=some u/\u.oneCell'=true:=by
       intro i j hi D;obtain⟨q1,N⟩:=m (off+i) (by omega);obtain⟨u,u1,u2,_⟩:=N j (f' (off+i))[j] (B0 (by omega));exact⟨u,by rw[<-u1];congr 1;rw[D2];omega,u2⟩
      refine Aux (fun i j=>cur.getD (o+off*q+(i*q+j)) undef) (fun i hi=>?_) (fun i j hi D=>?_) (fun i j hi D=>?_) (fun i j x hi G=>?_)
      ·rw[AcD];exact(m (off+i) (by omega)).1
      ·obtain⟨u,u1,_⟩:=r i j hi D;rw[t,A5,u1];rfl
      ·obtain⟨u,u1,u2⟩:=r i j hi D;rw[A5,u1];exact u2
      ·rw[AcD]at G;obtain⟨u,u1,u2,L⟩:=(m (off+i) (by omega)).2 j x G;have e2:o+(off+i)*q+j=o+off*q+(i*q+j):=by rw[D2];omega
       rw[<-e2,A5,u1];exact L
  ·simp at l
 ·simp at l
theorem src_of(h:Rel cx U O a w){x:Value}{mx:MV}(i:RelV U O.objs (Ap cx.Av U O.objs w) w x mx){ob:Nat->Option Obj}(b:∀k o,ob k=some o->O.objs k=some o)
  {W n:Nat} {f:Nat->List PV} {k2:Option Nat} (g:AhU ob W mx=some (n,f,k2)):SrcOK P (Ap cx.Av U O.objs w) w x W n f:=(src_all h i b g).full
theorem AqR{z:Array Value}{n:Nat}:(Builtin.zeroCells z n).size=n*z.size:=size_zeroCells z n
theorem Alp{t ty e:TypeId}{i:TypeInfo}(q:P.underlying t=some (.slice e))(hi:P.info? e=some i)
  {b o sLen sCap n:Nat} {x:Value} {src:List Value} {cur:Array Value} {l:TypeId} (m:w.heap[b]?=some (.cells cur l (0,0)))
  (k:(Builtin.lenOf x).run P w=.ok n w) (f:(Builtin.firstCells i.size n x).run P w=.ok src.toArray w) (r:∀u∈src,u.oneCell'=true)
  (h:sLen+n<=sCap) (g:o+sLen*i.size+src.length<=cur.size):
  (Builtin.append_ #[t,t] ty #[.slice (some (at_ b o)) sLen sCap,x]).run P w =
   .ok (.slice (some (at_ b o)) (sLen+n) sCap) (w.setRow b (setRange cur.toList (o+sLen*i.size) src).toArray):=by
 have j:=run_storeCells_at P b (o+sLen*i.size) l src 0 cur w m (by simpa using g) r;simp only[K0]at j;rw[AiG _ _ _ (by simpa using g)]at j;simp[Builtin.append_,run_underlying q,sizeOf,typeInfo,hi,k,h,f,at_,Addr.add_lit,j]
theorem ApN{t ty e:TypeId}{i:TypeInfo}(h:P.underlying t=some (.slice e))(hi:P.info? e=some i)
  {base:Option Addr} {sLen sCap:Nat} {x:Value} (g:sLen<=sCap)
  (f:(Builtin.lenOf x).run P w=.ok 0 w) (b:(Builtin.firstCells i.size 0 x).run P w=.ok #[] w):
  (Builtin.append_ #[t,t] ty #[.slice base sLen sCap,x]).run P w=.ok (.slice base sLen sCap) w:=by
 cases base<;>simp[Builtin.append_,run_underlying h,sizeOf,typeInfo,hi,f,g,b,storeCells]
theorem Ars{t ty e:TypeId}{i:TypeInfo}{z:Value}(k:P.underlying t=some (.slice e))(hi:P.info? e=some i)(o:i.zero=some z)
  {base:Option Addr} {sLen sCap n:Nat} {x:Value} {old src:List Value}
  (f:(Builtin.lenOf x).run P w=.ok n w) (hold:(Builtin.firstCells i.size sLen (.slice base sLen sCap)).run P w.drew=.ok old.toArray w.drew)
  (b:(Builtin.firstCells i.size n x).run P w.drew=.ok src.toArray w.drew)
  (q:sCap<sLen+n) (m:sLen+n<=9223372036854775807) (j:Builtin.nextslicecap (sLen+n) sCap*i.bytes<=281474976710656):
  (Builtin.append_ #[t,t] ty #[.slice base sLen sCap,x]).run P w =
   .ok (.slice (some (at_ w.heap.size 0)) (sLen+n) (grownCap w (sLen+n) sCap e))
    (w.drew.alloc (.cells (old.toArray++src.toArray++Builtin.zeroCells z.cells (grownCap w (sLen+n) sCap e-(sLen+n))) e)):=by
 have l:¬ (sLen+n<=sCap):=by omega
 have g:¬ (9223372036854775807<((sLen:Int)+(n:Int))):=by omega
 have h:¬ (281474976710656<Builtin.nextslicecap (sLen+n) sCap*i.bytes):=by omega
 simp[Builtin.append_,run_underlying k,sizeOf,typeInfo,zeroValue,hi,o,f,l,g,h,Question.forced,hold,b,newRow,grownCap,at_];congr 2;apply Array.ext';simp[H8]
theorem AwA(hT:Ip P T)(h:Rel cx U O a w){t t2 ty dst:Nat}{os ox:Operand}(hs:Au os=true)(hx:Au ox=true){y:MV}{wo obl}{ob:Nat->Option Obj}
  (hob:∀k o,ob k=some o->O.objs k=some o) (hobd:ob (key dst 0)=O.objs (key dst 0))
  (s:AbF T t t2 dst ob (ev O os) (ev O ox)=some (y,wo,obl)) (ho:All obl):
  Out P cx O a (Builtin.append_ #[t,t2] ty #[a.eval os,a.eval ox]) w y wo:=by
 have rs:=Bi h os hs;have rx:=Bi h ox hx;unfold AbF at s;split at s
 ·rename_i e s1 s2 s3 s4 hi;have hu:=(hT t _ hi).slice rfl;split at s
  ·rename_i i hi2;have hF:=hT e i hi2;obtain⟨info,z,I,B,hib,hizero,hzc,_⟩:=hF.info
   cases H:(Nat.beq t t2&&Nat.beq i.zero.length i.size&&Nat.blt 0 i.size&&Nat.blt 0 i.bytes)with
   |false=>simp only[H,cond_false]at s;simp at s
   |true=>
    simp only[H,cond_true]at s;simp only[A6]at H;have et:=A3 H.1.1.1;subst et;have ez:=A3 H.1.1.2;have epos:0<i.size:=A8 H.1.2;have ebpos:0<i.bytes:=A8 H.2;have hzs:z.cells.size=i.size:=by rw[<-ez,<-hzc];simp
    split at s
    ·rename_i n2 f2 k2 hsrc;obtain⟨src,hsl,L,Q,M,hsf⟩:=src_of (P:=P) h rx hob hsrc
     have grown:∀(k:Nat) (old:List Value) (sLen sCap:Nat) (base:Option Addr) (f1:Nat->List PV),old.length=sLen*i.size ->
       (∀w':World,w'.heap=w.heap->(Builtin.firstCells i.size sLen (.slice base sLen sCap)).run P w'=.ok old.toArray w') ->
       (∀j,j<sLen->(f1 j).length=i.size/\∀(q:Nat) x,(f1 j)[q]?=some x->∃u,old[j*i.size+q]?=some u/\u.oneCell'=true/\Rep (Ap cx.Av U O.objs w) w u x) ->
       sCap<sLen+n2->(sLen+n2)*i.bytes<=140737488355328->(1000<=k\/(O.objs k).isSome=true) ->
       ∃v w' A,(Builtin.append_ #[t,t] ty #[.slice base sLen sCap,a.eval ox]).run P w=.ok v w' /\
        Rel cx A ⟨O.slots,Bm O.objs k ⟨Bt (O.objs k),.row i.size (sLen+n2) (Qn sLen f1 f2)⟩⟩ a w' /\
        RelV A (Bm O.objs k ⟨Bt (O.objs k),.row i.size (sLen+n2) (Qn sLen f1 f2)⟩) (Ap cx.Av A (Bm O.objs k ⟨Bt (O.objs k),.row i.size (sLen+n2) (Qn sLen f1 f2)⟩) w') w' v (.own k (Bt (O.objs k)) 0 (sLen+n2)):=by
      intro k old sLen sCap base f1 hol holdrun hf1 hgt hby E
      have hsmall:sLen+n2<=140737488355328:=H9 (Nat.le_mul_of_pos_right _ ebpos) hby
      have hcapge:=grownCap_ge w (sLen+n2) sCap e
      have hr:=Ars (P:=P) (w:=w) (ty:=ty) hu I hizero (base:=base) (sLen:=sLen) (sCap:=sCap) (n:=n2) (x:=a.eval ox) (old:=old) (src:=src)
       (L w) (by rw[B];exact holdrun w.drew rfl) (by rw[B];exact Q w.drew rfl) hgt (by omega) (by rw[hib];exact growslice_fits hgt hby)
      obtain⟨r1,r2⟩:=h.newRow k i.size (sLen+n2) (grownCap w (sLen+n2) sCap e) (old.toArray++src.toArray++Builtin.zeroCells z.cells (grownCap w (sLen+n2) sCap e-(sLen+n2))) e (Qn sLen f1 f2) w.drew
       ⟨rfl,rfl,rfl,rfl⟩ E hcapge (by
        simp only[Array.size_append,List.size_toArray,AqR,hzs,hol,hsl];rw[<-D2,<-D2];apply C5
        omega) (fun j hj=>by
        by_cases hjl:j<sLen
        ·have K:Nat.blt j sLen=true:=F1 hjl;simp only[Qn,K,cond_true];obtain⟨q1,X⟩:=hf1 j hjl;refine⟨q1,fun q x hx=>?_⟩;obtain⟨u,u1,u2,u3⟩:=X q x hx;refine⟨u,?_,u2,u3⟩;have hul:=(A9.1 u1).1;rw[F7 (by simp;omega),F7 (by simpa using hul)];simpa using u1
        ·have K:Nat.blt j sLen=false:=by
          cases H:Nat.blt j sLen with
          |false=>rfl
          |true=>exact absurd (A8 H) hjl
         simp only[Qn,K,cond_false];obtain⟨q1,X⟩:=hsf (j-sLen) (by omega);refine⟨q1,fun q x hx=>?_⟩;obtain⟨u,u1,u3⟩:=X q x hx;have hul:=(A9.1 u1).1;refine⟨u,?_,M u (B3 u1),u3⟩;have e1:j*i.size=sLen*i.size+(j-sLen)*i.size:=by rw[<-D2];congr 1;omega
         rw[F7 (by simp;omega),N5 (by simp;omega)];have e2:j*i.size+q-old.toArray.size=(j-sLen)*i.size+q:=by simp;omega
         rw[e2]
         simpa using u1)
      exact⟨_,_,_,hr,r1,r2⟩
     have empty:∀(k:Nat) (base:Option Addr) (f':Nat->List PV),(base=none\/∃b o,base=some (at_ b o))->n2=0->(1000<=k\/(O.objs k).isSome=true) ->
       ∃v w' A,(Builtin.append_ #[t,t] ty #[.slice base 0 0,a.eval ox]).run P w=.ok v w' /\
        Rel cx A ⟨O.slots,Bm O.objs k ⟨Bt (O.objs k),.row i.size (0+n2) f'⟩⟩ a w' /\
        RelV A (Bm O.objs k ⟨Bt (O.objs k),.row i.size (0+n2) f'⟩) (Ap cx.Av A (Bm O.objs k ⟨Bt (O.objs k),.row i.size (0+n2) f'⟩) w') w' v (.own k (Bt (O.objs k)) 0 (0+n2)):=by
      intro k base f' m N E;subst N;have hs0:src=[]:=C6 (by simpa using hsl);subst hs0;refine⟨.slice base 0 0,w,Hl U k .nilrow,ApN hu I (B2 _) (L w) (by rw[B];exact Q w rfl),?_,?_⟩
      ·refine h.upd1 k _ .nilrow w (fun o ho=>?_) (fun b _ H=>by simp[Loc.block]at H) (fun b _ H=>by simp[Loc.block]at H) (fun _ _ _=>rfl) (B2 _) rfl rfl rfl (fun hkm hgen=>?_) (.inl ⟨rfl,rfl⟩)
       ·rw[ho];exact⟨by simp[Bt],fun e=>by simp[Bt]at e⟩
       ·rcases E with h1|h1
        ·have:=h.mle;omega
        ·cases ho2:O.objs k with
         |none=>simp[ho2]at h1
         |some o=>simp[ho2,Bt]at hgen
      ·refine .own _ _ _ _ _ _ ⟨_,Bj _ _ _,B2 _,fun _=>?_⟩;rw[Dq];exact⟨by omega,m,rfl,rfl,by omega⟩
     have hcat0:∀f1,Qn 0 f1 f2=f2:=by
      intro f1;funext j;have:Nat.blt j 0=false:=rfl;simp[Qn,this]
     have V:∀(base:Option Addr),(base=none\/∃b o,base=some (at_ b o))->n2*i.bytes<=140737488355328 ->
       Out P cx O a (Builtin.append_ #[t,t] ty #[.slice base 0 0,a.eval ox]) w (Ta dst ob i.size n2 f2 [n2*i.bytes<=140737488355328]).1 (Ta dst ob i.size n2 f2 [n2*i.bytes<=140737488355328]).2.1:=by
      intro base m hby
      simp only[Ta,Cf,hobd]
      by_cases N:n2=0
      ·obtain⟨v,w',A,q1,X,q3⟩:=empty (key dst 0) base f2 m N (.inl (by unfold key;omega));rw[D5]at X q3;exact⟨v,w',A,q1,X,q3⟩
      ·obtain⟨v,w',A,q1,X,q3⟩:=grown (key dst 0) [] 0 0 base f2 (by simp) (fun w' _=>by
        rcases m with rfl|⟨b,o,rfl⟩<;>simp[Builtin.firstCells,loadCells,loadCellsFrom]) (fun j hj=>by omega) (by omega) (by simpa using hby) (.inl (by unfold key;omega))
       rw[D5,hcat0]at X q3;exact⟨v,w',A,q1,X,q3⟩
     split at s
     all_goals try (simp at s;done)
     ·rename_i W0 f0 hp;rw[hp]at rs;have he':=s;simp only[A1,Ta,A4]at he';obtain⟨e1,e2,rfl⟩:=he';simp[All]at ho;have rp:=rs.inv_p
      have J:a.eval os=.slice none 0 0:=by
       generalize a.eval os=v at rp
       cases rp with
       |slnil=>rfl
       |sl _ _ _ _ _ _ _ _ hfl=>exact absurd rfl hfl.1
      rw[J];have:=V none (.inl rfl) ho;simp only[A1]at s;rw[s]at this;exact this
     ·rename_i W0 f0 hp;rw[hp]at rs;have he':=s;simp only[A1,Ta,A4]at he';obtain⟨e1,e2,rfl⟩:=he';simp[All]at ho;have rp:=rs.inv_p
      have J:∃base,a.eval os=.slice base 0 0/\(base=none\/∃b o,base=some (at_ b o)):=by
       generalize a.eval os=v at rp
       cases rp with
       |slnil=>exact⟨none,rfl,.inl rfl⟩
       |sl _ _ _ cap b o _ _ hfl=>exact⟨some (at_ b o),by rw[hfl.2 rfl],.inr ⟨b,o,rfl⟩⟩
      obtain⟨base,hv,m⟩:=J;rw[hv];have:=V base m ho;simp only[A1]at s;rw[s]at this;exact this
     ·rename_i k g off len hp;rw[hp]at rs;split at s
      ·rename_i W n f hg
       cases hb2:(Nat.beq W i.size&&!(k2==some k))with
       |false=>simp only[hb2,cond_false]at s;simp at s
       |true=>
        simp only[hb2,cond_true,A1,A4]at s;simp only[A6]at hb2;have eW:=A3 hb2.1;subst eW;obtain⟨rfl,rfl,rfl⟩:=s;simp[All]at ho;have r:=hob _ _ (Gc hg);obtain⟨base,c,hv,hk⟩:=rs.inv_own;have hown:=hk.get r;obtain⟨hle,hl⟩:=hown;have hng:Bt (O.objs k)=g+1:=by rw[r];rfl
        rw[hv];have F:=grown k;have C:=empty k;rw[hng]at F C;rcases h.ob k _ r with⟨G,hn0⟩|⟨b,o,cap,cur,e',G,hheap,hcap,hnn,hrow⟩
        ·rw[G]at hl;obtain⟨hbs,rfl,rfl,rfl⟩:=hl
         by_cases N:n2=0
         ·exact C base _ hbs N (.inr (by rw[r];rfl))
         ·exact F [] 0 0 base (shF 0 f) (by simp) (fun w' _=>by
           rcases hbs with rfl|⟨b,o,rfl⟩<;>simp[Builtin.firstCells,loadCells,loadCellsFrom]) (fun j hj=>by omega) (by omega) (by simpa using ho) (.inr (by rw[r];rfl))
        ·rw[G]at hl;obtain⟨R,o',rfl,hcc,hadr⟩:=hl
         by_cases hroom:len+n2<=c
         ·by_cases hc0:c=0
          ·obtain⟨rfl,N⟩:len=0/\n2=0:=by omega
           subst hc0;exact C _ _ (.inr ⟨R,o',rfl⟩) N (.inr (by rw[r];rfl))
          ·obtain⟨rfl,rfl⟩:=hadr hc0;have hmulc:(off+c)*i.size=off*i.size+c*i.size:=D2 _ _ _;have hmull:(len+n2)*i.size<=c*i.size:=C5 _ hroom;have hmull2:(len+n2)*i.size=len*i.size+n2*i.size:=D2 _ _ _;rw[<-hcc]at hcap;have hr:=Alp (P:=P) (w:=w) (ty:=ty) hu I (b:=R) (o:=o+off*i.size) (sLen:=len) (sCap:=c) (n:=n2) (x:=a.eval ox) (src:=src) hheap (L w) (by rw[B];exact Q w rfl) M hroom (by rw[B,hsl];omega);rw[B]at hr;have hlive:=h.blk k _ R r trivial (by rw[G];rfl);refine⟨_,_,Hl U k (.row R (o+off*i.size) c),hr,?_,?_⟩
           ·refine h.upd1 k _ (.row R (o+off*i.size) c) _ (fun oo D=>?_) (fun Y _ l=>?_) (fun Y _ l=>?_) (fun Y l hne=>?_) (by simp) rfl rfl rfl (fun _ e=>by simp at e) ?_
            ·rw[r]at D;injection D with D;subst D
             exact⟨by simp,fun e=>by simp at e⟩
            ·simp[Loc.block]at l;subst l;simpa using hlive
            ·simp[Loc.block]at l;subst l;exact⟨fun hS=>hS.2.2 k _ r trivial (by rw[G];rfl),fun k' oo hne D hlv hb'=>h.inj k k' _ oo R r D trivial hlv (Ne.symm hne) (by rw[G];rfl) hb'⟩
            ·exact setRow_other w R Y _ (fun e=>hne trivial (by rw[e];rfl))
            ·have hS:∀Y,Ap cx.Av U O.objs w Y->Ap cx.Av (Hl U k (.row R (o+off*i.size) c)) (Bm O.objs k ⟨g+1,.row i.size (len+n2) (Qn len (shF off f) f2)⟩) (w.setRow R (setRange cur.toList (o+off*i.size+len*i.size) src).toArray) Y:=by
              intro Y l;refine⟨by simpa using l.1,l.2.1,fun j oo D hlv=>?_⟩
              by_cases hj:j=k
              ·subst hj;rw[Dq];have:=l.2.2 j _ r trivial;rw[G]at this;exact this
              ·rw[Lg _ _ hj];rw[Cl _ _ hj]at D;exact l.2.2 j oo D hlv
             have hwS:∀Y,Ap cx.Av U O.objs w Y->(w.setRow R (setRange cur.toList (o+off*i.size+len*i.size) src).toArray).heap[Y]?=w.heap[Y]?:=fun Y l=>setRow_other w R Y _ (fun e=>by
              subst e
              exact l.2.2 k _ r trivial (by rw[G];rfl))
             refine .inr ⟨R,o+off*i.size,c,_,e',rfl,setRow_heap w R cur _ e' _ hheap,by simp[Is];omega,hroom,fun j hj=>?_⟩;have hsrcl:o+off*i.size+len*i.size+src.length<=cur.toList.length:=by simp[hsl];omega
             by_cases hjl:j<len
             ·have K:Nat.blt j len=true:=F1 hjl;simp only[Qn,K,cond_true,AcD];obtain⟨q1,X⟩:=hrow (off+j) (by omega);refine⟨q1,fun q x hx=>?_⟩;obtain⟨u,u1,u2,u3⟩:=X q x hx;refine⟨u,?_,u2,u3.mono hS hwS⟩;have hq:q<i.size:=by rw[<-q1];exact(A9.1 hx).1
              have hm1:(j+1)*i.size<=len*i.size:=C5 _ hjl;have hm2:(j+1)*i.size=j*i.size+i.size:=H2 j i.size;simp only[F5];rw[Hr _ _ _ _ hsrcl,if_neg (by omega)];have e3:o+(off+j)*i.size+q=o+off*i.size+j*i.size+q:=by rw[D2];omega
              rw[<-e3];simpa using u1
             ·have K:Nat.blt j len=false:=by
               cases H:Nat.blt j len with
               |false=>rfl
               |true=>exact absurd (A8 H) hjl
              simp only[Qn,K,cond_false];obtain⟨q1,X⟩:=hsf (j-len) (by omega);refine⟨q1,fun q x hx=>?_⟩;obtain⟨u,u1,u3⟩:=X q x hx;have hul:=(A9.1 u1).1;refine⟨u,?_,M u (B3 u1),u3.mono hS hwS⟩;have e1:j*i.size=len*i.size+(j-len)*i.size:=by rw[<-D2];congr 1;omega
              simp only[F5];rw[Hr _ _ _ _ hsrcl,if_pos (by omega)];have e2:o+off*i.size+j*i.size+q-(o+off*i.size+len*i.size)=(j-len)*i.size+q:=by omega
              rw[e2];exact u1
           ·refine .own _ _ _ _ _ _ ⟨_,Bj _ _ _,B2 _,fun _=>?_⟩;rw[Dq];exact⟨by omega,R,o+off*i.size,rfl,by omega,fun _=>⟨rfl,by omega⟩⟩
         ·obtain⟨old,ol1,ol2,ol3,ol4,ol5⟩:=src_of (P:=P) h rs hob (W:=i.size) (n:=len) (f:=shF off f) (k2:=some k) (by simp[AhU,hg,Cr]);rw[hv]at ol3
          exact F old len c _ (shF off f) ol1 ol3 (fun j hj=>⟨(ol5 j hj).1,fun q x hx=>by
           obtain⟨u,u1,u2⟩:=(ol5 j hj).2 q x hx
           exact⟨u,u1,ol4 u (B3 u1),u2⟩⟩) (by omega) ho (.inr (by rw[r];rfl))
      ·simp at s
    ·simp at s
  ·simp at s
 ·simp at s
end
end Go.Dm

namespace Go.Dm
structure Rec where
 rs:List Nat
 ro:List Nat
 ws:List (Nat×MV)
 wo:List (Nat×Obj)
def Rx(slots:Nat->MV):List (Nat×MV)->Nat->MV
 |[]=>slots
 |(t,x)::r=>Rx (Cg slots t x) r
def Hb(Z:St)(r:Rec):St:=⟨Rx Z.slots r.ws,Cf Z.objs r.wo⟩
def OpOK(P:Program)(nt:Nat)(ops:Array Oper)(i:Nat)(r:Rec)(O:St):Prop:=
 ∀(cx:Cx P) (U:Bs) (Z:St) (a:Act) (w:World) (Q:Exit->Act->World->Prop),cx.nt=nt->Rel cx U Z a w ->
  (∀t∈r.rs,Z.slots t=O.slots t)->(∀k∈r.ro,Z.objs k=O.objs k) ->
  wpOpIn (fen cx.rd) 0 P ops Q i (fun f w'=>∃b,Rel cx b (Hb Z r) f w') a w
def Dh(O:St)(R:Nat->Rec)(S:Nat->Bool):Nat->St
 |0=>O
 |i+1=>if S i then Hb (Dh O R S i) (R i)else Dh O R S i
theorem Aoo{slots:Nat->MV}{t:Nat}:∀(ws:List (Nat×MV)),t∉ws.map (·.1)->Rx slots ws t=slots t:=by
 intro ws
 induction ws generalizing slots with
 |nil=>intro _;rfl
 |cons p r a=>
  intro h;obtain⟨u,x⟩:=p;simp at h;simp only[Rx];rw[a (by simpa using h.2)];simp[Cg,Dt h.1]
theorem Sa{objs:Ay}{t:Nat}:∀(ws:List (Nat×Obj)),t∉ws.map (·.1)->Cf objs ws t=objs t:=by
 intro ws
 induction ws generalizing objs with
 |nil=>intro _;rfl
 |cons p r a=>
  intro h;obtain⟨u,x⟩:=p;simp at h;simp only[Cf];rw[a (by simpa using h.2),Cl _ _ h.1]
theorem Aqu{slots a:Nat->MV}{t:Nat}:∀(ws:List (Nat×MV)),(t∈ws.map (·.1)\/slots t=a t)->Rx slots ws t=Rx a ws t:=by
 intro ws
 induction ws generalizing slots a with
 |nil=>intro h;simpa[Rx]using h
 |cons p r b=>
  intro h;obtain⟨u,x⟩:=p;simp only[Rx];apply b
  by_cases hu:t=u
  ·right;subst hu;simp[Cg,Cr]
  ·rcases h with h|h
   ·simp[hu]at h;left;simpa using h
   ·right;simp[Cg,Dt hu,h]
theorem ApQ{objs objs':Ay}{t:Nat}:∀(ws:List (Nat×Obj)),(t∈ws.map (·.1)\/objs t=objs' t)->Cf objs ws t=Cf objs' ws t:=by
 intro ws
 induction ws generalizing objs objs' with
 |nil=>intro h;simpa[Cf]using h
 |cons p r a=>
  intro h;obtain⟨u,x⟩:=p;simp only[Cf];apply a
  by_cases hu:t=u
  ·right;subst hu;rw[Bj,Bj]
  ·rcases h with h|h
   ·simp[hu]at h;left;simpa using h
   ·right;rw[Cl _ _ hu,Cl _ _ hu];exact h
theorem AfF{O:St}{R:Nat->Rec}{S b:Nat->Bool}{t:Nat}:∀m,(∀j,j<m->t∈(R j).ws.map (·.1)->S j=b j) ->
  (Dh O R S m).slots t=(Dh O R b m).slots t:=by
 intro m
 induction m with
 |zero=>intro _;rfl
 |succ m f=>
  intro h;have a:=f fun j g=>h j (by omega)
  simp only[Dh]
  by_cases hw:t∈(R m).ws.map (·.1)
  ·rw[h m (by omega) hw];split
   ·exact Aqu _ (.inl hw)
   ·exact a
  ·have e1:∀X:St,(Hb X (R m)).slots t=X.slots t:=fun X=>Aoo _ hw
   split<;>split<;>(try simp only[e1])<;>exact a
theorem AhE{O:St}{R:Nat->Rec}{S b:Nat->Bool}{t:Nat}:∀m,(∀j,j<m->t∈(R j).wo.map (·.1)->S j=b j) ->
  (Dh O R S m).objs t=(Dh O R b m).objs t:=by
 intro m
 induction m with
 |zero=>intro _;rfl
 |succ m f=>
  intro h;have a:=f fun j g=>h j (by omega)
  simp only[Dh]
  by_cases hw:t∈(R m).wo.map (·.1)
  ·rw[h m (by omega) hw];split
   ·exact ApQ _ (.inl hw)
   ·exact a
  ·have e1:∀X:St,(Hb X (R m)).objs t=X.objs t:=fun X=>Sa _ hw
   split<;>split<;>(try simp only[e1])<;>exact a
theorem St.ext'{x y:St}(a:∀t,x.slots t=y.slots t)(b:∀k,x.objs k=y.objs k):x=y:=by
 cases x;cases y;have e1:=funext a;have e2:=funext b;simp at e1 e2;subst e1;subst e2;rfl
theorem AcH{O:St}{R:Nat->Rec}(i:Nat):∀n,i<=n->Dh O R (fun j=>decide (j<i)) n=Dh O R (fun _=>true) i:=by
 have b:∀m,m<=i->Dh O R (fun j=>decide (j<i)) m=Dh O R (fun _=>true) m:=by
  intro m
  induction m with
  |zero=>intro _;rfl
  |succ m a=>intro h;simp[Dh,a (by omega),show m<i by omega]
 intro n f
 induction n with
 |zero=>
  have:i=0:=by omega
  subst this;rfl
 |succ n a=>
  by_cases h:i=n+1
  ·subst h;exact b _ (B2 _)
  ·simp only[Dh];rw[if_neg (by simp;omega)];exact a (by omega)
def hits(xs a:List Nat):Bool:=xs.any fun x=>a.any fun y=>Nat.beq x y
theorem Yb{xs a:List Nat}{t:Nat}(b:t∈xs)(f:t∈a):hits xs a=true:=by
 simp only[hits,F6];exact⟨t,b,t,f,Cr t⟩
def Bw{V:Type}:List (Nat×V)->List Nat
 |[]=>[]
 |(k,_)::r=>k::Bw r
theorem Cw{V:Type}(l:List (Nat×V)):Bw l=l.map (·.1):=by
 induction l with
 |nil=>rfl
 |cons p r a=>obtain⟨k,x⟩:=p;simp[Bw,a]
def clash(x y:Rec):Bool:=
 hits (Bw x.ws) y.rs||hits (Bw x.ws) (Bw y.ws)||hits x.rs (Bw y.ws) ||
 hits (Bw x.wo) y.ro||hits (Bw x.wo) (Bw y.wo)||hits x.ro (Bw y.wo)
def Ml(o:Oper):List Nat:=(o.after.toList.filter fun e=>Region.binds .any e).map (·.on)
inductive Anc (pr:Nat->List Nat) (i:Nat):Nat->Prop where
 |one (j:Nat) (h:i∈pr j):Anc pr i j
 |step (p j:Nat) (h:p∈pr j) (h':Anc pr i p):Anc pr i j
def maskOf(a:List Nat)(b:List Nat):Nat:=b.foldl (fun s p=>s ||| 2 ^ p ||| a.getD p 0) 0
def masks:List (List Nat)->List Nat->List Nat
 |[],acc=>acc
 |ps::r,acc=>masks r (acc++[maskOf acc ps])
theorem Awq(b:List Nat)(i:Nat):∀(a:List Nat) (s:Nat),(a.foldl (fun s p=>s ||| 2 ^ p ||| b.getD p 0) s).testBit i=true ->
  s.testBit i=true\/i∈a\/∃p∈a,(b.getD p 0).testBit i=true:=by
 intro a
 induction a with
 |nil=>intro s h;exact .inl h
 |cons p r g=>
  intro s h;rcases g _ h with h|h|⟨q,f,h⟩
  ·simp only[Nat.testBit_or,B7]at h;rcases h with(h|h)|h
   ·exact .inl h
   ·right;left;rw[Nat.testBit_two_pow]at h;simp at h;simp[h]
   ·exact .inr (.inr ⟨p,by simp,h⟩)
  ·exact .inr (.inl (by simp[h]))
  ·exact .inr (.inr ⟨q,by simp[f],h⟩)
theorem AwI(s:Nat->List Nat):∀(l:List (List Nat)) (a:List Nat),(∀(j:Nat) g,l[j]?=some g->s (a.length+j)=g) ->
  (∀(j i m:Nat),a[j]?=some m->m.testBit i=true->Anc s i j)->∀(j i m:Nat),(masks l a)[j]?=some m->m.testBit i=true->Anc s i j:=by
 intro l
 induction l with
 |nil=>intro a _ h;exact h
 |cons g r z=>
  intro a u h;refine z (a++[maskOf a g]) (fun j x y=>?_) (fun j i m k v=>?_)
  ·have:=u (j+1) x (by simpa using y);rw[<-this];congr 1;simp;omega
  ·by_cases hlt:j<a.length
   ·rw[C2 hlt]at k;exact h j i m k v
   ·rw[B9 (by omega)]at k
    cases t:j-a.length with
    |zero=>
     simp[t]at k;subst k;have q:j=a.length:=by omega
     subst q;have f:=u 0 g rfl;simp only[K0]at f;rcases Awq a i g 0 v with b|b|⟨p,n,b⟩
     ·simp at b
     ·exact .one _ (by rw[f];exact b)
     ·refine .step p _ (by rw[f];exact n) ?_
      cases o:a[p]? with
      |none=>simp[o]at b
      |some mm=>simp[o]at b;exact h p i mm o b
    |succ d=>simp[t]at k
def Aqb(x:Rec)(m:Nat):List Rec->Nat->Bool
 |[],_=>true
 |y::r,i=>(m.testBit i||!(clash y x))&&Aqb x m r (i+1)
def indep:List Rec->List Rec->List Nat->Bool
 |_,[],_=>true
 |done,x::r,m::ms=>Aqb x m done 0&&indep (done++[x]) r ms
 |_,_::_,[]=>false
theorem Aws{x:Rec}{m:Nat}:∀(l:List Rec) (s:Nat),Aqb x m l s=true->∀(i:Nat) y,l[i]?=some y->m.testBit (s+i)=true\/clash y x=false:=by
 intro l
 induction l with
 |nil=>intro s _ i y h;simp at h
 |cons z r b=>
  intro s h i y a;simp only[Aqb,A6,B7,D7]at h
  cases i with
  |zero=>simp at a;subst a;exact h.1
  |succ i=>
   have:=b (s+1) h.2 i y (by simpa using a)
   rwa [show s+1+i=s+(i+1) by omega]at this
theorem AwQ:∀(l done:List Rec) (a:List Nat),indep done l a=true ->
  ∀(i j:Nat) x y m,i<done.length+j->(done++l)[i]?=some y->l[j]?=some x->a[j]?=some m->m.testBit i=true\/clash y x=false:=by
 intro l
 induction l with
 |nil=>intro done a _ i j x y m _ _ b;simp at b
 |cons z r n=>
  intro done a h i j x y m k f b g
  cases a with
  |nil=>simp[indep]at h
  |cons o a=>
   simp only[indep,A6]at h
   cases j with
   |zero=>
    simp at b g;subst b;subst g;rw[C2 (by omega)]at f;have:=Aws done 0 h.1 i y f
    simpa using this
   |succ j=>
    refine n (done++[z]) a h.2 i j x y m (by simp;omega) ?_ (by simpa using b) (by simpa using g);simpa using f
theorem indep_len:∀(l done:List Rec) (a:List Nat),indep done l a=true->l.length<=a.length:=by
 intro l
 induction l with
 |nil=>intro done a _;simp
 |cons z r b=>
  intro done a h
  cases a with
  |nil=>simp[indep]at h
  |cons f a=>
   simp only[indep,A6]at h;have:=b _ _ h.2;simp;omega
section
variable {P:Program} {nt:Nat} {ops:Array Oper}
def Pr(ops:Array Oper)(j:Nat):List Nat:=((ops[j]?).map Ml).getD []
theorem Anc.closed{f:Nat->List Nat}{L:Nat->Bool}(a:∀j,L j=true->∀p∈f j,L p=true){i j:Nat}(h:Anc f i j):L j=true->L i=true:=by
 induction h with
 |one j h=>intro b;exact a j b _ h
 |step p j h _ g=>intro b;exact g (a j b p h)
theorem Anc.ready{b:Nat->List Nat}{L:Nat->Bool}(a:∀j,L j=true->∀p∈b j,L p=true){i j:Nat}(h:Anc b i j)(f:∀p∈b j,L p=true):L i=true:=by
 cases h with
 |one _ h=>exact f i h
 |step p _ h h'=>exact h'.closed a (f p h)
theorem Awm(L:Nat->Bool)(i:Nat)(hi:L i=false):∀(l:List Nat),i∈l->l.countP (fun j=>!(L j||decide (j=i)))<l.countP (fun j=>!L j):=by
 have a:∀r:List Nat,r.countP (fun j=>!(L j||decide (j=i)))<=r.countP (fun j=>!L j):=fun r=>
  List.countP_mono_left fun j _ f=>by
   simp only[Bool.not_or,A6]at f;exact f.1
 intro l
 induction l with
 |nil=>intro h;simp at h
 |cons x r b=>
  intro g;simp only[List.countP_cons]
  by_cases hxi:x=i
  ·subst hxi;have:=a r;simp only[hi,E8,decide_true,B4,G6,if_true];simp;simp at this;omega
  ·have k:=b (by simpa[Ne.symm hxi]using g);simp only[hxi,decide_false,Bool.or_false];omega
def cnt(n:Nat)(L:Nat->Bool):Nat:=(List.range n).countP fun i=>!L i
theorem wpAny_run{Q:Exit->Act->World->Prop}{cx:Cx P}(V:cx.nt=nt)(O:St)(R:Nat->Rec)
  (hop:∀i,i<ops.size->OpOK P nt ops i (R i) (Dh O R (fun _=>true) i))
  (z:∀i j,i<j->j<ops.size->Anc (Pr ops) i j\/clash (R i) (R j)=false)
  (C:∀j,j<ops.size->∀p∈Pr ops j,p<j)
  (hQ:∀U a w,Rel cx U (Dh O R (fun _=>true) ops.size) a w->Q .normal a w):
  ∀(fuel:Nat) (listed:Array Bool) (U:Bs) (a:Act) (w:World),listed.size=ops.size->cnt ops.size (fun i=>listed.getD i false)<=fuel ->
   (∀j,listed.getD j false=true->∀p∈Pr ops j,listed.getD p false=true) ->
   Rel cx U (Dh O R (fun i=>listed.getD i false) ops.size) a w->wpAnyIn (fen cx.rd) 0 P .any ops Q fuel listed a w:=by
 have u:∀(listed:Array Bool) U a w,listed.size=ops.size->Region.ready .any ops listed=[] ->
   Rel cx U (Dh O R (fun i=>listed.getD i false) ops.size) a w->Q .normal a w:=by
  intro listed U a w q H g
  have A:∀i,i<ops.size->listed.getD i false=true:=by
   intro i
   induction i using Nat.strongRecOn with
   |_ i Y=>
    intro hi
    cases W:listed.getD i false with
    |true=>rfl
    |false=>
     have B:i∈Region.ready .any ops listed:=by
      simp only[Region.ready,C1,F8,A6,D7];refine⟨hi,?_,?_⟩
      ·have:i<listed.size:=by omega
       rw[A5]at W ⊢;simp[this]at W ⊢;exact W
      ·have K:ops[i]?=some ops[i]:=C4 hi;rw[K];simp only[E0,E1];rw[<-O1,B6];intro e X
       cases N:Region.binds .any e with
       |false=>simp
       |true=>
        simp only[B4,E8]
        have F:e.on∈Pr ops i:=by
         simp only[Pr,K,E0,E1,Ml,B8,C1];exact⟨e,⟨X,N⟩,rfl⟩
        have n:=C i hi _ F;exact Y e.on n (by omega)
     rw[H]at B;simp at B
  have:Dh O R (fun i=>listed.getD i false) ops.size=Dh O R (fun _=>true) ops.size:=by
   apply St.ext'
   ·intro t;exact AfF _ fun j f _=>A j f
   ·intro t;exact AhE _ fun j f _=>A j f
  rw[this]at g;exact hQ U a w g
 intro fuel
 induction fuel with
 |zero=>
  intro listed U a w q hc y g
  have H:Region.ready .any ops listed=[]:=by
   cases hh:Region.ready .any ops listed with
   |nil=>rfl
   |cons i r=>
    have hi:i∈Region.ready .any ops listed:=by rw[hh];simp
    simp only[Region.ready,C1,F8,A6,D7]at hi
    have:0<cnt ops.size (fun i=>listed.getD i false):=by
     rw[cnt,List.countP_pos_iff];refine⟨i,F8.2 hi.1,?_⟩;have o:=hi.2.1;have:i<listed.size:=by omega
     rw[A5]at o ⊢;simp[this]at o ⊢;exact o
    omega
  exact⟨H,u listed U a w q H g⟩
 |succ fuel Y=>
  intro listed U a w q hc y g;refine⟨fun H=>u listed U a w q H g,fun i hi=>?_⟩;simp only[Region.ready,C1,F8,A6,D7]at hi;obtain⟨x,G,v⟩:=hi;have M:i<listed.size:=by omega
  have s:listed.getD i false=false:=by
   rw[A5]at G ⊢;simp[M]at G ⊢;exact G
  have l:∀p∈Pr ops i,listed.getD p false=true:=by
   intro p F;have K:ops[i]?=some ops[i]:=C4 x;rw[K]at v;simp only[E0,E1]at v;rw[<-O1,B6]at v;simp only[Pr,K,E0,E1,Ml,B8,C1]at F;obtain⟨e,⟨X,N⟩,rfl⟩:=F;have:=v e X;rw[N]at this;simpa using this
  have k:∀j,j<ops.size->(j<i->clash (R j) (R i)=true)->(i<j->clash (R i) (R j)=true)->listed.getD j false=decide (j<i):=by
   intro j f D o;rcases Nat.lt_trichotomy j i with n|T|J
   ·rcases z j i n x with h|h
    ·simp only[n,decide_true];exact h.ready y l
    ·rw[D n]at h;simp at h
   ·subst T;simp[s]
   ·have hd:decide (j<i)=false:=by simp;omega
    rw[hd];rcases z i j J f with h|h
    ·cases hlj:listed.getD j false with
     |false=>rfl
     |true=>
      have:=h.closed (L:=fun i=>listed.getD i false) y hlj;simp only[s]at this;exact absurd this (by simp)
    ·rw[o J]at h;simp at h
  have m:∀j,(listed.setIfInBounds i true).getD j false=(listed.getD j false||decide (j=i)):=by
   intro j
   by_cases hji:j=i
   ·subst hji;simp[A5,M]
   ·simp[A5,D3 (Ne.symm hji),hji]
  refine wpOpIn_mono ?_ (hop i x cx U _ a w Q V g ?_ ?_)
  ·rintro a' w' ⟨β',E⟩;refine Y (listed.setIfInBounds i true) β' a' w' (by simpa using q) ?_ ?_ ?_
   ·have n:cnt ops.size (fun j=>(listed.setIfInBounds i true).getD j false)<cnt ops.size (fun j=>listed.getD j false):=by
     simp only[cnt,m];exact Awm (fun j=>listed.getD j false) i s _ (F8.2 x)
    omega
   ·intro j f p F;rw[m]at f ⊢;simp only[B7,decide_eq_true_eq]at f ⊢;rcases f with f|f
    ·exact .inl (y j f p F)
    ·subst f;exact .inl (l p F)
   ·have:Dh O R (fun j=>(listed.setIfInBounds i true).getD j false) ops.size=Hb (Dh O R (fun j=>listed.getD j false) ops.size) (R i):=by
     apply St.ext'
     ·intro t
      by_cases hw:t∈(R i).ws.map (·.1)
      ·have e1:(Dh O R (fun j=>(listed.setIfInBounds i true).getD j false) ops.size).slots t=(Dh O R (fun j=>decide (j<i+1)) ops.size).slots t:=by
        apply AfF;intro j f b
        rw[m,k j f (fun _=>by simp only[clash,B7];exact .inl (.inl (.inl (.inl (.inr (Yb (t:=t) (by rw[Cw];exact b) (by rw[Cw];exact hw)))))))
         (fun _=>by simp only[clash,B7];exact .inl (.inl (.inl (.inl (.inr (Yb (t:=t) (by rw[Cw];exact hw) (by rw[Cw];exact b)))))))]
        by_cases D:j<i
        ·simp[D];omega
        ·by_cases o:j=i
         ·simp[o]
         ·simp[D,o];omega
       rw[e1,AcH (i+1) _ (by omega)];simp only[Dh,if_true,Hb];exact Aqu _ (.inl hw)
      ·rw[show(Hb (Dh O R (fun j=>listed.getD j false) ops.size) (R i)).slots t=(Dh O R (fun j=>listed.getD j false) ops.size).slots t from Aoo _ hw];apply AfF;intro j f b;have:j≠i:=fun e=>hw (e▸b)
       rw[m];simp[this]
     ·intro t
      by_cases hw:t∈(R i).wo.map (·.1)
      ·have e1:(Dh O R (fun j=>(listed.setIfInBounds i true).getD j false) ops.size).objs t=(Dh O R (fun j=>decide (j<i+1)) ops.size).objs t:=by
        apply AhE;intro j f b
        rw[m,k j f (fun _=>by simp only[clash,B7];exact .inl (.inr (Yb (t:=t) (by rw[Cw];exact b) (by rw[Cw];exact hw))))
         (fun _=>by simp only[clash,B7];exact .inl (.inr (Yb (t:=t) (by rw[Cw];exact hw) (by rw[Cw];exact b))))]
        by_cases D:j<i
        ·simp[D];omega
        ·by_cases o:j=i
         ·simp[o]
         ·simp[D,o];omega
       rw[e1,AcH (i+1) _ (by omega)];simp only[Dh,if_true,Hb];exact ApQ _ (.inl hw)
      ·rw[show(Hb (Dh O R (fun j=>listed.getD j false) ops.size) (R i)).objs t=(Dh O R (fun j=>listed.getD j false) ops.size).objs t from Sa _ hw];apply AhE;intro j f b;have:j≠i:=fun e=>hw (e▸b)
       rw[m];simp[this]
    rw[this];exact E
  ·intro t I;rw[<-AcH i ops.size (by omega)];apply AfF;intro j f b
   exact k j f (fun _=>by simp only[clash,B7];exact .inl (.inl (.inl (.inl (.inl (Yb (t:=t) (by rw[Cw];exact b) I))))))
    (fun _=>by simp only[clash,B7];exact .inl (.inl (.inl (.inr (Yb (t:=t) I (by rw[Cw];exact b))))))
  ·intro t I;rw[<-AcH i ops.size (by omega)];apply AhE;intro j f b
   exact k j f (fun _=>by simp only[clash,B7];exact .inl (.inl (.inr (Yb (t:=t) (by rw[Cw];exact b) I))))
    (fun _=>by simp only[clash,B7];exact .inr (Yb (t:=t) I (by rw[Cw];exact b)))
end
end Go.Dm

namespace Go.Dm
section
variable {P:Program} {T:Ty} {cx:Cx P} {U:Bs} {O:St} {a:Act} {w:World}
theorem Rb(h l:Nat):Cq h l=h-l:=by
 unfold Cq
 cases e:Nat.beq l 0 with
 |true=>have:=A3 e;simp[this]
 |false=>rfl
theorem Ft{k:IntKind}{z:Int}{y:Nat}{c:BoundsCode}(f:0<=z)(b:z<=(y:Int)):(Instr.sliceBound (.int k z) y c).run P w=.ok z.toNat w:=by
 simp[Instr.sliceBound,asIntOf,f,b]
def bndOK(v:Option Value)(z:Option Int):Prop:=(v=none/\z=none)\/∃k n,v=some (.int k n)/\z=some n
theorem Xe{b:Bool}{len cap:Nat}{lo hi:Option Value}{i g:Option Int}(n:bndOK lo i)(o:bndOK hi g)
  (f:0<=i.getD 0) (h:i.getD 0<=g.getD len) (j:g.getD len<=(len:Int)) (r:len<=cap):
  (Instr.sliceBounds b len cap lo hi none).run P w=.ok ((i.getD 0).toNat,(g.getD len).toNat,cap) w:=by
 rcases o with⟨rfl,rfl⟩|⟨kh,m,rfl,rfl⟩
 ·rcases n with⟨rfl,rfl⟩|⟨kl,l,rfl,rfl⟩
  ·simp[Instr.sliceBounds]
  ·simp only[E1,O3]at f h j ⊢;simp[Instr.sliceBounds,Ft f h]
 ·rcases n with⟨rfl,rfl⟩|⟨kl,l,rfl,rfl⟩
  ·simp only[E1,O3]at f h j ⊢;simp[Instr.sliceBounds,Ft (P:=P) (w:=w) (k:=kh) (y:=cap) (show(0:Int)<=m by omega) (by omega)]
  ·simp only[E1]at f h j ⊢;have q:(Instr.sliceBound (.int kl l) m.toNat .sliceB).run P w=.ok l.toNat w:=Ft f (by omega);simp[Instr.sliceBounds,Ft (P:=P) (w:=w) (k:=kh) (y:=cap) (show(0:Int)<=m by omega) (by omega),q]
theorem Rep.slW{S:Nat->Prop}{w:World}{v:Value}{fl:Fl}{W n:Nat}{f:Nat->List PV}(h:Rep S w v (.sl fl W 0 f)):Rep S w v (.sl fl n 0 f):=by
 cases h with
 |slnil _ _ _ h=>exact .slnil _ _ _ h
 |sl _ _ _ cap b o _ c k g m l s r q=>exact .sl _ _ _ _ _ _ _ c k g m (fun i hi=>by omega) (fun i j hi=>by omega) (fun i j hi=>by omega) (fun i j x hi=>by omega)
theorem AhY(X:Ip P T)(h:Rel cx U O a w){t:Nat}{ox:Operand}(hx:Au ox=true){lo hi:Option Value}{Q L:Option Int}(hl:bndOK lo Q)(hh:bndOK hi L)
  {y:MV} {wo obl} {ob:Nat->Option Obj} (hob:∀k o,ob k=some o->O.objs k=some o) (z:Of T t ob (ev O ox) Q L=some (y,wo,obl)) (M:All obl):Out P cx O a (Instr.sliceAt t (a.eval ox) lo hi none) w y wo:=by
 have J:=Bi h ox hx;unfold Of at z;split at z
 ·rename_i s1 s2 s3 s4 s B hp;have G:=(X t _ B).str rfl;simp only[A1,A4]at z;obtain⟨rfl,rfl,rfl⟩:=z;simp only[All,and_true]at M;obtain⟨N,I,E⟩:=M;rw[hp]at J;obtain⟨ex,_⟩:=J.inv_v;refine AxP h (v:=.string (s.extract (Q.getD 0).toNat (L.getD s.size).toNat)) ?_ (.mk_v rfl);rw[ex];simp only[Instr.sliceAt,Sem.run_bind,run_underlying G,Result.andThen_ok,Instr.slice];simp[Xe (P:=P) (w:=w) (b:=false) (cap:=s.size) hl hh N I E (B2 _)]
 ·rename_i e s1 s2 s3 s4 fl W n f B hp;have G:=(X t _ B).slice rfl;split at z
  ·rename_i i K;have hF:=X e i K
   cases H:(Nat.beq W i.size||Nat.beq n 0)with
   |false=>simp[H]at z
   |true=>
    simp only[H,cond_true,A1,A4]at z;obtain⟨rfl,rfl,rfl⟩:=z;simp only[All,and_true]at M;obtain⟨N,I,E⟩:=M;rw[hp]at J
    obtain⟨W',eW,rp⟩:∃W',W'=i.size/\Rep (Ap cx.Av U O.objs w) w (a.eval ox) (.sl fl W' n f):=by
     rcases(B7 _ _).mp H with q|q
     ·exact⟨W,A3 q,J.inv_p⟩
     ·have q:=A3 q;subst q;exact⟨i.size,rfl,Rep.slW J.inv_p⟩
    rw[<-eW];rw[Rb];generalize a.eval ox=v at rp
    cases rp with
    |slnil _ _ _ hf=>
     have e0:((0:Nat):Int)=0:=rfl;rw[e0]at I E ⊢;have e1:(Q.getD 0).toNat=0:=by omega
     have e2:(L.getD 0).toNat=0:=by omega
     refine AxP h (v:=.slice none 0 0) ?_ ?_
     ·simp only[Instr.sliceAt,Sem.run_bind,run_underlying G,Result.andThen_ok,Instr.slice];have:=Xe (P:=P) (w:=w) (b:=true) (len:=0) (cap:=0) hl hh N (by rw[e0];exact I) (by rw[e0];exact E) (B2 _);rw[this,e0];simp[hF.sizeOf,e1,e2]
     ·rw[e1,e2]
      exact .p _ _ (.slnil _ _ _ (by simp))
    |sl _ _ _ cap b o _ c hfl C hs R hc V hr=>
     have m:=Xe (P:=P) (w:=w) (b:=true) (len:=n) (cap:=cap) hl hh N I E C;generalize hL:(Q.getD 0).toNat=l at m ⊢;generalize hH:(L.getD (n:Int)).toNat=r at m ⊢;have hlh:l<=r:=by omega
     have hhn:r<=n:=by omega
     by_cases hcl:cap=l
     ·-- nothing is left of it
      have hz:r-l=0:=by omega
      refine AxP h (v:=.slice (some (at_ b o)) (r-l) (cap-l)) ?_ ?_
      ·simp only[Instr.sliceAt,Sem.run_bind,run_underlying G,Result.andThen_ok,Instr.slice];rw[m];simp[hF.sizeOf,hcl]
      ·rw[hz];exact .p _ _ (.sl _ _ _ _ _ _ _ (fun _ _=>undef) (by simp) (L4 _) (fun e=>absurd rfl e) (fun i hi=>by omega) (fun i j hi=>by omega) (fun i j hi=>by omega) (fun i j x hi=>by omega))
     ·refine AxP h (v:=.slice (some (at_ b (o+l*W'))) (r-l) (cap-l)) ?_ ?_
      ·simp only[Instr.sliceAt,Sem.run_bind,run_underlying G,Result.andThen_ok,Instr.slice];rw[m];simp[hF.sizeOf,hcl,at_,Addr.add_lit,eW]
      ·refine .p _ _ (.sl _ _ _ _ _ _ _ (fun i j=>c (l+i) j) (by simp) (by omega) (fun hn=>hs (by omega)) (fun i hi=>?_) (fun i j hi hj=>?_) (fun i j hi hj=>V _ _ (by omega) hj) (fun i j x hi hx=>?_))
       ·rw[AcD];exact R _ (by omega)
       ·have:=hc (l+i) j (by omega) hj;rw[<-this];congr 2;rw[D2];omega
       ·rw[AcD]at hx;exact hr _ _ _ (by omega) hx
  ·simp at z
 ·rename_i e s1 s2 s3 s4 k g off len B hp;have G:=(X t _ B).slice rfl;split at z
  ·rename_i i W n f K hg;have hF:=X e i K
   cases H:Nat.beq W i.size with
   |false=>simp[H]at z
   |true=>
   have eW:=A3 H;simp only[H,cond_true,A1,A4]at z;obtain⟨rfl,rfl,rfl⟩:=z;simp only[All,and_true]at M;obtain⟨N,I,E⟩:=M;rw[hp]at J;obtain⟨base,c,hv,hk⟩:=J.inv_own;have F:=hob _ _ (Gc hg);obtain⟨hle,u⟩:=hk.get F;have D:=h.ob k _ F;rw[Rb,Za,hv]
   have hlc:len<=c:=by
    rcases D with⟨A,hn0⟩|⟨b,o,cap,cur,e',A,hheap,C,hnn,_⟩
    ·rw[A]at u;have:=u.2;omega
    ·rw[A]at u;obtain⟨b',o',_,hcc,_⟩:=u;omega
   have m:=Xe (P:=P) (w:=w) (b:=true) (len:=len) (cap:=c) hl hh N I E hlc;generalize hL:(Q.getD 0).toNat=l at m ⊢;generalize hH:(L.getD (len:Int)).toNat=r at m ⊢;have hlh:l<=r:=by omega
   have hhn:r<=len:=by omega
   refine AxP h (v:=.slice (if c=l then base else base.map (·.add (l*i.size))) (r-l) (c-l)) ?_ (.own _ _ _ _ _ _ ⟨_,F,B2 _,fun _=>⟨by omega,?_⟩⟩)
   ·simp only[Instr.sliceAt,Sem.run_bind,run_underlying G,Result.andThen_ok,Instr.slice];rw[m];simp[hF.sizeOf]
   ·rcases D with⟨A,hn0⟩|⟨b,o,cap,cur,e',A,hheap,C,hnn,_⟩
    ·rw[A]at u ⊢;obtain⟨hb,rfl,rfl,rfl⟩:=u;refine⟨?_,by omega,by omega,by omega⟩;have:l=0:=by omega
     subst this;simpa using hb
    ·rw[A]at u ⊢;obtain⟨b',o',hb,hcc,Y⟩:=u;subst hb
     by_cases hcl:c=l
     ·rw[if_pos hcl];exact⟨b',o',rfl,by omega,fun hne=>by omega⟩
     ·rw[if_neg hcl];refine⟨b',o'+l*i.size,by simp[at_,Addr.add_lit],by omega,fun hne=>?_⟩;obtain⟨q1,q2⟩:=Y (by omega);exact⟨q1,by rw[q2,D2,eW];omega⟩
  ·simp at z
 ·simp at z
theorem Axj(r:Ip P T)(h:Rel cx U O a w){t:Nat}{ox:Operand}(G:Au ox=true){k1 k2:IntKind}
  {y:MV} {wo obl} (k:Ul T t (ev O ox)=some (y,wo,obl)):Out P cx O a (Instr.sliceAt t (a.eval ox) none (some (.int k1 0)) (some (.int k2 0))) w y wo:=by
 have B:=Bi h ox G;unfold Ul at k;split at k
 ·rename_i e M J Q I fl W n f l E;have A:=(r t _ l).slice rfl
  cases g:Dm.assoc T e with
  |none=>simp[g]at k
  |some i=>
  simp only[g,I0,cond_true,A1,A4]at k;obtain⟨rfl,rfl,rfl⟩:=k;rw[E]at B;have m:=B.inv_p
  have q:∀len cap:Nat,(Instr.sliceBounds true len cap none (some (.int k1 0)) (some (.int k2 0))).run P w=.ok (0,0,0) w:=by
   intro len cap;have D:(Instr.sliceBound (.int k2 0) cap .slice3Acap).run P w=.ok 0 w:=Ft (J7 _) (by omega);have H:(Instr.sliceBound (.int k1 0) 0 .slice3B).run P w=.ok 0 w:=Ft (J7 _) (by omega);simp[Instr.sliceBounds,D,H]
  have z:=(r e i g).sizeOf w;generalize a.eval ox=v at m
  cases m with
  |slnil=>
   refine AxP h (v:=.slice none 0 0) ?_ (.p _ _ (.slnil _ _ _ (by simp)));simp only[Instr.sliceAt,Sem.run_bind,run_underlying A,Result.andThen_ok,Instr.slice];rw[q]
   simp[z]
  |sl _ _ _ cap b o _ c F s N u K C L=>
   refine AxP h (v:=.slice (some (at_ b o)) 0 0) ?_ (.p _ _ (.sl _ _ _ _ _ _ _ (fun _ _=>undef) (by simp) (L4 _) (fun e=>absurd rfl e) (fun i hi=>by omega) (fun i j hi=>by omega) (fun i j hi=>by omega) (fun i j x hi=>by omega)));simp only[Instr.sliceAt,Sem.run_bind,run_underlying A,Result.andThen_ok,Instr.slice];rw[q];simp[z]
 ·simp at k
def AaX(P:Program)(t:Nat):Prop:=
 P.stoodInHeld t=false/\P.eqGuardType P.depth t=false/\(P.fieldsOf t).toList.all (fun f=>f.name != "_")=true
theorem AhT{b:Nat}{i:TI}(h:TyFact P b i)(f:i.kd.agg=false){vs:Array Value}{off:Nat}{v:Value}(g:vs[off]?=some v):(part b vs off).run P w=.ok v w:=by
 simp[part,h.isAgg,f,g]
theorem Axg{l:Nat}{i:TI}(n:TyFact P l i){x y:PV}(g:Ky i.kd x=true)(j:Ky i.kd y=true){b:Bool}(f:AeK x y=some b){u v:Value}{S:Nat->Prop}
  (r:Rep S w u x) (rv:Rep S w v y) (d:Nat):(Op.equalIn (d+1) l u v).run P w=.ok b w/\i.kd.agg=false:=by
 cases r with
 |v u s=>
  cases rv with
  |v v t=>
   cases h:i.kd with
   |int k=>
    rw[h]at g j;cases u<;>simp[Ky]at g;cases v<;>simp[Ky]at j;rename_i k1 n1 k2 n2;simp only[AeK]at f;split at f
    ·rename_i m;subst m;simp at f;subst f;exact⟨run_equalIn_int w d l k1 k n1 n2 (n.int h),rfl⟩
    ·simp at f
   |str=>
    rw[h]at g j;cases u<;>simp[Ky]at g;cases v<;>simp[Ky]at j;simp[AeK]at f;subst f
    exact⟨run_equalIn_string w d l _ _ (n.str h),rfl⟩
   |bool=>
    rw[h]at g j;cases u<;>simp[Ky]at g;cases v<;>simp[Ky]at j;simp[AeK]at f;subst f;refine⟨run_equalIn_bool' w d l _ _ ?_,rfl⟩;obtain⟨q,z,o,_⟩:=n.under;rw[h]at o
    cases q<;>simp_all[Kd.of]
   |_=>rw[h]at g;simp[Ky]at g
  |_=>simp[AeK]at f
 |_=>simp[AeK]at f
theorem Amw(D:Ip P T){S:Nat->Prop}{us vs:Array Value}{A B:List PV}
  (H:∀(i:Nat) x,A[i]?=some x->∃u,us[i]?=some u/\Rep S w u x) (J:∀(i:Nat) x,B[i]?=some x->∃u,vs[i]?=some u/\Rep S w u x) (d:Nat):
  ∀(fields:List Field) (l:List (Nat×Nat)) (b:Bool),fields.map (fun f=>(f.offset,f.type))=l->fields.all (fun f=>f.name != "_")=true->eqFields T l A B=some b ->
   (Op.eqFields (d+1) us vs fields).run P w=.ok b w:=by
 intro fields
 induction fields with
 |nil=>
  intro l b h _ g;subst h;simp[eqFields]at g;subst g
  simp[Op.eqFields]
 |cons f r K=>
  intro l b h z g;subst h;simp only[L9,A6]at z;simp only[D8,eqFields]at g;split at g
  ·rename_i i x y hi I F;have t:=D _ _ hi
   cases k:(Ky i.kd x&&Ky i.kd y)with
   |false=>simp[k]at g
   |true=>
    simp only[k,cond_true]at g;simp only[A6]at k;split at g
    ·rename_i b1 c1 E C;simp at g;subst g;obtain⟨u,m,q⟩:=H _ _ I;obtain⟨v,n,s⟩:=J _ _ F;obtain⟨G,j⟩:=Axg (P:=P) (w:=w) t k.1 k.2 E q s d;have o:f.name ≠ "_" :=by simpa using z.1
     simp only[Op.eqFields,o,ne_eq,not_false_eq_true,if_true,Sem.run_bind,AhT t j m,AhT t j n,Result.andThen_ok,G]
     cases b1 with
     |false=>simp
     |true=>simpa using K _ _ rfl z.2 C
    ·simp at g
  ·simp at g
theorem snd_eq(H:Ip P T)(V:∀t i,assoc T t=some i->i.eq=true->AaX P t)(h:Rel cx U O a w){op:BinOp}{t:Nat}{ox j:Operand}(q:Au ox=true)(W:Au j=true){y:MV}{wo obl}
  (f:effEq T op t (ev O ox) (ev O j)=some (y,wo,obl)):
  Out P cx O a (do eqGuard op t ox j (a.eval ox) (a.eval j);binOp op t (a.eval ox) (a.eval j)) w y wo:=by
 have rx:=Bi h ox q;have L:=Bi h j W;unfold effEq at f;split at f
 case h_2=>simp at f
 rename_i Y s1 s2 s3 cs Q hi M N;obtain⟨e1,e2,e3⟩:=V t _ hi rfl;obtain⟨fields,G,C⟩:=(H t _ hi).struct rfl;have g:P.fieldsOf t=fields:=by simp[Program.fieldsOf,G]
 split at f
 case h_2=>simp at f
 rename_i l J F s;split at f
 case h_2=>simp at f
 rename_i b I;obtain⟨us,D,B,r⟩:=AkA rx M;obtain⟨vs,z,A,E⟩:=AkA L N
 have key:∀(us:Array Value) (cs:List MV) (l:List PV),us.size=cs.length->pures cs=some l ->
   (∀(i:Nat) y,cs[i]?=some y->RelV U O.objs (Ap cx.Av U O.objs w) w (us.getD i undef) y/\(us.getD i undef).oneCell'=true) ->
   ∀(i:Nat) x,l[i]?=some x->∃u,us[i]?=some u/\Rep (Ap cx.Av U O.objs w) w u x:=by
  intro us cs l K R X i x q;have o:=Hv R;have n:i<us.size:=by rw[K,o];simpa using(A9.1 q).1
  have:=(X i (.p x) (by rw[o,A7,q];rfl)).1.inv_p;exact⟨us[i],C4 n,by simpa[A5,n]using this⟩
 have m:=Amw (P:=P) (w:=w) H (key us cs l B F r) (key vs Q J A s E) 9998 fields.toList Y b C (by rw[<-g];exact e3) I
 have k:(Op.equalIn 10000 t (.agg us) (.agg vs)).run P w=.ok b w:=by
  rw[run_equalIn_struct w 9999 t us vs (by rw[g];exact G) e1,g];exact m
 rw[D,z];cases op<;>simp at f
 ·obtain⟨rfl,rfl,rfl⟩:=f;refine AxP h (v:=.bool b) ?_ (.mk_v rfl);rw[Sem.run_bind,run_eqGuard_agg w _ _ _ _ _ _ e2,Result.andThen_ok,run_eql_struct,k];rfl
 ·obtain⟨rfl,rfl,rfl⟩:=f;refine AxP h (v:=.bool !b) ?_ (.mk_v rfl);rw[Sem.run_bind,run_eqGuard_agg w _ _ _ _ _ _ e2,Result.andThen_ok,run_neq_struct,k];rfl
theorem AsE(d:Nat)(t e:TypeId)(b:Option Addr)(n c:Nat)(h:P.underlying t=some (.slice e)):(Op.equalIn (d+1) t (.slice b n c) (.slice none 0 0)).run P w=.ok b.isNone w:=by
 cases b<;>simp[Op.equalIn,run_underlying h]
theorem Agf(t e:TypeId)(b:Option Addr)(n c:Nat)(h:P.underlying t=some (.slice e)):(binOp .eql t (.slice b n c) (.slice none 0 0)).run P w=.ok (.bool b.isNone) w:=by
 simp only[binOp];simp[Op.equal,Op.maxDepth,AsE 9999 t e b n c h]
theorem AfX(t e:TypeId)(b:Option Addr)(n c:Nat)(h:P.underlying t=some (.slice e)):(binOp .neq t (.slice b n c) (.slice none 0 0)).run P w=.ok (.bool (!b.isNone)) w:=by
 simp only[binOp];simp[Op.equal,Op.maxDepth,AsE 9999 t e b n c h]
theorem snd_nilEq(A:Ip P T)(h:Rel cx U O a w){op:BinOp}{t:Nat}{ox j:Operand}(E:Au ox=true)(D:Au j=true){y:MV}{wo obl}
  (g:Akj T op t (ev O ox) (ev O j)=some (y,wo,obl)):
  Out P cx O a (do eqGuard op t ox j (a.eval ox) (a.eval j);binOp op t (a.eval ox) (a.eval j)) w y wo:=by
 have u:=Bi h ox E;have x:=Bi h j D;unfold Akj at g;split at g
 case h_2=>simp at g
 rename_i e H G J F fl W n f I n2 f2 hi B z;have k:=(A t _ hi).slice rfl;rw[B]at u;rw[z]at x;have i:=u.inv_p;have m:=x.inv_p
 have s:a.eval j=.slice none 0 0:=by
  generalize a.eval j=v at m
  cases m with
  |slnil=>rfl
  |sl _ _ _ _ _ _ _ _ l=>exact absurd rfl l.1
 have q:fl=.nil->a.eval ox=.slice none 0 0:=by
  intro e;subst e;generalize a.eval ox=v at i
  cases i with
  |slnil=>rfl
  |sl _ _ _ _ _ _ _ _ l=>exact absurd rfl l.1
 have o:fl=.nn->∃b n c,a.eval ox=.slice (some b) n c:=by
  intro e;subst e;generalize a.eval ox=v at i
  cases i with
  |slnil _ _ _ C=>exact absurd rfl C
  |sl=>exact⟨_,_,_,rfl⟩
 rw[s];split at g
 case h_5=>simp at g
 ·have:=q rfl;simp only[A1,A4]at g;obtain⟨rfl,rfl,rfl⟩:=g;rw[this];refine AxP h (v:=.bool true) ?_ (.mk_v rfl)
  first|(simp[eqGuard,Agf _ _ _ _ _ k];done)|(simp[eqGuard,AfX _ _ _ _ _ k];done)
 ·obtain⟨b,n,c,r⟩:=o rfl;simp only[A1,A4]at g;obtain⟨rfl,rfl,rfl⟩:=g;rw[r];refine AxP h (v:=.bool false) ?_ (.mk_v rfl)
  first|(simp[eqGuard,Agf _ _ _ _ _ k];done)|(simp[eqGuard,AfX _ _ _ _ _ k];done)
 ·have:=q rfl;simp only[A1,A4]at g;obtain⟨rfl,rfl,rfl⟩:=g;rw[this];refine AxP h (v:=.bool false) ?_ (.mk_v rfl)
  first|(simp[eqGuard,Agf _ _ _ _ _ k];done)|(simp[eqGuard,AfX _ _ _ _ _ k];done)
 ·obtain⟨b,n,c,r⟩:=o rfl;simp only[A1,A4]at g;obtain⟨rfl,rfl,rfl⟩:=g;rw[r];refine AxP h (v:=.bool true) ?_ (.mk_v rfl)
  first|(simp[eqGuard,Agf _ _ _ _ _ k];done)|(simp[eqGuard,AfX _ _ _ _ _ k];done)
theorem AwF(n:Ip P T)(h:Rel cx U O a w){op:BinOp}{t:Nat}{ox b:Operand}(x:Au ox=true)(s:Au b=true){y:MV}{wo obl}
  (f:AhK T op t (ev O ox) (ev O b)=some (y,wo,obl)):
  Out P cx O a (do eqGuard op t ox b (a.eval ox) (a.eval b);binOp op t (a.eval ox) (a.eval b)) w y wo:=by
 have k:=Bi h ox x;have l:=Bi h b s;unfold AhK at f;split at f
 case h_2=>simp at f
 rename_i C B D A p q hi r m;rw[r]at k;rw[m]at l;obtain⟨e1,j⟩:=k.inv_v;obtain⟨e2,i⟩:=l.inv_v;have o:=n t _ hi
 have u:P.underlying t=some .bool:=by
  obtain⟨z,j,i,_⟩:=o.under;cases z<;>simp[Kd.of]at i;exact j
 have g:(Op.equalIn 10000 t (.bool p) (.bool q)).run P w=.ok (p==q) w:=run_equalIn_bool' w 9999 t p q u;rw[e1,e2];cases op<;>simp at f
 ·obtain⟨rfl,rfl,rfl⟩:=f;refine AxP h (v:=.bool (p==q)) ?_ (.mk_v rfl);simp[eqGuard,binOp,Op.equal,Op.maxDepth,g]
 ·obtain⟨rfl,rfl,rfl⟩:=f;refine AxP h (v:=.bool (p !=q)) ?_ (.mk_v rfl);simp[eqGuard,binOp,Op.equal,Op.maxDepth,g,bne]
theorem snd_bin2(l:Ip P T)(m:∀t i,assoc T t=some i->i.eq=true->AaX P t)(h:Rel cx U O a w){op:BinOp}{t:Nat}{ox g:Operand}(k:Au ox=true)(j:Au g=true){y:MV}{wo obl}
  (b:Agl T op t (ev O ox) (ev O g)=some (y,wo,obl)) (n:All obl):
  Out P cx O a (do eqGuard op t ox g (a.eval ox) (a.eval g);binOp op t (a.eval ox) (a.eval g)) w y wo:=by
 unfold Agl at b;split at b
 ·rename_i e f;rw[b]at f;exact snd_bin (t2:=t) h k j f n
 ·split at b
  ·rename_i e f;rw[b]at f;exact snd_eq l m h k j f
  ·split at b
   ·rename_i e f;rw[b]at f;exact AwF l h k j f
   ·exact snd_nilEq l h k j b
theorem Rel.free(h:Rel cx U O a w)(j:World)(ob:Go.Obj)(i:j.heap=w.heap.push ob/\j.os=w.os/\j.tape=w.tape/\j.output=w.output):
  Rel cx U O a j/\∀b,Ap cx.Av U O.objs w b->Ap cx.Av U O.objs j b:=by
 have A:j.heap.size=w.heap.size+1:=by simp[i.1]
 have m:∀b,b<w.heap.size->j.heap[b]?=w.heap[b]?:=fun b g=>by
  rw[i.1];simp[F4,Nat.ne_of_lt g]
 have y:∀b,Ap cx.Av U O.objs w b->Ap cx.Av U O.objs j b:=fun b g=>⟨by have:=g.1;omega,g.2.1,g.2.2⟩
 have x:∀b,Ap cx.Av U O.objs w b->j.heap[b]?=w.heap[b]?:=fun b g=>m b g.1
 refine⟨⟨h.nd_mono x,h.sz,fun t=>(h.sl t).mono (Grows.refl _ _) y x,fun k o u=>?_,fun k o b u r g=>?_,h.inj,?_,h.avo,h.avlt,h.mle,h.oloc⟩,y⟩
 ·by_cases r:o.body.live
  ·exact(h.ob k o u).mono (Grows.refl _ _) y x fun b g=>m b (h.blk k o b u r g).1
  ·cases l:o.body with
   |dead=>trivial
   |box cs=>simp[l,Body.live]at r
   |row W n f=>simp[l,Body.live]at r
   |mp z has f=>simp[l,Body.live]at r
   |mq q=>simp[l,Body.live]at r
 ·have:=h.blk k o b u r g;exact⟨by omega,this.2⟩
 ·have s:=h.kept;exact⟨i.2.1.trans s.os,i.2.2.1.trans s.tape,i.2.2.2.trans s.output,by have:=s.size;omega,fun b g v=>(m b (D9 g s.size)).trans (s.block b g v)⟩
theorem AvM(h:Array Go.Obj)(o:Go.Obj)(f:Go.Obj->Go.Obj):(h.push o).modify h.size f=h.push (f o):=by
 apply Array.ext
 ·simp
 ·intro i g b;rw[Array.getElem_modify]
  by_cases hi:h.size=i
  ·subst hi;simp
  ·have:i<h.size:=by simp at b;omega
   simp[hi,Array.getElem_push,this]
theorem byte_get(str:ByteArray)(i:Nat)(hi:i<str.size):(str.data.map fun b=>Value.int .u8 b.toNat)[i]?=some (.int .u8 (Cb str i)):=by
 have f:i<str.data.size:=hi
 have g:str[i]?=some str.data[i]:=by
  rw[getElem?_pos str i hi];rfl
 rw[Array.getElem?_map,C4 f];simp only[E0,Cb,g,E1]
theorem snd_bytes(q:Ip P T)(h:Rel cx U O a w){s d:Nat}{z:TI}(L:assoc T s=some z){ox:Operand}(l:Au ox=true){y:MV}{wo obl}
  (g:Adv T d (ev O ox)=some (y,wo,obl)):Out P cx O a (convert s d (a.eval ox)) w y wo:=by
 have A:=Bi h ox l;obtain⟨N,r,_⟩:=(q s z L).under;unfold Adv at g;split at g
 case h_2=>simp at g
 rename_i e V Y W M str hi K;have F:=(q d _ hi).slice rfl;split at g
 case h_2=>simp at g
 rename_i q1 X R q4 m;have t:=(q e _ m).int rfl;simp only[A1,A4]at g;obtain⟨rfl,rfl,rfl⟩:=g;rw[K]at A;obtain⟨ex,_⟩:=A.inv_v;rw[ex];generalize f:grownCap w str.size 0 e=cap;generalize hcells:(str.data.map fun b=>Value.int .u8 b.toNat)++Array.replicate (cap-str.size) (Value.int .u8 0)=cells
 have C:cells.size=str.size+(cap-str.size):=by
  rw[<-hcells,Array.size_append,Array.size_map,Array.size_replicate];rfl
 obtain⟨H,r2⟩:=h.free ({w.drew with heap:=w.heap.push (.cells cells e (cells.size,cells.size+1))}) (.cells cells e (cells.size,cells.size+1)) ⟨rfl,rfl,rfl,rfl⟩;have v:str.size<=cap:=by rw[<-f];exact grownCap_ge w str.size 0 e
 refine⟨.slice (some (at_ w.heap.size 0)) str.size cap,_,U,?_,H,?_⟩
 ·simp only[convert,Sem.run_bind,run_underlying r,run_underlying F,Result.andThen_ok,run_underlying t];simp only[Conv.stringToBytes,Sem.run_bind,run_choose,Question.forced,A2,if_false,Result.andThen_ok];have I:Question.cut (.appendCap str.size 0 e) (w.tape w.drawn (.appendCap str.size 0 e))=cap:=f;rw[I,hcells];simp only[newRow,Sem.run_bind,run_newObj,Result.andThen_ok,Sem.run_pure,markStringish,run_shape];have u:World.shape? {w with heap:=w.heap.push (.cells cells e),drawn:=w.drawn+1} w.heap.size=some (e,cells.size):=by simp[World.shape?]
  rw[u];simp only[freeze,Sem.run,World.freeze,Nat.succ_ne_zero,if_false,AvM,Result.andThen_ok,beq_self_eq_true,if_true];rfl
 ·refine .p _ _ (.sl _ _ _ _ _ _ _ (fun i _=>.int .u8 (Cb str i)) (by simp) v (fun _=>⟨by simp,?_,?_⟩) (fun i hi=>rfl) (fun i j hi G=>?_) (fun i j hi G=>rfl) (fun i j x hi l=>?_))
  ·intro J;have h1:=h.avlt _ J;have Q:=h.kept.size;omega
  ·intro k o D E B;have:=(h.blk k o _ D E B).1;omega
  ·have n:j=0:=by omega
   subst n
   have:cells[i]?=some (.int .u8 (Cb str i)):=by
    rw[<-hcells,F7 (by rw[Array.size_map];exact hi)];exact byte_get str i hi
   simp[World.cell?,at_,this]
  ·cases j with
   |zero=>simp[AmC]at l;subst l;exact .v _ rfl
   |succ j=>simp[AmC]at l
theorem snd_min(h:Rel cx U O a w){mx:Bool}{ts:Array TypeId}{ty:Nat}{ox f:Operand}(o:Au ox=true)(l:Au f=true){y:MV}{wo obl}
  (b:Aet mx (ev O ox) (ev O f)=some (y,wo,obl)):Out P cx O a (if mx then Builtin.max_ ts ty #[a.eval ox,a.eval f]else Builtin.min_ ts ty #[a.eval ox,a.eval f]) w y wo:=by
 have g:=Bi h ox o;have i:=Bi h f l;unfold Aet at b;split at b
 case h_2=>simp at b
 rename_i k n t m j r;split at b
 case isFalse=>simp at b
 rename_i q;subst q;simp only[A1,A4]at b;obtain⟨rfl,rfl,rfl⟩:=b;rw[j]at g;rw[r]at i;obtain⟨ex,_⟩:=g.inv_v;obtain⟨s,_⟩:=i.inv_v;rw[ex,s]
 cases mx with
 |false=>
  refine AxP h (v:=.int k (if m<n then m else n)) ?_ (.mk_v rfl)
  simp[Builtin.min_,Builtin.min2]
 |true=>
  refine AxP h (v:=.int k (if n<m then m else n)) ?_ (.mk_v rfl);simp[Builtin.max_,Builtin.max2]
theorem inR_iff(a b j:Nat):inR a b j=true↔a<=j/\j<b:=by
 simp only[inR,A6];exact⟨fun⟨f,g⟩=>⟨A8 f,A8 g⟩,fun⟨f,g⟩=>⟨F1 f,F1 g⟩⟩
theorem Rel.overRow(h:Rel cx U O a w){k g W n:Nat}{f:Nat->List PV}(r:O.objs k=some ⟨g,.row W n f⟩){b o cap:Nat}{cur:Array Value}{e:TypeId}(D:U k=.row b o cap)
  (hheap:w.heap[b]?=some (.cells cur e (0,0))) (q:o+cap*W<=cur.size) (X:n<=cap)
  (s:∀i,i<n->(f i).length=W/\HoldsP (Ap cx.Av U O.objs w) w cur (o+i*W) (f i)) (off n2:Nat) (I:off+n2<=n) (src:List Value) (M:src.length=n2*W) (v:Nat->List PV)
  (E:∀i,i<n2->(v i).length=W/\∀(j:Nat) y,(v i)[j]?=some y->∃u,src[i*W+j]?=some u/\u.oneCell'=true/\Rep (Ap cx.Av U O.objs w) w u y):
  Rel cx U ⟨O.slots,Bm O.objs k ⟨g,.row W n (Sy f off n2 v)⟩⟩ a (w.setRow b (setRange cur.toList (o+off*W) src).toArray):=by
 have Q:(off+n2)*W<=cap*W:=C5 _ (by omega);have R:(off+n2)*W=off*W+n2*W:=D2 _ _ _;have l:o+off*W+src.length<=cur.toList.length:=by simp;omega
 refine h.inplace k g (.row W n f) (.row W n (Sy f off n2 v)) r ⟨rfl,rfl⟩ trivial b (by rw[D];rfl) cur _ e hheap ?_;intro S' objs' H V _
 have t:∀m,Ap cx.Av U O.objs w m->(w.setRow b (setRange cur.toList (o+off*W) src).toArray).heap[m]?=w.heap[m]?:=fun m F=>setRow_other w b m _ (fun e=>by
  subst e
  exact F.2.2 k _ r trivial (by rw[D];rfl))
 refine .inr ⟨b,o,cap,_,e,D,setRow_heap w b cur _ e _ hheap,by simpa[Is]using q,X,fun i hi=>?_⟩
 by_cases hin:off<=i/\i<off+n2
 ·have e1:inR off (off+n2) i=true:=(inR_iff _ _ _).2 hin;simp only[Sy,e1,cond_true];obtain⟨z,G⟩:=E (i-off) (by omega);refine⟨z,fun j x A=>?_⟩;obtain⟨u,u1,u2,C⟩:=G j x A;have K:=(A9.1 u1).1;refine⟨u,?_,u2,C.mono H t⟩;have e2:i*W=off*W+(i-off)*W:=by rw[<-D2];congr 1;omega
  simp only[F5];rw[Hr _ _ _ _ l,if_pos (by omega)];rw[<-u1];congr 1;omega
 ·have e1:inR off (off+n2) i=false:=by
   cases L:inR off (off+n2) i with
   |false=>rfl
   |true=>exact absurd ((inR_iff _ _ _).1 L) hin
  simp only[Sy,e1,cond_false];obtain⟨z,G⟩:=s i hi;refine⟨z,fun j x A=>?_⟩;obtain⟨u,u1,u2,C⟩:=G j x A;refine⟨u,?_,u2,C.mono H t⟩;have hj:j<W:=by rw[<-z];exact(A9.1 A).1
  simp only[F5];rw[Hr _ _ _ _ l,if_neg ?_]
  ·simpa using u1
  ·rcases Nat.lt_or_ge i off with B|J
   ·have N:(i+1)*W<=off*W:=C5 _ B;have Y:(i+1)*W=i*W+W:=H2 i W;omega
   ·have N:(off+n2)*W<=i*W:=C5 _ (by omega);omega
def Qy(P:Program)(T:Ty):Prop:=Ip P T/\∀t i,assoc T t=some i->i.zero.all (fun c=>c.oneCell')=true
theorem Ara(z:Array Value)(n:Nat)(b:0<z.size):(Builtin.zeroCells z n).toList=reps n z.toList:=Akl z n b
theorem snd_clear(hT:Qy P T)(h:Rel cx U O a w){t ty:Nat}{ox:Operand}(hx:Au ox=true){y:MV}{wo obl}{ob:Nat->Option Obj}
  (hob:∀k o,ob k=some o->O.objs k=some o) (x:AdA T t ob (ev O ox)=some (y,wo,obl)) (G:All obl):
  Out P cx O a (Builtin.clear_ #[t] ty #[a.eval ox]) w y wo:=by
 have rx:=Bi h ox hx;unfold AdA at x;split at x
 case h_2=>simp at x
 rename_i e s1 s2 s3 s4 k g off len hi hp;have hu:=(hT.1 t _ hi).slice rfl;split at x
 case h_2=>simp at x
 rename_i i W n f I hg;have hF:=hT.1 e i I
 cases v:(Nat.beq W i.size&&Nat.beq i.zero.length i.size&&Nat.blt 0 i.size)with
 |false=>simp only[v,cond_false]at x;simp at x
 |true=>
 simp only[v,cond_true]at x;simp only[A6]at v;have eW:=A3 v.1.1;have ez:=A3 v.1.2;have epos:0<i.size:=A8 v.2;subst eW;split at x
 case h_2=>simp at x
 rename_i F hzs;simp only[A1,A4]at x;obtain⟨rfl,rfl,rfl⟩:=x;simp only[All,and_true]at G;rw[hp]at rx;obtain⟨base,c,hv,hk⟩:=rx.inv_own;have s:=hob _ _ (Gc hg);obtain⟨hle,B⟩:=hk.get s;obtain⟨z,hz,K⟩:=hF.zeroValue w;have l:z.cells.size=i.size:=by rw[<-ez,<-K];simp
 obtain⟨z1,z2⟩:=Ahn h K (hT.2 _ _ I);have N:=Cells.of z1 z2;rw[hv];rcases h.ob k _ s with⟨r,hn0⟩|⟨b,o,cap,cur,e',r,hheap,C,V,D⟩
 ·rw[r]at B;obtain⟨X,rfl,rfl,rfl⟩:=B;subst hn0;refine⟨.tuple #[],w,U,?_,?_,.und⟩
  ·rcases X with rfl|⟨bb,oo,rfl⟩<;>simp[Builtin.clear_,run_underlying hu]
  ·have:=h.upd1 k ⟨g,.row i.size 0 (Sy f 0 0 fun _=>F)⟩ (U k) w (fun o G=>by rw[s]at G;injection G with G;subst G;exact⟨B2 _,fun _=>⟨rfl,⟨rfl,rfl⟩⟩⟩)
    (fun b _ v=>by rw[r]at v;simp[Loc.block]at v) (fun b _ v=>by rw[r]at v;simp[Loc.block]at v) (fun _ _ _=>rfl) (B2 _) rfl rfl rfl (fun _ hg0=>⟨_,s,hg0⟩) (.inl ⟨r,rfl⟩)
   rw[AeE]at this;exact this
 ·rw[r]at B;obtain⟨b',o',rfl,hcc,R⟩:=B
  have hsf:∀q,q<len->F.length=i.size/\∀(j:Nat) y,F[j]?=some y->∃u,(reps len z.cells.toList)[q*i.size+j]?=some u/\u.oneCell'=true/\Rep (Ap cx.Av U O.objs w) w u y:=by
   intro q hq;have H:=Hv hzs
   have J:F.length=i.size:=by
    have:=congrArg List.length H;simp at this;omega
   refine⟨J,fun j y hy=>?_⟩;have M:j<i.size:=by rw[<-J];exact(A9.1 hy).1
   obtain⟨u,u1,u2,u3⟩:=N.get (i:=j) (y:=.p y) (by rw[H,A7,hy];rfl);refine⟨u,?_,u2,u3.inv_p⟩;have hm1:(q+1)*i.size<=len*i.size:=C5 _ hq;have hm2:(q+1)*i.size=q*i.size+i.size:=H2 q i.size;rw[Adr _ (by simp;omega) len _ (by simp[l];omega)]
   have e3:(q*i.size+j) % z.cells.toList.length=j:=by
    simp only[K5,l];rw[M8,P0,M0 M]
   rw[e3];exact u1
  by_cases hlen0:len=0
  ·subst hlen0;have A:=h.overRow s r hheap C V D off 0 (by omega) [] (by simp) (fun _=>F) (fun i hi=>by omega);simp only[setRange]at A;rw[show cur.toList.toArray=cur by simp,setRow_self w b cur e' _ hheap]at A;refine⟨.tuple #[],w,U,by simp[Builtin.clear_,run_underlying hu],A,.und⟩
  ·obtain⟨rfl,rfl⟩:=R (by omega);have A:=h.overRow s r hheap C V D off len hle (reps len z.cells.toList) (by rw[Kj];simp[l]) (fun _=>F) hsf;have hm1:(off+len)*i.size<=cap*i.size:=C5 _ (by omega);have hm2:(off+len)*i.size=off*i.size+len*i.size:=D2 _ _ _;refine⟨.tuple #[],_,U,?_,A,.und⟩
   have L:∀u∈reps len z.cells.toList,u.oneCell'=true:=by
    intro u Y;obtain⟨j,M,rfl⟩:=D1 Y;rw[Kj]at M;have Q:=Adr z.cells.toList (by simp;omega) len j M;rw[B0 (by rw[Kj];exact M)]at Q;exact N.one _ (B3 Q.symm)
   have E:=run_storeCells_at P b' (o+off*i.size) e' (reps len z.cells.toList) 0 cur w hheap (by rw[Kj];simp[l];omega) L;simp only[K0]at E;rw[AiG _ _ _ (by rw[Kj];simp[l];omega)]at E;obtain⟨m,rfl⟩:∃m,len=m+1:=⟨len-1,by omega⟩;have hzl:(Builtin.zeroCells z.cells (m+1)).toList=reps (m+1) z.cells.toList:=Ara _ _ (by omega);simp[Builtin.clear_,run_underlying hu,hz,hzl,at_,E]
theorem AuB(a b:Nat):Qm a b=Nat.min a b:=by
 unfold Qm
 cases h:Nat.ble a b with
 |true=>
  have:=A8 h
  simp[Nat.min_eq_left this]
 |false=>
  have:¬ a<=b:=fun f=>by rw[F1 f]at h;simp at h
  simp[Nat.min_eq_right (show b<=a by omega)]
theorem snd_copy(hT:Qy P T)(h:Rel cx U O a w){t t2 ty:Nat}{ox J:Operand}(hx:Au ox=true)(hy:Au J=true){y:MV}{wo obl}{ob:Nat->Option Obj}
  (M:∀k o,ob k=some o->O.objs k=some o) (r:Agr T t ob (ev O ox) (ev O J)=some (y,wo,obl)) (H:All obl):
  Out P cx O a (Builtin.copy_ #[t,t2] ty #[a.eval ox,a.eval J]) w y wo:=by
 have rx:=Bi h ox hx;have ry:=Bi h J hy;unfold Agr at r;split at r
 case h_2=>simp at r
 rename_i e s1 s2 s3 s4 k g off len hi hp;have hu:=(hT.1 t _ hi).slice rfl;split at r
 case h_2=>simp at r
 rename_i i W n f Y hg;have hF:=hT.1 e i Y
 cases s:(Nat.beq W i.size&&Nat.blt 0 i.size)with
 |false=>simp only[s,cond_false]at r;simp at r
 |true=>
 simp only[s,cond_true]at r;simp only[A6]at s;have eW:=A3 s.1;have epos:0<i.size:=A8 s.2;subst eW;split at r
 case h_2=>simp at r
 rename_i n2 f2 k2 V;simp only[A1,A4]at r;obtain⟨rfl,rfl,rfl⟩:=r;simp only[All,and_true]at H;rw[hp]at rx;obtain⟨base,c,hv,hk⟩:=rx.inv_own;have m:=M _ _ (Gc hg);obtain⟨hle,A⟩:=hk.get m;obtain⟨z,Q⟩:=src_all (P:=P) h ry M V;have K:Qm n2 len<=n2/\Qm n2 len<=len:=by rw[AuB];exact⟨Nat.min_le_left _ _,Nat.min_le_right _ _⟩
 obtain⟨src,L,q2,q3,q4⟩:=Q (Qm n2 len) K.1;have I:(Go.sizeOf e).run P w=.ok i.size w:=hF.sizeOf w;rw[hv]
 have v:∀w',(match base with
   |some b=>(do storeCells b src.toArray.toList;pure (goInt (Qm n2 len)):Sem Value)
   |none=>pure (goInt (Qm n2 len))).run P w=.ok (goInt (Qm n2 len)) w'->(Builtin.copy_ #[t,t2] ty #[.slice base len c,a.eval J]).run P w=.ok (goInt (Qm n2 len)) w':=by
  intro w' E;have e3:=q2 w rfl;rw[AuB]at e3 E ⊢
  cases base with
  |none=>simpa[Builtin.copy_,run_underlying hu,z w,I,e3]using E
  |some b=>simpa[Builtin.copy_,run_underlying hu,z w,I,e3]using E
 rcases h.ob k _ m with⟨l,hn0⟩|⟨b,o,cap,cur,e',l,hheap,C,R,D⟩
 ·rw[l]at A;obtain⟨X,rfl,rfl,rfl⟩:=A;subst hn0;have B:Qm n2 0=0:=by omega
  have F:src=[]:=C6 (by rw[L,B];simp);refine⟨goInt (Qm n2 0),w,U,v w ?_,?_,.mk_v rfl⟩
  ·subst F;rcases X with rfl|⟨bb,oo,rfl⟩<;>simp[storeCells]
  ·have:=h.upd1 k ⟨g,.row i.size 0 (Sy f 0 (Qm n2 0) f2)⟩ (U k) w (fun o H=>by rw[m]at H;injection H with H;subst H;exact⟨B2 _,fun _=>⟨rfl,⟨rfl,rfl⟩⟩⟩)
    (fun b _ s=>by rw[l]at s;simp[Loc.block]at s) (fun b _ s=>by rw[l]at s;simp[Loc.block]at s) (fun _ _ _=>rfl) (B2 _) rfl rfl rfl (fun _ hg0=>⟨_,m,hg0⟩) (.inl ⟨l,rfl⟩)
   rw[AeE]at this;exact this
 ·rw[l]at A;obtain⟨b',o',rfl,hcc,N⟩:=A
  by_cases hlen0:len=0
  ·subst hlen0;have B:Qm n2 0=0:=by omega
   have F:src=[]:=C6 (by rw[L,B];simp);subst F;have x:=h.overRow m l hheap C R D off (Qm n2 0) (by omega) [] (by rw[B];simp) f2 (fun i hi=>by omega);simp only[setRange]at x;rw[show cur.toList.toArray=cur by simp,setRow_self w b cur e' _ hheap]at x;exact⟨goInt (Qm n2 0),w,U,v w (by simp[storeCells]),x,.mk_v rfl⟩
  ·obtain⟨rfl,rfl⟩:=N (by omega)
   have x:=h.overRow m l hheap C R D off (Qm n2 len) (by omega) src L f2 (fun j hj=>⟨(q4 j hj).1,fun q y hy=>by
    obtain⟨u,u1,u2⟩:=(q4 j hj).2 q y hy
    exact⟨u,u1,q3 u (B3 u1),u2⟩⟩)
   have hm1:(off+len)*i.size<=cap*i.size:=C5 _ (by omega);have hm2:(off+Qm n2 len)*i.size=off*i.size+Qm n2 len*i.size:=D2 _ _ _;have hm3:(off+Qm n2 len)*i.size<=(off+len)*i.size:=C5 _ (by omega);have G:=run_storeCells_at P b' (o+off*i.size) e' src 0 cur w hheap (by rw[L];omega) q3;simp only[K0]at G;rw[AiG _ _ _ (by rw[L];simp;omega)]at G;exact⟨goInt (Qm n2 len),_,U,v _ (by simp[at_,G]),x,.mk_v rfl⟩
theorem Axb(E:Ip P T)(h:Rel cx U O a w){t:Nat}{ox:Operand}(J:Au ox=true){kl kh km:IntKind}{l hi m:Int}
  {y:MV} {wo obl} {ob:Nat->Option Obj} (z:∀k o,ob k=some o->O.objs k=some o) (q:AmK T t ob (ev O ox) l hi m=some (y,wo,obl)) (C:All obl):
  Out P cx O a (Instr.sliceAt t (a.eval ox) (some (.int kl l)) (some (.int kh hi)) (some (.int km m))) w y wo:=by
 have F:=Bi h ox J;unfold AmK at q;split at q
 case h_2=>simp at q
 rename_i e s1 s2 s3 s4 k g off len x R;have I:=(E t _ x).slice rfl;split at q
 case h_2=>simp at q
 rename_i i r A L;have Q:=E e i A;simp only[A1,A4]at q;obtain⟨rfl,rfl,rfl⟩:=q;simp only[All,and_true]at C;obtain⟨h0,h1,h2,h3⟩:=C;rw[R]at F;obtain⟨base,c,K,N⟩:=F.inv_own;obtain⟨W,n,f⟩:=r;have u:=z _ _ (Gc L);obtain⟨hle,j⟩:=N.get u
 have X:len<=c:=by
  rcases h.ob k _ u with⟨s,hn0⟩|⟨b,o,cap,cur,e',s,hheap,B,Y,D⟩
  ·rw[s]at j;obtain⟨_,rfl,_,rfl⟩:=j;exact B2 _
  ·rw[s]at j;obtain⟨b',o',_,M,_⟩:=j;omega
 rw[K]
 have G:(Instr.sliceBounds true len c (some (.int kl l)) (some (.int kh hi)) (some (.int km m))).run P w=.ok (l.toNat,hi.toNat,m.toNat) w:=by
  have b1:(Instr.sliceBound (.int km m) c .slice3Acap).run P w=.ok m.toNat w:=Ft (by omega) (by omega);have V:(Instr.sliceBound (.int kh hi) m.toNat .slice3B).run P w=.ok hi.toNat w:=Ft (by omega) (by omega);have H:(Instr.sliceBound (.int kl l) hi.toNat .slice3C).run P w=.ok l.toNat w:=Ft (by omega) (by omega);simp[Instr.sliceBounds,b1,V,H]
 refine AxP h (v:=.slice (if m.toNat=l.toNat then base else base.map (·.add (l.toNat*i.size))) (hi.toNat-l.toNat) (m.toNat-l.toNat)) ?_ (.any _);simp only[Instr.sliceAt,Sem.run_bind,run_underlying I,Result.andThen_ok,Instr.slice];rw[G];simp[Q.sizeOf]
theorem Auu(hT:Ip P T)(h:Rel cx U O a w){t t2 ty:Nat}{os ox:Operand}(hs:Au os=true)(hx:Au ox=true){y:MV}{wo obl}{ob:Nat->Option Obj}
  (I:∀k o,ob k=some o->O.objs k=some o) (l:AiT T t t2 ob (ev O os) (ev O ox)=some (y,wo,obl)) (ho:All obl):
  Out P cx O a (Builtin.append_ #[t,t2] ty #[a.eval os,a.eval ox]) w y wo:=by
 have rs:=Bi h os hs;have rx:=Bi h ox hx;unfold AiT at l;split at l
 case h_2=>simp at l
 rename_i e s1 s2 s3 s4 k g off len hi hp;have hu:=(hT t _ hi).slice rfl;split at l
 case h_2=>simp at l
 rename_i i W n f N hg;have hF:=hT e i N;obtain⟨info,z,v,m,hib,M,hzc,_⟩:=hF.info
 cases D:(Nat.beq t t2&&Nat.beq W i.size&&Nat.blt 0 i.size)with
 |false=>simp only[D,cond_false]at l;simp at l
 |true=>
 simp only[D,cond_true]at l;simp only[A6]at D;have et:=A3 D.1.1;subst et;have eW:=A3 D.1.2;subst eW;split at l
 case h_2=>simp at l
 rename_i n2 f2 k2 L
 cases E:Nat.beq k2 k with
 |false=>simp only[E,cond_false]at l;simp at l
 |true=>
 simp only[E,cond_true,A1,A4]at l;obtain⟨rfl,rfl,rfl⟩:=l;simp only[All,and_true]at ho;obtain⟨Y,ho3⟩:=ho;rw[hp]at rs;obtain⟨base,c,hv,hk⟩:=rs.inv_own;have A:=I _ _ (Gc hg);obtain⟨hle,hl⟩:=hk.get A;obtain⟨src,H,B,C,r,K⟩:=src_of (P:=P) h rx I L;rw[hv];rcases h.ob k _ A with⟨s,hn0⟩|⟨b,o,cap,cur,e',s,hheap,F,X,G⟩
 ·omega
 ·rw[s]at hl;obtain⟨b',o',rfl,R,J⟩:=hl;obtain⟨rfl,rfl⟩:=J (by omega);have hmul:(off+len)*i.size=off*i.size+len*i.size:=D2 _ _ _;have hm1:(off+len+n2)*i.size<=cap*i.size:=C5 _ (by omega);have hm2:(off+len+n2)*i.size=(off+len)*i.size+n2*i.size:=D2 _ _ _
  have Q:=h.overRow A s hheap F X G (off+len) n2 Y src H f2 (fun j hj=>⟨(K j hj).1,fun q y hy=>by
   obtain⟨u,u1,u2⟩:=(K j hj).2 q y hy
   exact⟨u,u1,r u (B3 u1),u2⟩⟩)
  have V:=Alp (P:=P) (w:=w) (ty:=ty) hu v (b:=b') (o:=o+off*i.size) (sLen:=len) (sCap:=c) (n:=n2) (x:=a.eval ox) (src:=src) hheap (B w) (by rw[m];exact C w rfl) r (by omega) (by rw[m,H];omega);rw[m]at V;have ea:o+off*i.size+len*i.size=o+(off+len)*i.size:=by omega
  rw[ea]at V;refine⟨_,_,U,V,Q,.own _ _ _ _ _ _ ⟨_,Bj _ _ _,B2 _,fun _=>?_⟩⟩;rw[s];exact⟨by omega,b',o+off*i.size,rfl,R,fun _=>⟨rfl,rfl⟩⟩
theorem Avp(R:Ip P T)(h:Rel cx U O a w){t:Nat}{ox:Operand}(hx:Au ox=true){kl kh:IntKind}{z r:Int}
  {y:MV} {wo obl} {ob:Nat->Option Obj} (I:∀k o,ob k=some o->O.objs k=some o) (s:AiO T t ob (ev O ox) z r=some (y,wo,obl)) (V:All obl):
  Out P cx O a (Instr.sliceAt t (a.eval ox) (some (.int kl z)) (some (.int kh r)) none) w y wo:=by
 have X:=Bi h ox hx;unfold AiO at s;split at s
 case h_2=>simp at s
 rename_i e s1 s2 s3 s4 k g off len J hp;have hu:=(R t _ J).slice rfl;split at s
 case h_2=>simp at s
 rename_i i W n f M hg;have hF:=R e i M
 cases H:Nat.beq W i.size with
 |false=>simp[H]at s
 |true=>
 have eW:=A3 H;simp only[H,cond_true,A1,A4]at s;obtain⟨rfl,rfl,rfl⟩:=s;simp only[All,and_true]at V;obtain⟨h0,h1,Y⟩:=V;rw[hp]at X;obtain⟨base,c,hv,hk⟩:=X.inv_own;have x:=I _ _ (Gc hg);obtain⟨hle,j⟩:=hk.get x;have u:=h.ob k _ x;rw[Rb,Za,hv]
 have L:r.toNat<=c:=by
  rcases u with⟨m,Q⟩|⟨b,o,cap,cur,e',m,hheap,A,N,_⟩
  ·rw[m]at j;have:=j.2;omega
  ·rw[m]at j;obtain⟨E,K,_,G,_⟩:=j;omega
 have q:(Instr.sliceBounds true len c (some (.int kl z)) (some (.int kh r)) none).run P w=.ok (z.toNat,r.toNat,c) w:=by
  have b2:(Instr.sliceBound (.int kh r) c .sliceAcap).run P w=.ok r.toNat w:=Ft (by omega) (by omega);have b3:(Instr.sliceBound (.int kl z) r.toNat .sliceB).run P w=.ok z.toNat w:=Ft (by omega) (by omega);simp[Instr.sliceBounds,b2,b3]
 generalize hL:z.toNat=l at q ⊢;generalize hH:r.toNat=C at q L Y ⊢;have hlh:l<=C:=by omega
 refine AxP h (v:=.slice (if c=l then base else base.map (·.add (l*i.size))) (C-l) (c-l)) ?_ (.own _ _ _ _ _ _ ⟨_,x,B2 _,fun _=>⟨by omega,?_⟩⟩)
 ·simp only[Instr.sliceAt,Sem.run_bind,run_underlying hu,Result.andThen_ok,Instr.slice];rw[q];simp[hF.sizeOf]
 ·rcases u with⟨m,Q⟩|⟨b,o,cap,cur,e',m,hheap,A,N,_⟩
  ·rw[m]at j ⊢;obtain⟨F,rfl,rfl,rfl⟩:=j;refine⟨?_,by omega,by omega,by omega⟩;have:l=0:=by omega
   subst this;simpa using F
  ·rw[m]at j ⊢;obtain⟨E,K,F,G,B⟩:=j;subst F
   by_cases hcl:c=l
   ·rw[if_pos hcl];exact⟨E,K,rfl,by omega,fun D=>by omega⟩
   ·rw[if_neg hcl];refine⟨E,K+l*i.size,by simp[at_,Addr.add_lit],by omega,fun D=>?_⟩;obtain⟨q1,q2⟩:=B (by omega);exact⟨q1,by rw[q2,D2,eW];omega⟩
end
end Go.Dm

namespace Go.Dm
theorem Wm{ob:Nat->Option Obj}{k g:Nat}{z:PV}{has:Int->Bool}{f:Int->PV}(h:Om ob k g=some (z,has,f)):ob k=some ⟨g,.mp z has f⟩:=by
 unfold Om at h;split at h
 ·rename_i l m i f' j
  cases b:Nat.beq l g with
  |false=>simp[b]at h
  |true=>
   simp[b]at h;rw[j,A3 b,h.1,h.2.1,h.2.2]
 ·simp at h
section
variable {P:Program} {T:Ty} {cx:Cx P} {U:Bs} {O:St} {a:Act} {w:World}
theorem TyFact.map{t:Nat}{i:TI}{k e:Nat}(h:TyFact P t i)(b:i.kd=.map k e):P.underlying t=some (.map k e):=by
 obtain⟨d,g,f,j⟩:=h.under;rw[b]at f;cases d<;>simp_all[Kd.of]
theorem Vj(f:Ip P T){t e:Nat}(h:AfS T t=some e):∃k,P.underlying t=some (.map k e)/\P.underlying k=some (.int .i64):=by
 unfold AfS at h;split at h
 ·rename_i k o n l g i hi;split at h
  ·rename_i m r q j b;simp at h;subst h;exact⟨k,(f t _ hi).map rfl,(f k _ b).int rfl⟩
  ·simp at h
 ·simp at h
theorem Ajd(G:Qy P T){t:Nat}{z:PV}(h:AcW T t=some z){S:Nat->Prop}:∃v,(Go.zeroValue t).run P w=.ok v w/\Rep S w v z:=by
 unfold AcW at h;split at h
 case h_2=>simp at h
 rename_i i hi;have I:=G.1 t i hi;obtain⟨v,H,g,m⟩:=I.zeroValue2 w;split at h
 case h_2=>simp at h
 rename_i E A;have o:=Hv A
 have b:∀(j:Nat) y,E[j]?=some y->∃u,i.zero[j]?=some u/\Rep S w u y/\u.oneCell'=true:=by
  intro j y n;have f:(i.zero.map Ol)[j]?=some (.p y):=by rw[o,A7,n];rfl
  rw[A7]at f
  cases B:i.zero[j]? with
  |none=>simp[B]at f
  |some u=>
   simp[B]at f;have k:=G.2 t i hi;rw[B6]at k;have:=AfV (U:=fun _=>.nilrow) (objs:=fun _=>none) (S:=S) (w:=w) u;rw[f]at this;exact⟨u,rfl,this.inv_p,k u (B3 B)⟩
 have r:E.length=i.zero.length:=by
  have:=congrArg List.length o;simpa using this.symm
 refine⟨v,H,?_⟩
 cases F:i.kd.agg with
 |true=>
  rw[F]at h m;simp at h;subst h;cases v<;>simp[Agv]at m;rename_i cs;have q:cs.toList=i.zero:=g
  have l:∀(j:Nat) u,i.zero[j]?=some u->cs.getD j undef=u:=by
   intro j u D;rw[<-q]at D;have:cs[j]?=some u:=by simpa using D
   simp[A5,this]
  refine .agg _ _ (by rw[r,<-q];simp) (fun j y n=>?_) (fun j y n=>?_)
  ·obtain⟨u,f,s,x⟩:=b j y n;rw[l j u f];exact s
  ·obtain⟨u,f,s,x⟩:=b j y n
   rw[l j u f];exact x
 |false=>
  rw[F]at h m;simp only[cond_false]at h;obtain⟨u,f,s,x⟩:=b 0 z h;have C:v.cells= #[v]:=by cases v<;>simp_all[Agv,Value.cells]
  rw[C]at g;simp at g;rw[<-g]at f;simp at f;rw[f];exact s
theorem AtS(n:Int):∀(f:List MapEntry) (s:Nat),(∀e∈f,∃m,e.key=.int .i64 m) ->
  (Instr.findNow (.int .i64) (.int .i64 n) f s=some none/\∀e∈f,e.key≠.int .i64 n) \/
  ∃(j:Nat) (e:MapEntry),Instr.findNow (.int .i64) (.int .i64 n) f s=some (some (s+j,e.val))/\f[j]?=some e/\e.key=.int .i64 n:=by
 intro f
 induction f with
 |nil=>intro s _;exact .inl ⟨rfl,by simp⟩
 |cons e r u=>
  intro s h;obtain⟨m,i⟩:=h e (by simp)
  by_cases hnm:n=m
  ·subst hnm;right;exact⟨0,e,by simp[Instr.findNow,Instr.sameNow,i],rfl,i⟩
  ·have q:Instr.findNow (.int .i64) (.int .i64 n) (e::r) s=Instr.findNow (.int .i64) (.int .i64 n) r (s+1):=by
    have:(n==m)=false:=by simpa using hnm
    simp[Instr.findNow,Instr.sameNow,i,this]
   rcases u (s+1) (fun g b=>h g (by simp[b]))with⟨o,k⟩|⟨j,g,o,k,t⟩
   ·left;refine⟨by rw[q,o],fun g b=>?_⟩;rcases C0.1 b with rfl|b
    ·rw[i];intro l;injection l with _ l;exact hnm l.symm
    ·exact k g b
   ·right;exact⟨j+1,g,by rw[q,o];congr 3;omega,by simpa using k,t⟩
theorem Aab{k:Nat}(f:P.underlying k=some (.int .i64))(b:Bool)(n:Int)(d:Nat):(Instr.checkKey b (d+1) k (.int .i64 n)).run P w=.ok () w:=by
 simp[Instr.checkKey,run_underlying f]
theorem Jk{k:Nat}(f:P.underlying k=some (.int .i64))(b:Bool)(n:Int):(Instr.checkKey b 10000 k (.int .i64 n)).run P w=.ok () w:=
 Aab f b n 9999
theorem Aei{k:Nat}(t:P.underlying k=some (.int .i64)){b:Array MapEntry}{has:Int->Bool}{clock:Nat}(q:Acu b clock has)(n:Int):
  (has n=false/\(Instr.findKey k (.int .i64 n) b.toList).run P w=.ok none w) \/
  (has n=true/\∃(j:Nat) (e:MapEntry),(Instr.findKey k (.int .i64 n) b.toList).run P w=.ok (some (j,e.val)) w/\b[j]?=some e/\e.key=.int .i64 n):=by
 have f:∀e∈b.toList,∃m,e.key=.int .i64 m:=by
  intro e v;obtain⟨i,hi,rfl⟩:=D1 v;obtain⟨m,l,_⟩:=q.1 i b.toList[i] (by simp at hi ⊢);exact⟨m,l⟩
 rcases AtS n b.toList 0 f with⟨l,o⟩|⟨j,e,l,o,s⟩
 ·left;refine⟨?_,by simp[Instr.findKey,run_underlying t,l]⟩
  cases u:has n with
  |false=>rfl
  |true=>
   obtain⟨i,e,g,r⟩:=q.2.1 n u;exact absurd r (o e (by simpa using F0 g))
 ·right;have h:b[j]?=some e:=by simpa using o
  obtain⟨m,g,r⟩:=q.1 j e h;rw[s]at g;injection g with _ g
  subst g;exact⟨r,j,e,by simp[Instr.findKey,run_underlying t,l],h,s⟩
theorem AwL(hT:Qy P T)(h:Rel cx U O a w){t:Nat}{ok:Bool}{ox F:Operand}(hx:Au ox=true)(hy:Au F=true){y:MV}{wo obl}{ob:Nat->Option Obj}
  (Q:∀k o,ob k=some o->O.objs k=some o) (x:AbK T t ob ok (ev O ox) (ev O F)=some (y,wo,obl)) (ho:All obl):
  Out P cx O a (Instr.lookup t (a.eval ox) (a.eval F) ok) w y wo:=by
 have H:=Bi h ox hx;have ry:=Bi h F hy;unfold AbK at x;split at x
 case h_2=>simp at x
 rename_i e n K hq;obtain⟨k,hu,D⟩:=Vj hT.1 K;rw[hq]at ry;obtain⟨ey,_⟩:=ry.inv_v;split at x
 case h_2=>simp at x
 rename_i z0 z has f N E;simp only[A1,A4]at x;obtain⟨rfl,rfl,rfl⟩:=x;simp only[All,and_true]at ho
 obtain⟨b,m,clock,L,W,Y,M,X⟩:∃b m clock,a.eval ox=.map (some b)/\w.heap[b]?=some (.map m clock)/\Acu m clock has/\(∀n,has n=false->f n=z) /\
   ∀(i:Nat) (e:MapEntry) (n:Int),m[i]?=some e->e.key=.int .i64 n->Rep (Ap cx.Av U O.objs w) w e.val (f n):=by
  split at E
  ·rename_i k1 g R;rw[R]at H;obtain⟨b,L,I⟩:=H.inv_mref;have C:=Q _ _ (Wm E);have hl:=I.get C;obtain⟨b',m,clock,l,q1,q2,q3,q4⟩:=h.ob k1 _ C;rw[hl]at l;injection l with l
   subst l;exact⟨b,m,clock,L,q1,q2,q3,q4⟩
  ·rename_i z' has' f' R;simp at E;obtain⟨rfl,rfl,rfl⟩:=E;rw[R]at H;have rp:=H.inv_p;generalize a.eval ox=v at rp
   cases rp with
   |mp _ _ _ b clock m hs W D hz X=>exact⟨b,m,clock,rfl,W,D,hz,X⟩
  ·simp at E
 rw[L,ey];obtain⟨v0,V,A⟩:=Ajd (P:=P) (w:=w) hT N (S:=Ap cx.Av U O.objs w);have s:(getObj b).run P w=.ok (.map m clock) w:=by simp[getObj,Sem.run,W]
 have r:∀(u:Value),Rep (Ap cx.Av U O.objs w) w u (f n) ->
   RelV U O.objs (Ap cx.Av U O.objs w) w (if ok=true then .tuple #[u,.bool (has n)]else u) (bif ok then .tup [.p (f n),.p (.v (.bool (has n)))]else .p (f n)):=by
  intro u B
  cases ok with
  |false=>exact .p _ _ B
  |true=>
   refine .tup _ _ rfl (fun i q hi=>?_)
   match i,hi with
   |0,hi=>simp at hi;subst hi;exact .p _ _ B
   |1,hi=>simp at hi;subst hi;exact .mk_v rfl
   |i+2,hi=>simp at hi
 rcases Aei (P:=P) (w:=w) D Y n with⟨G,J⟩|⟨G,j,e1,J,h3,h4⟩
 ·refine AxP h ?_ (r v0 (by rw[M n G];exact ho _ _ _ A));simp[Instr.lookup,run_underlying hu,s,Jk D,J,V,G]
 ·refine AxP h ?_ (r e1.val (X j e1 n h3 h4));simp[Instr.lookup,run_underlying hu,s,Jk D,J,G]
theorem AoB(q:Qy P T)(h:Rel cx U O a w){t dst:Nat}{r:Option Value}(l:r=none\/∃k n,r=some (.int k n)){y:MV}{wo obl}{ob:Nat->Option Obj}(f:ob (key dst 0)=O.objs (key dst 0))
  (b:Rs T t dst ob=some (y,wo,obl)):Out P cx O a (Instr.makeMap t r) w y wo:=by
 unfold Rs at b;split at b
 case h_2=>simp at b
 rename_i e g;obtain⟨k,m,A⟩:=Vj q.1 g;split at b
 case h_2=>simp at b
 rename_i z C;simp only[A1,A4]at b;obtain⟨rfl,rfl,rfl⟩:=b;refine⟨.map (some w.heap.size),w.alloc (.map #[] 0),Hl U (key dst 0) (.box w.heap.size),?_,?_,?_⟩
 ·rcases l with rfl|⟨k1,n1,rfl⟩
  ·simp[Instr.makeMap]
  ·simp[Instr.makeMap,run_underlying m,asInt,asIntOf]
 ·simp only[Cf,f];refine h.fresh (key dst 0) _ (.box w.heap.size) w (.map #[] 0) ⟨rfl,rfl,rfl,rfl⟩ rfl (.inl (by unfold key;omega)) ?_;intro x s objs' B v;exact⟨w.heap.size,#[],0,rfl,heap_alloc_new w _,⟨fun i e hi=>by simp at hi,fun n o=>by simp at o,fun i j e u n hi=>by simp at hi,fun i e hi=>by simp at hi,fun i j e u hi=>by simp at hi⟩,fun _ _=>rfl,fun i e n hi=>by simp at hi⟩
 ·simp only[Cf,f];exact .mref _ _ _ ⟨_,Bj _ _ _,B2 _,fun _=>by rw[Dq]⟩
theorem AmQ{S:Nat->Prop}{objs:Ay}{v:Value}{x:MV}{p:PV}(h:RelV U objs S w v x)(b:x.whole=some p):Rep S w v p:=by
 cases h with
 |p _ _ h=>simp[MV.whole]at b;subst b;exact h
 |agg cs vs k l m=>
  simp only[MV.whole]at b;split at b
  ·rename_i n g;simp at b;subst b;have f:=Hv g;refine .agg _ _ (by rw[k,f];simp) (fun i q j=>?_) (fun i q j=>?_)
   ·exact(l i (.p q) (by rw[f,A7,j];rfl)).inv_p
   ·exact m i (.p q) (by rw[f,A7,j];rfl)
  ·simp at b
 |_=>simp[MV.whole]at b
theorem AmD(n:Int):Instr.sameBits 10000 (.int .i64 n) (.int .i64 n)=true:=by
 show Instr.sameBits (9999+1) (.int .i64 n) (.int .i64 n)=true;simp[Instr.sameBits]
theorem Aqy(hT:Qy P T)(h:Rel cx U O a w){t:Nat}{om ok R:Operand}(hm:Au om=true)(hk:Au ok=true)(hv:Au R=true){y:MV}{wo obl}{ob:Nat->Option Obj}
  (hob:∀k o,ob k=some o->O.objs k=some o) (L:Pi T t ob (ev O om) (ev O ok) (ev O R)=some (y,wo,obl)):
  ∃w' β',(Instr.mapUpdate t (a.eval om) (a.eval ok) (a.eval R)).run P w=.ok () w'/\Rel cx β' ⟨O.slots,Cf O.objs wo⟩ a w'/\y=.und:=by
 have rm:=Bi h om hm;have rk:=Bi h ok hk;have rv:=Bi h R hv;unfold Pi at L;split at L
 case h_2=>simp at L
 rename_i e q g n x hmt hpm hpk hpv;obtain⟨kt,hu,hkt⟩:=Vj hT.1 hmt;split at L
 case h_2=>simp at L
 rename_i z has f hg;simp only[A1,A4]at L;obtain⟨rfl,rfl,rfl⟩:=L;rw[hpm]at rm;rw[hpk]at rk;obtain⟨ek,_⟩:=rk.inv_v;have hrep:=AmQ rv hpv;obtain⟨b,hbv,hkn⟩:=rm.inv_mref;have I:=hob _ _ (Wm hg);have hl:=hkn.get I;obtain⟨V,J,clock,hl',hh,u,hzz,hr⟩:=h.ob q _ I;rw[hl]at hl';injection hl' with hl'
 subst hl';have hblt:b<w.heap.size:=(C3.1 hh).1;have hget:(getObj b).run P w=.ok (.map J clock) w:=by simp[getObj,Sem.run,hh]
 have hset:∀o,(setObj b o).run P w=.ok () {w with heap:=w.heap.setIfInBounds b o}:=by intro o;simp[setObj,Sem.run,hh]
 have hblk:=h.blk q _ b I trivial (by rw[hl];rfl)
 have fin:∀(M:Array MapEntry) (s:Nat),Acu M s (Bf has n true) ->
   (∀(i:Nat) (e:MapEntry) (m:Int),M[i]?=some e->e.key=.int .i64 m->Rep (Ap cx.Av U O.objs w) w e.val (Bf f n x m)) ->
   Rel cx U ⟨O.slots,Bm O.objs q ⟨g,.mp z (Bf has n true) (Bf f n x)⟩⟩ a {w with heap:=w.heap.setIfInBounds b (.map M s)}:=by
  intro M s hm' hr';have N:∀V,V≠b->(w.heap.setIfInBounds b (.map M s))[V]?=w.heap[V]?:=fun V E=>D3 (Ne.symm E)
  have key:=h.upd1 q ⟨g,.mp z (Bf has n true) (Bf f n x)⟩ (U q) {w with heap:=w.heap.setIfInBounds b (.map M s)}
   (fun o ho=>by rw[I]at ho;injection ho with ho;subst ho;exact⟨B2 _,fun _=>⟨rfl,trivial⟩⟩)
   (fun V _ r=>by rw[hl]at r;simp[Loc.block]at r;subst r;simpa using hblk)
   (fun V _ r=>by
    rw[hl]at r;simp[Loc.block]at r;subst r
    exact⟨fun hS=>hS.2.2 q _ I trivial (by rw[hl];rfl),fun k' oo E hoo hlv r=>h.inj q k' _ oo b I hoo trivial hlv (Ne.symm E) (by rw[hl];rfl) r⟩)
   (fun V r E=>N V (fun e=>E trivial (by rw[hl,e];rfl)))
   (by simp) rfl rfl rfl (fun _ hg0=>⟨_,I,hg0⟩)
  rw[AeE]at key
  refine key ⟨b,M,s,hl,by simp[hblt],hm',fun m hmf=>?_,fun i e m hi A=>(hr' i e m hi A).mono (fun V r=>⟨by simpa using r.1,r.2.1,fun j o ho hlv=>?_⟩) (fun V r=>N V (fun e=>by
    subst e
    exact r.2.2 q _ I trivial (by rw[hl];rfl)))⟩
  ·simp only[Bf]at hmf ⊢;split at hmf
   ·simp at hmf
   ·rename_i E;rw[if_neg E];exact hzz m hmf
  ·by_cases hj:j=q
   ·subst hj;exact r.2.2 j _ I trivial
   ·rw[Cl _ _ hj]at ho;exact r.2.2 j o ho hlv
 rw[hbv,ek];rcases Aei (P:=P) (w:=w) hkt u n with⟨h1,h2⟩|⟨h1,j,e1,h2,h3,h4⟩
 ·refine⟨_,U,?_,fin (J.push {key:=.int .i64 n,val:=a.eval R,born:=clock}) (clock+1) ?_ ?_,rfl⟩
  ·simp[Instr.mapUpdate,run_underlying hu,hget,Jk hkt,h2,hset]
  ·have l:∀(i:Nat) (e:MapEntry),(J.push {key:=.int .i64 n,val:=a.eval R,born:=clock})[i]?=some e->(J[i]?=some e)\/(i=J.size/\e={key:=.int .i64 n,val:=a.eval R,born:=clock}):=by
    intro i e hi;rw[F4]at hi;split at hi
    ·rename_i hie;right;exact⟨hie,by simpa using hi.symm⟩
    ·left;exact hi
   have hnk:∀(i:Nat) (e:MapEntry),J[i]?=some e->e.key≠.int .i64 n:=by
    intro i e hi hek;obtain⟨m,B,C⟩:=u.1 i e hi;rw[hek]at B;injection B with _ B
    subst B;rw[h1]at C;simp at C
   refine⟨fun i e hi=>?_,fun m F=>?_,fun i j e Q m hi hj X Y=>?_,fun i e hi=>?_,fun i j e Q hi hj L=>?_⟩
   ·rcases l i e hi with B|⟨_,rfl⟩
    ·obtain⟨m,C,h7⟩:=u.1 i e B;refine⟨m,C,?_⟩;simp only[Bf];split
     ·rfl
     ·exact h7
    ·exact⟨n,rfl,by simp[Bf]⟩
   ·simp only[Bf]at F
    by_cases G:m=n
    ·subst G;exact⟨J.size,{key:=.int .i64 m,val:=a.eval R,born:=clock},by simp,rfl⟩
    ·rw[if_neg G]at F;obtain⟨i,e,B,C⟩:=u.2.1 m F;have hlt:=(C3.1 B).1;exact⟨i,e,by rw[F4,if_neg (by omega)];exact B,C⟩
   ·rcases l i e hi with B|⟨B,rfl⟩
    ·rcases l j Q hj with C|⟨C,rfl⟩
     ·exact u.2.2.1 i j e Q m B C X Y
     ·exact absurd (by rw[X];exact Y.symm) (hnk i e B)
    ·rcases l j Q hj with C|⟨C,rfl⟩
     ·exact absurd (by rw[Y];exact X.symm) (hnk j Q C)
     ·omega
   ·rcases l i e hi with B|⟨_,rfl⟩
    ·have:=u.2.2.2.1 i e B;omega
    ·show clock<clock+1;omega
   ·rcases l i e hi with B|⟨B,rfl⟩
    ·rcases l j Q hj with C|⟨C,rfl⟩
     ·exact u.2.2.2.2 i j e Q B C L
     ·have:=u.2.2.2.1 i e B;have L:e.born=clock:=L;omega
    ·rcases l j Q hj with C|⟨C,rfl⟩
     ·have:=u.2.2.2.1 j Q C;have L:clock=Q.born:=L;omega
     ·omega
  ·intro i e m hi A;rw[F4]at hi;split at hi
   ·simp at hi;subst hi;simp only at A;injection A with _ A
    subst A;simp only[Bf,if_true];exact hrep
   ·have E:m≠n:=by
     intro G;subst G;obtain⟨m',B,C⟩:=u.1 i e hi;rw[A]at B;injection B with _ B
     subst B;rw[h1]at C;simp at C
    simp only[Bf,E,if_false];exact hr i e m hi A
 ·have hjlt:j<J.size:=(C3.1 h3).1
  have H:∀(i:Nat),(J.modify j fun e=>{e with key:=.int .i64 n,val:=a.eval R})[i]?=if i=j then some {e1 with key:=.int .i64 n,val:=a.eval R}else J[i]?:=by
   intro i;rw[K1]
   by_cases D:j=i
   ·subst D;simp[h3]
   ·have:¬ i=j:=fun e=>D e.symm
    simp[D,this]
  refine⟨_,U,?_,fin (J.modify j fun e=>{e with key:=.int .i64 n,val:=a.eval R}) clock ?_ ?_,rfl⟩
  ·have hkk:((J[j]?).map (·.key)).getD (.int .i64 n)=.int .i64 n:=by rw[h3];simp[h4]
   have hks:∀(v:Value),v=.int .i64 n->(Instr.keyThatStays v (.int .i64 n)).run P w=.ok (.int .i64 n) w:=by
    intro v hv2;subst hv2;simp[Instr.keyThatStays,AmD]
   simp[Instr.mapUpdate,run_underlying hu,hget,Jk hkt,h2,hset,hks _ hkk]
  ·have K:∀(i:Nat) (e:MapEntry),(J.modify j fun e=>{e with key:=.int .i64 n,val:=a.eval R})[i]?=some e->∃W,J[i]?=some W/\W.born=e.born:=by
    intro i e hi;rw[H i]at hi;split at hi
    ·rename_i D;simp at hi;subst hi;exact⟨e1,by rw[D];exact h3,rfl⟩
    ·exact⟨e,hi,rfl⟩
   refine⟨fun i e hi=>?_,fun m F=>?_,fun i i' e Q m hi hi' X Y=>?_,fun i e hi=>?_,fun i i' e Q hi hi' L=>?_⟩
   ·rw[H i]at hi;split at hi
    ·simp at hi;subst hi;exact⟨n,rfl,by simp[Bf]⟩
    ·obtain⟨m,C,h7⟩:=u.1 i e hi;refine⟨m,C,?_⟩;simp only[Bf];split
     ·rfl
     ·exact h7
   ·simp only[Bf]at F
    by_cases G:m=n
    ·subst G;exact⟨j,_,by rw[H j,if_pos rfl],rfl⟩
    ·rw[if_neg G]at F;obtain⟨i,e,B,C⟩:=u.2.1 m F
     have D:i≠j:=by
      intro D;subst D;rw[h3]at B;injection B with B
      subst B;rw[h4]at C;injection C with _ C
      exact G C.symm
     exact⟨i,e,by rw[H i,if_neg D];exact B,C⟩
   ·-- the keys are what they were
    have hkey:∀(i:Nat) (e:MapEntry),(J.modify j fun e=>{e with key:=.int .i64 n,val:=a.eval R})[i]?=some e->∃W,J[i]?=some W/\W.key=e.key:=by
     intro i e hi;rw[H i]at hi;split at hi
     ·rename_i D;simp at hi;subst hi;exact⟨e1,by rw[D];exact h3,h4⟩
     ·exact⟨e,hi,rfl⟩
    obtain⟨W,q1,q2⟩:=hkey i e hi;obtain⟨e0',r1,r2⟩:=hkey i' Q hi';exact u.2.2.1 i i' W e0' m q1 r1 (by rw[q2];exact X) (by rw[r2];exact Y)
   ·obtain⟨W,q1,q2⟩:=K i e hi;rw[<-q2];exact u.2.2.2.1 i W q1
   ·obtain⟨W,q1,q2⟩:=K i e hi;obtain⟨e0',r1,r2⟩:=K i' Q hi';exact u.2.2.2.2 i i' W e0' q1 r1 (by rw[q2,r2];exact L)
  ·intro i e m hi A;rw[H i]at hi;split at hi
   ·simp at hi;subst hi;simp only at A;injection A with _ A
    subst A;simp only[Bf,if_true];exact hrep
   ·rename_i D
    have E:m≠n:=by
     intro G;subst G;exact D (u.2.2.1 i j e e1 m hi h3 A h4)
    simp only[Bf,E,if_false];exact hr i e m hi A
theorem AiB(w:World)(o:Go.Obj){r:Nat}(h:r<w.heap.size):(w.alloc o).heap[r]?=w.heap[r]?:=by
 show(w.heap.push o)[r]?=_;rw[Array.getElem?_push_lt h,C4 h]
theorem AoE{ob:Nat->Option Obj}{k g:Nat}{z:PV}{has:Int->Bool}{f:Int->PV}{born:Int->Nat}{clock:Nat}(h:Aqk ob k g=some (z,has,f,born,clock)):ob k=some ⟨g,.mq (.clk z has f born clock)⟩:=by
 unfold Aqk at h;split at h
 ·rename_i n o l f' i b m
  cases j:Nat.beq n g with
  |false=>simp[j]at h
  |true=>
   simp[j]at h;rw[m,A3 j,h.1,h.2.1,h.2.2.1,h.2.2.2.1,h.2.2.2.2]
 ·simp at h
theorem Axm{ob:Nat->Option Obj}{k g:Nat}{f:Int->PV}{rem:Int->Bool}{cur:Option Int}(h:getIt ob k g=some (f,rem,cur)):ob k=some ⟨g,.mq (.it f rem cur)⟩:=by
 unfold getIt at h;split at h
 ·rename_i m f' j i l
  cases b:Nat.beq m g with
  |false=>simp[b]at h
  |true=>
   simp[b]at h;rw[l,A3 b,h.1,h.2.1,h.2.2]
 ·simp at h
theorem Rel.reput(h:Rel cx U O a w){q g b:Nat}{bd bd':Body}(l:O.objs q=some ⟨g,bd⟩)(t:U q=.box b)(r:bd.live)(x:bd'.live)(u:bd.same bd'){o:Go.Obj}(B:w.heap[b]?=some o)(A:Go.Obj)
  (G:∀(E:Nat->Prop) (w':World),(∀i,Ap cx.Av U O.objs w i->E i)->(∀i,Ap cx.Av U O.objs w i->w'.heap[i]?=w.heap[i]?)->w'.heap[b]?=some A->∀objs',ObjRel U objs' E w' (.box b) bd'):
  Rel cx U ⟨O.slots,Bm O.objs q ⟨g,bd'⟩⟩ a {w with heap:=w.heap.setIfInBounds b A}:=by
 have v:b<w.heap.size:=(C3.1 B).1;have z:=h.blk q _ b l r (by rw[t];rfl);have k:∀i,i≠b->(w.heap.setIfInBounds b A)[i]?=w.heap[i]?:=fun i m=>D3 (Ne.symm m)
 have y:¬ Ap cx.Av U O.objs w b:=fun I=>I.2.2 q _ l r (by rw[t];rfl)
 have key:=h.upd1 q ⟨g,bd'⟩ (U q) {w with heap:=w.heap.setIfInBounds b A}
  (fun o s=>by rw[l]at s;injection s with s;subst s;exact⟨B2 _,fun _=>⟨rfl,u⟩⟩)
  (fun i _ f=>by rw[t]at f;simp[Loc.block]at f;subst f;simpa using z)
  (fun i _ f=>by
   rw[t]at f;simp[Loc.block]at f;subst f
   exact⟨y,fun F H m D n f=>h.inj q F _ H b l D r n (Ne.symm m) (by rw[t];rfl) f⟩)
  (fun i f m=>k i (fun e=>m x (by rw[t,e];rfl)))
  (by simp) rfl rfl rfl (fun _ C=>⟨_,l,C⟩)
 rw[AeE]at key;refine key ?_;rw[t];refine G _ _ (fun i f=>⟨by simpa using f.1,f.2.1,fun j o s n=>?_⟩) (fun i f=>k i (fun e=>y (e▸f))) (by simp[v]) _
 by_cases hj:j=q
 ·subst hj;exact f.2.2 j _ l r
 ·rw[Cl _ _ hj]at s;exact f.2.2 j o s n
theorem Ame{b:Array MapEntry}{j:Nat}(f:j<b.size)(i:Nat):(b.eraseIdxIfInBounds j)[i]?=if i<j then b[i]? else b[i+1]?:=by
 rw[Array.eraseIdxIfInBounds,dif_pos f,Array.getElem?_eraseIdx]
theorem Axd(hT:Qy P T)(h:Rel cx U O a w){t:Nat}{ty:TypeId}{om ok:Operand}{t2:TypeId}(v:Au om=true)(hk:Au ok=true){y:MV}{wo obl}{ob:Nat->Option Obj}
  (hob:∀k o,ob k=some o->O.objs k=some o) (F:AbJ T t ob (ev O om) (ev O ok)=some (y,wo,obl)):
  Out P cx O a (Builtin.delete_ #[t,t2] ty #[a.eval om,a.eval ok]) w y wo:=by
 have rm:=Bi h om v;have rk:=Bi h ok hk;unfold AbJ at F;split at F
 case h_2=>simp at F
 rename_i e q g n hmt hpm hpk;obtain⟨kt,hu,Y⟩:=Vj hT.1 hmt;split at F
 case h_2=>simp at F
 rename_i z has f hg;simp only[A1,A4]at F;obtain⟨rfl,rfl,rfl⟩:=F;rw[hpm]at rm;rw[hpk]at rk;obtain⟨ek,_⟩:=rk.inv_v;obtain⟨b,hbv,hkn⟩:=rm.inv_mref;have R:=hob _ _ (Wm hg);have hl:=hkn.get R;obtain⟨b',I,clock,G,hh,r,hzz,hr⟩:=h.ob q _ R;rw[hl]at G;injection G with G
 subst G;have H:(getObj b).run P w=.ok (.map I clock) w:=by simp[getObj,Sem.run,hh]
 have J:∀o,(setObj b o).run P w=.ok () {w with heap:=w.heap.setIfInBounds b o}:=by intro o;simp[setObj,Sem.run,hh]
 have L:(Instr.checkKey I.isEmpty 10000 kt (.int .i64 n)).run P w=.ok () w:=Jk Y _ n
 have fin:∀(D:Array MapEntry),Acu D clock (Bf has n false) ->
   (∀(i:Nat) (e:MapEntry) (m:Int),D[i]?=some e->e.key=.int .i64 m->Rep (Ap cx.Av U O.objs w) w e.val (Bf f n z m)) ->
   Rel cx U ⟨O.slots,Bm O.objs q ⟨g,.mp z (Bf has n false) (Bf f n z)⟩⟩ a {w with heap:=w.heap.setIfInBounds b (.map D clock)}:=by
  intro D hm' hr';refine h.reput (bd':=.mp z (Bf has n false) (Bf f n z)) R hl trivial trivial trivial hh _ fun S' w' hS hw hb' objs'=>?_
  refine⟨b,D,clock,rfl,hb',hm',fun m W=>?_,fun i e m hi u=>(hr' i e m hi u).mono hS hw⟩;simp only[Bf]at W ⊢;split
  ·rfl
  ·rename_i B;rw[if_neg B]at W;exact hzz m W
 have K:∀(w':World) (V:Bs) (objs':Ay),RelV V objs' (Ap cx.Av V objs' w') w' (.tuple #[]) (.p (.tup [])):=fun w' V objs'=>.p _ _ (.tup [] #[] rfl (fun i x hx=>by simp at hx))
 rw[hbv,ek];rcases Aei (P:=P) (w:=w) Y r n with⟨h1,h2⟩|⟨h1,j,e1,h2,h3,h4⟩
 ·refine⟨_,_,U,?_,fin I ?_ ?_,K _ _ _⟩
  ·simp[Builtin.delete_,run_underlying hu,H,L,h2,J]
  ·have hhas:∀m,has m=true->(Bf has n false) m=true:=by
    intro m v;simp only[Bf];split
    ·rename_i e;subst e;rw[h1]at v;exact v
    ·exact v
   refine⟨fun i e hi=>?_,fun m v=>?_,r.2.2⟩
   ·obtain⟨m,l,s⟩:=r.1 i e hi;exact⟨m,l,hhas m s⟩
   ·simp only[Bf]at v;split at v
    ·simp at v
    ·exact r.2.1 m v
  ·intro i e m hi u;obtain⟨m',l,s⟩:=r.1 i e hi;rw[u]at l;injection l with _ l
   subst l;have:m≠n:=fun e=>by subst e;rw[h1]at s;simp at s
   simp only[Bf,this,if_false];exact hr i e m hi u
 ·have E:j<I.size:=(C3.1 h3).1
  have old:∀(i:Nat) (e:MapEntry),(I.eraseIdxIfInBounds j)[i]?=some e->∃A,I[A]?=some e/\A=(if i<j then i else i+1):=by
   intro i e hi;rw[Ame E]at hi;split at hi
   ·rename_i C;exact⟨i,hi,by rw[if_pos C]⟩
   ·rename_i C;exact⟨i+1,hi,by rw[if_neg C]⟩
  have M:∀(i:Nat) (e:MapEntry) (m:Int),(I.eraseIdxIfInBounds j)[i]?=some e->e.key=.int .i64 m->m≠n:=by
   intro i e m hi u hmn;subst hmn;obtain⟨A,l,s⟩:=old i e hi;have:=r.2.2.1 A j e e1 m l h3 u h4;split at s<;>omega
  refine⟨_,_,U,?_,fin (I.eraseIdxIfInBounds j) ?_ ?_,K _ _ _⟩
  ·simp[Builtin.delete_,run_underlying hu,H,L,h2,J]
  ·refine⟨fun i e hi=>?_,fun m v=>?_,fun i i2 e X m hi N he1 he2=>?_,fun i e hi=>?_,fun i i2 e X hi N F=>?_⟩
   ·obtain⟨A,l,s⟩:=old i e hi;obtain⟨m,q3,q4⟩:=r.1 A e l;have:=M i e m hi q3;exact⟨m,q3,by simp only[Bf,this,if_false];exact q4⟩
   ·simp only[Bf]at v;split at v
    ·simp at v
    ·rename_i B;obtain⟨i,e,l,s⟩:=r.2.1 m v
     have hij:i≠j:=fun X=>by
      subst X;rw[h3]at l;injection l with l
      subst l;rw[h4]at s;injection s with _ s
      exact B s.symm
     rcases L0 hij with C|hgt
     ·exact⟨i,e,by rw[Ame E,if_pos C];exact l,s⟩
     ·exact⟨i-1,e,by rw[Ame E,if_neg (by omega),show i-1+1=i by omega];exact l,s⟩
   ·obtain⟨A,l,s⟩:=old i e hi;obtain⟨Q,r1,r2⟩:=old i2 X N;have:=r.2.2.1 A Q e X m l r1 he1 he2;split at s<;>split at r2<;>omega
   ·obtain⟨A,l,s⟩:=old i e hi;exact r.2.2.2.1 A e l
   ·obtain⟨A,l,s⟩:=old i e hi;obtain⟨Q,r1,r2⟩:=old i2 X N;have:=r.2.2.2.2 A Q e X l r1 F;split at s<;>split at r2<;>omega
  ·intro i e m hi u;have B:=M i e m hi u;obtain⟨A,l,s⟩:=old i e hi;simp only[Bf,B,if_false];exact hr A e m l u
theorem Aun(hT:Qy P T)(h:Rel cx U O a w){t:Nat}{om ok:Operand}(hm:Au om=true)(hk:Au ok=true){y:MV}{wo obl}{ob:Nat->Option Obj}
  (hob:∀k o,ob k=some o->O.objs k=some o) (J:AiK T t ob (ev O om) (ev O ok)=some (y,wo,obl)) (ho:All obl):
  Out P cx O a (Instr.mapEntry t (a.eval om) (a.eval ok)) w y wo:=by
 have rm:=Bi h om hm;have rk:=Bi h ok hk;unfold AiK at J;split at J
 case h_2=>simp at J
 rename_i e q g n hmt hpm hpk;obtain⟨kt,hu,hkt⟩:=Vj hT.1 hmt;split at J
 case h_2=>simp at J
 rename_i z0 z has f born clock hz0 hg;simp only[A1,A4]at J;obtain⟨rfl,rfl,rfl⟩:=J;simp only[All,and_true]at ho;rw[hpm]at rm;rw[hpk]at rk;obtain⟨ek,_⟩:=rk.inv_v;obtain⟨b,hbv,hkn⟩:=rm.inv_mref;have L:=hob _ _ (AoE hg);have hl:=hkn.get L;obtain⟨b',I,V,hh,D,hzz,hr,hbo⟩:=h.ob q _ L;rw[hl]at V;injection V with V
 subst V;have hget:(getObj b).run P w=.ok (.map I clock) w:=by simp[getObj,Sem.run,hh]
 have hset:∀o,(setObj b o).run P w=.ok () {w with heap:=w.heap.setIfInBounds b o}:=by intro o;simp[setObj,Sem.run,hh]
 obtain⟨N,hv0,hrep0⟩:=Ajd (P:=P) (w:=w) hT hz0 (S:=Ap cx.Av U O.objs w)
 have X:∀(u:Value) (w':World) (objs':Ay) (s:Nat),Rep (Ap cx.Av U objs' w') w' u (f n)->RelV U objs' (Ap cx.Av U objs' w') w' (.tuple #[u,goInt s]) (.tup [.p (f n),.p (.v (.int .i64 (s:Nat)))]):=by
  intro u w' objs' s hu2;refine .tup _ _ rfl (fun i x Q=>?_)
  match i,Q with
  |0,Q=>simp at Q;subst Q;exact .p _ _ hu2
  |1,Q=>simp at Q;subst Q;exact .mk_v rfl
  |i+2,Q=>simp at Q
 have fin:∀(G:Array MapEntry) (E:Int->Bool) (C:Int->Nat) (l:Nat) (u:Value),Rep (Ap cx.Av U O.objs w) w u (f n)->Acu G l E->(∀m,E m=false->f m=z) ->
   (∀(i:Nat) (e:MapEntry) (m:Int),G[i]?=some e->e.key=.int .i64 m->Rep (Ap cx.Av U O.objs w) w e.val (f m)) ->
   (∀(i:Nat) (e:MapEntry) (m:Int),G[i]?=some e->e.key=.int .i64 m->e.born=C m) ->
   Rel cx U ⟨O.slots,Bm O.objs q ⟨g,.mq (.clk z E f C l)⟩⟩ a {w with heap:=w.heap.setIfInBounds b (.map G l)} /\
   Rep (Ap cx.Av U (Bm O.objs q ⟨g,.mq (.clk z E f C l)⟩) {w with heap:=w.heap.setIfInBounds b (.map G l)}) {w with heap:=w.heap.setIfInBounds b (.map G l)} u (f n):=by
  intro G E C l u hu2 hm' hz' hr' H;have hns:¬ Ap cx.Av U O.objs w b:=fun hS=>hS.2.2 q _ L trivial (by rw[hl];rfl)
  refine⟨h.reput (bd':=.mq (.clk z E f C l)) L hl trivial trivial trivial hh _ fun S' w' hS hw hbb objs'=>⟨b,G,rfl,hbb,hm',hz',fun i e m hi A=>(hr' i e m hi A).mono hS hw,H⟩,hu2.mono (fun b' H=>⟨by simpa using H.1,H.2.1,fun j o ho hlv=>?_⟩) (fun b' H=>D3 (fun e=>hns (by rw[e];exact H)))⟩
  by_cases Y:j=q
  ·subst Y;exact H.2.2 j _ L trivial
  ·rw[Cl _ _ Y]at ho;exact H.2.2 j o ho hlv
 rw[hbv,ek];rcases Aei (P:=P) (w:=w) hkt D n with⟨h1,h2⟩|⟨h1,j,e1,h2,h3,h4⟩
 ·have r:∀(i:Nat) (e:MapEntry),(I.push {key:=.int .i64 n,val:=N,born:=clock})[i]?=some e->(I[i]?=some e)\/(i=I.size/\e={key:=.int .i64 n,val:=N,born:=clock}):=by
   intro i e hi;rw[F4]at hi;split at hi
   ·rename_i hie;right;exact⟨hie,by simpa using hi.symm⟩
   ·left;exact hi
  have hnk:∀(i:Nat) (e:MapEntry),I[i]?=some e->e.key≠.int .i64 n:=by
   intro i e hi hek;obtain⟨m,B,F⟩:=D.1 i e hi;rw[hek]at B;injection B with _ B
   subst B;rw[h1]at F;simp at F
  have W:Rep (Ap cx.Av U O.objs w) w N (f n):=by rw[hzz n h1];exact ho _ _ _ hrep0
  simp only[h1,cond_false]
  have c1:Acu (I.push {key:=.int .i64 n,val:=N,born:=clock}) (clock+1) (Bf has n true):=by
   refine⟨fun i e hi=>?_,fun m M=>?_,fun i j e K m hi Y he1 he2=>?_,fun i e hi=>?_,fun i j e K hi Y J=>?_⟩
   ·rcases r i e hi with B|⟨_,rfl⟩
    ·obtain⟨m,F,h7⟩:=D.1 i e B;refine⟨m,F,?_⟩;simp only[Bf];split
     ·rfl
     ·exact h7
    ·exact⟨n,rfl,by simp[Bf]⟩
   ·simp only[Bf]at M
    by_cases hmn:m=n
    ·subst hmn;exact⟨I.size,{key:=.int .i64 m,val:=N,born:=clock},by simp,rfl⟩
    ·rw[if_neg hmn]at M;obtain⟨i,e,B,F⟩:=D.2.1 m M;have hlt:=(C3.1 B).1;exact⟨i,e,by rw[F4,if_neg (by omega)];exact B,F⟩
   ·rcases r i e hi with B|⟨B,rfl⟩
    ·rcases r j K Y with F|⟨F,rfl⟩
     ·exact D.2.2.1 i j e K m B F he1 he2
     ·exact absurd (by rw[he1];exact he2.symm) (hnk i e B)
    ·rcases r j K Y with F|⟨F,rfl⟩
     ·exact absurd (by rw[he2];exact he1.symm) (hnk j K F)
     ·omega
   ·rcases r i e hi with B|⟨_,rfl⟩
    ·have:=D.2.2.2.1 i e B;omega
    ·show clock<clock+1;omega
   ·rcases r i e hi with B|⟨B,rfl⟩
    ·rcases r j K Y with F|⟨F,rfl⟩
     ·exact D.2.2.2.2 i j e K B F J
     ·have:=D.2.2.2.1 i e B;have J:e.born=clock:=J;omega
    ·rcases r j K Y with F|⟨F,rfl⟩
     ·have:=D.2.2.2.1 j K F;have J:clock=K.born:=J;omega
     ·omega
  have c2:∀m,(Bf has n true) m=false->f m=z:=by
   intro m R;simp only[Bf]at R;split at R
   ·simp at R
   ·exact hzz m R
  have c3:∀(i:Nat) (e:MapEntry) (m:Int),(I.push {key:=.int .i64 n,val:=N,born:=clock})[i]?=some e->e.key=.int .i64 m->Rep (Ap cx.Av U O.objs w) w e.val (f m):=by
   intro i e m hi A;rcases r i e hi with B|⟨B,rfl⟩
   ·exact hr i e m B A
   ·simp only at A;injection A with _ A
    subst A;exact W
  have c4:∀(i:Nat) (e:MapEntry) (m:Int),(I.push {key:=.int .i64 n,val:=N,born:=clock})[i]?=some e->e.key=.int .i64 m->e.born=(Bf born n clock) m:=by
   intro i e m hi A;rcases r i e hi with B|⟨B,rfl⟩
   ·have hne:m≠n:=fun K=>hnk i e B (by rw[A,K])
    simp only[Bf,hne,if_false];exact hbo i e m B A
   ·simp only at A;injection A with _ A
    subst A;simp[Bf]
  obtain⟨k1,k2⟩:=fin (I.push {key:=.int .i64 n,val:=N,born:=clock}) (Bf has n true) (Bf born n clock) (clock+1) N W c1 c2 c3 c4;refine⟨_,_,U,?_,k1,X N _ _ clock k2⟩;simp[Instr.mapEntry,run_underlying hu,hget,Jk hkt,h2,hv0,hset]
 ·have hjlt:j<I.size:=(C3.1 h3).1;have hkk:((I[j]?).map (·.key)).getD (.int .i64 n)=.int .i64 n:=by rw[h3];simp[h4]
  have hks:∀(v:Value),v=.int .i64 n->(Instr.keyThatStays v (.int .i64 n)).run P w=.ok (.int .i64 n) w:=by
   intro v hv2;subst hv2;simp[Instr.keyThatStays,AmD]
  have hmod:(I.modify j fun e=>{e with key:=.int .i64 n})=I:=by
   apply Array.ext_getElem?;intro i;rw[K1]
   by_cases hij:j=i
   ·subst hij;simp only[if_pos,h3,E0,A1];cases e1;simp only at h4;subst h4;rfl
   ·simp[hij]
  have hbs:((I[j]?).map (fun x=>(x.born:Int))).getD 0=born n:=by rw[h3];simp[hbo j e1 n h3 h4]
  have hhas:Bf has n true=has:=by
   funext m;simp only[Bf];split
   ·rename_i e;subst e;exact h1.symm
   ·rfl
  have hbn:Bf born n (born n)=born:=by
   funext m;simp only[Bf];split
   ·rename_i e;subst e;rfl
   ·rfl
  simp only[h1,cond_true,hhas,hbn];obtain⟨k1,k2⟩:=fin I has born clock e1.val (hr j e1 n h3 h4) D hzz hr hbo;refine⟨_,_,U,?_,k1,X e1.val _ _ (born n) k2⟩;simp[Instr.mapEntry,run_underlying hu,hget,Jk hkt,h2,hset,hks _ hkk,hmod,hbs]
theorem Ark(h:Rel cx U O a w){t:Nat}{n:Int}{om os F:Operand}(hm:Au om=true)(hs:Au os=true)(hv:Au F=true){y:MV}{wo obl}{ob:Nat->Option Obj}
  (hob:∀k o,ob k=some o->O.objs k=some o) (G:Aff n ob (ev O om) (ev O os) (ev O F)=some (y,wo,obl)) (ho:All obl):
  ∃w' β',(Instr.entryStore t (a.eval om) (a.eval os) (a.eval F)).run P w=.ok () w'/\Rel cx β' ⟨O.slots,Cf O.objs wo⟩ a w'/\y=.und:=by
 have rm:=Bi h om hm;have rs:=Bi h os hs;have rv:=Bi h F hv;unfold Aff at G;split at G
 case h_2=>simp at G
 rename_i q g st x hpm hps hpv;split at G
 case h_2=>simp at G
 rename_i z has f born clock hg;simp only[A1,A4]at G;obtain⟨rfl,rfl,rfl⟩:=G;simp only[All,and_true]at ho;obtain⟨I,X⟩:=ho;rw[hpm]at rm;rw[hps]at rs;obtain⟨es_,_⟩:=rs.inv_v;have hrep:=AmQ rv hpv;obtain⟨b,hbv,hkn⟩:=rm.inv_mref;have N:=hob _ _ (AoE hg);have hl:=hkn.get N;obtain⟨b',C,H,hh,v,hzz,hr,W⟩:=h.ob q _ N;rw[hl]at H;injection H with H
 subst H;have V:(getObj b).run P w=.ok (.map C clock) w:=by simp[getObj,Sem.run,hh]
 have hset:∀o,(setObj b o).run P w=.ok () {w with heap:=w.heap.setIfInBounds b o}:=by intro o;simp[setObj,Sem.run,hh]
 obtain⟨j,e1,E,h4⟩:=v.2.1 n I;have hb1:e1.born=born n:=W j e1 n E h4;have J:j<C.size:=(C3.1 E).1
 have R:C.findIdx? (fun e=>(e.born:Int)==st)=some j:=by
  rw[Array.findIdx?_eq_some_iff_getElem];refine⟨J,?_,fun i hi=>?_⟩
  ·have:C[j]=e1:=by rw[C4 J]at E;simpa using E
   rw[this,X,hb1];simp
  ·intro hc;have Y:((C[i]'(by omega)).born:Int)=st:=by simpa using hc
   have e2:(C[i]'(by omega)).born=e1.born:=by rw[hb1];rw[X]at Y;exact_mod_cast Y
   have:=v.2.2.2.2 i j _ e1 (C4 (by omega)) E e2;omega
 have D:∀(i:Nat),(C.modify j fun e=>{e with val:=a.eval F})[i]?=if i=j then some {e1 with val:=a.eval F}else C[i]?:=by
  intro i;rw[K1]
  by_cases r:j=i
  ·subst r;simp[E]
  ·have:¬ i=j:=fun e=>r e.symm
   simp[r,this]
 have l:∀(i:Nat) (e:MapEntry),(C.modify j fun e=>{e with val:=a.eval F})[i]?=some e->∃A,C[i]?=some A/\A.key=e.key/\A.born=e.born/\((i=j/\e.val=a.eval F)\/(i≠j/\e=A)):=by
  intro i e hi;rw[D i]at hi;split at hi
  ·rename_i r;simp at hi;subst hi;exact⟨e1,by rw[r];exact E,rfl,rfl,.inl ⟨r,rfl⟩⟩
  ·rename_i r;exact⟨e,hi,rfl,rfl,.inr ⟨r,rfl⟩⟩
 refine⟨_,U,?_,h.reput (bd':=.mq (.clk z has (Bf f n x) born clock)) N hl trivial trivial trivial hh (.map (C.modify j fun e=>{e with val:=a.eval F}) clock) fun S' w' hS hw hbb objs'=>?_,rfl⟩
 ·rw[hbv,es_];simp[Instr.entryStore,V,asInt,asIntOf,R,hset]
 ·refine⟨b,_,rfl,hbb,⟨fun i e hi=>?_,fun m hm2=>?_,fun i i2 e e' m hi L he1 he2=>?_,fun i e hi=>?_,fun i i2 e e' hi L G=>?_⟩,fun m Q=>?_,fun i e m hi u=>?_,fun i e m hi u=>?_⟩
  ·obtain⟨A,s,B,_⟩:=l i e hi;rw[<-B];exact v.1 i A s
  ·obtain⟨i,e,s,B⟩:=v.2.1 m hm2
   by_cases r:i=j
   ·subst r;rw[E]at s;injection s with s
    subst s;exact⟨i,{e1 with val:=a.eval F},by rw[D i,if_pos rfl],B⟩
   ·exact⟨i,e,by rw[D i,if_neg r];exact s,B⟩
  ·obtain⟨A,s,B,_⟩:=l i e hi;obtain⟨M,r1,r2,_⟩:=l i2 e' L;exact v.2.2.1 i i2 A M m s r1 (by rw[B];exact he1) (by rw[r2];exact he2)
  ·obtain⟨A,s,_,B,_⟩:=l i e hi;rw[<-B];exact v.2.2.2.1 i A s
  ·obtain⟨A,s,_,B,_⟩:=l i e hi;obtain⟨M,r1,_,r2,_⟩:=l i2 e' L;exact v.2.2.2.2 i i2 A M s r1 (by rw[B,r2];exact G)
  ·have K:m≠n:=fun e=>by subst e;rw[I]at Q;simp at Q
   simp only[Bf,K,if_false];exact hzz m Q
  ·obtain⟨A,s,B,q3,q4⟩:=l i e hi;rcases q4 with⟨r,hval⟩|⟨r,rfl⟩
   ·have:m=n:=by
     subst r;rw[E]at s;injection s with s
     subst s;rw[<-B,h4]at u;injection u with _ u
     exact u.symm
    subst this;simp only[Bf,if_true];rw[hval];exact hrep.mono hS hw
   ·have K:m≠n:=fun e'=>by
     subst e';exact r (v.2.2.1 i j e e1 m s E u h4)
    simp only[Bf,K,if_false];exact(hr i e m s u).mono hS hw
  ·obtain⟨A,s,B,q3,_⟩:=l i e hi;rw[<-q3];exact W i A m s (by rw[B];exact u)
theorem Rel.die(h:Rel cx U O a w){k g:Nat}{bd:Body}(t:O.objs k=some ⟨g,bd⟩)(s:bd.live):
  Rel cx U ⟨O.slots,Bm O.objs k ⟨g+1,.dead⟩⟩ a w/\(∀b,Ap cx.Av U O.objs w b->Ap cx.Av U (Bm O.objs k ⟨g+1,.dead⟩) w b)/\∀b,(U k).block=some b->Ap cx.Av U (Bm O.objs k ⟨g+1,.dead⟩) w b:=by
 have B:Grows U U O.objs (Bm O.objs k ⟨g+1,.dead⟩):=by
  intro j o f
  by_cases e:j=k
  ·subst e;rw[t]at f;injection f with f;subst f
   exact⟨_,Bj _ _ _,N4 _,fun e=>absurd e (by simp)⟩
  ·exact⟨o,by rw[Cl _ _ e];exact f,B2 _,fun _=>⟨rfl,Body.same_refl _⟩⟩
 have hold:∀j i,Bm O.objs k ⟨g+1,.dead⟩ j=some i->i.body.live->j≠k/\O.objs j=some i:=by
  intro j i f l
  by_cases e:j=k
  ·subst e;rw[Bj]at f;injection f with f;subst f;exact absurd l (by simp[Body.live])
  ·rw[Cl _ _ e]at f;exact⟨e,f⟩
 have y:∀b,Ap cx.Av U O.objs w b->Ap cx.Av U (Bm O.objs k ⟨g+1,.dead⟩) w b:=fun b m=>⟨m.1,m.2.1,fun j i f l=>m.2.2 j i (hold j i f l).2 l⟩
 have z:∀b,(U k).block=some b->Ap cx.Av U (Bm O.objs k ⟨g+1,.dead⟩) w b:=by
  intro b m;have q:=h.blk k _ b t s m;exact⟨q.1,q.2.1,fun j i f l=>h.inj k j _ i b t (hold j i f l).2 s l (Ne.symm (hold j i f l).1) m⟩
 refine⟨⟨h.nd,h.sz,fun C=>(h.sl C).mono B y (fun _ _=>rfl),fun j i f=>?_,fun j i b f l m=>?_,fun j A o i b f u l r v m=>?_,h.kept,h.avo,h.avlt,h.mle,fun j i x f n=>?_⟩,y,z⟩
 ·by_cases e:j=k
  ·have f:Bm O.objs k ⟨g+1,.dead⟩ j=some i:=f;subst e;rw[Bj]at f;injection f with f;subst f;trivial
  ·have f:Bm O.objs k ⟨g+1,.dead⟩ j=some i:=f;rw[Cl _ _ e]at f;exact(h.ob j i f).mono B y (fun _ _=>rfl) (fun _ _=>rfl)
 ·exact h.blk j i b (hold j i f l).2 l m
 ·exact h.inj j A o i b (hold j o f l).2 (hold A i u r).2 l r v m
 ·by_cases e:j=k
  ·have f:Bm O.objs k ⟨g+1,.dead⟩ j=some i:=f;subst e;rw[Bj]at f;injection f with f;subst f;simp at n
  ·have f:Bm O.objs k ⟨g+1,.dead⟩ j=some i:=f;rw[Cl _ _ e]at f;exact h.oloc j i x f n
theorem AsC{objs:Ay}(h:Rel cx U ⟨O.slots,objs⟩ a w){k:Nat}(A:1000<=k){z:PV}{has:Int->Bool}{f:Int->PV}{b clock:Nat}{l:Array MapEntry}(t:Ap cx.Av U objs w b)(x:w.heap[b]?=some (.map l clock))(g:Acu l clock has)
  (y:∀(i:Nat) (e:MapEntry) (n:Int),l[i]?=some e->e.key=.int .i64 n->Rep (Ap cx.Av U objs w) w e.val (f n)):
  Rel cx (Hl U k (.box w.heap.size)) ⟨O.slots,Bm objs k ⟨Bt (objs k),.mq (.it f has none)⟩⟩ a (w.alloc (.mapIter (some b) clock #[] clock)):=by
 refine h.fresh k (.mq (.it f has none)) (.box w.heap.size) w _ ⟨rfl,rfl,rfl,rfl⟩ rfl (.inl A) ?_;intro E B objs' u D;refine⟨w.heap.size,b,l,clock,clock,#[],clock,has,rfl,heap_alloc_new w _,u _ t,by rw[AiB w _ t.1];exact x,g,rfl,rfl,fun i e n hi j=>(y i e n hi j).mono u (fun C q=>AiB w _ q.1),fun n=>⟨fun j=>?_,?_⟩,fun n j=>by simp at j⟩
 ·obtain⟨i,e,r,s⟩:=g.2.1 n j;exact⟨i,e,r,s,by simp⟩
 ·rintro⟨i,e,r,s,_⟩;obtain⟨m,o,v⟩:=g.1 i e r;rw[s]at o;injection o with _ o
  subst o;exact v
theorem snd_range(R:Qy P T)(h:Rel cx U O a w){t dst:Nat}{ox:Operand}(V:Au ox=true){y:MV}{wo obl}{ob:Nat->Option Obj}(A:∀k o,ob k=some o->O.objs k=some o)(r:ob (key dst 0)=O.objs (key dst 0))
  (l:Xx T t dst ob (ev O ox)=some (y,wo,obl)):Out P cx O a (Instr.range t (a.eval ox)) w y wo:=by
 have D:=Bi h ox V;unfold Xx at l;split at l
 case h_3=>simp at l
 ·rename_i e z has f u J;obtain⟨k,H,I⟩:=Vj R.1 u;simp only[A1,A4]at l;obtain⟨rfl,rfl,rfl⟩:=l;rw[J]at D;have Q:=D.inv_p;generalize a.eval ox=v at Q
  cases Q with
  |mp _ _ _ b clock L hs C I hz K=>
   have j:(getObj b).run P w=.ok (.map L clock) w:=by simp[getObj,Sem.run,C]
   refine⟨.pointer (some ⟨w.heap.size,0,none⟩),w.alloc (.mapIter (some b) clock #[] clock),Hl U (key dst 0) (.box w.heap.size),?_,?_,?_⟩
   ·simp[Instr.range,run_underlying H,j]
   ·simp only[Cf,r];exact AsC (O:=O) (z:=z) h (by unfold key;omega) hs C I K
   ·simp only[Cf,r];exact .ref _ _ _ _ ⟨_,Bj _ _ _,B2 _,fun _=>by rw[Dq]⟩
 ·rename_i e q g u J;obtain⟨k,H,I⟩:=Vj R.1 u;split at l
  case h_2=>simp at l
  rename_i z has f Y
  cases m:Nat.beq q (key dst 0)with
  |true=>simp[m]at l
  |false=>
  simp only[m,cond_false,A1,A4]at l;obtain⟨rfl,rfl,rfl⟩:=l;have F:key dst 0≠q:=fun e=>by subst e;rw[Cr]at m;simp at m
  rw[J]at D;obtain⟨b,G,E⟩:=D.inv_mref;have x:=A _ _ (Wm Y);have N:=E.get x;obtain⟨b',L,clock,s,C,M,W,K⟩:=h.ob q _ x;rw[N]at s;injection s with s
  subst s;obtain⟨d1,d2,X⟩:=h.die x trivial;have j:(getObj b).run P w=.ok (.map L clock) w:=by simp[getObj,Sem.run,C]
  have B:Bm O.objs q ⟨g+1,.dead⟩ (key dst 0)=O.objs (key dst 0):=Cl _ _ F;refine⟨.pointer (some ⟨w.heap.size,0,none⟩),w.alloc (.mapIter (some b) clock #[] clock),Hl U (key dst 0) (.box w.heap.size),?_,?_,?_⟩
  ·rw[G];simp[Instr.range,run_underlying H,j]
  ·have:=AsC (O:=O) (z:=z) d1 (k:=key dst 0) (by unfold key;omega) (X b (by rw[N];rfl)) C M (fun i e n hi hn=>(K i e n hi hn).mono d2 (fun _ _=>rfl));rw[B]at this;simp only[Cf,r];exact this
  ·simp only[Cf,r];exact .ref _ _ _ _ ⟨_,Bj _ _ _,B2 _,fun _=>by rw[Dq]⟩
theorem AwH(f:List MapEntry)(e:MapEntry)(b:e∈f)(g:∀x∈f,∀y∈f,x.born=y.born->x=y):f.find? (·.born==e.born)=some e:=by
 induction f with
 |nil=>simp at b
 |cons x r j=>
  simp only[J2]
  by_cases hx:x.born=e.born
  ·rw[g x (by simp) e b hx];simp
  ·have:(x.born==e.born)=false:=by simpa using hx
   rw[this];rcases C0.1 b with rfl|b
   ·exact absurd rfl hx
   ·exact j b (fun p h q i=>g p (by simp[h]) q (by simp[i]))
theorem snd_entry(h:Rel cx U O a w){ox:Operand}(j:Au ox=true){y:MV}{wo obl}{ob:Nat->Option Obj}
  (D:∀k o,ob k=some o->O.objs k=some o) (r:Adp ob (ev O ox)=some (y,wo,obl)):Out P cx O a (Instr.entry (a.eval ox)) w y wo:=by
 have J:=Bi h ox j;unfold Adp at r;split at r
 case h_2=>simp at r
 rename_i k g W;split at r
 case h_2=>simp at r
 rename_i f rem n M;simp only[A1,A4]at r;obtain⟨rfl,rfl,rfl⟩:=r;rw[W]at J;obtain⟨b,C,B⟩:=J.inv_ref;have u:=D _ _ (Axm M);have Y:=B.get u;obtain⟨b',I,z,clock,m,seen,c0,has,l,R,h2,h3,N,h5,h6,Q,h8,h9⟩:=h.ob k _ u;rw[Y]at l;injection l with l
 subst l;obtain⟨hc,i,e,H,L,V⟩:=h9 n rfl
 have X:z.find? (·.born==e.born)=some e:=by
  rw[<-Array.find?_toList];refine AwH z.toList e (by simpa using F0 H) (fun x j y hy E=>?_);obtain⟨K,s,e1⟩:=D1 j;obtain⟨i2,t,e2⟩:=D1 hy;have G:z[K]?=some x:=by simp at s e1;rw[C4 s,e1]
  have F:z[i2]?=some y:=by simp at t e2;rw[C4 t,e2]
  have:=N.2.2.2.2 K i2 x y G F E;subst this;rw[G]at F;exact J3 F
 have A:(getObj b).run P w=.ok (.mapIter (some I) m seen c0) w:=by simp[getObj,Sem.run,R]
 have q:(getObj I).run P w=.ok (.map z clock) w:=by simp[getObj,Sem.run,h3]
 refine AxP h (v:=.tuple #[e.key,e.val]) ?_ ?_
 ·rw[C];simp only[at_];simp[Instr.entry,A,q,V,hc,X]
 ·refine .tup _ _ rfl (fun i2 x j=>?_)
  match i2,j with
  |0,j=>simp at j;subst j;show RelV _ _ _ _ e.key _;rw[L];exact .mk_v rfl
  |1,j=>simp at j;subst j;exact .p _ _ (Q i e n H L)
  |i2+2,j=>simp at j
end
end Go.Dm

namespace Go.Dm
def AjT(T:Ty)(t:Nat):Option (Nat×Nat×Nat×Nat):=
 match assoc T t with
 |some ⟨.map k e,_,_,_,_⟩=>match assoc T k with
  |some ⟨.struct [(0,a),(1,c)],_,_,_,true⟩=>match assoc T a,assoc T c with
   |some ⟨.int .i64,_,_,_,_⟩,some ⟨.int .i64,_,_,_,_⟩=>some (k,e,a,c)
   |_,_=>none
  |_=>none
 |_=>none
def key2(x:MV):Option (Int×Int):=
 match x.aggc with
 |some [.p (.v (.int .i64 a)),.p (.v (.int .i64 c))]=>some (a,c)
 |_=>none
def Ve{V:Type}(f:Int->Int->V)(a c:Int)(x:V):Int->Int->V:=fun i j=>if i=a/\j=c then x else f i j
def getPm(ob:Nat->Option Obj)(k g:Nat):Option (PV×(Int->Int->Bool)×(Int->Int->PV)):=
 match ob k with
 |some ⟨g',.mq (.pm z has f)⟩=>bif Nat.beq g' g then some (z,has,f)else none
 |_=>none
def Ph(T:Ty)(t dst:Nat)(ob:Nat->Option Obj):Option Eff:=
 match AjT T t with
 |some (_,e,_,_)=>match AcW T e with
  |some z=>some (.mref (key dst 0) (Bt (ob (key dst 0))),[(key dst 0,⟨Bt (ob (key dst 0)),.mq (.pm z (fun _ _=>false) (fun _ _=>z))⟩)],[])
  |none=>none
 |none=>none
def Yy(T:Ty)(t:Nat)(ob:Nat->Option Obj)(ok:Bool)(x y:MV):Option Eff:=
 match AjT T t,key2 y,x with
 |some (_,e,_,_),some (a,c),.mref k g=>
  match AcW T e,getPm ob k g with
  |some z0,some (z,has,f)=>some (bif ok then .tup [.p (f a c),.p (.v (.bool (has a c)))]else .p (f a c),[],[PLe z0 z])
  |_,_=>none
 |_,_,_=>none
def Mu(T:Ty)(t:Nat)(ob:Nat->Option Obj)(m k v:MV):Option Eff:=
 match AjT T t,m,key2 k,v.whole with
 |some _,.mref q g,some (a,c),some x=>match getPm ob q g with
  |some (z,has,f)=>some (.und,[(q,⟨g,.mq (.pm z (Ve has a c true) (Ve f a c x))⟩)],[])
  |none=>none
 |_,_,_,_=>none
theorem AkP{ob:Nat->Option Obj}{k g:Nat}{z:PV}{has:Int->Int->Bool}{f:Int->Int->PV}(h:getPm ob k g=some (z,has,f)):ob k=some ⟨g,.mq (.pm z has f)⟩:=by
 unfold getPm at h;split at h
 ·rename_i l m i f' j
  cases b:Nat.beq l g with
  |false=>simp[b]at h
  |true=>
   simp[b]at h;rw[j,A3 b,h.1,h.2.1,h.2.2]
 ·simp at h
section
variable {P:Program} {T:Ty} {cx:Cx P} {U:Bs} {O:St} {a:Act} {w:World}
theorem AiN(o:Ip P T)(s:∀t i,assoc T t=some i->i.eq=true->AaX P t){t k e a c:Nat}(h:AjT T t=some (k,e,a,c)):
  P.underlying t=some (.map k e)/\AaX P k/\(∃f1 f2:Field,P.underlying k=some (.struct #[f1,f2])/\f1.offset=0/\f1.type=a/\f2.offset=1/\f2.type=c) /\
  (∃i,assoc T a=some i/\i.kd=.int .i64)/\(∃i,assoc T c=some i/\i.kd=.int .i64)/\(∀n q b,eqFields T [(0,a),(1,c)] n q=some b->eqFields T [(0,a),(1,c)] n q=some b):=by
 unfold AjT at h;split at h
 case h_2=>simp at h
 rename_i r G J C L x hi;split at h
 case h_2=>simp at h
 rename_i E z F N H g;split at h
 case h_2=>simp at h
 rename_i y K v B I A D M m j;simp only[A1,A4]at h;obtain⟨rfl,rfl,rfl,rfl⟩:=h;refine⟨(o t _ hi).map rfl,s _ _ g rfl,?_,⟨_,m,rfl⟩,⟨_,j,rfl⟩,fun _ _ _ h=>h⟩;obtain⟨fields,u,f⟩:=(o r _ g).struct rfl;obtain⟨l⟩:=fields;simp only at f
 match l,f with
 |[f1,f2],f=>
  simp only[D8,G2,H3,A4,and_true]at f
  exact⟨f1,f2,u,f.1.1,f.1.2,f.2.1,f.2.2⟩
 |[],f=>simp at f
 |[_],f=>simp at f
 |_::_::_::_,f=>simp at f
theorem ArG{k:Nat}{f1 f2:Field}(m:P.underlying k=some (.struct #[f1,f2]))(o:f1.offset=0)(l:f2.offset=1)(e1:P.underlying f1.type=some (.int .i64))(e2:P.underlying f2.type=some (.int .i64))
  {i h:TI} (g:TyFact P f1.type i) (j:i.kd.agg=false) (f:TyFact P f2.type h) (n:h.kd.agg=false) (b:Bool) (x y:Int) (d:Nat):
  (Instr.checkKey b (d+1+1) k (kp x y)).run P w=.ok () w:=by
 have p1:(part f1.type #[.int .i64 x,.int .i64 y] 0).run P w=.ok (.int .i64 x) w:=AhT g j (by rfl);have p2:(part f2.type #[.int .i64 x,.int .i64 y] 1).run P w=.ok (.int .i64 y) w:=AhT f n (by rfl);have c1:=Aab (w:=w) e1 b x d;have c2:=Aab (w:=w) e2 b y d;unfold Instr.checkKey kp
 by_cases n1:f1.name = "_" <;> by_cases n2:f2.name = "_" <;> simp[run_underlying m,o,l,n1,n2,p1,p2,c1,c2]
theorem AlA{k:Nat}{f1 f2:Field}(j:P.underlying k=some (.struct #[f1,f2]))(o:f1.offset=0)(n:f2.offset=1)(e1:P.underlying f1.type=some (.int .i64))(e2:P.underlying f2.type=some (.int .i64))
  {h i:TI} (f:TyFact P f1.type h) (m:h.kd.agg=false) (g:TyFact P f2.type i) (l:i.kd.agg=false) (b:Bool) (x y:Int):
  (Instr.checkKey b 10000 k (kp x y)).run P w=.ok () w:=ArG j o n e1 e2 f m g l b x y 9998
theorem ApM(r:Ip P T){k a c:Nat}(A:AaX P k){f1 f2:Field}(n:P.underlying k=some (.struct #[f1,f2]))(t:f1.offset=0)(o:f2.offset=1)(E:f1.type=a)(v:f2.type=c)
  (B:∃i,assoc T a=some i/\i.kd=.int .i64) (z:∃i,assoc T c=some i/\i.kd=.int .i64) (x y h g:Int):
  (Op.equal k (kp x y) (kp h g)).run P w=.ok (x==h&&y==g) w:=by
 obtain⟨e1,e2,D⟩:=A;have f:P.fieldsOf k= #[f1,f2]:=by simp[Program.fieldsOf,n]
 obtain⟨H,s,F⟩:=B;obtain⟨G,q,C⟩:=z
 have b:∀(x y:Int) (i:Nat) p,[PV.v (.int .i64 x),PV.v (.int .i64 y)][i]?=some p->∃u,(#[Value.int .i64 x,Value.int .i64 y])[i]?=some u/\Rep (fun _=>True) w u p:=by
  intro x y i p hi
  match i,hi with
  |0,hi=>simp at hi;subst hi;exact⟨_,rfl,.v _ rfl⟩
  |1,hi=>simp at hi;subst hi;exact⟨_,rfl,.v _ rfl⟩
  |i+2,hi=>simp at hi
 have m:eqFields T [(0,a),(1,c)] [PV.v (.int .i64 x),PV.v (.int .i64 y)] [PV.v (.int .i64 h),PV.v (.int .i64 g)]=some (x==h&&(y==g&&true)):=by
  simp[eqFields,s,q,F,C,Ky,AeK]
 have j:=Amw (P:=P) (w:=w) (S:=fun _=>True) r (b x y) (b h g) 9998 [f1,f2] _ _ (by simp[t,o,E,v]) (by rw[<-(show(P.fieldsOf k).toList=[f1,f2] by rw[f])];exact D) m;have l:=run_equalIn_struct w 9999 k #[.int .i64 x,.int .i64 y] #[.int .i64 h,.int .i64 g] (by rw[f];exact n) e1;show(Op.equalIn (9999+1) k (kp x y) (kp h g)).run P w=_;unfold kp;rw[l,f];rw[show(#[f1,f2]:Array Field).toList=[f1,f2]from rfl,j,Bool.and_true]
theorem AqK{k:Nat}(q:∀x y u t,(Op.equal k (kp x y) (kp u t)).run P w=.ok (x==u&&y==t) w)(x y:Int):∀(f:List MapEntry) (s:Nat),(∀e∈f,∃a c,e.key=kp a c) ->
  ((Instr.findAsking k (kp x y) f s).run P w=.ok none w/\∀e∈f,e.key≠kp x y) \/
  ∃(j:Nat) (e:MapEntry),(Instr.findAsking k (kp x y) f s).run P w=.ok (some (s+j,e.val)) w/\f[j]?=some e/\e.key=kp x y:=by
 intro f
 induction f with
 |nil=>intro s _;exact .inl ⟨by simp[Instr.findAsking],by simp⟩
 |cons e r A=>
  intro s h;obtain⟨a,c,l⟩:=h e (by simp)
  by_cases hn:x=a/\y=c
  ·obtain⟨rfl,rfl⟩:=hn;right;exact⟨0,e,by simp[Instr.findAsking,l,q],rfl,l⟩
  ·have z:(x==a&&y==c)=false:=by
    cases g:(x==a&&y==c)with
    |false=>rfl
    |true=>simp at g;exact absurd g hn
   have o:(Instr.findAsking k (kp x y) (e::r) s).run P w=(Instr.findAsking k (kp x y) r (s+1)).run P w:=by
    simp[Instr.findAsking,l,q,z]
   rcases A (s+1) (fun i b=>h i (by simp[b]))with⟨n,m⟩|⟨j,i,n,m,v⟩
   ·left;refine⟨by rw[o,n],fun i b=>?_⟩;rcases C0.1 b with rfl|b
    ·rw[l];intro g;simp[kp]at g;exact hn ⟨g.1.symm,g.2.symm⟩
    ·exact m i b
   ·right;exact⟨j+1,i,by rw[o,n];congr 3;omega,by simpa using m,v⟩
theorem Amv{k:Nat}{f1 f2:Field}(t:P.underlying k=some (.struct #[f1,f2]))(A:∀x y v u,(Op.equal k (kp x y) (kp v u)).run P w=.ok (x==v&&y==u) w){b:Array MapEntry}{has:Int->Int->Bool}(o:PMOK b has)(x y:Int):
  (has x y=false/\(Instr.findKey k (kp x y) b.toList).run P w=.ok none w) \/
  (has x y=true/\∃(j:Nat) (e:MapEntry),(Instr.findKey k (kp x y) b.toList).run P w=.ok (some (j,e.val)) w/\b[j]?=some e/\e.key=kp x y):=by
 have g:∀e∈b.toList,∃a c,e.key=kp a c:=by
  intro e B;obtain⟨i,hi,rfl⟩:=D1 B;obtain⟨a,c,m,_⟩:=o.1 i b.toList[i] (by simp at hi ⊢);exact⟨a,c,m⟩
 have f:(Instr.findKey k (kp x y) b.toList).run P w=(Instr.findAsking k (kp x y) b.toList 0).run P w:=by
  cases C:b.toList with
  |nil=>simp[Instr.findKey,run_underlying t,Instr.findNow,Instr.findAsking]
  |cons e r=>
   have:Instr.findNow (.struct #[f1,f2]) (kp x y) (e::r) 0=none:=by
    simp[Instr.findNow,Instr.sameNow]
   simp[Instr.findKey,run_underlying t,this]
 rcases AqK A x y b.toList 0 g with⟨m,n⟩|⟨j,e,m,n,s⟩
 ·left;refine⟨?_,by rw[f,m]⟩
  cases z:has x y with
  |false=>rfl
  |true=>
   obtain⟨i,e,l,q⟩:=o.2.1 x y z;exact absurd q (n e (by simpa using F0 l))
 ·right;have h:b[j]?=some e:=by simpa using n
  obtain⟨a,c,l,q⟩:=o.1 j e h;rw[s]at l;simp[kp]at l;obtain⟨rfl,rfl⟩:=l;exact⟨q,j,e,by rw[f,m];simp,h,s⟩
theorem AtK{S:Nat->Prop}{objs:Ay}{v:Value}{x:MV}{p q:Int}(h:RelV U objs S w v x)(b:key2 x=some (p,q)):v=kp p q:=by
 unfold key2 at b;split at b
 case h_2=>simp at b
 rename_i a c r;simp only[A1,A4]at b;obtain⟨rfl,rfl⟩:=b;obtain⟨us,j,g,f⟩:=AkA h r;have l:=(f 0 _ rfl).1.inv_v.1;have n:=(f 1 _ rfl).1.inv_v.1;rw[j];unfold kp;congr 1;refine Array.ext (by simpa using g) fun i k m=>?_
 have o:i<2:=by simpa using m
 match i,o with
 |0,_=>simpa[A5,k]using l
 |1,_=>simpa[A5,k]using n
theorem Awn(D:Qy P T)(hE:∀t i,assoc T t=some i->i.eq=true->AaX P t)(h:Rel cx U O a w){t:Nat}{ok:Bool}{ox F:Operand}(hx:Au ox=true)(hy:Au F=true){y:MV}{wo obl}{ob:Nat->Option Obj}
  (Q:∀k o,ob k=some o->O.objs k=some o) (r:Yy T t ob ok (ev O ox) (ev O F)=some (y,wo,obl)) (W:All obl):
  Out P cx O a (Instr.lookup t (a.eval ox) (a.eval F) ok) w y wo:=by
 have rx:=Bi h ox hx;have ry:=Bi h F hy;unfold Yy at r;split at r
 case h_2=>simp at r
 rename_i k e ta tc p q k1 g K x hp;obtain⟨Y,J,⟨f1,f2,N,o1,X,o2,t2⟩,ia,ic,_⟩:=AiN D.1 hE K;have ey:=AtK ry x;split at r
 case h_2=>simp at r
 rename_i z0 z has f M hm;simp only[A1,A4]at r;obtain⟨rfl,rfl,rfl⟩:=r;simp only[All,and_true]at W;rw[hp]at rx;obtain⟨b,hv,H⟩:=rx.inv_mref;have B:=Q _ _ (AkP hm);have hl:=H.get B;obtain⟨b',es,clock,l,hh,V,L,hr⟩:=h.ob k1 _ B;rw[hl]at l;injection l with l
 subst l;rw[hv,ey];obtain⟨v0,R,s⟩:=Ajd (P:=P) (w:=w) D M (S:=Ap cx.Av U O.objs w);have n:(getObj b).run P w=.ok (.map es clock) w:=by simp[getObj,Sem.run,hh]
 have hq:=ApM (P:=P) (w:=w) D.1 J N o1 o2 X t2 ia ic;obtain⟨i1,q1,q2⟩:=ia;obtain⟨i2,r1,r2⟩:=ic;have A:TyFact P f1.type i1:=by rw[X];exact D.1 _ _ q1
 have E:TyFact P f2.type i2:=by rw[t2];exact D.1 _ _ r1
 have C:(Instr.checkKey es.isEmpty 10000 k (kp p q)).run P w=.ok () w:=AlA N o1 o2 (A.int q2) (E.int r2) A (by rw[q2];rfl) E (by rw[r2];rfl) _ p q
 have m:∀(u:Value),Rep (Ap cx.Av U O.objs w) w u (f p q) ->
   RelV U O.objs (Ap cx.Av U O.objs w) w (if ok=true then .tuple #[u,.bool (has p q)]else u) (bif ok then .tup [.p (f p q),.p (.v (.bool (has p q)))]else .p (f p q)):=by
  intro u v
  cases ok with
  |false=>exact .p _ _ v
  |true=>
   refine .tup _ _ rfl (fun i q hi=>?_)
   match i,hi with
   |0,hi=>simp at hi;subst hi;exact .p _ _ v
   |1,hi=>simp at hi;subst hi;exact .mk_v rfl
   |i+2,hi=>simp at hi
 rcases Amv (P:=P) (w:=w) N hq V p q with⟨G,I⟩|⟨G,j,e1,I,h3,h4⟩
 ·refine AxP h ?_ (m v0 (by rw[L p q G];exact W _ _ _ s));simp[Instr.lookup,run_underlying Y,n,C,I,R,G]
 ·refine AxP h ?_ (m e1.val (hr j e1 p q h3 h4));simp[Instr.lookup,run_underlying Y,n,C,I,G]
theorem Ams(s:Qy P T)(l:∀t i,assoc T t=some i->i.eq=true->AaX P t)(h:Rel cx U O a w){t dst:Nat}{r:Option Value}(m:r=none\/∃k n,r=some (.int k n)){y:MV}{wo obl}{ob:Nat->Option Obj}(f:ob (key dst 0)=O.objs (key dst 0))
  (b:Ph T t dst ob=some (y,wo,obl)):Out P cx O a (Instr.makeMap t r) w y wo:=by
 unfold Ph at b;split at b
 case h_2=>simp at b
 rename_i k e C x g;obtain⟨o,_⟩:=AiN s.1 l g;split at b
 case h_2=>simp at b
 rename_i z E;simp only[A1,A4]at b;obtain⟨rfl,rfl,rfl⟩:=b;refine⟨.map (some w.heap.size),w.alloc (.map #[] 0),Hl U (key dst 0) (.box w.heap.size),?_,?_,?_⟩
 ·rcases m with rfl|⟨k1,n1,rfl⟩
  ·simp[Instr.makeMap]
  ·simp[Instr.makeMap,run_underlying o,asInt,asIntOf]
 ·simp only[Cf,f];refine h.fresh (key dst 0) _ (.box w.heap.size) w (.map #[] 0) ⟨rfl,rfl,rfl,rfl⟩ rfl (.inl (by unfold key;omega)) ?_;intro A u objs' B v;exact⟨w.heap.size,#[],0,rfl,heap_alloc_new w _,⟨fun i e hi=>by simp at hi,fun a c q=>by simp at q,fun i j e D hi=>by simp at hi⟩,fun _ _ _=>rfl,fun i e a c hi=>by simp at hi⟩
 ·simp only[Cf,f];exact .mref _ _ _ ⟨_,Bj _ _ _,B2 _,fun _=>by rw[Dq]⟩
theorem Awo(x y:Int):Instr.sameBits 10000 (kp x y) (kp x y)=true:=by
 show Instr.sameBits (9999+1) (kp x y) (kp x y)=true;simp[Instr.sameBits,kp]
theorem AlY{a c b f:Int}(h:kp a c=kp b f):a=b/\c=f:=by
 simpa[kp]using h
theorem AoJ(hT:Qy P T)(hE:∀t i,assoc T t=some i->i.eq=true->AaX P t)(h:Rel cx U O a w){t:Nat}{om ok J:Operand}(hm:Au om=true)(hk:Au ok=true)(hv:Au J=true){y:MV}{wo obl}{ob:Nat->Option Obj}
  (hob:∀k o,ob k=some o->O.objs k=some o) (X:Mu T t ob (ev O om) (ev O ok) (ev O J)=some (y,wo,obl)):
  ∃w' β',(Instr.mapUpdate t (a.eval om) (a.eval ok) (a.eval J)).run P w=.ok () w'/\Rel cx β' ⟨O.slots,Cf O.objs wo⟩ a w'/\y=.und:=by
 have rm:=Bi h om hm;have rk:=Bi h ok hk;have rv:=Bi h J hv;unfold Mu at X;split at X
 case h_2=>simp at X
 rename_i mt q g p r x hmt hpm G hpv;obtain⟨k,e,ta,tc⟩:=mt;obtain⟨hu,hEq,⟨f1,f2,Y,o1,t1,o2,t2⟩,ia,ic,_⟩:=AiN hT.1 hE hmt;split at X
 case h_2=>simp at X
 rename_i z has f hg;simp only[A1,A4]at X;obtain⟨rfl,rfl,rfl⟩:=X;rw[hpm]at rm;have ek:=AtK rk G;have V:=AmQ rv hpv;obtain⟨b,hbv,hkn⟩:=rm.inv_mref;have W:=hob _ _ (AkP hg);have hl:=hkn.get W;obtain⟨b',H,clock,N,hh,C,hzz,hr⟩:=h.ob q _ W;rw[hl]at N;injection N with N
 subst N;have hq:=ApM (P:=P) (w:=w) hT.1 hEq Y o1 o2 t1 t2 ia ic;obtain⟨i1,q1,q2⟩:=ia;obtain⟨i2,r1,r2⟩:=ic;have hF1:TyFact P f1.type i1:=by rw[t1];exact hT.1 _ _ q1
 have hF2:TyFact P f2.type i2:=by rw[t2];exact hT.1 _ _ r1
 have hck:(Instr.checkKey false 10000 k (kp p r)).run P w=.ok () w:=AlA Y o1 o2 (hF1.int q2) (hF2.int r2) hF1 (by rw[q2];rfl) hF2 (by rw[r2];rfl) _ p r;have Q:(getObj b).run P w=.ok (.map H clock) w:=by simp[getObj,Sem.run,hh]
 have R:∀o,(setObj b o).run P w=.ok () {w with heap:=w.heap.setIfInBounds b o}:=by intro o;simp[setObj,Sem.run,hh]
 have fin:∀(I:Array MapEntry) (l:Nat),PMOK I (Ve has p r true) ->
   (∀(i:Nat) (e:MapEntry) (m n:Int),I[i]?=some e->e.key=kp m n->Rep (Ap cx.Av U O.objs w) w e.val (Ve f p r x m n)) ->
   Rel cx U ⟨O.slots,Bm O.objs q ⟨g,.mq (.pm z (Ve has p r true) (Ve f p r x))⟩⟩ a {w with heap:=w.heap.setIfInBounds b (.map I l)}:=by
  intro I l hm' hr';refine h.reput (bd':=.mq (.pm z (Ve has p r true) (Ve f p r x))) W hl trivial trivial trivial hh (.map I l) fun S' w' hS hw hb objs'=>?_
  refine⟨b,I,l,rfl,hb,hm',fun m n M=>?_,fun i e m n hi s=>(hr' i e m n hi s).mono hS hw⟩;simp only[Ve]at M ⊢;split at M
  ·simp at M
  ·rename_i K;rw[if_neg K];exact hzz m n M
 rw[hbv,ek];rcases Amv (P:=P) (w:=w) Y hq C p r with⟨h1,h2⟩|⟨h1,j,e1,h2,h3,h4⟩
 ·refine⟨_,U,?_,fin (H.push {key:=kp p r,val:=a.eval J,born:=clock}) (clock+1) ?_ ?_,rfl⟩
  ·simp[Instr.mapUpdate,run_underlying hu,Q,hck,h2,R]
  ·have E:∀(i:Nat) (e:MapEntry),(H.push {key:=kp p r,val:=a.eval J,born:=clock})[i]?=some e->(H[i]?=some e)\/(i=H.size/\e={key:=kp p r,val:=a.eval J,born:=clock}):=by
    intro i e hi;rw[F4]at hi;split at hi
    ·rename_i hie;right;exact⟨hie,by simpa using hi.symm⟩
    ·left;exact hi
   have hnk:∀(i:Nat) (e:MapEntry),H[i]?=some e->e.key≠kp p r:=by
    intro i e hi hek;obtain⟨m,n,D,B⟩:=C.1 i e hi;rw[hek]at D;obtain⟨rfl,rfl⟩:=AlY D;rw[h1]at B;simp at B
   refine⟨fun i e hi=>?_,fun m n A=>?_,fun i j e e' hi hj L=>?_⟩
   ·rcases E i e hi with D|⟨_,rfl⟩
    ·obtain⟨m,n,B,h7⟩:=C.1 i e D;refine⟨m,n,B,?_⟩;simp only[Ve];split
     ·rfl
     ·exact h7
    ·exact⟨p,r,rfl,by simp[Ve]⟩
   ·simp only[Ve]at A
    by_cases hmn:m=p/\n=r
    ·obtain⟨rfl,rfl⟩:=hmn;exact⟨H.size,{key:=kp m n,val:=a.eval J,born:=clock},by simp,rfl⟩
    ·rw[if_neg hmn]at A;obtain⟨i,e,D,B⟩:=C.2.1 m n A;have hlt:=(C3.1 D).1;exact⟨i,e,by rw[F4,if_neg (by omega)];exact D,B⟩
   ·rcases E i e hi with D|⟨D,rfl⟩
    ·rcases E j e' hj with B|⟨B,rfl⟩
     ·exact C.2.2 i j e e' D B L
     ·exact absurd L (hnk i e D)
    ·rcases E j e' hj with B|⟨B,rfl⟩
     ·exact absurd L.symm (hnk j e' B)
     ·omega
  ·intro i e m n hi s;rw[F4]at hi;split at hi
   ·simp at hi;subst hi;simp only at s;obtain⟨rfl,rfl⟩:=AlY s;simp only[Ve,and_self,if_true];exact V
   ·have K:¬ (m=p/\n=r):=by
     rintro⟨rfl,rfl⟩;obtain⟨m',n',D,B⟩:=C.1 i e hi;rw[s]at D;obtain⟨rfl,rfl⟩:=AlY D;rw[h1]at B;simp at B
    simp only[Ve,if_neg K];exact hr i e m n hi s
 ·have hjlt:j<H.size:=(C3.1 h3).1
  have F:∀(i:Nat),(H.modify j fun e=>{e with key:=kp p r,val:=a.eval J})[i]?=if i=j then some {e1 with key:=kp p r,val:=a.eval J}else H[i]?:=by
   intro i;rw[K1]
   by_cases u:j=i
   ·subst u;simp[h3]
   ·have:¬ i=j:=fun e=>u e.symm
    simp[u,this]
  refine⟨_,U,?_,fin (H.modify j fun e=>{e with key:=kp p r,val:=a.eval J}) clock ?_ ?_,rfl⟩
  ·have hkk:((H[j]?).map (·.key)).getD (kp p r)=kp p r:=by rw[h3];simp[h4]
   have hks:∀(v:Value),v=kp p r->(Instr.keyThatStays v (kp p r)).run P w=.ok (kp p r) w:=by
    intro v hv2;subst hv2;simp[Instr.keyThatStays,Awo]
   simp[Instr.mapUpdate,run_underlying hu,Q,hck,h2,R,hks _ hkk]
  ·have G:∀(i:Nat) (e:MapEntry),(H.modify j fun e=>{e with key:=kp p r,val:=a.eval J})[i]?=some e->∃e0,H[i]?=some e0/\e0.key=e.key:=by
    intro i e hi;rw[F i]at hi;split at hi
    ·rename_i u;simp at hi;subst hi;exact⟨e1,by rw[u];exact h3,h4⟩
    ·exact⟨e,hi,rfl⟩
   refine⟨fun i e hi=>?_,fun m n A=>?_,fun i i' e e' hi hi' L=>?_⟩
   ·rw[F i]at hi;split at hi
    ·simp at hi;subst hi;exact⟨p,r,rfl,by simp[Ve]⟩
    ·obtain⟨m,n,B,h7⟩:=C.1 i e hi;refine⟨m,n,B,?_⟩;simp only[Ve];split
     ·rfl
     ·exact h7
   ·simp only[Ve]at A
    by_cases hmn:m=p/\n=r
    ·obtain⟨rfl,rfl⟩:=hmn;exact⟨j,_,by rw[F j,if_pos rfl],rfl⟩
    ·rw[if_neg hmn]at A;obtain⟨i,e,D,B⟩:=C.2.1 m n A
     have u:i≠j:=by
      intro u;subst u;rw[h3]at D;injection D with D
      subst D;rw[h4]at B;obtain⟨rfl,rfl⟩:=AlY B;exact hmn ⟨rfl,rfl⟩
     exact⟨i,e,by rw[F i,if_neg u];exact D,B⟩
   ·obtain⟨e0,q1,q2⟩:=G i e hi;obtain⟨e0',r1,r2⟩:=G i' e' hi';exact C.2.2 i i' e0 e0' q1 r1 (by rw[q2,r2];exact L)
  ·intro i e m n hi s;rw[F i]at hi;split at hi
   ·simp at hi;subst hi;simp only at s;obtain⟨rfl,rfl⟩:=AlY s;simp only[Ve,and_self,if_true];exact V
   ·rename_i u
    have K:¬ (m=p/\n=r):=by
     rintro⟨rfl,rfl⟩;exact u (C.2.2 i j e e1 hi h3 (by rw[s,h4]))
    simp only[Ve,if_neg K];exact hr i e m n hi s
def ApG(ob:Nat->Option Obj)(k g:Nat):Option (ByteArray×Nat):=
 match ob k with
 |some ⟨g',.mq (.sit s pos)⟩=>bif Nat.beq g' g then some (s,pos)else none
 |_=>none
def Um(T:Ty)(t dst:Nat)(ob:Nat->Option Obj)(x:MV):Option Eff:=
 match assoc T t,x with
 |some ⟨.str,_,_,_,_⟩,.p (.v (.string s))=>some (.ref (key dst 0) (Bt (ob (key dst 0))) 0,[(key dst 0,⟨Bt (ob (key dst 0)),.mq (.sit s 0)⟩)],[])
 |_,_=>none
def AdE(bx:Bool)(ob:Nat->Option Obj)(x:MV):Option Eff:=
 match x with
 | .ref k g 0=>match ApG ob k g with
  |some (s,pos)=>bif bx then
    some (.p (.tup [.v (.bool true),.v (.int .i64 (pos:Nat)),.v (.int .i32 (Utf8.decode s pos).1)]),[(k,⟨g,.mq (.sit s (pos+(Utf8.decode s pos).2))⟩)],[pos<s.size])
   else some (.p (.tup [.v (.bool false)]),[],[¬ pos<s.size])
  |none=>none
 |_=>none
theorem Awt{ob:Nat->Option Obj}{k g:Nat}{s:ByteArray}{pos:Nat}(h:ApG ob k g=some (s,pos)):ob k=some ⟨g,.mq (.sit s pos)⟩:=by
 unfold ApG at h;split at h
 ·rename_i i j l f
  cases b:Nat.beq i g with
  |false=>simp[b]at h
  |true=>
   simp[b]at h;rw[f,A3 b,h.1,h.2]
 ·simp at h
theorem Awy(l:Ip P T)(h:Rel cx U O a w){t dst:Nat}{ox:Operand}(k:Au ox=true){y:MV}{wo obl}{ob:Nat->Option Obj}(f:ob (key dst 0)=O.objs (key dst 0))
  (b:Um T t dst ob (ev O ox)=some (y,wo,obl)):Out P cx O a (Instr.range t (a.eval ox)) w y wo:=by
 have g:=Bi h ox k;unfold Um at b;split at b
 case h_2=>simp at b
 rename_i u x v n s hi i;have j:=(l t _ hi).str rfl;simp only[A1,A4]at b;obtain⟨rfl,rfl,rfl⟩:=b;rw[i]at g;rw[g.inv_v.1];refine⟨.pointer (some ⟨w.heap.size,0,none⟩),w.alloc (.stringIter s 0),Hl U (key dst 0) (.box w.heap.size),?_,?_,?_⟩
 ·simp[Instr.range,run_underlying j]
 ·simp only[Cf,f];refine h.fresh (key dst 0) _ (.box w.heap.size) w (.stringIter s 0) ⟨rfl,rfl,rfl,rfl⟩ rfl (.inl (by unfold key;omega)) ?_;intro q m objs' r o;exact⟨w.heap.size,rfl,heap_alloc_new w _⟩
 ·simp only[Cf,f];exact .ref _ _ _ _ ⟨_,Bj _ _ _,B2 _,fun _=>by rw[Dq]⟩
theorem snd_nextS{bx:Bool}(h:Rel cx U O a w){ty:TypeId}{ox:Operand}(F:Au ox=true){y:MV}{wo obl}{ob:Nat->Option Obj}(u:∀k o,ob k=some o->O.objs k=some o)
  (j:AdE bx ob (ev O ox)=some (y,wo,obl)) (A:All obl):Out P cx O a (Instr.next (a.eval ox) true ty) w y wo:=by
 have C:=Bi h ox F;unfold AdE at j;split at j
 case h_2=>simp at j
 rename_i k g D;split at j
 case h_2=>simp at j
 rename_i s pos E;rw[D]at C;obtain⟨b,G,t⟩:=C.inv_ref;have n:=u _ _ (Awt E);have B:=t.get n;obtain⟨H,f,x⟩:=h.ob k _ n;rw[B]at f;injection f with f
 subst f;have l:(getObj b).run P w=.ok (.stringIter s pos) w:=by simp[getObj,Sem.run,x]
 have r:∀o,(setObj b o).run P w=.ok () {w with heap:=w.heap.setIfInBounds b o}:=by intro o;simp[setObj,Sem.run,x]
 rw[G]
 cases bx with
 |true=>
  simp only[cond_true,A1,A4]at j;obtain⟨rfl,rfl,rfl⟩:=j;have m:pos<s.size:=A.1;refine⟨.tuple #[.bool true,.int .i64 (pos:Nat),.int .i32 (Utf8.decode s pos).1],{w with heap:=w.heap.setIfInBounds b (.stringIter s (pos+(Utf8.decode s pos).2))},U,?_,?_,?_⟩
  ·simp[Instr.next,at_,l,m,r,goInt]
  ·simp only[Cf];exact h.reput (bd':=.mq (.sit s (pos+(Utf8.decode s pos).2))) n B trivial trivial trivial x _ fun J w' K I z objs'=>⟨b,rfl,z⟩
  ·refine .p _ _ (.tup _ _ rfl fun i q hi=>?_)
   match i,hi with
   |0,hi=>simp at hi;subst hi;exact .v _ rfl
   |1,hi=>simp at hi;subst hi;exact .v _ rfl
   |2,hi=>simp at hi;subst hi;exact .v _ rfl
   |i+3,hi=>simp at hi
 |false=>
  simp only[cond_false,A1,A4]at j;obtain⟨rfl,rfl,rfl⟩:=j;have m:¬ pos<s.size:=A.1;refine AxP h (v:=.tuple #[.bool false]) ?_ ?_
  ·simp[Instr.next,at_,l,m]
  ·refine .p _ _ (.tup _ _ rfl fun i q hi=>?_)
   match i,hi with
   |0,hi=>simp at hi;subst hi;exact .v _ rfl
   |i+1,hi=>simp at hi
theorem snd_make(hT:Ip P T)(R:∀t i,assoc T t=some i->i.zero.all (fun c=>c.oneCell')=true)(h:Rel cx U O a w){t dst:Nat}{ox I:Operand}(hx:Au ox=true)(hy:Au I=true){y:MV}{wo obl}{ob:Nat->Option Obj}
  (Q:ob (key dst 0)=O.objs (key dst 0)) (l:Agn T t dst ob (ev O ox) (ev O I)=some (y,wo,obl)) (ho:All obl):Out P cx O a (Instr.makeSlice t (a.eval ox) (a.eval I)) w y wo:=by
 have rx:=Bi h ox hx;have ry:=Bi h I hy;unfold Agn at l;split at l
 case h_2=>simp at l
 rename_i e s1 s2 s3 s4 k1 z k2 c hi L N;have hu:=(hT t _ hi).slice rfl;split at l
 case h_2=>simp at l
 rename_i i D;have hF:=hT e i D
 cases B:(Nat.beq i.zero.length i.size&&Nat.blt 0 i.size)with
 |false=>simp only[B,cond_false]at l;simp at l
 |true=>
 simp only[B,cond_true]at l;simp only[A6]at B;have b2:=A3 B.1;have b3:0<i.size:=A8 B.2;split at l
 case h_2=>simp at l
 rename_i W J;simp only[A1,Ta,A4]at l;obtain⟨rfl,rfl,rfl⟩:=l;obtain⟨o1,o2,o3,o4,_⟩:=ho;subst o2;rw[L]at rx;rw[N]at ry;obtain⟨v,hz,F⟩:=hF.zeroValue w;have b:v.cells.size=i.size:=by rw[<-b2,<-F];simp
 obtain⟨g1,g2⟩:=Ahn h F (R _ _ D);have M:=Cells.of g1 g2;have C:=Hv J
 have r:W.length=i.size:=by
  have:=congrArg List.length C;simp at this;omega
 generalize hn:z.toNat=n;have V:z=(n:Int):=by omega
 obtain⟨r1,r2⟩:=h.newRow (key dst 0) i.size n n ((Array.range (n*i.size)).map (v.cells[· % v.cells.size]!)) e (fun _=>W) w ⟨rfl,rfl,rfl,rfl⟩ (.inl (by unfold key;omega)) (B2 _) (by simp) (fun j hj=>by
  refine⟨r,fun q x hq=>?_⟩;have K:q<i.size:=by rw[<-r];exact(A9.1 hq).1
  have Y:(j+1)*i.size<=n*i.size:=C5 _ hj;have hexp:(j+1)*i.size=j*i.size+i.size:=H2 j i.size;obtain⟨u,u1,u2,u3⟩:=M.get (i:=q) (y:=.p x) (by rw[C,A7,hq];rfl);refine⟨u,?_,u2,u3.inv_p⟩;have e1:=Akl v.cells n (by omega);rw[b]at e1
  have e2:(((Array.range (n*i.size)).map (v.cells[· % v.cells.size]!)).toList)[j*i.size+q]?=some u:=by
   rw[b,e1,Adr _ (by simp;omega) n _ (by simp[b];omega)]
   have e3:(j*i.size+q) % v.cells.toList.length=q:=by
    rw[K5,b,M8,P0,M0 K]
   rw[e3];exact u1
  rw[I2]at e2
  exact e2)
 rw[Q];refine⟨_,_,_,?_,r1,r2⟩;have X:IntKind.i64.wrap z=z:=IntWalk.i64_in z ⟨by omega,by omega⟩
 have A:¬ (n*i.bytes>roomBytes):=by
  unfold roomBytes;rw[V]at o4;have:((n*i.bytes:Nat):Int)<=140737488355328:=by rw[Int.natCast_mul];exact o4
  omega
 have H:¬ ((i.bytes:Int)*z>2 ^ 48):=by
  rw[Int.mul_comm];omega
 have s:¬ z<0:=by omega
 rw[rx.inv_v.1,ry.inv_v.1];obtain⟨xi,zi,m,G,E,hxz,_,_⟩:=hF.info;have o:¬ (281474976710656<(xi.bytes:Int)*z):=by rw[E];exact H
 have k:¬ (roomBytes<n*xi.bytes):=by rw[E];exact A
 by_cases h0:n*i.size=0
 ·simp[Instr.makeSlice,run_underlying hu,asInt,asIntOf,sizeOf,typeInfo,m,X,s,o,hn,askRoom,k,G,h0,newRow,at_];have e0:∀f g:Nat->Value,Array.map f (Array.range 0)=Array.map g (Array.range 0):=fun f g=>Array.ext (by simp) (fun i h1 h2=>by simp at h1)
  rw[e0]
 ·simp[Instr.makeSlice,run_underlying hu,asInt,asIntOf,sizeOf,typeInfo,m,X,s,o,hn,askRoom,k,G,h0,newRow,hz,at_]
end
end Go.Dm

namespace Go.Dm
def MV.keys:MV->List Nat
 | .own k _ _ _=>[k]
 | .ref k _ _=>[k]
 | .eref k _ _ _=>[k]
 | .mref k _=>[k]
 |_=>[]
def Lo(op:Op)(dst:Nat)(xs:List MV):List Nat:=
 match op,xs with
 | .alloc _,_ | .box _ _,_ | .buildSlice ..,_=>[key dst 0]
 | .makeSlice ..,_=>[key dst 0]
 | .load _ _,[x]=>x.keys
 | .store _ _ _,[x,_]=>x.keys
 | .indexAddr ..,[x,_]=>x.keys
 | .slice ..,x::_=>x.keys
 | .makeMap ..,_=>[key dst 0]
 | .lookup ..,[x,_]=>x.keys
 | .mapUpdate ..,[x,_,_]=>x.keys
 | .insert ..,[x,_,_]=>x.keys
 | .mapEntry ..,[x,_]=>x.keys
 | .entryStore ..,[x,_,_]=>x.keys
 | .range ..,[x]=>x.keys++[key dst 0]
 | .next ..,[x]=>x.keys
 | .entry _,[x]=>x.keys
 | .call ⟨.builtin .delete,_,_⟩,[x,_]=>x.keys
 | .call ⟨.builtin .clear,_,_⟩,[x]=>x.keys
 | .call ⟨.builtin .copy,_,_⟩,[x,y]=>x.keys++y.keys
 | .call ⟨.builtin .append,_,_⟩,[s,x]=>s.keys++x.keys++[key dst 0]
 |_,_=>[]
def elem(k:Nat):List Nat->Bool
 |[]=>false
 |j::r=>Nat.beq k j||elem k r
def only(ks:List Nat)(objs:Ay):Ay:=fun k=>bif elem k ks then objs k else none
def Vs:Operand->Bool
 | .const (.int _ (.ofNat 0))=>true
 |_=>false
theorem Aoz{q:Operand}(h:Vs q=true):∃k,q=.const (.int k 0):=by
 unfold Vs at h;split at h
 ·exact⟨_,rfl⟩
 ·simp at h
def orE:Option Eff->Option Eff->Option Eff
 |some e,_=>some e
 |none,x=>x
theorem Vg{a b:Option Eff}{e:Eff}(h:orE a b=some e):a=some e\/b=some e:=by
 cases a with
 |none=>exact .inr h
 |some _=>exact .inl h
def Cd(T:Ty)(op:Op)(dst:Nat)(bx:Bool)(ob:Ay)(xs:List MV):Option Eff:=
 match op,xs with
 | .move _,[x]=>AbN x
 | .assign _,[x]=>AbN x
 | .pick _ _ _,[c,a,b]=>ArC bx c a b
 | .alloc t,[]=>AdJ T t dst ob
 | .box _ _,[x]=>Ajf dst ob x
 | .build t ps,xs=>Abw T t ((ps.toList.map (·.1)).zip xs)
 | .buildSlice t len ps,xs=>Ob T t len dst ob ((ps.toList.map (·.1)).zip xs)
 | .load t _,[x]=>Zg T t ob x
 | .store t _ _,[x,y]=>Ads T t ob x y
 | .nilCheck _,[x]=>Ajq x
 | .binOp op t _ _ _,[x,y]=>Agl T op t x y
 | .unOp op _ _,[x]=>AnC op x
 | .convert s d _,[x]=>bif (assoc T s).isSome then(match Zx T d x with
  |some e=>some e
  |none=>Adv T d x)else none
 | .slice t _ none none none,[x]=>Of T t ob x none none
 | .slice t _ (some _) none none,[x,l]=>match Hq l with
  |some j=>Of T t ob x (some j) none
  |none=>none
 | .slice t _ none (some _) none,[x,h]=>match Hq h with
  |some g=>Of T t ob x none (some g)
  |none=>none
 | .slice t _ (some _) (some _) none,[x,l,h]=>match Hq l,Hq h with
  |some j,some g=>bif bx then Of T t ob x (some j) (some g)else AiO T t ob x j g
  |_,_=>none
 | .slice t _ none (some h) (some m),[x,_,_]=>bif Vs h&&Vs m then Ul T t x else none
 | .slice t _ (some _) (some _) (some _),[x,l,h,m]=>match Hq l,Hq h,Hq m with
  |some j,some g,some zm=>AmK T t ob x j g zm
  |_,_,_=>none
 | .makeFunc (.func f) first cap,xs=>bif first.isEmpty then Agq f xs else bif cap.isEmpty then AdB f xs else none
 | .fieldAddr t _ f,[x]=>Tz T t f x
 | .field t _ f,[x]=>Ady T t f x
 | .indexAddr t _ _,[x,y]=>Ub T t ob x y
 | .index t _ _,[x,y]=>Adi T t x y
 | .extract _ i,[x]=>Zs i x
 | .makeSlice t _ _,[x,y]=>Agn T t dst ob x y
 | .makeMap t none,[]=>orE (Rs T t dst ob) (Ph T t dst ob)
 | .makeMap t (some _),[x]=>match Hq x with
  |some _=>orE (Rs T t dst ob) (Ph T t dst ob)
  |none=>none
 | .lookup t _ _ ok,[x,y]=>orE (AbK T t ob ok x y) (Yy T t ob ok x y)
 | .mapUpdate t _ _ _,[x,y,z]=>orE (Pi T t ob x y z) (Mu T t ob x y z)
 | .insert t _ _ _,[x,y,z]=>orE (Pi T t ob x y z) (Mu T t ob x y z)
 | .mapEntry t _ _,[x,y]=>AiK T t ob x y
 | .range t _,[x]=>orE (Xx T t dst ob x) (Um T t dst ob x)
 | .next _ true,[x]=>AdE bx ob x
 | .entry _,[x]=>Adp ob x
 | .call ⟨.builtin .len,_,ts⟩,[x]=>match ts.toList with
  |[t]=>AjN T t x
  |_=>none
 | .call ⟨.builtin .append,_,ts⟩,[s,x]=>match ts.toList with
  |[t,t2]=>match AbF T t t2 dst ob s x with
   |some e=>some e
   |none=>AiT T t t2 ob s x
  |_=>none
 | .call ⟨.builtin .clear,_,ts⟩,[x]=>match ts.toList with
  |[t]=>AdA T t ob x
  |_=>none
 | .call ⟨.builtin .copy,_,ts⟩,[x,y]=>match ts.toList with
  |[t,_]=>Agr T t ob x y
  |_=>none
 | .call ⟨.builtin .delete,_,ts⟩,[x,y]=>match ts.toList with
  |[t,_]=>AbJ T t ob x y
  |_=>none
 | .call ⟨.builtin .min,_,_⟩,[x,y]=>Aet false x y
 | .call ⟨.builtin .max,_,_⟩,[x,y]=>Aet true x y
 |_,_=>none
structure Hx(P:Program)(T:Ty):Prop where
 ok:Ip P T
 z1:∀t i,assoc T t=some i->i.zero.all (fun c=>c.oneCell')=true
 fk:∀t fs s b z q,assoc T t=some ⟨.struct fs,s,b,z,q⟩->fs.all (fun p=>(assoc T p.2).isSome)=true
 eqk:∀t i,assoc T t=some i->i.eq=true->AaX P t
def Qt(op:Op):List Nat:=op.operands.toList.filterMap fun | .tmp t=>some t|_=>none
def Jt(op:Op):Bool:=!AjI op&&op.operands.toList.all Au
theorem Abz{O Z:St}{op:Op}(h:∀t∈Qt op,Z.slots t=O.slots t):op.operands.toList.map (ev Z)=op.operands.toList.map (ev O):=by
 apply C8;intro x b
 cases x with
 |tmp t=>exact h t (List.mem_filterMap.2 ⟨.tmp t,b,rfl⟩)
 |_=>rfl
theorem Vh(k:Nat)(l:List Nat):elem k l=true↔k∈l:=by
 induction l with
 |nil=>simp[elem]
 |cons j r b=>
  simp only[elem,B7,b,C0];constructor
  ·rintro(h|h)
   ·exact .inl (A3 h)
   ·exact .inr h
  ·rintro(h|h)
   ·subst h;exact .inl (Cr _)
   ·exact .inr h
theorem Ut{ks:List Nat}{objs objs':Ay}(h:∀k∈ks,objs k=objs' k):only ks objs=only ks objs':=by
 funext k;unfold only
 cases b:elem k ks with
 |false=>rfl
 |true=>simp[h k ((Vh k ks).1 b)]
theorem Cu{ks:List Nat}{objs:Ay}{k:Nat}{o:Obj}(h:only ks objs k=some o):objs k=some o:=by
 unfold only at h
 cases b:elem k ks with
 |false=>simp[b]at h
 |true=>simpa[b]using h
theorem Mh{ks:List Nat}{objs:Ay}{k:Nat}(h:k∈ks):only ks objs k=objs k:=by
 unfold only;rw[(Vh k ks).2 h];rfl
section
variable {P:Program} {T:Ty} {cx:Cx P} {U:Bs} {O:St} {a:Act} {w:World}
theorem AeY(h:Rel cx U O a w)(dst:Option Nat)(b:∀t,dst=some t->t<cx.nt)(v:Value)(x:MV)
  (f:RelV U O.objs (Ap cx.Av U O.objs w) w v x):
  Rel cx U ⟨Rx O.slots (dst.toList.map fun t=>(t,x)),O.objs⟩ (a.put dst v) w:=by
 cases dst with
 |none=>exact h
 |some t=>exact h.put t (b t rfl) v x f
theorem wp_of_out{o:Oper}{m:Sem Value}(b:execOp a.eval o=(do pure (.value (<-m)))){y:MV}{wo:List (Nat×Obj)}(h:Out P cx O a m w y wo)
  (i:∀t,o.dst=some t->t<cx.nt) (Q:Exit->Act->World->Prop):
  o.wp P a w (fun k w'=>∃f,Rel cx f (Hb O ⟨[],[],o.dst.toList.map fun t=>(t,y),wo⟩) k w') Q:=by
 obtain⟨v,w',f,l,g,j⟩:=h;unfold Oper.wp;rw[b];simp only[Sem.run_bind,l,Result.andThen_ok,Sem.run_pure,Oper.upon];exact⟨f,AeY g o.dst i v y j⟩
theorem AsJ{V:Type}(b:Array (Nat×Operand))(g:Operand->V):(b.toList.map (·.1)).zip (b.toList.map fun x=>g x.2)=b.toList.map fun x=>(x.1,g x.2):=by
 induction b.toList with
 |nil=>rfl
 |cons p r f=>simp[f]
theorem AmV(B:Hx P T){o:Oper}(hc:Jt o.op=true){dst:Nat}(hdst:∀t,o.dst=some t->t=dst)(bx:Bool)
  (h:Rel cx U O a w) (hd:∀t,o.dst=some t->t<cx.nt) {y:MV} {wo:List (Nat×Obj)} {obl:List Prop}
  (j:Cd T o.op dst bx (only (Lo o.op dst (o.op.operands.toList.map (ev O))) O.objs) (o.op.operands.toList.map (ev O))=some (y,wo,obl)) (F:All obl)
  (Q:Exit->Act->World->Prop):
  o.wp P a w (fun a' w'=>∃G,Rel cx G (Hb O ⟨[],[],o.dst.toList.map fun t=>(t,y),wo⟩) a' w') Q:=by
 obtain⟨Y,op,N,L,E,D⟩:=o;simp only at *
 have g:∀x∈op.operands.toList,Au x=true:=by
  simp only[Jt,A6,B6]at hc;exact hc.2
 have quick:∀(m:Sem Value),execOp a.eval ⟨Y,op,N,L,E,D⟩=(do pure (.value (<-m)))->Out P cx O a m w y wo ->
   Oper.wp P ⟨Y,op,N,L,E,D⟩ a w (fun a' w'=>∃G,Rel cx G (Hb O ⟨[],[],Y.toList.map fun t=>(t,y),wo⟩) a' w') Q:=
  fun m e h=>wp_of_out (o:=⟨Y,op,N,L,E,D⟩) e h hd Q
 cases op with
 |move x=>
  simp[Cd,Op.operands,AbN]at j;obtain⟨rfl,rfl,rfl⟩:=j
  exact quick (pure (a.eval x)) rfl (AxP h rfl (Bi h x (g x (by simp[Op.operands]))))
 |assign x=>
  simp[Cd,Op.operands,AbN]at j;obtain⟨rfl,rfl,rfl⟩:=j
  exact quick (pure (a.eval x)) rfl (AxP h rfl (Bi h x (g x (by simp[Op.operands]))))
 |pick c x z=>
  simp[Cd,Op.operands]at j
  exact quick (do pure (if <-asBool (a.eval c)then a.eval x else a.eval z)) (by simp[execOp]) (snd_pick h (g _ (by simp[Op.operands])) (g _ (by simp[Op.operands])) (g _ (by simp[Op.operands])) j F)
 |alloc t=>
  simp only[Cd,Op.operands,G2,Array.toList_empty]at j
  exact quick _ rfl (snd_alloc B.ok h (Mh (by simp[Lo])) (B.z1 t) j)
 |box t x=>
  simp[Cd,Op.operands]at j
  exact quick _ rfl (snd_box h (g _ (by simp[Op.operands])) (Mh (by simp[Lo])) j)
 |build t ps=>
  have I:Abw T t (ps.toList.map fun x=>(x.1,ev O x.2))=some (y,wo,obl):=by
   rw[<-AsJ];simpa[Cd,Op.operands,Function.comp_def]using j
  exact quick _ rfl (snd_build B.ok h (fun x K=>g _ (by simpa[Op.operands]using⟨x.1,K⟩)) (B.z1 t) (B.fk t) I)
 |buildSlice t len ps=>
  have I:Ob T t len dst (only [key dst 0] O.objs) (ps.toList.map fun x=>(x.1,ev O x.2))=some (y,wo,obl):=by
   rw[<-AsJ];simpa[Cd,Op.operands,Lo,Function.comp_def]using j
  exact quick _ rfl (Arq B.ok h (fun x K=>g _ (by simpa[Op.operands]using⟨x.1,K⟩)) (Mh (by simp)) B.z1 I)
 |load t x=>
  simp[Cd,Op.operands]at j
  exact quick _ rfl (snd_load B.ok h (g _ (by simp[Op.operands])) (fun k o=>Cu) j F)
 |store t x z=>
  simp[Cd,Op.operands]at j;obtain⟨w',G,hr,H,rfl⟩:=snd_store B.ok h (g _ (by simp[Op.operands])) (g _ (by simp[Op.operands])) (fun k o=>Cu) j F;unfold Oper.wp;simp only[execOp,Sem.run_bind,hr,Result.andThen_ok,Sem.run_pure,Oper.upon]
  exact⟨G,AeY H Y hd undef .und .und⟩
 |nilCheck x=>
  simp[Cd,Op.operands]at j;obtain⟨v,hr,hv,rfl⟩:=snd_nil (P:=P) h (o:=⟨Y,.nilCheck x,N,L,E,D⟩) rfl (g _ (by simp[Op.operands])) j;unfold Oper.wp;rw[hr];simp only[Oper.upon]
  exact⟨U,AeY h Y hd v y hv⟩
 |binOp b t x z t2=>
  simp[Cd,Op.operands]at j
  exact quick _ rfl (snd_bin2 B.ok B.eqk h (g _ (by simp[Op.operands])) (g _ (by simp[Op.operands])) j F)
 |unOp u t x=>
  simp[Cd,Op.operands]at j
  exact quick _ rfl (snd_un h (g _ (by simp[Op.operands])) j)
 |convert s d x=>
  simp only[Cd,Op.operands,D8,G2]at j
  cases hs:assoc T s with
  |none=>simp[hs]at j
  |some si=>
   simp only[hs,I0,cond_true]at j;split at j
   ·rename_i e hc;rw[j]at hc;exact quick _ rfl (AvQ B.ok h hs (g _ (by simp[Op.operands])) hc)
   ·exact quick _ rfl (snd_bytes B.ok h hs (g _ (by simp[Op.operands])) j)
 |slice t x lo hi mx=>
  have R:∀(q:Operand) (z:Int),Au q=true->Hq (ev O q)=some z->bndOK (some (a.eval q)) (some z):=by
   intro q z hq J;have rq:=Bi h q hq;unfold Hq at J;split at J
   ·rename_i k n hev;simp at J;subst J;rw[hev]at rq;exact .inr ⟨k,n,by rw[rq.inv_v.1],rfl⟩
   ·simp at J
  have K:Au x=true:=g x (by simp[Op.operands]);rcases lo with _|lo<;>rcases hi with _|hi<;>rcases mx with _|mx
  ·simp[Cd,Op.operands]at j;exact quick _ (by simp[execOp]) (AhY B.ok h K (.inl ⟨rfl,rfl⟩) (.inl ⟨rfl,rfl⟩) (fun k o=>Cu) j F)
  ·simp[Cd]at j
  ·simp[Cd,Op.operands]at j;split at j
   ·rename_i zh V;exact quick _ (by simp[execOp]) (AhY B.ok h K (.inl ⟨rfl,rfl⟩) (R hi zh (g hi (by simp[Op.operands])) V) (fun k o=>Cu) j F)
   ·simp at j
  ·have hc1:(∃k1 k2,hi=.const (.int k1 0)/\mx=.const (.int k2 0))/\Ul T t (ev O x)=some (y,wo,obl):=by
    have I:(bif Vs hi&&Vs mx then Ul T t (ev O x)else none)=some (y,wo,obl):=j
    cases J:(Vs hi&&Vs mx)with
    |false=>simp[J]at I
    |true=>
     rw[J]at I;simp only[A6]at J;obtain⟨k1,h1⟩:=Aoz J.1;obtain⟨k2,h2⟩:=Aoz J.2;exact⟨⟨k1,k2,h1,h2⟩,I⟩
   obtain⟨⟨k1,k2,rfl,rfl⟩,j⟩:=hc1;exact quick _ (by simp[execOp,Act.eval]) (Axj (k1:=k1) (k2:=k2) B.ok h K j)
  ·simp[Cd,Op.operands]at j;split at j
   ·rename_i zl M;exact quick _ (by simp[execOp]) (AhY B.ok h K (R lo zl (g lo (by simp[Op.operands])) M) (.inl ⟨rfl,rfl⟩) (fun k o=>Cu) j F)
   ·simp at j
  ·simp[Cd]at j
  ·simp[Cd,Op.operands]at j;split at j
   ·rename_i zl zh M V
    cases bx with
    |false=>
     have bi:∀(q:Operand) (z:Int),Au q=true->Hq (ev O q)=some z->∃k,a.eval q=.int k z:=by
      intro q z hq J;rcases R q z hq J with⟨e1,_⟩|⟨k,n,e1,e2⟩
      ·simp at e1
      ·injection e1 with e1
       injection e2 with e2
       subst e2;exact⟨k,e1⟩
     obtain⟨kl,el⟩:=bi lo zl (g lo (by simp[Op.operands])) M;obtain⟨kh,eh⟩:=bi hi zh (g hi (by simp[Op.operands])) V;have:=Avp (P:=P) (kl:=kl) (kh:=kh) B.ok h K (fun k o=>Cu) j F;rw[<-el,<-eh]at this
     exact quick _ (by simp[execOp]) this
    |true=>
    exact quick _ (by simp[execOp]) (AhY B.ok h K (R lo zl (g lo (by simp[Op.operands])) M) (R hi zh (g hi (by simp[Op.operands])) V) (fun k o=>Cu) j F)
   ·simp at j
  ·have bi:∀(q:Operand) (z:Int),Au q=true->Hq (ev O q)=some z->∃k,a.eval q=.int k z:=by
    intro q z hq J;rcases R q z hq J with⟨e1,_⟩|⟨k,n,e1,e2⟩
    ·simp at e1
    ·injection e1 with e1
     injection e2 with e2
     subst e2;exact⟨k,e1⟩
   simp[Cd,Op.operands]at j;split at j
   ·rename_i zl zh zm M V hzm;obtain⟨kl,el⟩:=bi lo zl (g lo (by simp[Op.operands])) M;obtain⟨kh,eh⟩:=bi hi zh (g hi (by simp[Op.operands])) V;obtain⟨km,em⟩:=bi mx zm (g mx (by simp[Op.operands])) hzm;have:=Axb (P:=P) (kl:=kl) (kh:=kh) (km:=km) B.ok h K (fun k o=>Cu) j F;rw[<-el,<-eh,<-em]at this;exact quick _ (by simp[execOp]) this
   ·simp at j
 |makeFunc fn first W=>
  cases fn with
  |func f=>
   simp only[Cd]at j
   cases hf:first.isEmpty with
   |false=>
    cases hg:W.isEmpty with
    |false=>simp[hf,hg]at j
    |true=>
    have hge:W= #[]:=by simpa using hg
    subst hge;simp[hf,Op.operands]at j;have:=snd_bound (P:=P) (f:=f) (xs:=first) h (fun x K=>g x (by simpa[Op.operands]using K)) j
    exact quick _ (by simp[execOp]) this
   |true=>
    have hfe:first= #[]:=by simpa using hf
    subst hfe;simp[Op.operands]at j;have:=snd_func (P:=P) (f:=f) (xs:=W) h (fun x K=>g x (by simpa[Op.operands]using K)) j
    exact quick _ (by simp[execOp]) this
  |_=>simp[Cd]at j
 |fieldAddr t x f=>
  simp[Cd,Op.operands]at j
  exact quick _ rfl (Atg B.ok h (g _ (by simp[Op.operands])) j)
 |field t x f=>
  simp[Cd,Op.operands]at j
  exact quick _ rfl (snd_field B.ok h (g _ (by simp[Op.operands])) j)
 |indexAddr t x z=>
  simp[Cd,Op.operands]at j
  exact quick _ rfl (Atb B.ok h (g _ (by simp[Op.operands])) (g _ (by simp[Op.operands])) (fun k o=>Cu) j F)
 |index t x z=>
  simp[Cd,Op.operands]at j
  exact quick _ rfl (snd_index B.ok h (g _ (by simp[Op.operands])) (g _ (by simp[Op.operands])) j F)
 |extract x i=>
  simp[Cd,Op.operands]at j
  exact quick _ rfl (AvZ h (g _ (by simp[Op.operands])) j)
 |makeSlice t x z=>
  simp[Cd,Op.operands]at j
  exact quick _ rfl (snd_make B.ok B.z1 h (g _ (by simp[Op.operands])) (g _ (by simp[Op.operands])) (Mh (by simp[Lo])) j F)
 |makeMap t r=>
  rcases r with _|r
  ·simp[Cd,Op.operands]at j;rcases Vg j with j|j
   ·exact quick (Instr.makeMap t none) (by simp[execOp]) (AoB ⟨B.ok,B.z1⟩ h (.inl rfl) (Mh (by simp[Lo])) j)
   ·exact quick (Instr.makeMap t none) (by simp[execOp]) (Ams ⟨B.ok,B.z1⟩ B.eqk h (.inl rfl) (Mh (by simp[Lo])) j)
  ·simp[Cd,Op.operands]at j;split at j
   ·rename_i n hn;have rq:=Bi h r (g r (by simp[Op.operands]));unfold Hq at hn;split at hn
    ·rename_i k n' hev;rw[hev]at rq;rcases Vg j with j|j
     ·exact quick (Instr.makeMap t (some (a.eval r))) (by simp[execOp]) (AoB ⟨B.ok,B.z1⟩ h (.inr ⟨k,n',by rw[rq.inv_v.1]⟩) (Mh (by simp[Lo])) j)
     ·exact quick (Instr.makeMap t (some (a.eval r))) (by simp[execOp]) (Ams ⟨B.ok,B.z1⟩ B.eqk h (.inr ⟨k,n',by rw[rq.inv_v.1]⟩) (Mh (by simp[Lo])) j)
    ·simp at hn
   ·simp at j
 |lookup t x z ok=>
  simp[Cd,Op.operands]at j;rcases Vg j with j|j
  ·exact quick _ rfl (AwL ⟨B.ok,B.z1⟩ h (g _ (by simp[Op.operands])) (g _ (by simp[Op.operands])) (fun k o=>Cu) j F)
  ·exact quick _ rfl (Awn ⟨B.ok,B.z1⟩ B.eqk h (g _ (by simp[Op.operands])) (g _ (by simp[Op.operands])) (fun k o=>Cu) j F)
 |mapUpdate t x z u=>
  simp[Cd,Op.operands]at j
  obtain⟨w',G,hr,H,rfl⟩:=(Vg j).elim (fun j=>Aqy ⟨B.ok,B.z1⟩ h (g _ (by simp[Op.operands])) (g _ (by simp[Op.operands])) (g _ (by simp[Op.operands])) (fun k o=>Cu) j)
   (fun j=>AoJ ⟨B.ok,B.z1⟩ B.eqk h (g _ (by simp[Op.operands])) (g _ (by simp[Op.operands])) (g _ (by simp[Op.operands])) (fun k o=>Cu) j)
  unfold Oper.wp;simp only[execOp,Sem.run_bind,hr,Result.andThen_ok,Sem.run_pure,Oper.upon]
  exact⟨G,AeY H Y hd undef .und .und⟩
 |insert t x z u=>
  simp[Cd,Op.operands]at j
  obtain⟨w',G,hr,H,rfl⟩:=(Vg j).elim (fun j=>Aqy ⟨B.ok,B.z1⟩ h (g _ (by simp[Op.operands])) (g _ (by simp[Op.operands])) (g _ (by simp[Op.operands])) (fun k o=>Cu) j)
   (fun j=>AoJ ⟨B.ok,B.z1⟩ B.eqk h (g _ (by simp[Op.operands])) (g _ (by simp[Op.operands])) (g _ (by simp[Op.operands])) (fun k o=>Cu) j)
  unfold Oper.wp;simp only[execOp,Sem.run_bind,hr,Result.andThen_ok,Sem.run_pure,Oper.upon]
  exact⟨G,AeY H Y hd undef .und .und⟩
 |mapEntry t x z=>
  simp[Cd,Op.operands]at j
  exact quick _ rfl (Aun ⟨B.ok,B.z1⟩ h (g _ (by simp[Op.operands])) (g _ (by simp[Op.operands])) (fun k o=>Cu) j F)
 |range t x=>
  simp[Cd,Op.operands]at j;rcases Vg j with j|j
  ·exact quick _ rfl (snd_range ⟨B.ok,B.z1⟩ h (g _ (by simp[Op.operands])) (fun k o=>Cu) (Mh (by simp[Lo,Op.operands])) j)
  ·exact quick _ rfl (Awy B.ok h (g _ (by simp[Op.operands])) (Mh (by simp[Lo,Op.operands])) j)
 |next x b=>
  cases b with
  |true=>
   simp[Cd,Op.operands]at j
   exact quick _ rfl (snd_nextS (ty:=N) h (g _ (by simp[Op.operands])) (fun k o=>Cu) j F)
  |false=>simp[Cd,Op.operands]at j
 |entry x=>
  simp[Cd,Op.operands]at j
  exact quick _ rfl (snd_entry h (g _ (by simp[Op.operands])) (fun k o=>Cu) j)
 |call c=>
  obtain⟨X,args,A⟩:=c
  cases X with
  |builtin b=>
   have hargs:Op.operands (.call ⟨.builtin b,args,A⟩)=args:=by simp[Op.operands,Call.operands]
   rw[hargs]at j g
   cases b with
   |len=>
    obtain⟨l⟩:=args;rcases l with _|⟨q,r⟩
    ·simp[Cd]at j
    rcases r with _|⟨q2,r⟩
    ·simp only[Cd,D8,G2]at j;split at j
     ·rename_i t C;have:A= #[t]:=by cases A;simp at C;rw[C]
      subst this;exact quick _ (by simp[execOp,resolve,invoke,builtin]) (snd_len (ty:=N) B.ok h (g _ (by simp)) j)
     ·simp at j
    ·simp[Cd]at j
   |append=>
    obtain⟨l⟩:=args;rcases l with _|⟨p,r⟩
    ·simp[Cd]at j
    rcases r with _|⟨q,r⟩
    ·simp[Cd]at j
    rcases r with _|⟨q2,r⟩
    ·simp only[Cd,D8,G2]at j;split at j
     ·rename_i t t2 C;have:A= #[t,t2]:=by cases A;simp at C;rw[C]
      subst this;split at j
      ·rename_i e hap;rw[j]at hap;exact quick _ (by simp[execOp,resolve,invoke,builtin]) (AwA (ty:=N) B.ok h (g _ (by simp)) (g _ (by simp)) (fun k o=>Cu) (Mh (by simp[Lo])) hap F)
      ·exact quick _ (by simp[execOp,resolve,invoke,builtin]) (Auu (ty:=N) B.ok h (g _ (by simp)) (g _ (by simp)) (fun k o=>Cu) j F)
     ·simp at j
    ·simp[Cd]at j
   |clear=>
    obtain⟨l⟩:=args;rcases l with _|⟨q,r⟩
    ·simp[Cd]at j
    rcases r with _|⟨q2,r⟩
    ·simp only[Cd,D8,G2]at j;split at j
     ·rename_i t C;have:A= #[t]:=by cases A;simp at C;rw[C]
      subst this;exact quick _ (by simp[execOp,resolve,invoke,builtin]) (snd_clear (ty:=N) ⟨B.ok,B.z1⟩ h (g _ (by simp)) (fun k o=>Cu) j F)
     ·simp at j
    ·simp[Cd]at j
   |copy=>
    obtain⟨l⟩:=args;rcases l with _|⟨p,r⟩
    ·simp[Cd]at j
    rcases r with _|⟨q,r⟩
    ·simp[Cd]at j
    rcases r with _|⟨q2,r⟩
    ·simp only[Cd,D8,G2]at j;split at j
     ·rename_i t t2 C;have:A= #[t,t2]:=by cases A;simp at C;rw[C]
      subst this;exact quick _ (by simp[execOp,resolve,invoke,builtin]) (snd_copy (t2:=t2) (ty:=N) ⟨B.ok,B.z1⟩ h (g _ (by simp)) (g _ (by simp)) (fun k o=>Cu) j F)
     ·simp at j
    ·simp[Cd]at j
   |delete=>
    obtain⟨l⟩:=args;rcases l with _|⟨p,r⟩
    ·simp[Cd]at j
    rcases r with _|⟨q,r⟩
    ·simp[Cd]at j
    rcases r with _|⟨q2,r⟩
    ·simp only[Cd,D8,G2]at j;split at j
     ·rename_i t t2 C;have:A= #[t,t2]:=by cases A;simp at C;rw[C]
      subst this;exact quick _ (by simp[execOp,resolve,invoke,builtin]) (Axd (t2:=t2) (ty:=N) ⟨B.ok,B.z1⟩ h (g _ (by simp)) (g _ (by simp)) (fun k o=>Cu) j)
     ·simp at j
    ·simp[Cd]at j
   |min=>
    obtain⟨l⟩:=args;rcases l with _|⟨p,r⟩
    ·simp[Cd]at j
    rcases r with _|⟨q,r⟩
    ·simp[Cd]at j
    rcases r with _|⟨q2,r⟩
    ·simp only[Cd,D8,G2]at j;have:=snd_min (P:=P) (mx:=false) (ts:=A) (ty:=N) h (g p (by simp)) (g q (by simp)) j;simp only[A2,if_false]at this;exact quick _ (by simp[execOp,resolve,invoke,builtin]) this
    ·simp[Cd]at j
   |max=>
    obtain⟨l⟩:=args;rcases l with _|⟨p,r⟩
    ·simp[Cd]at j
    rcases r with _|⟨q,r⟩
    ·simp[Cd]at j
    rcases r with _|⟨q2,r⟩
    ·simp only[Cd,D8,G2]at j;have:=snd_min (P:=P) (mx:=true) (ts:=A) (ty:=N) h (g p (by simp)) (g q (by simp)) j;simp only[if_true]at this;exact quick _ (by simp[execOp,resolve,invoke,builtin]) this
    ·simp[Cd]at j
   |_=>simp[Cd]at j
  |_=>simp[Cd]at j
 |_=>simp[Cd]at j
end
end Go.Dm
