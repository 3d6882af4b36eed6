/- Texts of the proof of TopConfigured: the data machine, the models of the Go functions, their contracts. -/
import Derived.Orders
import Derived.OrdersIn
import Derived.Laws.AppendOwn
import Derived.Below
import Derived.KernelRfl
import Derived.Laws.StructEq
set_option linter.unusedVariables false
set_option linter.unusedSimpArgs false
namespace Go.Dm
inductive Fl where
 | unk|nil|nn|cap0
 deriving DecidableEq
inductive PV where
 | v (x:Value)
 | sl (fl:Fl) (W n:Nat) (f:Nat→List PV)
 | fn (f:FuncId) (caps:List PV)
 | agg (cs:List PV)
 | tup (cs:List PV)
 | mp (z:PV) (has:Int→Bool) (f:Int→PV)
 | ptr (cs:List PV)
inductive MV where
 | p (x:PV)
 | own (k g off len:Nat)
 | ref (k g off:Nat)
 | eref (k g i off:Nat)
 | fptr (cs:List PV)
 | agg (cs:List MV)
 | tup (cs:List MV)
 | fn (f:FuncId) (caps:List MV)
 | mref (k g:Nat)
 | und
 | any
inductive MQ where
 | clk (z:PV) (has:Int→Bool) (f:Int→PV) (born:Int→Nat) (clock:Nat)
 | it (f:Int→PV) (rem:Int→Bool) (cur:Option Int)
 | pm (z:PV) (has:Int→Int→Bool) (f:Int→Int→PV)
 | sit (s:ByteArray) (pos:Nat)
inductive Body where
 | mq (q:MQ)
 | box (cs:List MV)
 | row (W n:Nat) (f:Nat→List PV)
 | mp (z:PV) (has:Int→Bool) (f:Int→PV)
 | dead
structure Obj where
 gen:Nat
 body:Body
def Body.live : Body→Prop
 | .dead=>False
 | _=>True
def Body.same : Body→Body→Prop
 | .box _,.box _=>True
 | .row W n _,.row W' n' _=>W=W'∧n=n'
 | .mp _ _ _,.mp _ _ _=>True
 | .mp _ _ _,.mq _=>True
 | .mq _,.mp _ _ _=>True
 | .mq _,.mq _=>True
 | .dead,.dead=>True
 | _,_=>False
theorem Body.same_refl (b:Body):b.same b:=by cases b <;> simp [Body.same]
theorem ApP {b c:Body} (h:b.same c):b.live↔c.live:=by
 cases b <;> cases c <;> simp_all [Body.same,Body.live]
inductive Loc where
 | box (b:Nat)
 | row (b off cap:Nat)
 | nilrow
def Loc.block : Loc→Option Nat
 | .box b=>some b
 | .row b _ _=>some b
 | .nilrow=>none
abbrev Ar := Nat→Option Obj
abbrev Bi := Nat→Loc
structure St where
 slots:Nat→MV
 objs:Ar
def Al (Av:Nat→Prop) (β:Bi) (objs:Ar) (w:World) (b:Nat):Prop :=
 b<w.heap.size∧¬ Av b∧∀ k o,objs k=some o→o.body.live→(β k).block≠some b
def at_ (b o:Nat):Addr:=⟨b,o,none⟩
def Xs (es:Array MapEntry) (clock:Nat) (has:Int→Bool):Prop :=
 (∀ (i:Nat) (e:MapEntry),es[i]? = some e→∃ n,e.key = .int .i64 n∧has n=true) ∧
 (∀ n,has n=true→∃ (i:Nat) (e:MapEntry),es[i]? = some e∧e.key = .int .i64 n) ∧
 (∀ (i j:Nat) (e e':MapEntry) (n:Int),es[i]? = some e→es[j]? = some e'→e.key = .int .i64 n→e'.key = .int .i64 n→i=j) ∧
 (∀ (i:Nat) (e:MapEntry),es[i]? = some e→e.born<clock) ∧
 (∀ (i j:Nat) (e e':MapEntry),es[i]? = some e→es[j]? = some e'→e.born=e'.born→i=j)
def kp (a c:Int):Value := .agg #[.int .i64 a,.int .i64 c]
def PMOK (es:Array MapEntry) (has:Int→Int→Bool):Prop :=
 (∀ (i:Nat) (e:MapEntry),es[i]? = some e→∃ a c,e.key=kp a c∧has a c=true) ∧
 (∀ a c,has a c=true→∃ (i:Nat) (e:MapEntry),es[i]? = some e∧e.key=kp a c) ∧
 (∀ (i j:Nat) (e e':MapEntry),es[i]? = some e→es[j]? = some e'→e.key=e'.key→i=j)
inductive Rep (S:Nat→Prop) (w:World):Value→PV→Prop where
 | v (x:Value) (h:x.oneCell'=true):Rep S w x (.v x)
 | slnil (fl:Fl) (W:Nat) (f:Nat→List PV) (h:fl ≠ .nn):Rep S w (.slice none 0 0) (.sl fl W 0 f)
 | sl (fl:Fl) (W n cap b o:Nat) (f:Nat→List PV) (c:Nat→Nat→Value)
   (hfl:fl ≠ .nil∧(fl = .cap0→cap=0)) (hcap:n≤cap)
   (hs:n≠0→S b)
   (hlen:∀ i,i<n→(f i).length=W)
   (hc:∀ i j,i<n→j<W→w.cell? (at_ b (o+(i*W+j)))=some (c i j))
   (h1:∀ i j,i<n→j<W→(c i j).oneCell'=true)
   (hr:∀ i j x,i<n→(f i)[j]? = some x→Rep S w (c i j) x) :
   Rep S w (.slice (some (at_ b o)) n cap) (.sl fl W n f)
 | fn (f:FuncId) (caps:List PV) (vs:Array Value) (hl:vs.size=caps.length)
   (hr:∀ (i:Nat) x,caps[i]? = some x→Rep S w (vs.getD i undef) x):Rep S w (.func (.func f) #[] vs) (.fn f caps)
 | agg (cs:List PV) (vs:Array Value) (hl:vs.size=cs.length)
   (hr:∀ (i:Nat) x,cs[i]? = some x→Rep S w (vs.getD i undef) x)
   (h1:∀ (i:Nat) x,cs[i]? = some x→(vs.getD i undef).oneCell'=true):Rep S w (.agg vs) (.agg cs)
 | tup (cs:List PV) (vs:Array Value) (hl:vs.size=cs.length)
   (hr:∀ (i:Nat) x,cs[i]? = some x→Rep S w (vs.getD i undef) x):Rep S w (.tuple vs) (.tup cs)
 | mp (z:PV) (has:Int→Bool) (f:Int→PV) (b clock:Nat) (es:Array MapEntry) (hs:S b) (hh:w.heap[b]? = some (.map es clock)) (hk:Xs es clock has) (hz:∀ n,has n=false→f n=z)
   (hr:∀ (i:Nat) (e:MapEntry) (n:Int),es[i]? = some e→e.key = .int .i64 n→Rep S w e.val (f n)):Rep S w (.map (some b)) (.mp z has f)
 | ptr (cs:List PV) (b o:Nat) (hs:S b) (c:Nat→Value)
   (hc:∀ j,j<cs.length→w.cell? (at_ b (o+j))=some (c j))
   (h1:∀ j,j<cs.length→(c j).oneCell'=true)
   (hr:∀ (j:Nat) x,cs[j]? = some x→Rep S w (c j) x):Rep S w (.pointer (some (at_ b o))) (.ptr cs)
theorem Rep.mono {S S':Nat→Prop} {w w':World} (hS:∀ b,S b→S' b) (hw:∀ b,S b→w'.heap[b]? = w.heap[b]?)
  {v:Value} {x:PV} (h:Rep S w v x):Rep S' w' v x:=by
 induction h with
 | v x h=>exact .v x h
 | slnil fl W f h=>exact .slnil fl W f h
 | sl fl W n cap b o f c hfl hcap hs hlen hc h1 hr ih =>
  refine .sl fl W n cap b o f c hfl hcap (fun hn=>hS _ (hs hn)) hlen ?_ h1 ih
  intro i j hi hj
  rw [← hc i j hi hj]
  exact World.cell?_of_block (hw b (hs (by omega)))
 | fn f caps vs hl hr ih=>exact .fn f caps vs hl ih
 | agg cs vs hl hr h1 ih=>exact .agg cs vs hl ih h1
 | tup cs vs hl hr ih=>exact .tup cs vs hl ih
 | mp z has f b clock es hs hh hk hz hr ih=>exact .mp z has f b clock es (hS _ hs) (by rw [hw _ hs]; exact hh) hk hz ih
 | ptr cs b o hs c hc h1 hr ih =>
  refine .ptr cs b o (hS _ hs) c (fun j hj => ?_) h1 ih
  rw [← hc j hj]
  exact World.cell?_of_block (hw b hs)
def OwnAt (l:Loc) (bd:Body) (off len:Nat) (base:Option Addr) (c:Nat):Prop :=
 match bd with
 | .row W n _=>off+len≤n ∧
  match l with
  | .nilrow=>(base=none∨∃ b o,base=some (at_ b o))∧c=0∧off=0∧len=0
  | .row b o cap=>∃ b' o',base=some (at_ b' o')∧off+c=cap∧(c≠0→b'=b∧o'=o+off*W)
  | .box _=>False
 | _=>False
def ERefAt (l:Loc) (bd:Body) (i b oo:Nat):Prop :=
 match bd with
 | .row W n _=>i<n∧∃ o cap,l = .row b o cap∧oo=o+i*W
 | _=>False
def Known (β:Bi) (objs:Ar) (k g:Nat) (F:Loc→Body→Prop):Prop :=
 ∃ o,objs k=some o∧g≤o.gen∧(o.gen=g→F (β k) o.body)
def BND : Nat:=1048576
def fnV (f:FuncId) (vs:Array Value):Value:=bif Nat.blt f BND then .func (.func f) #[] vs else .func (.func (f-BND)) vs #[]
theorem Agq {f:FuncId} {vs:Array Value} (h:Nat.blt f BND=true):fnV f vs = .func (.func f) #[] vs:=by unfold fnV; rw [h]; rfl
theorem fnV_ge {f:FuncId} {vs:Array Value} (h:Nat.blt f BND=false):fnV f vs = .func (.func (f-BND)) vs #[]:=by unfold fnV; rw [h]; rfl
theorem fnV_cell (f:FuncId) (vs:Array Value):(fnV f vs).oneCell'=true:=by unfold fnV; cases Nat.blt f BND <;> rfl
inductive RelV (β:Bi) (objs:Ar) (S:Nat→Prop) (w:World):Value→MV→Prop where
 | p (v:Value) (x:PV) (h:Rep S w v x):RelV β objs S w v (.p x)
 | own (k g off len:Nat) (base:Option Addr) (c:Nat) (h:Known β objs k g fun l bd=>OwnAt l bd off len base c):RelV β objs S w (.slice base len c) (.own k g off len)
 | ref (k g off b:Nat) (h:Known β objs k g fun l _=>l = .box b):RelV β objs S w (.pointer (some (at_ b off))) (.ref k g off)
 | eref (k g i off b oo:Nat) (h:Known β objs k g fun l bd=>ERefAt l bd i b oo):RelV β objs S w (.pointer (some (at_ b (oo+off)))) (.eref k g i off)
 | fptr (cs:List PV) (b o:Nat) (hs:S b) (c:Nat→Value)
   (hc:∀ j,j<cs.length→w.cell? (at_ b (o+j))=some (c j))
   (h1:∀ j,j<cs.length→(c j).oneCell'=true)
   (hr:∀ j x,cs[j]? = some x→Rep S w (c j) x):RelV β objs S w (.pointer (some (at_ b o))) (.fptr cs)
 | agg (cs:List MV) (vs:Array Value) (hl:vs.size=cs.length)
   (hr:∀ (i:Nat) x,cs[i]? = some x→RelV β objs S w (vs.getD i undef) x)
   (h1:∀ (i:Nat) x,cs[i]? = some x→(vs.getD i undef).oneCell'=true):RelV β objs S w (.agg vs) (.agg cs)
 | tup (cs:List MV) (vs:Array Value) (hl:vs.size=cs.length)
   (hr:∀ (i:Nat) x,cs[i]? = some x→RelV β objs S w (vs.getD i undef) x):RelV β objs S w (.tuple vs) (.tup cs)
 | fn (f:FuncId) (caps:List MV) (vs:Array Value) (hl:vs.size=caps.length)
   (hr:∀ (i:Nat) x,caps[i]? = some x→RelV β objs S w (vs.getD i undef) x):RelV β objs S w (fnV f vs) (.fn f caps)
 | mref (k g b:Nat) (h:Known β objs k g fun l _=>l = .box b):RelV β objs S w (.map (some b)) (.mref k g)
 | und:RelV β objs S w undef .und
 | any (v:Value):RelV β objs S w v .any
def Grows (β β':Bi) (objs objs':Ar):Prop :=
 ∀ k o,objs k=some o→∃ o',objs' k=some o'∧o.gen≤o'.gen∧(o.gen=o'.gen→β' k=β k∧o.body.same o'.body)
theorem Grows.refl (β:Bi) (objs:Ar):Grows β β objs objs:=fun _ o h=>⟨o,h,Nat.le_refl _,fun _=>⟨rfl,o.body.same_refl⟩⟩
theorem OwnAt.same {l:Loc} {b c:Body} {off len:Nat} {v:Option Addr} {q:Nat} (h:OwnAt l b off len v q) (hs:b.same c):OwnAt l c off len v q:=by
 cases b <;> cases c <;> simp_all [OwnAt,Body.same]
theorem ERefAt.same {l:Loc} {b c:Body} {i bb off:Nat} (h:ERefAt l b i bb off) (hs:b.same c):ERefAt l c i bb off:=by
 cases b <;> cases c <;> simp_all [ERefAt,Body.same]
theorem Known.mono {β β':Bi} {objs objs':Ar} (hg:Grows β β' objs objs') {k g:Nat} {F:Loc→Body→Prop}
  (hF:∀ l b c,F l b→b.same c→F l c) (h:Known β objs k g F):Known β' objs' k g F:=by
 obtain ⟨o,ho,hle,hf⟩:=h
 obtain ⟨o',ho',hle',hsame⟩:=hg k o ho
 refine ⟨o',ho',Nat.le_trans hle hle',fun he => ?_⟩
 have e1:o.gen=g:=by omega
 have e2:o.gen=o'.gen:=by omega
 obtain ⟨hb,hs⟩:=hsame e2
 rw [hb]
 exact hF _ _ _ (hf e1) hs
theorem RelV.mono {β β':Bi} {objs objs':Ar} {S S':Nat→Prop} {w w':World} (hg:Grows β β' objs objs')
  (hS:∀ b,S b→S' b) (hw:∀ b,S b→w'.heap[b]? = w.heap[b]?) {v:Value} {x:MV} (h:RelV β objs S w v x) :
  RelV β' objs' S' w' v x:=by
 induction h with
 | p v x h=>exact .p v x (h.mono hS hw)
 | own k g off len base c h=>exact .own k g off len base c (h.mono hg fun _ _ _ h hs=>OwnAt.same h hs)
 | ref k g off b h=>exact .ref k g off b (h.mono hg fun _ _ _ h _=>h)
 | eref k g i off b oo h=>exact .eref k g i off b oo (h.mono hg fun _ _ _ h hs=>ERefAt.same h hs)
 | fptr cs b o hs c hc h1 hr =>
  refine .fptr cs b o (hS _ hs) c (fun j hj => ?_) h1 (fun j x hx=>(hr j x hx).mono hS hw)
  rw [← hc j hj]
  exact World.cell?_of_block (hw b hs)
 | agg cs vs hl hr h1 ih=>exact .agg cs vs hl ih h1
 | tup cs vs hl hr ih=>exact .tup cs vs hl ih
 | fn f caps vs hl hr ih=>exact .fn f caps vs hl ih
 | mref k g b h=>exact .mref k g b (h.mono hg fun _ _ _ h _=>h)
 | und=>exact .und
 | any v=>exact .any v
def HoldsP (S:Nat→Prop) (w:World) (cur:Array Value) (o:Nat) (xs:List PV):Prop :=
 ∀ (j:Nat) x,xs[j]? = some x→∃ u,cur[o+j]? = some u∧u.oneCell'=true∧Rep S w u x
def QRel (S:Nat→Prop) (w:World) (l:Loc):MQ→Prop
 | .clk z has f born clock=>∃ b es,l = .box b∧w.heap[b]? = some (.map es clock)∧Xs es clock has∧(∀ n,has n=false→f n=z) ∧
   (∀ (i:Nat) (e:MapEntry) (n:Int),es[i]? = some e→e.key = .int .i64 n→Rep S w e.val (f n)) ∧
   ∀ (i:Nat) (e:MapEntry) (n:Int),es[i]? = some e→e.key = .int .i64 n→e.born=born n
 | .it f rem cur=>∃ b bm es clock since seen c0 has,l = .box b∧w.heap[b]? = some (.mapIter (some bm) since seen c0)∧S bm∧w.heap[bm]? = some (.map es clock)∧Xs es clock has∧since=clock∧c0=clock ∧
   (∀ (i:Nat) (e:MapEntry) (n:Int),es[i]? = some e→e.key = .int .i64 n→Rep S w e.val (f n)) ∧
   (∀ n,rem n=true↔∃ (i:Nat) (e:MapEntry),es[i]? = some e∧e.key = .int .i64 n∧seen.contains e.born=false) ∧
   ∀ n,cur=some n→c0=clock∧∃ (i:Nat) (e:MapEntry),es[i]? = some e∧e.key = .int .i64 n∧seen.back? = some e.born
 | .pm z has f=>∃ b es clock,l = .box b∧w.heap[b]? = some (.map es clock)∧PMOK es has∧(∀ a c,has a c=false→f a c=z) ∧
   ∀ (i:Nat) (e:MapEntry) (a c:Int),es[i]? = some e→e.key=kp a c→Rep S w e.val (f a c)
 | .sit s pos=>∃ b,l = .box b∧w.heap[b]? = some (.stringIter s pos)
theorem QRel.mono {S S':Nat→Prop} {w w':World} (hS:∀ b,S b→S' b) (hw:∀ b,S b→w'.heap[b]? = w.heap[b]?) {l:Loc} {q:MQ}
  (hb:∀ b,l.block=some b→w'.heap[b]? = w.heap[b]?) (h:QRel S w l q):QRel S' w' l q:=by
 cases q with
 | clk z has f born clock =>
  obtain ⟨b,es,rfl,h1,h2,h3,h4,h5⟩:=h
  exact ⟨b,es,rfl,by rw [hb b rfl,h1],h2,h3,fun i e n he hn=>(h4 i e n he hn).mono hS hw,h5⟩
 | it f rem cur =>
  obtain ⟨b,bm,es,clock,since,seen,c0,has,rfl,h1,h2,h3,h4,h5,h6,h7,h8,h9⟩:=h
  exact ⟨b,bm,es,clock,since,seen,c0,has,rfl,by rw [hb b rfl,h1],hS _ h2,by rw [hw _ h2,h3],h4,h5,h6,fun i e n he hn=>(h7 i e n he hn).mono hS hw,h8,h9⟩
 | pm z has f =>
  obtain ⟨b,es,clock,rfl,h1,h2,h3,h4⟩:=h
  exact ⟨b,es,clock,rfl,by rw [hb b rfl,h1],h2,h3,fun i e a c he hn=>(h4 i e a c he hn).mono hS hw⟩
 | sit s pos =>
  obtain ⟨b,rfl,h1⟩:=h
  exact ⟨b,rfl,by rw [hb b rfl,h1]⟩
def ObjRel (β:Bi) (objs:Ar) (S:Nat→Prop) (w:World) (l:Loc):Body→Prop
 | .box cs=>∃ b cur e,l = .box b∧w.heap[b]? = some (.cells cur e (0,0))∧cur.size=cs.length ∧
   ∀ (j:Nat) x,cs[j]? = some x→∃ u,cur[j]? = some u∧u.oneCell'=true∧RelV β objs S w u x
 | .row W n f=>(l = .nilrow∧n=0) ∨
   ∃ b o cap cur e,l = .row b o cap∧w.heap[b]? = some (.cells cur e (0,0))∧o+cap*W≤cur.size∧n≤cap ∧
    ∀ i,i<n→(f i).length=W∧HoldsP S w cur (o+i*W) (f i)
 | .mp z has f=>∃ b es clock,l = .box b∧w.heap[b]? = some (.map es clock)∧Xs es clock has∧(∀ n,has n=false→f n=z) ∧
   ∀ (i:Nat) (e:MapEntry) (n:Int),es[i]? = some e→e.key = .int .i64 n→Rep S w e.val (f n)
 | .mq q=>QRel S w l q
 | .dead=>True
theorem HoldsP.mono {S S':Nat→Prop} {w w':World} (hS:∀ b,S b→S' b) (hw:∀ b,S b→w'.heap[b]? = w.heap[b]?)
  {cur:Array Value} {o:Nat} {xs:List PV} (h:HoldsP S w cur o xs):HoldsP S' w' cur o xs:=fun j x hx=>by
 obtain ⟨u,h1,h2,h3⟩:=h j x hx
 exact ⟨u,h1,h2,h3.mono hS hw⟩
theorem ObjRel.mono {β β':Bi} {objs objs':Ar} {S S':Nat→Prop} {w w':World} (hg:Grows β β' objs objs')
  (hS:∀ b,S b→S' b) (hw:∀ b,S b→w'.heap[b]? = w.heap[b]?) {l:Loc} {bd:Body}
  (hb:∀ b,l.block=some b→w'.heap[b]? = w.heap[b]?) (h:ObjRel β objs S w l bd):ObjRel β' objs' S' w' l bd:=by
 cases bd with
 | box cs =>
  obtain ⟨b,cur,e,rfl,h1,h2,h3⟩:=h
  refine ⟨b,cur,e,rfl,by rw [hb b rfl,h1],h2,fun j x hx => ?_⟩
  obtain ⟨u,g1,g2,g3⟩:=h3 j x hx
  exact ⟨u,g1,g2,g3.mono hg hS hw⟩
 | row W n f =>
  rcases h with h|⟨b,o,cap,cur,e,rfl,h1,h2,h3,h4⟩
  ·exact .inl h
  ·refine .inr ⟨b,o,cap,cur,e,rfl,by rw [hb b rfl,h1],h2,h3,fun i hi=>⟨(h4 i hi).1,(h4 i hi).2.mono hS hw⟩⟩
 | mp z has f =>
  obtain ⟨b,es,clock,rfl,h1,h2,h3,h4⟩:=h
  exact ⟨b,es,clock,rfl,by rw [hb b rfl,h1],h2,h3,fun i e n he hn=>(h4 i e n he hn).mono hS hw⟩
 | mq q=>exact QRel.mono hS hw hb h
 | dead=>trivial
structure Kept (out:Nat→Prop) (w w':World):Prop where
 os:w'.os=w.os
 tape:w'.tape=w.tape
 output:w'.output=w.output
 size:w.heap.size≤w'.heap.size
 block:∀ k,k<w.heap.size→¬ out k→w'.heap[k]? = w.heap[k]?
theorem Kept.refl (out:Nat→Prop) (w:World):Kept out w w:=⟨rfl,rfl,rfl,Nat.le_refl _,fun _ _ _=>rfl⟩
def Akv : List (String×(Array Value→Prop)) :=
 [("internal/strconv.uint64pow10",fun c=>c=(((List.range 20).map fun i=>((10 ^ i:Nat):Int)).map fun z=>Value.int .u64 z).toArray),("internal/bytealg.MaxLen",fun c=>∃ m,c[0]? = some (.int .i64 m))]
def GlOK (P:Program) (out:Nat→Prop) (w:World):Prop:=∀ x∈Akv,∀ g,P.globalNamed x.1=some g→¬ out g∧∃ cs e f,w.heap[g]? = some (.cells cs e f)∧x.2 cs
theorem GlOK.mono {P:Program} {out out':Nat→Prop} {w w':World} (h:GlOK P out w) (hk:Kept out w w') (ho:∀ b,b<w.heap.size→¬ out b→¬ out' b):GlOK P out' w':=fun x hx g hg=>by
 obtain ⟨h0,cs,e,f,h1,h2⟩:=h x hx g hg
 have hl:g<w.heap.size:=(Array.getElem?_eq_some_iff.1 h1).1
 exact ⟨ho g hl h0,cs,e,f,by rw [hk.block g hl h0,h1],h2⟩
structure Cx (P:Program) where
 w0:World
 Av:Nat→Prop
 out:Nat→Prop
 nt:Nat
 m:Nat
 β0:Bi
 rd:Option Nat:=none
 gl:GlOK P out w0
structure Marked (w0:World) (ds:List Deferred) (w:World):Prop where
 nodup:ds.Nodup
 mark:∀ d∈ds,∃ D,d = { target := .collected D,args := #[] } ∧ w0.heap.size≤D∧w.heap[D]? = some (.deferred (some []))
theorem Marked.nil {w0 w:World} : Marked w0 [] w:=⟨.nil,fun _ h=>by simp at h⟩
theorem Marked.mono {w0 w w':World} {ds:List Deferred} (h:Marked w0 ds w) (hw:∀ D,w0.heap.size≤D→w.heap[D]? = some (.deferred (some []))→w'.heap[D]? = w.heap[D]?):Marked w0 ds w' :=
 ⟨h.nodup,fun d hd=>let ⟨D,e,h1,h2⟩:=h.mark d hd; ⟨D,e,h1,(hw D h1 h2).trans h2⟩⟩
structure Rel {P:Program} (cx:Cx P) (β:Bi) (σ:St) (a:Act) (w:World):Prop where
 nd:Marked cx.w0 a.defers w
 sz:a.tmps.size=cx.nt
 sl:∀ t,RelV β σ.objs (Al cx.Av β σ.objs w) w (a.tmps.getD t undef) (σ.slots t)
 ob:∀ k o,σ.objs k=some o→ObjRel β σ.objs (Al cx.Av β σ.objs w) w (β k) o.body
 blk:∀ k o b,σ.objs k=some o→o.body.live→(β k).block=some b→b<w.heap.size∧¬ cx.Av b∧(cx.w0.heap.size≤b∨cx.out b)
 inj:∀ k k' o o' b,σ.objs k=some o→σ.objs k'=some o'→o.body.live→o'.body.live→k≠k'→(β k).block=some b→(β k').block≠some b
 kept:Kept cx.out cx.w0 w
 avo:∀ b,cx.Av b→¬ cx.out b
 avlt:∀ b,cx.Av b→b<cx.w0.heap.size
 mle:cx.m≤1000
 oloc:∀ k o,k<cx.m→σ.objs k=some o→o.gen=0→β k=cx.β0 k
theorem Rel.mark_safe {P:Program} {cx:Cx P} {β:Bi} {σ:St} {a:Act} {w:World} (h:Rel cx β σ a w) {D:Nat} {o:Go.Obj} (h0:cx.w0.heap.size≤D) (h1:w.heap[D]? = some o) (hc:∀ c e f,o ≠ .cells c e f) (hm:∀ es c,o ≠ .map es c) (hi:∀ b s n c,o ≠ .mapIter b s n c) (hst:∀ s p,o ≠ .stringIter s p):Al cx.Av β σ.objs w D:=by
 have hlt:D<w.heap.size:=(Array.getElem?_eq_some_iff.1 h1).1
 refine ⟨hlt,fun hA=>by have:=h.avlt D hA; omega,fun k q hq hl hb => ?_⟩
 have:=h.ob k q hq
 generalize hbd:q.body=bd at this
 rw [hbd] at hl
 cases bd with
 | dead=>exact hl
 | box cs =>
  obtain ⟨b,cur,e,g0,g1,g2,g3⟩:=this
  rw [g0] at hb
  injection hb with hb
  subst hb
  rw [h1] at g1
  injection g1 with g1
  exact hc _ _ _ g1
 | row W n f =>
  rcases this with g|⟨b,oo,cap,cur,e,g0,g1,g2,g3,g4⟩
  ·rw [g.1] at hb; simp [Loc.block] at hb
  ·rw [g0] at hb
   injection hb with hb
   subst hb
   rw [h1] at g1
   injection g1 with g1
   exact hc _ _ _ g1
 | mp z has f =>
  obtain ⟨b,es,clock,g0,g1,g2,g3,g4⟩:=this
  rw [g0] at hb
  injection hb with hb
  subst hb
  rw [h1] at g1
  injection g1 with g1
  exact hm _ _ g1
 | mq q =>
  cases q with
  | clk z has f born clock =>
   obtain ⟨b,es,g0,g1,_⟩:=this
   rw [g0] at hb
   injection hb with hb
   subst hb
   rw [h1] at g1
   injection g1 with g1
   exact hm _ _ g1
  | it f rem cur =>
   obtain ⟨b,bm,es,clock,since,seen,c0,has,g0,g1,_⟩:=this
   rw [g0] at hb
   injection hb with hb
   subst hb
   rw [h1] at g1
   injection g1 with g1
   exact hi _ _ _ _ g1
  | pm z has f =>
   obtain ⟨b,es,clock,g0,g1,_⟩:=this
   rw [g0] at hb
   injection hb with hb
   subst hb
   rw [h1] at g1
   injection g1 with g1
   exact hm _ _ g1
  | sit s pos =>
   obtain ⟨b,g0,g1⟩:=this
   rw [g0] at hb
   injection hb with hb
   subst hb
   rw [h1] at g1
   injection g1 with g1
   exact hst _ _ g1
theorem Rel.nd_mono {P:Program} {cx:Cx P} {β:Bi} {σ:St} {a:Act} {w w':World} (h:Rel cx β σ a w) (hw:∀ b,Al cx.Av β σ.objs w b→w'.heap[b]? = w.heap[b]?):Marked cx.w0 a.defers w' :=
 h.nd.mono fun _ h0 h1=>hw _ (h.mark_safe h0 h1 (fun _ _ _ e=>by simp at e) (fun _ _ e=>by simp at e) (fun _ _ _ _ e=>by simp at e) (fun _ _ e=>by simp at e))
def fen (r:Option Nat):Fence := { Fence.wide with round:=r }
theorem Ank (r:Option Nat) (n:Nat):(fen r).room n:=fun _ h=>by simp [fen,Fence.wide] at h
theorem AoE {r:Option Nat} {n m:Nat} {P:Program} {f:FuncId} {args:Array Value} {w:World} {R:Ending→World→Prop} : CallsIn (fen r) n P f args w R↔Calls P f args w R :=
 ⟨fun h=>callsIn_wide (n:=m).1 ⟨h.1,fun cs _=>h.2 cs (Ank r _)⟩,fun h=>⟨trivial,fun cs _=>(callsIn_wide (n:=n).2 h).2 cs (room_wide _)⟩⟩
def Ael : Op→Bool
 | .defer _=>true
 | _=>false
theorem Mj {r:Option Nat} {n:Nat} {P:Program} {o:Oper} {a:Act} {w:World} {K:Act→World→Prop} {Q:Exit→Act→World→Prop} (hd:Ael o.op=false) (h:o.wp P a w K Q):o.wpIn (fen r) n P a w K Q:=by
 refine ⟨fun _ _=>trivial,?_⟩
 have hs:o.semAt (fen r).round a.eval=execOp a.eval o:=by
  cases hr:(fen r).round with
  | none=>simp [Oper.semAt]
  | some l =>
   unfold Oper.semAt
   cases ho:o.op <;> first|rfl|simp [ho,Ael] at hd
 rw [hs]
 unfold Oper.wp at h
 generalize (execOp a.eval o).run P w=q at *
 cases q with
 | ok x w' =>
  cases x with
  | enter f args=>exact ⟨fun h=>by simp [fen,Fence.wide] at h,AoE (m:=0).2 h⟩
  | row rw args =>
   refine ⟨fun h=>by simp [fen,Fence.wide] at h,fun c cs _ => ?_⟩
   obtain ⟨v,w'',h1,h2⟩:=h c cs
   exact ⟨v,w'',h1,(StepsIn.of_steps h2).mono fun m _=>fenced_wide P m⟩
  | round l f tmps assign body=>exact absurd h id
  | _=>exact h
 | halt x w'=>cases x <;> exact h
end Go.Dm

namespace Go.Dm
inductive Kd where
 | int (k:IntKind)|str|bool|slice (elem:Nat)|map (key elem:Nat)|struct (fs:List (Nat×Nat))|ptr (elem:Nat)|func|other
def Kd.of : TypeDesc→Kd
 | .int k => .int k
 | .string => .str
 | .bool => .bool
 | .slice e => .slice e
 | .map k e => .map k e
 | .struct fs => .struct (fs.toList.map fun f=>(f.offset,f.type))
 | .pointer e => .ptr e
 | .func .. => .func
 | _ => .other
def isArr : TypeDesc→Bool
 | .array .. => true
 | _=>false
structure TI where
 kd:Kd
 size:Nat
 bytes:Nat
 zero:List Value
 eq:Bool:=false
abbrev Ty := List (Nat×TI)
def assoc {α:Type} : List (Nat×α)→Nat→Option α
 | [],_=>none
 | (k,x)::r,j=>bif Nat.beq j k then some x else assoc r j
def Acb : Value→Bool
 | .agg _=>true
 | _=>false
def Kd.agg : Kd→Bool
 | .struct _=>true
 | _=>false
def TyFact (P:Program) (t:Nat) (i:TI):Prop :=
 (P.underlying t).map (fun d=>(Kd.of d,isArr d))=some (i.kd,false) ∧
 (P.info? t).map (fun x=>(x.size,x.bytes,x.zero.map fun z=>(z.cells.toList,Acb z)))=some (i.size,i.bytes,some (i.zero,i.kd.agg))
def Gk (P:Program) (T:Ty):Prop:=∀ t i,assoc T t=some i→TyFact P t i
def Kk : Value→MV
 | .slice none 0 0 => .p (.sl .nil 0 0 fun _ => [])
 | .slice _ _ _ => .any
 | .agg _ => .any
 | .tuple _ => .any
 | x => .p (.v x)
def mvOf : Value→MV
 | .agg cs => .agg (cs.toList.map Kk)
 | x=>Kk x
def ev (σ:St):Operand→MV
 | .tmp t=>σ.slots t
 | .const x=>mvOf x
 | .func f => .p (.fn f [])
 | .global _ => .any
def MV.cells : MV→Option (List MV)
 | .agg cs=>some cs
 | .p (.agg cs)=>some (cs.map .p)
 | .p (.tup _)=>none
 | .tup _ | .und | .any=>none
 | x=>some [x]
def MV.aggc : MV→Option (List MV)
 | .agg cs=>some cs
 | .p (.agg cs)=>some (cs.map .p)
 | _=>none
def MV.pure1 : MV→Option PV
 | .p x=>some x
 | _=>none
def pures : List MV→Option (List PV)
 | []=>some []
 | x::r=>match x.pure1,pures r with
  | some y,some s=>some (y::s)
  | _,_=>none
def key (dst idx:Nat):Nat:=1000+8*dst+idx
def Bl : Option Obj→Nat
 | none=>0
 | some o=>o.gen+1
def All : List Prop→Prop
 | []=>True
 | q::r=>q∧All r
abbrev Eff := MV×List (Nat×Obj)×List Prop
def Xc (x:MV):Option Eff:=some (x,[],[])
def Br (s:ByteArray) (i:Nat):Nat:=((s[i]?).getD 0).toNat
def scal (op:BinOp):Value→Value→Option (Value×List Prop)
 | .int k a,.int k' b =>
  match op with
  | .shl=>some (.int k (k.wrap (a*2 ^ (min b.toNat k.bits))),[0≤b])
  | .shr=>some (.int k (a.fdiv (2 ^ (min b.toNat k.bits))),[0≤b])
  | _=>if k=k' then
   match op with
   | .add=>some (.int k (k.wrap (a+b)),[])
   | .sub=>some (.int k (k.wrap (a-b)),[])
   | .mul=>some (.int k (k.wrap (a*b)),[])
   | .quo=>some (.int k (k.wrap (a.tdiv b)),[b≠0])
   | .rem=>some (.int k (a.tmod b),[b≠0])
   | .eql=>some (.bool (a==b),[])
   | .neq=>some (.bool (a != b),[])
   | .lss=>some (.bool (decide (a<b)),[])
   | .leq=>some (.bool (decide (a≤b)),[])
   | .gtr=>some (.bool (decide (a>b)),[])
   | .geq=>some (.bool (decide (a≥b)),[])
   | .and=>some (.int k (k.wrap (BitVec.ofInt k.bits a &&& BitVec.ofInt k.bits b).toNat),[])
   | .or=>some (.int k (k.wrap (BitVec.ofInt k.bits a ||| BitVec.ofInt k.bits b).toNat),[])
   | .xor=>some (.int k (k.wrap (BitVec.ofInt k.bits a ^^^ BitVec.ofInt k.bits b).toNat),[])
   | .andNot=>some (.int k (k.wrap (BitVec.ofInt k.bits a &&& ~~~(BitVec.ofInt k.bits b)).toNat),[])
   | _=>none
  else none
 | .string a,.string b =>
   match op with
   | .eql=>some (.bool (a.toList==b.toList),[])
   | .neq=>some (.bool (!(a.toList==b.toList)),[])
   | .lss=>some (.bool (Op.bytesLess a.toList b.toList),[])
   | .add=>some (.string (a++b),[a.size+b.size≤9223372036854775807])
   | _=>none
 | _,_=>none
def Alk (bx:Bool):MV→MV→MV→Option Eff
 | .p (.v (.bool t)),a,b=>some (bif bx then a else b,[],[t=bx])
 | _,_,_=>none
def AaE (dst:Nat) (ob:Nat→Option Obj) (bd:Body):Eff :=
 (.ref (key dst 0) (Bl (ob (key dst 0))) 0,[(key dst 0,⟨Bl (ob (key dst 0)),bd⟩)],[])
def Ob (dst:Nat) (ob:Nat→Option Obj) (W n:Nat) (f:Nat→List PV) (obl:List Prop):Eff :=
 (.own (key dst 0) (Bl (ob (key dst 0))) 0 n,[(key dst 0,⟨Bl (ob (key dst 0)),.row W n f⟩)],obl)
def Zu (T:Ty) (t dst:Nat) (ob:Nat→Option Obj):Option Eff :=
 match assoc T t with
 | some i=>some (AaE dst ob (.box (i.zero.map Kk)))
 | none=>none
def AeA (dst:Nat) (ob:Nat→Option Obj) (x:MV):Option Eff :=
 match x.cells with
 | some cs=>some (AaE dst ob (.box cs))
 | none=>none
def setRange {α:Type} : List α→Nat→List α→List α
 | l,_,[]=>l
 | l,o,x::r=>setRange (l.set o x) (o+1) r
def AbC (place:Nat→Option (Nat×Nat)) (cells:List MV):List (Nat×MV)→Option (List MV)
 | []=>some cells
 | (i,x)::rest =>
  match place i,x.cells with
  | some (off,size),some cs=>bif Nat.beq cs.length size&&Nat.ble (off+size) cells.length then AbC place (setRange cells off cs) rest else none
  | _,_=>none
def Zj (T:Ty) (fs:List (Nat×Nat)) (i:Nat):Option (Nat×Nat) :=
 match fs[i]? with
 | some (off,ft)=>match assoc T ft with
  | some j=>some (off,j.size)
  | none=>none
 | none=>none
def Ws (T:Ty) (t:Nat) (parts:List (Nat×MV)):Option Eff :=
 match assoc T t with
 | some ⟨.struct fs,_,_,zero,_⟩ =>
  match AbC (Zj T fs) (zero.map Kk) parts with
  | some cs=>some (.agg cs,[],[])
  | none=>none
 | _=>none
def reps {α:Type} : Nat→List α→List α
 | 0,_ => []
 | n+1,l=>l++reps n l
def cut (W:Nat) (l:List PV) (i:Nat):List PV:=(l.drop (i*W)).take W
def Kb (T:Ty) (t len dst:Nat) (ob:Nat→Option Obj) (parts:List (Nat×MV)):Option Eff :=
 match assoc T t with
 | some ⟨.slice e,_,_,_,_⟩ =>
  match assoc T e with
  | some i =>
   bif Nat.ble (len*i.size) 16777216&&Nat.beq i.zero.length i.size&&Nat.blt 0 i.size then
    match AbC (fun j=>some (j*i.size,i.size)) (reps len (i.zero.map Kk)) parts with
    | some cs=>match pures cs with
     | some ps=>some (Ob dst ob i.size len (cut i.size ps) [])
     | none=>none
    | none=>none
   else none
  | none=>none
 | _=>none
def Yn (ob:Nat→Option Obj) (k g:Nat):Option (List MV) :=
 match ob k with
 | some ⟨g',.box cs⟩=>bif Nat.beq g' g then some cs else none
 | _=>none
def Km (ob:Nat→Option Obj) (k g:Nat):Option (PV×(Int→Bool)×(Int→PV)) :=
 match ob k with
 | some ⟨g',.mp z has f⟩=>bif Nat.beq g' g then some (z,has,f) else none
 | _=>none
def Hf (ob:Nat→Option Obj) (k g:Nat):Option (Nat×Nat×(Nat→List PV)) :=
 match ob k with
 | some ⟨g',.row W n f⟩=>bif Nat.beq g' g then some (W,n,f) else none
 | _=>none
def AhR (agg:Bool) (size off:Nat) (cs:List MV):Option MV :=
 bif agg then (bif Nat.ble (off+size) cs.length then some (.agg ((cs.drop off).take size)) else none) else cs[off]?
def takeP (agg:Bool) (size off:Nat) (cs:List PV):Option MV :=
 bif agg then (bif Nat.ble (off+size) cs.length then some (.agg (((cs.drop off).take size).map .p)) else none)
 else match cs[off]? with
  | some x=>some (.p x)
  | none=>none
def Tm (T:Ty) (t:Nat) (ob:Nat→Option Obj) (x:MV):Option Eff :=
 match assoc T t with
 | none=>none
 | some i =>
  match x with
  | .ref k g off=>match Yn ob k g with
   | some cs=>match AhR i.kd.agg i.size off cs with
    | some y=>some (y,[],[])
    | none=>none
   | none=>none
  | .eref k g ix off=>match Hf ob k g with
   | some (_,n,f)=>match takeP i.kd.agg i.size off (f ix) with
    | some y=>some (y,[],[ix<n])
    | none=>none
   | none=>none
  | .fptr cs=>match takeP i.kd.agg i.size 0 cs with
   | some y=>some (y,[],[])
   | none=>none
  | _=>none
def Cd {α:Type} (f:Nat→α) (i:Nat) (x:α):Nat→α:=fun j=>bif Nat.beq j i then x else f j
def Zs (T:Ty) (t:Nat) (ob:Nat→Option Obj) (x y:MV):Option Eff :=
 match assoc T t,y.cells with
 | some i,some cs =>
  bif Nat.beq cs.length i.size then
   match x with
   | .ref k g off=>match Yn ob k g with
    | some old=>bif Nat.ble (off+i.size) old.length then some (.und,[(k,⟨g,.box (setRange old off cs)⟩)],[]) else none
    | none=>none
   | .eref k g ix off=>match Hf ob k g,pures cs with
    | some (W,n,f),some ps=>bif Nat.ble (off+i.size) W then some (.und,[(k,⟨g,.row W n (Cd f ix (setRange (f ix) off ps))⟩)],[ix<n]) else none
    | _,_=>none
   | _=>none
  else none
 | _,_=>none
def Aac (T:Ty) (t fld:Nat) (x:MV):Option Eff :=
 match assoc T t with
 | some ⟨.struct fs,_,_,_,_⟩ =>
  match fs[fld]? with
  | some (off,ft)=>match assoc T ft,x.aggc with
   | some i,some cs=>match AhR i.kd.agg i.size off cs with
    | some y=>some (y,[],[])
    | none=>none
   | _,_=>none
  | none=>none
 | _=>none
def Om (T:Ty) (t fld:Nat) (x:MV):Option Eff :=
 match assoc T t with
 | some ⟨.struct fs,_,_,_,_⟩ =>
  match fs[fld]? with
  | some (off,ft)=>match assoc T ft with
   | some i=>bif Nat.beq i.size 0 then none else
    match x with
    | .ref k g o=>some (.ref k g (o+off),[],[])
    | .eref k g ix o=>some (.eref k g ix (o+off),[],[])
    | .fptr cs=>some (.fptr (cs.drop off),[],[])
    | _=>none
   | none=>none
  | none=>none
 | _=>none
def Zl (a b:Nat):Nat:=bif Nat.beq a 0 then b else a+b
def Oe (T:Ty) (t:Nat) (ob:Nat→Option Obj) (x y:MV):Option Eff :=
 match assoc T t,y with
 | some ⟨.slice e,_,_,_,_⟩,.p (.v (.int _ z)) =>
  match assoc T e with
  | some i =>
   match x with
   | .p (.sl _ W n f)=>bif Nat.beq W i.size then some (.fptr (f z.toNat),[],[0≤z,z<(n:Int)]) else none
   | .own k g off len=>match Hf ob k g with
    | some (W,_,_)=>bif Nat.beq W i.size then some (.eref k g (Zl off z.toNat) 0,[],[0≤z,z<(len:Int)]) else none
    | none=>none
   | _=>none
  | none=>none
 | _,_=>none
def Zk (T:Ty) (t:Nat) (x y:MV):Option Eff :=
 match assoc T t,x,y with
 | some ⟨.str,_,_,_,_⟩,.p (.v (.string s)),.p (.v (.int _ z)) =>
  some (.p (.v (.int .u8 (Br s z.toNat))),[],[0≤z,z<(s.size:Int)])
 | _,_,_=>none
def Tp (ix:Nat):MV→Option Eff
 | .tup cs=>match cs[ix]? with
  | some x=>some (x,[],[])
  | none=>none
 | .p (.tup cs)=>match cs[ix]? with
  | some x=>some (.p x,[],[])
  | none=>none
 | _=>none
def Akg (op:BinOp) (x y:MV):Option Eff :=
 match x,y with
 | .p (.v a),.p (.v b)=>match scal op a b with
  | some (c,obl)=>some (.p (.v c),[],obl)
  | none=>none
 | _,_=>none
def AhU (op:UnOp) (x:MV):Option Eff :=
 match op,x with
 | .not,.p (.v (.bool b))=>some (.p (.v (.bool !b)),[],[])
 | .neg,.p (.v (.int k n))=>some (.p (.v (.int k (k.wrap (0-n)))),[],[])
 | _,_=>none
def Aeq : MV→Option Eff
 | .ref k g o=>some (.ref k g o,[],[])
 | .eref k g i o=>some (.eref k g i o,[],[])
 | .fptr cs=>some (.fptr cs,[],[])
 | .fn f cs=>some (.fn f cs,[],[])
 | .p (.fn f cs)=>some (.p (.fn f cs),[],[])
 | _=>none
def Ts (T:Ty) (d:Nat) (x:MV):Option Eff :=
 match assoc T d,x with
 | some ⟨.int k,_,_,_,_⟩,.p (.v (.int _ n))=>some (.p (.v (.int k (k.wrap n))),[],[])
 | some ⟨.str,_,_,_,_⟩,.p (.v (.string s))=>some (.p (.v (.string s)),[],[])
 | _,_=>none
def AbU (f:FuncId) (xs:List MV):Option Eff :=
 match pures xs with
 | some ps=>some (.p (.fn f ps),[],[])
 | none=>bif Nat.blt f BND then some (.fn f xs,[],[]) else none
def Zm (f:FuncId) (xs:List MV):Option Eff:=some (.fn (f+BND) xs,[],[])
def Aet (T:Ty) (t:Nat) (x:MV):Option Eff :=
 match assoc T t,x with
 | some ⟨.str,_,_,_,_⟩,.p (.v (.string s))=>some (.p (.v (.int .i64 s.size)),[],[])
 | some ⟨.slice _,_,_,_,_⟩,.p (.sl _ _ n _)=>some (.p (.v (.int .i64 n)),[],[])
 | some ⟨.slice _,_,_,_,_⟩,.own _ _ _ len=>some (.p (.v (.int .i64 len)),[],[])
 | _,_=>none
def Rg (n:Nat) (f g:Nat→List PV):Nat→List PV:=fun i=>bif Nat.blt i n then f i else g (i-n)
def shF (off:Nat) (f:Nat→List PV):Nat→List PV:=bif Nat.beq off 0 then f else fun i=>f (off+i)
def AcN (ob:Nat→Option Obj) (W:Nat):MV→Option (Nat×(Nat→List PV)×Option Nat)
 | .p (.sl _ W' n f)=>bif Nat.beq W' W||Nat.beq n 0 then some (n,f,none) else none
 | .own k g off len=>match Hf ob k g with
  | some (W',_,f)=>bif Nat.beq W' W then some (len,shF off f,some k) else none
  | none=>none
 | _=>none
def Xg (T:Ty) (t t2 dst:Nat) (ob:Nat→Option Obj) (s x:MV):Option Eff :=
 match assoc T t with
 | some ⟨.slice e,_,_,_,_⟩ =>
  match assoc T e with
  | some i =>
   bif Nat.beq t t2&&Nat.beq i.zero.length i.size&&Nat.blt 0 i.size&&Nat.blt 0 i.bytes then
    match AcN ob i.size x with
    | some (n2,f2,k2) =>
     match s with
     | .p (.sl .nil _ 0 _) | .p (.sl .cap0 _ 0 _) =>
      some (Ob dst ob i.size n2 f2 [n2*i.bytes≤140737488355328])
     | .own k g off len =>
      match Hf ob k g with
      | some (W,_,f) =>
       bif Nat.beq W i.size && !(k2==some k) then
        some (.own k (g+1) 0 (len+n2),[(k,⟨g+1,.row W (len+n2) (Rg len (shF off f) f2)⟩)],[(len+n2)*i.bytes≤140737488355328])
       else none
      | none=>none
     | _=>none
    | none=>none
   else none
  | none=>none
 | _=>none
def Fu : MV→Option Int
 | .p (.v (.int _ z))=>some z
 | _=>none
def Fz (h l:Nat):Nat:=bif Nat.beq l 0 then h else h-l
def Kg (T:Ty) (t:Nat) (ob:Nat→Option Obj) (x:MV) (lo hi:Option Int):Option Eff :=
 match assoc T t,x with
 | some ⟨.str,_,_,_,_⟩,.p (.v (.string s)) =>
  let l:=lo.getD 0
  let h:=hi.getD s.size
  some (.p (.v (.string (s.extract l.toNat h.toNat))),[],[0≤l,l≤h,h≤(s.size:Int)])
 | some ⟨.slice e,_,_,_,_⟩,.p (.sl _ W n f) =>
  match assoc T e with
  | some i =>
   bif Nat.beq W i.size||Nat.beq n 0 then
    let l:=lo.getD 0
    let h:=hi.getD n
    some (.p (.sl .unk i.size (Fz h.toNat l.toNat) (shF l.toNat f)),[],[0≤l,l≤h,h≤(n:Int)])
   else none
  | none=>none
 | some ⟨.slice e,_,_,_,_⟩,.own k g off len =>
  match assoc T e,Hf ob k g with
  | some i,some (W,_,_) =>
   bif Nat.beq W i.size then
    let l:=lo.getD 0
    let h:=hi.getD len
    some (.own k g (Zl off l.toNat) (Fz h.toNat l.toNat),[],[0≤l,l≤h,h≤(len:Int)])
   else none
  | _,_=>none
 | _,_=>none
def Pi (T:Ty) (t:Nat) (x:MV):Option Eff :=
 match assoc T t,x with
 | some ⟨.slice e,_,_,_,_⟩,.p (.sl _ W _ f)=>bif (assoc T e).isSome then some (.p (.sl .cap0 W 0 f),[],[]) else none
 | _,_=>none
def Aax : PV→PV→Option Bool
 | .v (.int k a),.v (.int k' b)=>if k=k' then some (a==b) else none
 | .v (.string a),.v (.string b)=>some (a.toList==b.toList)
 | .v (.bool a),.v (.bool b)=>some (a==b)
 | _,_=>none
def Hq : Kd→PV→Bool
 | .int _,.v (.int _ _)=>true
 | .str,.v (.string _)=>true
 | .bool,.v (.bool _)=>true
 | _,_=>false
def eqFields (T:Ty):List (Nat×Nat)→List PV→List PV→Option Bool
 | [],_,_=>some true
 | (off,ft)::r,xs,ys =>
  match assoc T ft,xs[off]?,ys[off]? with
  | some i,some x,some y =>
   bif Hq i.kd x&&Hq i.kd y then
    match Aax x y,eqFields T r xs ys with
    | some b,some c=>some (b&&c)
    | _,_=>none
   else none
  | _,_,_=>none
def effEq (T:Ty) (op:BinOp) (t:Nat) (x y:MV):Option Eff :=
 match assoc T t,x.aggc,y.aggc with
 | some ⟨.struct fs,_,_,_,true⟩,some cs,some ds =>
  match pures cs,pures ds with
  | some ps,some qs=>match eqFields T fs ps qs with
   | some b=>match op with
    | .eql=>some (.p (.v (.bool b)),[],[])
    | .neq=>some (.p (.v (.bool !b)),[],[])
    | _=>none
   | none=>none
  | _,_=>none
 | _,_,_=>none
def AeK (T:Ty) (op:BinOp) (t:Nat) (x y:MV):Option Eff :=
 match assoc T t,x,y with
 | some ⟨.slice _,_,_,_,_⟩,.p (.sl fl _ _ _),.p (.sl .nil _ _ _) =>
  match op,fl with
  | .eql,.nil=>some (.p (.v (.bool true)),[],[])
  | .eql,.nn=>some (.p (.v (.bool false)),[],[])
  | .neq,.nil=>some (.p (.v (.bool false)),[],[])
  | .neq,.nn=>some (.p (.v (.bool true)),[],[])
  | _,_=>none
 | _,_,_=>none
def AcP (T:Ty) (op:BinOp) (t:Nat) (x y:MV):Option Eff :=
 match assoc T t,x,y with
 | some ⟨.bool,_,_,_,_⟩,.p (.v (.bool a)),.p (.v (.bool b)) =>
  match op with
  | .eql=>some (.p (.v (.bool (a==b))),[],[])
  | .neq=>some (.p (.v (.bool (a != b))),[],[])
  | _=>none
 | _,_,_=>none
def AbR (T:Ty) (op:BinOp) (t:Nat) (x y:MV):Option Eff :=
 match Akg op x y with
 | some e=>some e
 | none=>match effEq T op t x y with
  | some e=>some e
  | none=>match AcP T op t x y with
   | some e=>some e
   | none=>AeK T op t x y
def AgU (s:ByteArray):Nat→List PV:=fun i => [.v (.int .u8 (Br s i))]
def Zp (T:Ty) (d:Nat) (x:MV):Option Eff :=
 match assoc T d,x with
 | some ⟨.slice e,_,_,_,_⟩,.p (.v (.string s)) =>
  match assoc T e with
  | some ⟨.int .u8,_,_,_,_⟩=>some (.p (.sl .unk 1 s.size (AgU s)),[],[])
  | _=>none
 | _,_=>none
def inR (a b j:Nat):Bool:=Nat.ble a j&&Nat.blt j b
def Ns (f:Nat→List PV) (at_ n:Nat) (g:Nat→List PV):Nat→List PV:=fun j=>bif inR at_ (at_+n) j then g (j-at_) else f j
def Mf (a b:Nat):Nat:=bif Nat.ble a b then a else b
def Zz (T:Ty) (t:Nat) (ob:Nat→Option Obj) (x:MV):Option Eff :=
 match assoc T t,x with
 | some ⟨.slice e,_,_,_,_⟩,.own k g off len =>
  match assoc T e,Hf ob k g with
  | some i,some (W,n,f) =>
   bif Nat.beq W i.size&&Nat.beq i.zero.length i.size&&Nat.blt 0 i.size then
    match pures (i.zero.map Kk) with
    | some zs=>some (.und,[(k,⟨g,.row W n (Ns f off len fun _=>zs)⟩)],[off+len≤n])
    | none=>none
   else none
  | _,_=>none
 | _,_=>none
def AbY (T:Ty) (t:Nat) (ob:Nat→Option Obj) (x y:MV):Option Eff :=
 match assoc T t,x with
 | some ⟨.slice e,_,_,_,_⟩,.own k g off len =>
  match assoc T e,Hf ob k g with
  | some i,some (W,n,f) =>
   bif Nat.beq W i.size&&Nat.blt 0 i.size then
    match AcN ob i.size y with
    | some (n2,f2,_)=>some (.p (.v (.int .i64 (Mf n2 len))),[(k,⟨g,.row W n (Ns f off (Mf n2 len) f2)⟩)],[off+len≤n])
    | none=>none
   else none
  | _,_=>none
 | _,_=>none
def Aay (mx:Bool):MV→MV→Option Eff
 | .p (.v (.int k a)),.p (.v (.int k' b))=>if k=k' then some (.p (.v (.int k (bif mx then (if a<b then b else a) else (if b<a then b else a)))),[],[]) else none
 | _,_=>none
def AbV (T:Ty) (t dst:Nat) (ob:Nat→Option Obj) (x y:MV):Option Eff :=
 match assoc T t,x,y with
 | some ⟨.slice e,_,_,_,_⟩,.p (.v (.int _ z)),.p (.v (.int _ c)) =>
  match assoc T e with
  | some i =>
   bif Nat.beq i.zero.length i.size&&Nat.blt 0 i.size then
    match pures (i.zero.map Kk) with
    | some zs=>some (Ob dst ob i.size z.toNat (fun _=>zs) [0≤z,z=c,z≤9223372036854775807,z*i.bytes≤140737488355328])
    | none=>none
   else none
  | none=>none
 | _,_,_=>none
def Ye (T:Ty) (t:Nat):Option PV :=
 match assoc T t with
 | some i=>match pures (i.zero.map Kk) with
  | some zs=>bif i.kd.agg then some (.agg zs) else zs[0]?
  | none=>none
 | none=>none
def Ay {α:Type} (f:Int→α) (n:Int) (x:α):Int→α:=fun j=>if j=n then x else f j
def AbK (T:Ty) (t:Nat):Option Nat :=
 match assoc T t with
 | some ⟨.map k e,_,_,_,_⟩=>match assoc T k with
  | some ⟨.int .i64,_,_,_,_⟩=>some e
  | _=>none
 | _=>none
def Mq (T:Ty) (t dst:Nat) (ob:Nat→Option Obj):Option Eff :=
 match AbK T t with
 | some e=>match Ye T e with
  | some z=>some (.mref (key dst 0) (Bl (ob (key dst 0))),[(key dst 0,⟨Bl (ob (key dst 0)),.mp z (fun _=>false) (fun _=>z)⟩)],[])
  | none=>none
 | none=>none
def PLe (x y:PV):Prop:=∀ S w v,Rep S w v x→Rep S w v y
def AeE (z:PV) (has:Int→Bool) (f:Int→PV) (z':PV) (has':Int→Bool) (f':Int→PV):Prop :=
 has=has'∧(∀ n,PLe (f n) (f' n))∧((∀ n,has n=false→f n=z)→∀ n,has' n=false→f' n=z')
def Xj (T:Ty) (t:Nat) (ob:Nat→Option Obj) (ok:Bool) (x y:MV):Option Eff :=
 match AbK T t,y with
 | some e,.p (.v (.int .i64 n)) =>
  match Ye T e,(match x with
   | .mref k g=>Km ob k g
   | .p (.mp z has f)=>some (z,has,f)
   | _=>none) with
  | some z0,some (z,has,f)=>some (bif ok then .tup [.p (f n),.p (.v (.bool (has n)))] else .p (f n),[],[PLe z0 z])
  | _,_=>none
 | _,_=>none
def MV.whole : MV→Option PV
 | .p x=>some x
 | .agg cs=>match pures cs with
  | some ps=>some (.agg ps)
  | none=>none
 | _=>none
def Lb (T:Ty) (t:Nat) (ob:Nat→Option Obj) (m k v:MV):Option Eff :=
 match AbK T t,m,k,v.whole with
 | some _,.mref q g,.p (.v (.int .i64 n)),some x=>match Km ob q g with
  | some (z,has,f)=>some (.und,[(q,⟨g,.mp z (Ay has n true) (Ay f n x)⟩)],[])
  | none=>none
 | _,_,_,_=>none
def Agu (T:Ty) (t:Nat) (ob:Nat→Option Obj) (x:MV) (l h m:Int):Option Eff :=
 match assoc T t,x with
 | some ⟨.slice e,_,_,_,_⟩,.own k g _ len =>
  match assoc T e,Hf ob k g with
  | some _,some _=>some (.any,[],[0≤l,l≤h,h≤m,m≤(len:Int)])
  | _,_=>none
 | _,_=>none
def Aeb (T:Ty) (t t2:Nat) (ob:Nat→Option Obj) (s x:MV):Option Eff :=
 match assoc T t,s with
 | some ⟨.slice e,_,_,_,_⟩,.own k g off len =>
  match assoc T e,Hf ob k g with
  | some i,some (W,n,f) =>
   bif Nat.beq t t2&&Nat.beq W i.size&&Nat.blt 0 i.size then
    match AcN ob i.size x with
    | some (n2,f2,some k2)=>bif Nat.beq k2 k then some (.own k g off (len+n2),[(k,⟨g,.row W n (Ns f (off+len) n2 f2)⟩)],[off+len+n2≤n,off<n]) else none
    | _=>none
   else none
  | _,_=>none
 | _,_=>none
def Aea (T:Ty) (t:Nat) (ob:Nat→Option Obj) (x:MV) (l h:Int):Option Eff :=
 match assoc T t,x with
 | some ⟨.slice e,_,_,_,_⟩,.own k g off _ =>
  match assoc T e,Hf ob k g with
  | some i,some (W,n,_) =>
   bif Nat.beq W i.size then some (.own k g (Zl off l.toNat) (Fz h.toNat l.toNat),[],[0≤l,l≤h,off+h.toNat≤n]) else none
  | _,_=>none
 | _,_=>none
def Akr (ob:Nat→Option Obj) (k g:Nat):Option (PV×(Int→Bool)×(Int→PV)×(Int→Nat)×Nat) :=
 match ob k with
 | some ⟨g',.mq (.clk z has f born clock)⟩=>bif Nat.beq g' g then some (z,has,f,born,clock) else none
 | _=>none
def getIt (ob:Nat→Option Obj) (k g:Nat):Option ((Int→PV)×(Int→Bool)×Option Int) :=
 match ob k with
 | some ⟨g',.mq (.it f rem cur)⟩=>bif Nat.beq g' g then some (f,rem,cur) else none
 | _=>none
def Wz (T:Ty) (t:Nat) (ob:Nat→Option Obj) (m k:MV):Option Eff :=
 match AbK T t,m,k with
 | some _,.mref q g,.p (.v (.int .i64 n))=>match Km ob q g with
  | some (z,has,f)=>some (.p (.tup []),[(q,⟨g,.mp z (Ay has n false) (Ay f n z)⟩)],[])
  | none=>none
 | _,_,_=>none
def AdR (T:Ty) (t:Nat) (ob:Nat→Option Obj) (m k:MV):Option Eff :=
 match AbK T t,m,k with
 | some e,.mref q g,.p (.v (.int .i64 n))=>match Ye T e,Akr ob q g with
  | some z0,some (z,has,f,born,clock) =>
   some (.tup [.p (f n),.p (.v (.int .i64 (bif has n then born n else clock:Nat)))],
    [(q,⟨g,.mq (.clk z (Ay has n true) f (Ay born n (bif has n then born n else clock)) (bif has n then clock else clock+1))⟩)],[PLe z0 z])
  | _,_=>none
 | _,_,_=>none
def AaX (n:Int) (ob:Nat→Option Obj) (m s v:MV):Option Eff :=
 match m,s,v.whole with
 | .mref q g,.p (.v (.int .i64 st)),some x=>match Akr ob q g with
  | some (z,has,f,born,clock)=>some (.und,[(q,⟨g,.mq (.clk z has (Ay f n x) born clock)⟩)],[has n=true,st=(born n:Int)])
  | none=>none
 | _,_,_=>none
def Sr (T:Ty) (t dst:Nat) (ob:Nat→Option Obj) (x:MV):Option Eff :=
 match AbK T t,x with
 | some _,.p (.mp _ has f)=>some (.ref (key dst 0) (Bl (ob (key dst 0))) 0,[(key dst 0,⟨Bl (ob (key dst 0)),.mq (.it f has none)⟩)],[])
 | some _,.mref q g=>match Km ob q g with
  | some (_,has,f)=>bif Nat.beq q (key dst 0) then none else some (.ref (key dst 0) (Bl (ob (key dst 0))) 0,[(q,⟨g+1,.dead⟩),(key dst 0,⟨Bl (ob (key dst 0)),.mq (.it f has none)⟩)],[])
  | none=>none
 | _,_=>none
def Zn (ob:Nat→Option Obj) (x:MV):Option Eff :=
 match x with
 | .ref k g 0=>match getIt ob k g with
  | some (f,_,some n)=>some (.tup [.p (.v (.int .i64 n)),.p (f n)],[],[])
  | _=>none
 | _=>none
end Go.Dm

namespace Go.Dm
def Bj (objs:Ar) (k:Nat) (o:Obj):Ar:=fun j=>bif Nat.beq j k then some o else objs j
def Fo (β:Bi) (k:Nat) (l:Loc):Bi:=fun j=>bif Nat.beq j k then l else β j
def Cb (objs:Ar):List (Nat×Obj)→Ar
 | []=>objs
 | (k,o)::r=>Cb (Bj objs k o) r
theorem Ch (k:Nat):Nat.beq k k=true:=Nat.beq_refl k
theorem De {j k:Nat} (h:j≠k):Nat.beq j k=false:=by
 cases hb:Nat.beq j k with
 | false=>rfl
 | true=>exact absurd (Nat.eq_of_beq_eq_true hb) h
theorem Bb (objs:Ar) (k:Nat) (o:Obj):Bj objs k o k=some o:=by simp [Bj,Ch]
theorem Cc (objs:Ar) {j k:Nat} (o:Obj) (h:j≠k):Bj objs k o j=objs j:=by simp [Bj,De h]
theorem Db (β:Bi) (k:Nat) (l:Loc):Fo β k l k=l:=by simp [Fo,Ch]
theorem Ic (β:Bi) {j k:Nat} (l:Loc) (h:j≠k):Fo β k l j=β j:=by simp [Fo,De h]
section
variable {P : Program} {cx:Cx P} {β:Bi} {σ:St} {a:Act} {w:World}
theorem Rel.step (h:Rel cx β σ a w) (β':Bi) (objs':Ar) (w':World) (hg:Grows β β' σ.objs objs')
  (hS:∀ b,Al cx.Av β σ.objs w b→Al cx.Av β' objs' w' b)
  (hw:∀ b,Al cx.Av β σ.objs w b→w'.heap[b]? = w.heap[b]?)
  (ob:∀ k o,objs' k=some o→ObjRel β' objs' (Al cx.Av β' objs' w') w' (β' k) o.body)
  (blk:∀ k o b,objs' k=some o→o.body.live→(β' k).block=some b→b<w'.heap.size∧¬ cx.Av b∧(cx.w0.heap.size≤b∨cx.out b))
  (inj:∀ k k' o o' b,objs' k=some o→objs' k'=some o'→o.body.live→o'.body.live→k≠k'→(β' k).block=some b→(β' k').block≠some b)
  (kept:Kept cx.out cx.w0 w') (hol:∀ k o,k<cx.m→objs' k=some o→o.gen=0→β' k=cx.β0 k):Rel cx β' ⟨σ.slots,objs'⟩ a w' :=
 ⟨h.nd_mono hw,h.sz,fun t=>(h.sl t).mono hg hS hw,ob,blk,inj,kept,h.avo,h.avlt,h.mle,hol⟩
theorem Rel.upd1 (h:Rel cx β σ a w) (k:Nat) (o':Obj) (l':Loc) (w':World)
  (hgrow:∀ o,σ.objs k=some o→o.gen≤o'.gen∧(o.gen=o'.gen→l'=β k∧o.body.same o'.body))
  (hblk:∀ b,o'.body.live→l'.block=some b→b<w'.heap.size∧¬ cx.Av b∧(cx.w0.heap.size≤b∨cx.out b))
  (hfresh:∀ b,o'.body.live→l'.block=some b→¬ Al cx.Av β σ.objs w b∧∀ k' oo,k'≠k→σ.objs k'=some oo→oo.body.live→(β k').block≠some b)
  (hheap:∀ b,b<w.heap.size→(o'.body.live→l'.block≠some b)→w'.heap[b]? = w.heap[b]?)
  (hsize:w.heap.size≤w'.heap.size) (hos:w'.os=w.os) (htape:w'.tape=w.tape) (hout:w'.output=w.output)
  (hol1:k<cx.m→o'.gen=0→∃ o,σ.objs k=some o∧o.gen=0)
  (hob:ObjRel (Fo β k l') (Bj σ.objs k o') (Al cx.Av (Fo β k l') (Bj σ.objs k o') w') w' l' o'.body) :
  Rel cx (Fo β k l') ⟨σ.slots,Bj σ.objs k o'⟩ a w':=by
 have hg:Grows β (Fo β k l') σ.objs (Bj σ.objs k o'):=by
  intro j o ho
  by_cases hj:j=k
  ·subst hj
   obtain ⟨g1,g2⟩:=hgrow o ho
   refine ⟨o',Bb _ _ _,g1,fun e => ?_⟩
   rw [Db]
   exact g2 e
  ·exact ⟨o,by rw [Cc _ _ hj]; exact ho,Nat.le_refl _,fun _=>⟨by rw [Ic _ _ hj],o.body.same_refl⟩⟩
 have hS:∀ b,Al cx.Av β σ.objs w b→Al cx.Av (Fo β k l') (Bj σ.objs k o') w' b:=by
  intro b hb
  refine ⟨Nat.lt_of_lt_of_le hb.1 hsize,hb.2.1,fun j o ho hl => ?_⟩
  by_cases hj:j=k
  ·subst hj
   rw [Db]
   rw [Bb] at ho
   injection ho with ho
   subst ho
   intro he
   exact (hfresh b hl he).1 hb
  ·rw [Ic _ _ hj]
   rw [Cc _ _ hj] at ho
   exact hb.2.2 j o ho hl
 have hw:∀ b,Al cx.Av β σ.objs w b→w'.heap[b]? = w.heap[b]? := fun b hb =>
  hheap b hb.1 fun hl he=>(hfresh b hl he).1 hb
 refine h.step _ _ w' hg hS hw ?_ ?_ ?_ ?_ ?_
 ·intro j o ho
  by_cases hj:j=k
  ·subst hj
   rw [Bb] at ho
   injection ho with ho
   subst ho
   rw [Db]
   exact hob
  ·rw [Cc _ _ hj] at ho
   rw [Ic _ _ hj]
   by_cases hlv:o.body.live
   ·refine (h.ob j o ho).mono hg hS hw fun b hb=>hheap b (h.blk j o b ho hlv hb).1 fun hl he => ?_
    exact (hfresh b hl he).2 j o hj ho hlv hb
   ·cases hbd:o.body with
    | dead=>trivial
    | box cs=>simp [hbd,Body.live] at hlv
    | row W n f=>simp [hbd,Body.live] at hlv
    | mp z has f=>simp [hbd,Body.live] at hlv
    | mq q=>simp [hbd,Body.live] at hlv
 ·intro j o b ho hl hb
  by_cases hj:j=k
  ·subst hj
   rw [Bb] at ho
   injection ho with ho
   subst ho
   rw [Db] at hb
   exact hblk b hl hb
  ·rw [Cc _ _ hj] at ho
   rw [Ic _ _ hj] at hb
   obtain ⟨g1,g2⟩:=h.blk j o b ho hl hb
   exact ⟨Nat.lt_of_lt_of_le g1 hsize,g2⟩
 ·intro j j' o oo b ho hoo hl hll hne hb
  by_cases hj:j=k
  ·subst hj
   rw [Bb] at ho
   injection ho with ho
   subst ho
   rw [Db] at hb
   rw [Cc _ _ (Ne.symm hne)] at hoo
   rw [Ic _ _ (Ne.symm hne)]
   exact (hfresh b hl hb).2 j' oo (Ne.symm hne) hoo hll
  ·rw [Cc _ _ hj] at ho
   rw [Ic _ _ hj] at hb
   by_cases hj':j'=k
   ·subst hj'
    rw [Bb] at hoo
    injection hoo with hoo
    subst hoo
    rw [Db]
    intro he
    exact (hfresh b hll he).2 j o hj ho hl hb
   ·rw [Cc _ _ hj'] at hoo
    rw [Ic _ _ hj']
    exact h.inj j j' o oo b ho hoo hl hll hne hb
 ·have hk:=h.kept
  refine ⟨hos.trans hk.os,htape.trans hk.tape,hout.trans hk.output,Nat.le_trans hk.size hsize,fun b hb hno => ?_⟩
  rw [hheap b (Nat.lt_of_lt_of_le hb hk.size) fun hl he => ?_]
  ·exact hk.block b hb hno
  ·rcases (hblk b hl he).2.2 with h1|h1
   ·omega
   ·exact hno h1
 ·intro j o hj ho hgen
  by_cases hjk:j=k
  ·subst hjk
   rw [Bb] at ho
   injection ho with ho
   subst ho
   obtain ⟨o0,ho0,hg0⟩:=hol1 hj hgen
   rw [Db,((hgrow o0 ho0).2 (by omega)).1]
   exact h.oloc j o0 hj ho0 hg0
  ·rw [Cc _ _ hjk] at ho
   rw [Ic _ _ hjk]
   exact h.oloc j o hj ho hgen
theorem Rel.put (h:Rel cx β σ a w) (t:Nat) (ht:t<cx.nt) (v:Value) (x:MV)
  (hv:RelV β σ.objs (Al cx.Av β σ.objs w) w v x) :
  Rel cx β ⟨Cd σ.slots t x,σ.objs⟩ (a.put (some t) v) w:=by
 refine ⟨h.nd,by simp [Act.put,h.sz],fun j => ?_,h.ob,h.blk,h.inj,h.kept,h.avo,h.avlt,h.mle,h.oloc⟩
 by_cases hj:j=t
 ·subst hj
  have hlt:j<a.tmps.size:=by rw [h.sz]; exact ht
  simp [Act.put,Cd,Ch,hlt]
  exact hv
 ·have:=h.sl j
  simp only [Act.put,Cd,De hj,cond_false]
  rw [Array.getD_eq_getD_getElem?,Array.getElem?_setIfInBounds_ne (Ne.symm hj),← Array.getD_eq_getD_getElem?]
  exact this
theorem Rel.drew (h:Rel cx β σ a w):Rel cx β σ a w.drew:=by
 have hS:∀ b,Al cx.Av β σ.objs w b↔Al cx.Av β σ.objs w.drew b:=fun b=>Iff.rfl
 exact ⟨h.nd_mono (w':=w.drew) (fun _ _=>rfl),h.sz,fun t=>(h.sl t).mono (w:=w) (w':=w.drew) (Grows.refl _ _) (fun b hb=>(hS b).1 hb) (fun _ _=>rfl),
  fun k o ho=>(h.ob k o ho).mono (w:=w) (w':=w.drew) (Grows.refl _ _) (fun b hb=>(hS b).1 hb) (fun _ _=>rfl) (fun _ _=>rfl),
  h.blk,h.inj,⟨h.kept.os,h.kept.tape,h.kept.output,h.kept.size,h.kept.block⟩,h.avo,h.avlt,h.mle,h.oloc⟩
theorem Rel.fresh (h:Rel cx β σ a w) (k:Nat) (bd:Body) (l':Loc) (w1:World) (ob:Go.Obj)
  (hw1:w1.heap=w.heap∧w1.os=w.os∧w1.tape=w.tape∧w1.output=w.output)
  (hl:l'.block=some w.heap.size) (hk1000:1000≤k∨(σ.objs k).isSome=true)
  (hob:∀ S' β' objs',(∀ b,Al cx.Av β σ.objs w b→S' b)→Grows β β' σ.objs objs'→ObjRel β' objs' S' (w1.alloc ob) l' bd) :
  Rel cx (Fo β k l') ⟨σ.slots,Bj σ.objs k ⟨Bl (σ.objs k),bd⟩⟩ a (w1.alloc ob):=by
 have hsz:(w1.alloc ob).heap.size=w.heap.size+1:=by simp [hw1.1]
 have hgrow:∀ o,σ.objs k=some o→o.gen≤(Bl (σ.objs k))∧(o.gen=(Bl (σ.objs k))→l'=β k∧o.body.same bd):=by
  intro o ho
  rw [ho]
  simp only [Bl]
  exact ⟨by omega,fun e=>by omega⟩
 have hg:Grows β (Fo β k l') σ.objs (Bj σ.objs k ⟨Bl (σ.objs k),bd⟩):=by
  intro j o ho
  by_cases hj:j=k
  ·subst hj
   obtain ⟨g1,g2⟩:=hgrow o ho
   refine ⟨_,Bb _ _ _,g1,fun e => ?_⟩
   rw [Db]
   exact g2 e
  ·exact ⟨o,by rw [Cc _ _ hj]; exact ho,Nat.le_refl _,fun _=>⟨by rw [Ic _ _ hj],o.body.same_refl⟩⟩
 have hlt:∀ b,b<w.heap.size→(w1.alloc ob).heap[b]? = w.heap[b]? := fun b hb=>by
  rw [heap_alloc_old w1 ob b (by rw [hw1.1]; exact hb),hw1.1]
 refine h.upd1 k _ l' _ hgrow ?_ ?_ ?_ (by omega) hw1.2.1 hw1.2.2.1 hw1.2.2.2 ?_ (hob _ _ _ ?_ hg)
 ·intro b hlv hb
  rw [hl] at hb
  injection hb with hb
  subst hb
  refine ⟨by omega,fun hA => ?_,.inl h.kept.size⟩
  have h1:=h.avlt _ hA
  have h2:=h.kept.size
  omega
 ·intro b hlv hb
  rw [hl] at hb
  injection hb with hb
  subst hb
  exact ⟨fun hs=>by have:=hs.1; omega,fun k' oo _ hoo hl' hb'=>by have:=(h.blk k' oo _ hoo hl' hb').1; omega⟩
 ·intro b hb _
  exact hlt b hb
 ·intro hkm hgen
  rcases hk1000 with h1|h1
  ·have:=h.mle; omega
  ·cases ho:σ.objs k with
   | none=>simp [ho] at h1
   | some o=>simp [ho,Bl] at hgen
 ·intro b hb
  refine ⟨by have:=hb.1; omega,hb.2.1,fun j o ho hlv => ?_⟩
  by_cases hj:j=k
  ·subst hj
   rw [Db,hl]
   intro e
   injection e with e
   have:=hb.1
   omega
  ·rw [Ic _ _ hj]
   rw [Cc _ _ hj] at ho
   exact hb.2.2 j o ho hlv
end
end Go.Dm

namespace Go.Dm
section types
variable {P : Program} {t:Nat} {i:TI}
theorem TyFact.under (h:TyFact P t i):∃ d,P.underlying t=some d∧Kd.of d=i.kd∧isArr d=false:=by
 have h1:=h.1
 cases hd:P.underlying t with
 | none=>simp [hd] at h1
 | some d=>simp [hd] at h1; exact ⟨d,rfl,h1.1,h1.2⟩
theorem TyFact.info (h:TyFact P t i):∃ x z,P.info? t=some x∧x.size=i.size∧x.bytes=i.bytes∧x.zero=some z∧z.cells.toList=i.zero∧Acb z=i.kd.agg:=by
 have h1:=h.2
 cases hd:P.info? t with
 | none=>simp [hd] at h1
 | some x =>
  simp [hd] at h1
  obtain ⟨h2,h3,z,h4,h5,h6⟩:=h1
  exact ⟨x,z,rfl,h2,h3,h4,h5,h6⟩
theorem TyFact.sizeOf (h:TyFact P t i) (w:World):(Go.sizeOf t).run P w = .ok i.size w:=by
 obtain ⟨x,z,h1,h2,_⟩:=h.info
 simp [Go.sizeOf,typeInfo,h1,h2]
theorem TyFact.isAgg (h:TyFact P t i) (w:World):(Go.isAgg t).run P w = .ok i.kd.agg w:=by
 obtain ⟨d,h1,h2,h3⟩:=h.under
 unfold Go.isAgg
 rw [Sem.run_bind,run_underlying h1 w]
 rw [← h2]
 clear h2 h1
 cases d <;> simp_all [Kd.of,Kd.agg,isArr]
theorem TyFact.zeroValue (h:TyFact P t i) (w:World):∃ z,(Go.zeroValue t).run P w = .ok z w∧z.cells.toList=i.zero:=by
 obtain ⟨x,z,h1,_,_,h4,h5,_⟩:=h.info
 exact ⟨z,by simp [Go.zeroValue,typeInfo,h1,h4],h5⟩
theorem TyFact.zeroValue2 (h:TyFact P t i) (w:World):∃ z,(Go.zeroValue t).run P w = .ok z w∧z.cells.toList=i.zero∧Acb z=i.kd.agg:=by
 obtain ⟨x,z,h1,_,_,h4,h5,h6⟩:=h.info
 exact ⟨z,by simp [Go.zeroValue,typeInfo,h1,h4],h5,h6⟩
theorem TyFact.slice {e:Nat} (h:TyFact P t i) (hk:i.kd = .slice e):P.underlying t=some (.slice e):=by
 obtain ⟨d,h1,h2,h3⟩:=h.under
 rw [hk] at h2
 cases d <;> simp_all [Kd.of]
theorem TyFact.struct {fs:List (Nat×Nat)} (h:TyFact P t i) (hk:i.kd = .struct fs) :
  ∃ fields,P.underlying t=some (.struct fields)∧fields.toList.map (fun f=>(f.offset,f.type))=fs:=by
 obtain ⟨d,h1,h2,h3⟩:=h.under
 rw [hk] at h2
 cases d <;> simp_all [Kd.of]
theorem TyFact.str (h:TyFact P t i) (hk:i.kd = .str):P.underlying t=some .string:=by
 obtain ⟨d,h1,h2,h3⟩:=h.under
 rw [hk] at h2
 cases d <;> simp_all [Kd.of]
theorem TyFact.int {k:IntKind} (h:TyFact P t i) (hk:i.kd = .int k):P.underlying t=some (.int k):=by
 obtain ⟨d,h1,h2,h3⟩:=h.under
 rw [hk] at h2
 cases d <;> simp_all [Kd.of]
end types
section inv
variable {β : Bi} {objs:Ar} {S:Nat→Prop} {w:World} {v:Value}
theorem RelV.inv_v {x:Value} (h:RelV β objs S w v (.p (.v x))):v=x∧x.oneCell'=true:=by
 cases h with
 | p _ _ h=>cases h with
  | v _ h=>exact ⟨rfl,h⟩
theorem RelV.inv_p {x:PV} (h:RelV β objs S w v (.p x)):Rep S w v x:=by
 cases h with
 | p _ _ h=>exact h
theorem RelV.inv_ref {k g off:Nat} (h:RelV β objs S w v (.ref k g off)):∃ b,v = .pointer (some (at_ b off))∧Known β objs k g fun l _=>l = .box b:=by
 cases h with
 | ref _ _ _ b h=>exact ⟨b,rfl,h⟩
theorem RelV.inv_mref {k g:Nat} (h:RelV β objs S w v (.mref k g)):∃ b,v = .map (some b)∧Known β objs k g fun l _=>l = .box b:=by
 cases h with
 | mref _ _ b h=>exact ⟨b,rfl,h⟩
theorem RelV.inv_own {k g off len:Nat} (h:RelV β objs S w v (.own k g off len)):∃ base c,v = .slice base len c∧Known β objs k g fun l bd=>OwnAt l bd off len base c:=by
 cases h with
 | own _ _ _ _ base c h=>exact ⟨base,c,rfl,h⟩
theorem RelV.inv_eref {k g i off:Nat} (h:RelV β objs S w v (.eref k g i off)):∃ b oo,v = .pointer (some (at_ b (oo+off)))∧Known β objs k g fun l bd=>ERefAt l bd i b oo:=by
 cases h with
 | eref _ _ _ _ b oo h=>exact ⟨b,oo,rfl,h⟩
theorem RelV.inv_fptr {cs:List PV} (h:RelV β objs S w v (.fptr cs)):∃ (b o:Nat) (c:Nat→Value),v = .pointer (some (at_ b o))∧S b ∧
  (∀ j,j<cs.length→w.cell? (at_ b (o+j))=some (c j))∧(∀ j,j<cs.length→(c j).oneCell'=true)∧(∀ j x,cs[j]? = some x→Rep S w (c j) x):=by
 cases h with
 | fptr _ b o hs c hc h1 hr=>exact ⟨b,o,c,rfl,hs,hc,h1,hr⟩
theorem RelV.mk_v {x:Value} (h:x.oneCell'=true):RelV β objs S w x (.p (.v x)) := .p _ _ (.v x h)
theorem Abx (x:Value):RelV β objs S w x (Kk x):=by
 unfold Kk
 split
 ·exact .p _ _ (.slnil _ _ _ (by simp))
 ·exact .any _
 ·exact .any _
 ·exact .any _
 ·rename_i h1 h2 h3 h4
  refine .p _ _ (.v _ ?_)
  cases x <;> simp_all [Value.oneCell']
theorem mvOf_rel (x:Value) (h1:∀ cs,x = .agg cs→∀ c∈cs.toList,c.oneCell'=true):RelV β objs S w x (mvOf x):=by
 unfold mvOf
 split
 ·rename_i cs
  refine .agg _ _ (by simp) (fun i y hy => ?_) (fun i y hy => ?_)
  ·rw [List.getElem?_map] at hy
   cases hc:cs.toList[i]? with
   | none=>simp [hc] at hy
   | some c =>
    simp [hc] at hy
    subst hy
    have:cs.getD i undef=c:=by
     rw [Array.getD_eq_getD_getElem?]
     simp at hc
     simp [hc]
    rw [this]
    exact Abx c
  ·rw [List.getElem?_map] at hy
   cases hc:cs.toList[i]? with
   | none=>simp [hc] at hy
   | some c =>
    have:cs.getD i undef=c:=by
     rw [Array.getD_eq_getD_getElem?]
     simp at hc
     simp [hc]
    rw [this]
    exact h1 cs rfl c (List.mem_of_getElem? hc)
 ·exact Abx x
end inv
def An : Operand→Bool
 | .const (.agg cs)=>cs.all fun c=>c.oneCell'
 | _=>true
section
variable {P : Program} {T:Ty} {cx:Cx P} {β:Bi} {σ:St} {a:Act} {w:World}
theorem Ba (h:Rel cx β σ a w) (x:Operand) (hx:An x=true):RelV β σ.objs (Al cx.Av β σ.objs w) w (a.eval x) (ev σ x):=by
 cases x with
 | tmp t=>exact h.sl t
 | const c =>
  refine mvOf_rel c fun cs e y hy => ?_
  subst e
  simp only [An] at hx
  rw [← Array.all_toList,List.all_eq_true] at hx
  exact hx y hy
 | global g=>exact .any _
 | func f=>exact .p _ _ (.fn f [] #[] rfl (fun i x hx=>by simp at hx))
def Out (P:Program) (cx:Cx P) (σ:St) (a:Act) (m:Sem Value) (w:World) (y:MV) (wo:List (Nat×Obj)):Prop :=
 ∃ v w' β',m.run P w = .ok v w'∧Rel cx β' ⟨σ.slots,Cb σ.objs wo⟩ a w' ∧
  RelV β' (Cb σ.objs wo) (Al cx.Av β' (Cb σ.objs wo) w') w' v y
theorem Aqm (h:Rel cx β σ a w) {m:Sem Value} {v:Value} {y:MV} (hr:m.run P w = .ok v w)
  (hv:RelV β σ.objs (Al cx.Av β σ.objs w) w v y):Out P cx σ a m w y []:=⟨v,w,β,hr,h,hv⟩
theorem AdB {S:Nat→Prop} {objs:Ar} {v:Value} {x:MV} {cs:List MV} (h:RelV β objs S w v x) (hc:x.cells=some cs) :
  v.cells.size=cs.length∧(∀ (i:Nat) y,cs[i]? = some y→RelV β objs S w (v.cells.getD i undef) y∧(v.cells.getD i undef).oneCell'=true):=by
 have one:∀ y,RelV β objs S w v y→v.oneCell'=true→cs = [y] →
   v.cells.size=cs.length∧(∀ (i:Nat) y,cs[i]? = some y→RelV β objs S w (v.cells.getD i undef) y∧(v.cells.getD i undef).oneCell'=true):=by
  intro y hy h1 e
  subst e
  have hv:v.cells = #[v]:=by cases v <;> simp_all [Value.cells,Value.oneCell']
  rw [hv]
  refine ⟨rfl,fun i z hz => ?_⟩
  cases i with
  | zero=>simp at hz; subst hz; exact ⟨hy,h1⟩
  | succ i=>simp at hz
 cases h with
 | p v x h =>
  cases h with
  | v x h1=>simp [MV.cells] at hc; exact one _ (.p _ _ (.v _ h1)) h1 hc.symm
  | slnil fl W f h1=>simp [MV.cells] at hc; exact one _ (.p _ _ (.slnil _ _ _ h1)) rfl hc.symm
  | sl fl W n cap b o f c h1 h2 h3 h4 h5 h6 h7=>simp [MV.cells] at hc; exact one _ (.p _ _ (.sl _ _ _ _ _ _ _ c h1 h2 h3 h4 h5 h6 h7)) rfl hc.symm
  | fn f caps vs h1 h2=>simp [MV.cells] at hc; exact one _ (.p _ _ (.fn _ _ _ h1 h2)) rfl hc.symm
  | agg ps vs h1 h2 h3 =>
   simp [MV.cells] at hc
   subst hc
   refine ⟨by simpa [Value.cells] using h1,fun i y hy => ?_⟩
   rw [List.getElem?_map] at hy
   cases hp:ps[i]? with
   | none=>simp [hp] at hy
   | some q =>
    simp [hp] at hy
    subst hy
    exact ⟨.p _ _ (h2 i q hp),h3 i q hp⟩
  | tup ps vs h1 h2=>simp [MV.cells] at hc
  | mp z has f b clock es h1 h2 h3 h4 h5=>simp [MV.cells] at hc; exact one _ (.p _ _ (.mp _ _ _ _ _ _ h1 h2 h3 h4 h5)) rfl hc.symm
  | ptr cs b o hs c h1 h2 h3=>simp [MV.cells] at hc; exact one _ (.p _ _ (.ptr _ _ _ hs c h1 h2 h3)) rfl hc.symm
 | own k g off len base c h=>simp [MV.cells] at hc; exact one _ (.own _ _ _ _ _ _ h) rfl hc.symm
 | ref k g off b h=>simp [MV.cells] at hc; exact one _ (.ref _ _ _ _ h) rfl hc.symm
 | eref k g i off b oo h=>simp [MV.cells] at hc; exact one _ (.eref _ _ _ _ _ _ h) rfl hc.symm
 | fptr cs b o hs c h1 h2 h3=>simp [MV.cells] at hc; exact one _ (.fptr _ _ _ hs c h1 h2 h3) rfl hc.symm
 | agg cs' vs hl hr h1 =>
  simp [MV.cells] at hc
  subst hc
  exact ⟨by simpa [Value.cells] using hl,fun i y hy=>⟨hr i y hy,h1 i y hy⟩⟩
 | tup cs' vs hl hr=>simp [MV.cells] at hc
 | fn f caps vs hl hr=>simp [MV.cells] at hc; exact one _ (.fn _ _ _ hl hr) (fnV_cell _ _) hc.symm
 | mref k g b h=>simp [MV.cells] at hc; exact one _ (.mref _ _ _ h) rfl hc.symm
 | und=>simp [MV.cells] at hc
 | any v=>simp [MV.cells] at hc
theorem snd_scal {op:BinOp} {x y c:Value} {obl:List Prop} (t:TypeId) (he:scal op x y=some (c,obl)) (ho:All obl) :
  (binOp op t x y).run P w = .ok c w∧c.oneCell'=true:=by
 unfold scal at he
 split at he
 ·rename_i k a k' b
  split at he
  ·simp at he
   obtain ⟨rfl,rfl⟩:=he
   simp [All] at ho
   simp [binOp,Op.shift,Value.oneCell']
   intro h; omega
  ·simp at he
   obtain ⟨rfl,rfl⟩:=he
   simp [All] at ho
   simp [binOp,Op.shift,Value.oneCell']
   intro h; omega
  ·split at he
   ·rename_i hk
    subst hk
    cases op <;> simp at he <;> obtain ⟨rfl,rfl⟩:=he <;> simp [All] at ho <;>
     simp [binOp,Op.intArith,Op.intDiv,Op.intCmp,Op.intBits,Op.shift,Value.oneCell',ho]
   ·simp at he
 ·rename_i a b
  cases op <;> simp at he <;> obtain ⟨rfl,rfl⟩:=he <;> simp [All] at ho <;>
   simp [binOp,Op.stringOp,Value.oneCell']
  omega
 ·simp at he
theorem snd_bin (h:Rel cx β σ a w) {op:BinOp} {t t2:TypeId} {ox oy:Operand} (hx:An ox=true) (hy:An oy=true) {y:MV} {wo obl}
  (he:Akg op (ev σ ox) (ev σ oy)=some (y,wo,obl)) (ho:All obl) :
  Out P cx σ a (do eqGuard op t ox oy (a.eval ox) (a.eval oy); binOp op t (a.eval ox) (a.eval oy)) w y wo:=by
 have rx:=Ba h ox hx
 have ry:=Ba h oy hy
 unfold Akg at he
 split at he
 ·rename_i p q hp hq
  split at he
  ·rename_i c ob hs
   simp at he
   obtain ⟨rfl,rfl,rfl⟩:=he
   rw [hp] at rx
   rw [hq] at ry
   obtain ⟨e1,h1⟩:=rx.inv_v
   obtain ⟨e2,h2⟩:=ry.inv_v
   obtain ⟨hr,hc⟩:=snd_scal (P:=P) (w:=w) t hs ho
   refine Aqm h (v:=c) ?_ (.mk_v hc)
   rw [e1,e2,Sem.run_bind]
   have hg:(eqGuard op t ox oy p q).run P w = .ok () w:=by
    unfold eqGuard
    cases p <;> cases q <;> simp_all [scal] <;> split <;> simp_all
   rw [hg]
   simpa using hr
  ·simp at he
 ·simp at he
theorem snd_un (h:Rel cx β σ a w) {op:UnOp} {ox:Operand} (hx:An ox=true) {y:MV} {wo obl}
  (he:AhU op (ev σ ox)=some (y,wo,obl)):Out P cx σ a (Op.unary op (a.eval ox)) w y wo:=by
 have rx:=Ba h ox hx
 unfold AhU at he
 split at he
 ·rename_i b hp
  simp at he
  obtain ⟨rfl,rfl,rfl⟩:=he
  rw [hp] at rx
  obtain ⟨e1,h1⟩:=rx.inv_v
  exact Aqm h (v := .bool !b) (by rw [e1]; rfl) (.mk_v rfl)
 ·rename_i k n hp
  simp at he
  obtain ⟨rfl,rfl,rfl⟩:=he
  rw [hp] at rx
  obtain ⟨e1,h1⟩:=rx.inv_v
  exact Aqm h (v := .int k (k.wrap (0-n))) (by rw [e1]; rfl) (by simpa using RelV.mk_v rfl)
 ·simp at he
theorem snd_pick (h:Rel cx β σ a w) {bx:Bool} {oc ox oy:Operand} (hc:An oc=true) (hx:An ox=true) (hy:An oy=true) {y:MV} {wo obl}
  (he:Alk bx (ev σ oc) (ev σ ox) (ev σ oy)=some (y,wo,obl)) (ho:All obl) :
  Out P cx σ a (do pure (if ← asBool (a.eval oc) then a.eval ox else a.eval oy)) w y wo:=by
 have rc:=Ba h oc hc
 unfold Alk at he
 split at he
 ·rename_i t hp
  simp at he
  obtain ⟨rfl,rfl,rfl⟩:=he
  simp [All] at ho
  subst ho
  rw [hp] at rc
  obtain ⟨e1,h1⟩:=rc.inv_v
  refine Aqm h (v:=if t then a.eval ox else a.eval oy) (by rw [e1]; simp [asBool]) ?_
  cases t
  ·exact Ba h oy hy
  ·exact Ba h ox hx
 ·simp at he
theorem Known.get {k g:Nat} {F:Loc→Body→Prop} {bd:Body} {objs:Ar} (h:Known β objs k g F) (ho:objs k=some ⟨g,bd⟩):F (β k) bd:=by
 obtain ⟨o,h1,h2,h3⟩:=h
 rw [ho] at h1
 injection h1 with h1
 subst h1
 exact h3 rfl
theorem Vn {ob:Nat→Option Obj} {k g:Nat} {cs:List MV} (h:Yn ob k g=some cs):ob k=some ⟨g,.box cs⟩:=by
 unfold Yn at h
 split at h
 ·rename_i g' cs' ho
  cases hb:Nat.beq g' g with
  | false=>simp [hb] at h
  | true =>
   simp [hb] at h
   rw [ho,h,Nat.eq_of_beq_eq_true hb]
 ·simp at h
theorem Es {ob:Nat→Option Obj} {k g W n:Nat} {f:Nat→List PV} (h:Hf ob k g=some (W,n,f)):ob k=some ⟨g,.row W n f⟩:=by
 unfold Hf at h
 split at h
 ·rename_i g' W' n' f' ho
  cases hb:Nat.beq g' g with
  | false=>simp [hb] at h
  | true =>
   simp [hb] at h
   rw [ho,Nat.eq_of_beq_eq_true hb,h.1,h.2.1,h.2.2]
 ·simp at h
theorem Uf {t b o:Nat} {i:TI} (hT:TyFact P t i) (c:Nat→Value)
  (hc:∀ j,j<(if i.kd.agg then i.size else 1)→w.cell? (at_ b (o+j))=some (c j)) :
  (loadVar t (at_ b o)).run P w = .ok (if i.kd.agg then .agg ((List.range i.size).map c).toArray else c 0) w:=by
 unfold loadVar
 rw [Sem.run_bind,hT.isAgg w]
 cases hk:i.kd.agg with
 | true =>
  simp only [hk,if_true] at hc
  simp only [Result.andThen_ok,if_true,Sem.run_bind,hT.sizeOf w]
  rw [run_loadCells w (at_ b o) i.size c (fun j hj=>by rw [at_,Addr.add_lit]; exact hc j hj)]
  rfl
 | false =>
  simp only [hk] at hc
  have h0:=hc 0 (by simp)
  simp only [Nat.add_zero] at h0
  simp [h0]
theorem AcU {S:Nat→Prop} {objs:Ar} {agg:Bool} {size off:Nat} {cs:List MV} {y:MV} (h:AhR agg size off cs=some y) (c:Nat→Value)
  (hr:∀ (j:Nat) x,cs[j]? = some x→RelV β objs S w (c j) x∧(c j).oneCell'=true) :
  (∀ j,j<(if agg then size else 1)→off+j<cs.length) ∧
  RelV β objs S w (if agg then .agg ((List.range size).map fun j=>c (off+j)).toArray else c off) y:=by
 unfold AhR at h
 cases agg with
 | true =>
  simp only [cond_true] at h
  cases hb:Nat.ble (off+size) cs.length with
  | false=>simp [hb] at h
  | true =>
   simp [hb] at h
   have hle:=Nat.le_of_ble_eq_true hb
   subst h
   refine ⟨fun j hj=>by simp at hj; omega,?_⟩
   have key:∀ (i:Nat) x,((cs.drop off).take size)[i]? = some x→i<size∧cs[off+i]? = some x:=by
    intro i x hx
    rw [List.getElem?_take] at hx
    split at hx
    ·rw [List.getElem?_drop] at hx; exact ⟨by assumption,hx⟩
    ·simp at hx
   refine .agg _ _ (by simp; omega) (fun i x hx => ?_) (fun i x hx => ?_)
   ·obtain ⟨h1,h2⟩:=key i x hx
    have:=(hr _ _ h2).1
    simpa [Array.getD_eq_getD_getElem?,h1] using this
   ·obtain ⟨h1,h2⟩:=key i x hx
    have:=(hr _ _ h2).2
    simpa [Array.getD_eq_getD_getElem?,h1] using this
 | false =>
  simp only [cond_false] at h
  refine ⟨fun j hj => ?_,(hr _ _ h).1⟩
  have:=(List.getElem?_eq_some_iff.1 h).1
  simp at hj
  omega
theorem AiQ {agg:Bool} {size off:Nat} {cs:List PV} {y:MV} (h:takeP agg size off cs=some y):AhR agg size off (cs.map .p)=some y:=by
 unfold takeP at h
 unfold AhR
 cases agg with
 | true=>simpa [List.map_drop,List.map_take] using h
 | false =>
  simp only [cond_false] at h ⊢
  rw [List.getElem?_map]
  split at h
  ·rename_i x hx; rw [hx]; simpa using h
  ·simp at h
theorem AjA (hT:Gk P T) (h:Rel cx β σ a w) {t:Nat} {ox:Operand} (hx:An ox=true) {y:MV} {wo obl} {ob:Nat→Option Obj}
  (hob:∀ k o,ob k=some o→σ.objs k=some o) (he:Tm T t ob (ev σ ox)=some (y,wo,obl)) (ho:All obl) :
  ∃ v,(Instr.loadAt t (a.eval ox)).run P w = .ok v w∧RelV β σ.objs (Al cx.Av β σ.objs w) w v y∧wo = []:=by
 have rx:=Ba h ox hx
 unfold Tm at he
 split at he
 ·simp at he
 ·rename_i i hi
  have hF:=hT t i hi
  split at he
  ·rename_i k g off hp
   rw [hp] at rx
   split at he
   ·rename_i cs hg
    split at he
    ·rename_i z hz
     simp at he
     obtain ⟨rfl,rfl,rfl⟩:=he
     have ho1:=hob _ _ (Vn hg)
     ·obtain ⟨b,hv,hk⟩:=rx.inv_ref
      have hl:=hk.get ho1
      obtain ⟨b',cur,e,hl',hheap,hsz,hcs⟩:=h.ob k _ ho1
      rw [hl] at hl'
      injection hl' with hl'
      subst hl'
      have hcell:∀ j,w.cell? (at_ b j)=cur[j]? := fun j=>cell_of_row w b j cur e (0,0) hheap
      obtain ⟨hlt,hrel⟩:=AcU (β:=β) (objs:=σ.objs) (S:=Al cx.Av β σ.objs w) (w:=w) hz (fun j=>cur.getD j undef) (fun j x hx=>by
       obtain ⟨u,g1,g2,g3⟩:=hcs j x hx
       simp [Array.getD_eq_getD_getElem?,g1,g2,g3])
      refine ⟨_,?_,hrel,rfl⟩
      rw [hv]
      simp only [Instr.loadAt,Instr.sureAddr,Sem.run_bind,Sem.run_pure,Result.andThen_ok]
      exact Uf hF (fun j=>cur.getD (off+j) undef) (fun j hj=>by
       have:=hlt j hj
       rw [hcell]
       rw [← hsz] at this
       simp [Array.getD_eq_getD_getElem?,this])
    ·simp at he
   ·simp at he
  ·rename_i k g ix off hp
   rw [hp] at rx
   split at he
   ·rename_i W n f hg
    split at he
    ·rename_i z hz
     simp at he
     obtain ⟨rfl,rfl,rfl⟩:=he
     simp [All] at ho
     have ho1:=hob _ _ (Es hg)
     ·obtain ⟨b,oo,hv,hk⟩:=rx.inv_eref
      obtain ⟨hin,o,cap,hl,hoo⟩:=hk.get ho1
      rcases h.ob k _ ho1 with ⟨hl',_⟩|⟨b',o',cap',cur,e,hl',hheap,hcap,hn,hrow⟩
      ·rw [hl] at hl'; simp at hl'
      ·rw [hl] at hl'
       injection hl' with e1 e2 e3
       subst e1; subst e2; subst e3
       obtain ⟨hW,hh⟩:=hrow ix ho
       have hcell:∀ j,w.cell? (at_ b j)=cur[j]? := fun j=>cell_of_row w b j cur e (0,0) hheap
       obtain ⟨hlt,hrel⟩:=AcU (β:=β) (objs:=σ.objs) (S:=Al cx.Av β σ.objs w) (w:=w) (AiQ hz) (fun j=>cur.getD (o+ix*W+j) undef) (fun j x hx=>by
        rw [List.getElem?_map] at hx
        cases hq:(f ix)[j]? with
        | none=>simp [hq] at hx
        | some q =>
         simp [hq] at hx
         subst hx
         obtain ⟨u,g1,g2,g3⟩:=hh j q hq
         simp only [Array.getD_eq_getD_getElem?,g1,Option.getD_some]
         exact ⟨.p _ _ g3,g2⟩)
       refine ⟨_,?_,hrel,rfl⟩
       rw [hv]
       simp only [Instr.loadAt,Instr.sureAddr,Sem.run_bind,Sem.run_pure,Result.andThen_ok]
       refine Uf hF (fun j=>cur.getD (o+ix*W+(off+j)) undef) (fun j hj => ?_)
       have h3:=hlt j hj
       rw [List.length_map] at h3
       obtain ⟨u,g1,_,_⟩:=hh (off+j) (f ix)[off+j] (List.getElem?_eq_getElem h3)
       rw [hcell]
       have e2:oo+off+j=o+ix*W+(off+j):=by omega
       rw [e2,Array.getD_eq_getD_getElem?,g1]
       rfl
    ·simp at he
   ·simp at he
  ·rename_i cs hp
   rw [hp] at rx
   split at he
   ·rename_i z hz
    simp at he
    obtain ⟨rfl,rfl,rfl⟩:=he
    ·obtain ⟨b,o,c,hv,hs,hc,h1,hr⟩:=rx.inv_fptr
     obtain ⟨hlt,hrel⟩:=AcU (β:=β) (objs:=σ.objs) (S:=Al cx.Av β σ.objs w) (w:=w) (AiQ hz) c (fun j x hx=>by
      rw [List.getElem?_map] at hx
      cases hq:cs[j]? with
      | none=>simp [hq] at hx
      | some q =>
       simp [hq] at hx
       subst hx
       exact ⟨.p _ _ (hr j q hq),h1 j (List.getElem?_eq_some_iff.1 hq).1⟩)
     simp only [Nat.zero_add] at hrel hlt
     refine ⟨_,?_,hrel,rfl⟩
     rw [hv]
     simp only [Instr.loadAt,Instr.sureAddr,Sem.run_bind,Sem.run_pure,Result.andThen_ok]
     exact Uf hF c (fun j hj=>hc j (by have:=hlt j hj; simpa using this))
   ·simp at he
  ·simp at he
theorem snd_load (hT:Gk P T) (h:Rel cx β σ a w) {t:Nat} {ox:Operand} (hx:An ox=true) {y:MV} {wo obl} {ob:Nat→Option Obj}
  (hob:∀ k o,ob k=some o→σ.objs k=some o) (he:Tm T t ob (ev σ ox)=some (y,wo,obl)) (ho:All obl) :
  Out P cx σ a (Instr.loadAt t (a.eval ox)) w y wo:=by
 obtain ⟨v,h1,h2,rfl⟩:=AjA hT h hx hob he ho
 exact Aqm h h1 h2
end
end Go.Dm

namespace Go.Dm
section
variable {P : Program} {T:Ty} {cx:Cx P} {β:Bi} {σ:St} {a:Act} {w:World}
theorem Anm {fields:Array Field} {fs:List (Nat×Nat)} (h:fields.toList.map (fun f=>(f.offset,f.type))=fs) {fld off ft:Nat}
  (hf:fs[fld]? = some (off,ft)):∃ f,fields[fld]? = some f∧f.offset=off∧f.type=ft:=by
 rw [← h,List.getElem?_map] at hf
 cases hq:fields.toList[fld]? with
 | none=>simp [hq] at hf
 | some f =>
  simp [hq] at hf
  exact ⟨f,by simpa using hq,hf.1,hf.2⟩
theorem fptr_drop {S:Nat→Prop} {objs:Ar} {cs:List PV} {b o:Nat} (n:Nat) (c:Nat→Value) (hs:S b)
  (hc:∀ j,j<cs.length→w.cell? (at_ b (o+j))=some (c j)) (h1:∀ j,j<cs.length→(c j).oneCell'=true)
  (hr:∀ j x,cs[j]? = some x→Rep S w (c j) x):RelV β objs S w (.pointer (some (at_ b (o+n)))) (.fptr (cs.drop n)):=by
 refine .fptr _ b (o+n) hs (fun j=>c (n+j)) (fun j hj => ?_) (fun j hj => ?_) (fun j x hx => ?_)
 ·rw [Nat.add_assoc]
  exact hc (n+j) (by simp at hj; omega)
 ·exact h1 (n+j) (by simp at hj; omega)
 ·rw [List.getElem?_drop] at hx
  exact hr _ _ hx
theorem AlX (hT:Gk P T) (h:Rel cx β σ a w) {t fld:Nat} {ox:Operand} (hx:An ox=true) {y:MV} {wo obl}
  (he:Om T t fld (ev σ ox)=some (y,wo,obl)):Out P cx σ a (Instr.fieldAt t (a.eval ox) fld) w y wo:=by
 have rx:=Ba h ox hx
 unfold Om at he
 split at he
 ·rename_i fs s1 s2 s3 s4 hi
  obtain ⟨fields,hu,hfs⟩:=(hT t _ hi).struct rfl
  split at he
  ·rename_i off ft hf
   obtain ⟨f,hf1,hf2,hf3⟩:=Anm hfs hf
   split at he
   ·rename_i i hi2
    cases hz:Nat.beq i.size 0 with
    | true=>simp [hz] at he
    | false =>
     simp only [hz,cond_false] at he
     have hsz:¬ i.size=0:=fun e=>by rw [e] at hz; simp at hz
     have hF:=hT ft i hi2
     have hplace:∀ b o,(Instr.fieldAt t (.pointer (some (at_ b o))) fld).run P w = .ok (.pointer (some (at_ b (o+off)))) w:=by
      intro b o
      simp only [Instr.fieldAt,Sem.run_bind,run_underlying hu,Result.andThen_ok,hf1,Instr.sureAddr,Sem.run_pure,fieldPlace,hf3,hF.sizeOf,hsz,if_false,at_,Addr.add_lit,hf2]
     split at he
     ·rename_i k g o hp
      simp at he
      obtain ⟨rfl,rfl,rfl⟩:=he
      rw [hp] at rx
      obtain ⟨b,hv,hk⟩:=rx.inv_ref
      rw [hv]
      exact Aqm h (hplace b o) (.ref _ _ _ _ hk)
     ·rename_i k g ix o hp
      simp at he
      obtain ⟨rfl,rfl,rfl⟩:=he
      rw [hp] at rx
      obtain ⟨b,oo,hv,hk⟩:=rx.inv_eref
      rw [hv]
      refine Aqm h (hplace b _) ?_
      rw [Nat.add_assoc]
      exact .eref _ _ _ _ _ _ hk
     ·rename_i cs hp
      simp at he
      obtain ⟨rfl,rfl,rfl⟩:=he
      rw [hp] at rx
      obtain ⟨b,o,c,hv,hs,hc,h1,hr⟩:=rx.inv_fptr
      rw [hv]
      exact Aqm h (hplace b o) (fptr_drop off c hs hc h1 hr)
     ·simp at he
   ·simp at he
  ·simp at he
 ·simp at he
theorem Afj {S:Nat→Prop} {objs:Ar} {v:Value} {x:MV} {cs:List MV} (h:RelV β objs S w v x) (hc:x.aggc=some cs) :
  ∃ vs,v = .agg vs∧vs.size=cs.length∧(∀ (i:Nat) y,cs[i]? = some y→RelV β objs S w (vs.getD i undef) y∧(vs.getD i undef).oneCell'=true):=by
 have hcc:x.cells=some cs:=by
  cases x <;> simp_all [MV.aggc,MV.cells]
  rename_i q
  cases q <;> simp_all
 obtain ⟨h1,h2⟩:=AdB h hcc
 cases h with
 | agg _ vs _ _ _=>exact ⟨vs,rfl,by simpa [Value.cells] using h1,by simpa [Value.cells] using h2⟩
 | p _ _ h=>cases h with
  | agg _ vs _ _ _=>exact ⟨vs,rfl,by simpa [Value.cells] using h1,by simpa [Value.cells] using h2⟩
  | _=>simp [MV.aggc] at hc
 | _=>simp [MV.aggc] at hc
theorem snd_field (hT:Gk P T) (h:Rel cx β σ a w) {t fld:Nat} {ox:Operand} (hx:An ox=true) {y:MV} {wo obl}
  (he:Aac T t fld (ev σ ox)=some (y,wo,obl)):Out P cx σ a (Instr.field t (a.eval ox) fld) w y wo:=by
 have rx:=Ba h ox hx
 unfold Aac at he
 split at he
 ·rename_i fs s1 s2 s3 s4 hi
  obtain ⟨fields,hu,hfs⟩:=(hT t _ hi).struct rfl
  split at he
  ·rename_i off ft hf
   obtain ⟨f,hf1,hf2,hf3⟩:=Anm hfs hf
   split at he
   ·rename_i i cs hi2 hcs
    have hF:=hT ft i hi2
    split at he
    ·rename_i z hz
     simp at he
     obtain ⟨rfl,rfl,rfl⟩:=he
     obtain ⟨vs,hv,hl,hr⟩:=Afj rx hcs
     obtain ⟨hlt,hrel⟩:=AcU (β:=β) (objs:=σ.objs) (S:=Al cx.Av β σ.objs w) (w:=w) hz (fun j=>vs.getD j undef) hr
     refine Aqm h ?_ hrel
     rw [hv]
     simp only [Instr.field,Sem.run_bind,run_underlying hu,Result.andThen_ok,hf1,asAgg,Sem.run_pure,part,hf3,hF.isAgg,hf2]
     cases hk:i.kd.agg with
     | true =>
      simp only [hk,if_true] at hlt
      simp only [if_true,Sem.run_bind,hF.sizeOf,Result.andThen_ok,Sem.run_pure]
      congr 2
      apply Array.ext
      ·simp
       by_cases hs:i.size=0
       ·omega
       ·have:=hlt (i.size-1) (by omega)
        omega
      ·intro j h1 h2
       simp at h2
       have:=hlt j h2
       simp [Array.getD_eq_getD_getElem?,hl,this]
     | false =>
      have:=hlt 0 (by simp [hk])
      simp only [Nat.add_zero] at this
      have h3:vs[off]? = some (vs.getD off undef):=by simp [Array.getD_eq_getD_getElem?,hl,this]
      generalize vs.getD off undef=u at h3 ⊢
      simp [h3]
    ·simp at he
   ·simp at he
  ·simp at he
 ·simp at he
theorem sl_at {S:Nat→Prop} {objs:Ar} {v:Value} {fl:Fl} {W n:Nat} {f:Nat→List PV} (h:Rep S w v (.sl fl W n f)) (i:Nat) (hi:i<n) :
  ∃ b o cap,v = .slice (some (at_ b o)) n cap∧RelV β objs S w (.pointer (some (at_ b (o+i*W)))) (.fptr (f i)):=by
 cases h with
 | slnil _ _ _ _=>omega
 | sl _ _ _ cap b o _ c hfl hcap hs hlen hc h1 hr =>
  refine ⟨b,o,cap,rfl,.fptr _ b _ (hs (by omega)) (c i) (fun j hj => ?_) (fun j hj => ?_) (fun j x hx=>hr i j x hi hx)⟩
  ·rw [Nat.add_assoc]
   exact hc i j hi (by rw [hlen i hi] at hj; exact hj)
  ·exact h1 i j hi (by rw [hlen i hi] at hj; exact hj)
theorem AhS (a b:Nat):Zl a b=a+b:=by
 unfold Zl
 cases h:Nat.beq a 0 with
 | true=>have:=Nat.eq_of_beq_eq_true h; simp [this]
 | false=>rfl
theorem Ami (hT:Gk P T) (h:Rel cx β σ a w) {t:Nat} {ox oy:Operand} (hx:An ox=true) (hy:An oy=true) {y:MV} {wo obl} {ob:Nat→Option Obj}
  (hob:∀ k o,ob k=some o→σ.objs k=some o) (he:Oe T t ob (ev σ ox) (ev σ oy)=some (y,wo,obl)) (ho:All obl) :
  Out P cx σ a (Instr.indexAt t (a.eval ox) (a.eval oy)) w y wo:=by
 have rx:=Ba h ox hx
 have ry:=Ba h oy hy
 unfold Oe at he
 split at he
 ·rename_i e s1 s2 s3 s4 kk z hi hq
  have hu:=(hT t _ hi).slice rfl
  rw [hq] at ry
  obtain ⟨ey,_⟩:=ry.inv_v
  split at he
  ·rename_i i hi2
   have hF:=hT e i hi2
   split at he
   ·rename_i fl W n f hp
    cases hW:Nat.beq W i.size with
    | false=>simp [hW] at he
    | true =>
     have eW:=Nat.eq_of_beq_eq_true hW
     simp [hW] at he
     obtain ⟨rfl,rfl,rfl⟩:=he
     simp only [All] at ho
     obtain ⟨h0,hn,_⟩:=ho
     rw [hp] at rx
     obtain ⟨b,o,cap,hv,hrel⟩:=sl_at (β:=β) (objs:=σ.objs) rx.inv_p z.toNat (by omega)
     rw [hv,ey]
     refine Aqm h ?_ hrel
     simp only [Instr.indexAt,asIntOf,Sem.run_bind,Sem.run_pure,Result.andThen_ok,run_underlying hu]
     have hc:0≤z∧z<(n:Int):=⟨h0,hn⟩
     simp [hc,hF.sizeOf,at_,Addr.add_lit,eW]
   ·rename_i k g off len hp
    split at he
    ·rename_i W n f hg
     cases hW:Nat.beq W i.size with
     | false=>simp [hW] at he
     | true =>
      have eW:=Nat.eq_of_beq_eq_true hW
      simp [hW] at he
      obtain ⟨rfl,rfl,rfl⟩:=he
      simp only [All] at ho
      obtain ⟨h0,hn,_⟩:=ho
      rw [hp] at rx
      obtain ⟨base,c,hv,hk⟩:=rx.inv_own
      have ho1:=hob _ _ (Es hg)
      have hown:=hk.get ho1
      obtain ⟨hle,hl⟩:=hown
      have hrow:=h.ob k _ ho1
      rcases hrow with ⟨hl',hn0⟩|⟨b,o,cap,cur,e',hl',hheap,hcap,hnn,hrow⟩
      ·rw [hl'] at hl
       obtain ⟨_,_,_,hlen⟩:=hl
       omega
      ·rw [hl'] at hl
       obtain ⟨b',o',hb,hcc,hadr⟩:=hl
       obtain ⟨rfl,rfl⟩:=hadr (by omega)
       rw [hv,ey,hb]
       refine Aqm h (v := .pointer (some (at_ b' ((o+(Zl off z.toNat)*W)+0)))) ?_ (.eref _ _ _ _ _ _ ?_)
       ·simp only [Instr.indexAt,asIntOf,Sem.run_bind,Sem.run_pure,Result.andThen_ok,run_underlying hu]
        have hc:0≤z∧z<(len:Int):=⟨h0,hn⟩
        simp [hc,hF.sizeOf,at_,Addr.add_lit,AhS,Nat.add_mul,← eW,Nat.add_assoc]
       ·refine ⟨_,ho1,Nat.le_refl _,fun _ => ?_⟩
        refine ⟨?_,o,cap,hl',rfl⟩
        rw [AhS]
        omega
    ·simp at he
   ·simp at he
  ·simp at he
 ·simp at he
theorem snd_index (hT:Gk P T) (h:Rel cx β σ a w) {t:Nat} {ox oy:Operand} (hx:An ox=true) (hy:An oy=true) {y:MV} {wo obl}
  (he:Zk T t (ev σ ox) (ev σ oy)=some (y,wo,obl)) (ho:All obl) :
  Out P cx σ a (Instr.index t (a.eval ox) (a.eval oy)) w y wo:=by
 have rx:=Ba h ox hx
 have ry:=Ba h oy hy
 unfold Zk at he
 split at he
 ·rename_i s1 s2 s3 s4 s kk z hi hp hq
  have hu:=(hT t _ hi).str rfl
  simp at he
  obtain ⟨rfl,rfl,rfl⟩:=he
  rw [hp] at rx
  rw [hq] at ry
  obtain ⟨ex,_⟩:=rx.inv_v
  obtain ⟨ey,_⟩:=ry.inv_v
  simp only [All] at ho
  obtain ⟨h0,hn,_⟩:=ho
  have hlt:z.toNat<s.size:=by omega
  refine Aqm h (v := .int .u8 (Br s z.toNat)) ?_ (.mk_v rfl)
  rw [ex,ey]
  simp only [Instr.index,asIntOf,Sem.run_bind,Sem.run_pure,Result.andThen_ok,run_underlying hu,h0,if_true]
  simp [Br,hlt]
 ·simp at he
theorem AoA (h:Rel cx β σ a w) {ix:Nat} {ox:Operand} (hx:An ox=true) {y:MV} {wo obl}
  (he:Tp ix (ev σ ox)=some (y,wo,obl)):Out P cx σ a (Instr.extract (a.eval ox) ix) w y wo:=by
 have rx:=Ba h ox hx
 unfold Tp at he
 split at he
 ·rename_i cs hp
  split at he
  ·rename_i x hc
   simp at he
   obtain ⟨rfl,rfl,rfl⟩:=he
   rw [hp] at rx
   generalize a.eval ox=v at rx
   cases rx with
   | tup _ vs hl hr =>
    have hlt:ix<vs.size:=by rw [hl]; exact (List.getElem?_eq_some_iff.1 hc).1
    refine Aqm h (v:=vs.getD ix undef) ?_ (hr ix _ hc)
    simp [Instr.extract,hlt]
  ·simp at he
 ·rename_i cs hp
  split at he
  ·rename_i x hc
   simp at he
   obtain ⟨rfl,rfl,rfl⟩:=he
   rw [hp] at rx
   have rp:=rx.inv_p
   generalize a.eval ox=v at rp
   cases rp with
   | tup _ vs hl hr =>
    have hlt:ix<vs.size:=by rw [hl]; exact (List.getElem?_eq_some_iff.1 hc).1
    refine Aqm h (v:=vs.getD ix undef) ?_ (.p _ _ (hr ix _ hc))
    simp [Instr.extract,hlt]
  ·simp at he
 ·simp at he
theorem Aos (hT:Gk P T) (h:Rel cx β σ a w) {s d:Nat} {si:TI} (hs:assoc T s=some si) {ox:Operand} (hx:An ox=true) {y:MV} {wo obl}
  (he:Ts T d (ev σ ox)=some (y,wo,obl)):Out P cx σ a (convert s d (a.eval ox)) w y wo:=by
 have rx:=Ba h ox hx
 obtain ⟨sd,hsd,_⟩:=(hT s si hs).under
 unfold Ts at he
 split at he
 ·rename_i k s1 s2 s3 s4 kk n hi hp
  have hu:=(hT d _ hi).int rfl
  simp at he
  obtain ⟨rfl,rfl,rfl⟩:=he
  rw [hp] at rx
  obtain ⟨ex,_⟩:=rx.inv_v
  refine Aqm h (v := .int k (k.wrap n)) ?_ (.mk_v rfl)
  rw [ex]
  simp only [convert,Sem.run_bind,run_underlying hsd,run_underlying hu,Result.andThen_ok]
  simp [Conv.intToInt]
 ·rename_i s1 s2 s3 s4 b hi hp
  have hu:=(hT d _ hi).str rfl
  simp at he
  obtain ⟨rfl,rfl,rfl⟩:=he
  rw [hp] at rx
  obtain ⟨ex,_⟩:=rx.inv_v
  refine Aqm h (v := .string b) ?_ (.mk_v rfl)
  rw [ex]
  simp only [convert,Sem.run_bind,run_underlying hsd,run_underlying hu,Result.andThen_ok]
  simp
 ·simp at he
theorem snd_len (hT:Gk P T) (h:Rel cx β σ a w) {t ty:Nat} {ox:Operand} (hx:An ox=true) {y:MV} {wo obl}
  (he:Aet T t (ev σ ox)=some (y,wo,obl)):Out P cx σ a (Builtin.len_ #[t] ty #[a.eval ox]) w y wo:=by
 have rx:=Ba h ox hx
 unfold Aet at he
 split at he
 ·rename_i s1 s2 s3 s4 s hi hp
  have hu:=(hT t _ hi).str rfl
  simp at he
  obtain ⟨rfl,rfl,rfl⟩:=he
  rw [hp] at rx
  obtain ⟨ex,_⟩:=rx.inv_v
  refine Aqm h (v := .int .i64 s.size) ?_ (.mk_v rfl)
  rw [ex]
  simp [Builtin.len_,run_underlying hu,goInt]
 ·rename_i e s1 s2 s3 s4 fl W n f hi hp
  have hu:=(hT t _ hi).slice rfl
  simp at he
  obtain ⟨rfl,rfl,rfl⟩:=he
  rw [hp] at rx
  have rp:=rx.inv_p
  refine Aqm h (v := .int .i64 n) ?_ (.mk_v rfl)
  generalize a.eval ox=v at rp
  cases rp <;> simp [Builtin.len_,run_underlying hu,goInt]
 ·rename_i e s1 s2 s3 s4 k g off len hi hp
  have hu:=(hT t _ hi).slice rfl
  simp at he
  obtain ⟨rfl,rfl,rfl⟩:=he
  rw [hp] at rx
  obtain ⟨base,c,hv,_⟩:=rx.inv_own
  refine Aqm h (v := .int .i64 len) ?_ (.mk_v rfl)
  rw [hv]
  simp [Builtin.len_,run_underlying hu,goInt]
 ·simp at he
theorem Fw {xs:List MV} {ps:List PV} (h:pures xs=some ps):xs=ps.map .p:=by
 induction xs generalizing ps with
 | nil=>simp [pures] at h; subst h; rfl
 | cons x r ih =>
  unfold pures at h
  split at h
  ·rename_i y s h1 h2
   simp at h
   subst h
   have:=ih h2
   cases x <;> simp [MV.pure1] at h1
   subst h1
   simp [this]
  ·simp at h
theorem snd_func (h:Rel cx β σ a w) {f:FuncId} {xs:Array Operand} (hx:∀ x∈xs,An x=true) {y:MV} {wo obl}
  (he:AbU f (xs.toList.map (ev σ))=some (y,wo,obl)):Out P cx σ a (Instr.makeFunc (.func f) #[] (xs.map a.eval)) w y wo:=by
 have hall:∀ (i:Nat) x,(xs.toList.map (ev σ))[i]? = some x→RelV β σ.objs (Al cx.Av β σ.objs w) w ((xs.map a.eval).getD i undef) x:=by
  intro i x hi
  rw [List.getElem?_map] at hi
  cases hq:xs.toList[i]? with
  | none=>simp [hq] at hi
  | some q =>
   simp [hq] at hi
   subst hi
   have hq':xs[i]? = some q:=by simpa using hq
   have:(xs.map a.eval).getD i undef=a.eval q:=by simp [Array.getD_eq_getD_getElem?,hq']
   rw [this]
   exact Ba h q (hx q (Array.mem_of_getElem? hq'))
 unfold AbU at he
 split at he
 ·rename_i ps hp
  simp at he
  obtain ⟨rfl,rfl,rfl⟩:=he
  refine Aqm h (v := .func (.func f) #[] (xs.map a.eval)) rfl (.p _ _ (.fn _ _ _ ?_ ?_))
  ·have:=Fw hp
   have h2:=congrArg List.length this
   simpa using h2
  ·intro i x hi
   have:=hall i (.p x) (by rw [Fw hp,List.getElem?_map,hi]; rfl)
   exact this.inv_p
 ·cases hb:Nat.blt f BND with
  | false=>simp [hb] at he
  | true =>
  simp [hb] at he
  obtain ⟨rfl,rfl,rfl⟩:=he
  refine Aqm h (v := .func (.func f) #[] (xs.map a.eval)) rfl ?_
  rw [← Agq hb]
  exact .fn _ _ _ (by simp) hall
theorem snd_bound (h:Rel cx β σ a w) {f:FuncId} {xs:Array Operand} (hx:∀ x∈xs,An x=true) {y:MV} {wo obl}
  (he:Zm f (xs.toList.map (ev σ))=some (y,wo,obl)):Out P cx σ a (Instr.makeFunc (.func f) (xs.map a.eval) #[]) w y wo:=by
 simp only [Zm,Option.some.injEq,Prod.mk.injEq] at he
 obtain ⟨rfl,rfl,rfl⟩:=he
 refine Aqm h (v := .func (.func f) (xs.map a.eval) #[]) rfl ?_
 have hb:Nat.blt (f+BND) BND=false:=by
  cases hc:Nat.blt (f+BND) BND with
  | false=>rfl
  | true =>
   have:=Nat.le_of_ble_eq_true hc
   omega
 have e:=fnV_ge (vs:=xs.map a.eval) hb
 rw [Nat.add_sub_cancel] at e
 rw [← e]
 refine .fn _ _ _ (by simp) fun i x hi => ?_
 rw [List.getElem?_map] at hi
 cases hq:xs.toList[i]? with
 | none=>simp [hq] at hi
 | some q =>
  simp [hq] at hi
  subst hi
  have hq':xs[i]? = some q:=by simpa using hq
  have:(xs.map a.eval).getD i undef=a.eval q:=by simp [Array.getD_eq_getD_getElem?,hq']
  rw [this]
  exact Ba h q (hx q (Array.mem_of_getElem? hq'))
theorem snd_nil (h:Rel cx β σ a w) {o:Oper} {ox:Operand} (ho:o.op = .nilCheck ox) (hx:An ox=true) {y:MV} {wo obl}
  (he:Aeq (ev σ ox)=some (y,wo,obl)):∃ v,(execOp a.eval o).run P w = .ok (.value v) w∧RelV β σ.objs (Al cx.Av β σ.objs w) w v y∧wo = []:=by
 have rx:=Ba h ox hx
 refine ⟨a.eval ox,?_⟩
 unfold execOp
 rw [ho]
 simp only
 unfold Aeq at he
 split at he
 ·rename_i k g oo hp
  simp at he
  obtain ⟨rfl,rfl,rfl⟩:=he
  rw [hp] at rx
  obtain ⟨b,hv,hk⟩:=rx.inv_ref
  rw [hv]
  exact ⟨rfl,.ref _ _ _ _ hk,rfl⟩
 ·rename_i k g i oo hp
  simp at he
  obtain ⟨rfl,rfl,rfl⟩:=he
  rw [hp] at rx
  obtain ⟨b,oo,hv,hk⟩:=rx.inv_eref
  rw [hv]
  exact ⟨rfl,.eref _ _ _ _ _ _ hk,rfl⟩
 ·rename_i cs hp
  simp at he
  obtain ⟨rfl,rfl,rfl⟩:=he
  rw [hp] at rx
  obtain ⟨b,oo,c,hv,h1,h2,h3,h4⟩:=rx.inv_fptr
  rw [hv]
  exact ⟨rfl,.fptr _ _ _ h1 _ h2 h3 h4,rfl⟩
 ·rename_i f cs hp
  simp at he
  obtain ⟨rfl,rfl,rfl⟩:=he
  rw [hp] at rx
  generalize a.eval ox=v at rx
  cases rx with
  | fn _ _ vs hl hr=>exact ⟨by unfold fnV; cases Nat.blt f BND <;> rfl,.fn _ _ _ hl hr,rfl⟩
 ·rename_i f cs hp
  simp at he
  obtain ⟨rfl,rfl,rfl⟩:=he
  rw [hp] at rx
  have rp:=rx.inv_p
  generalize a.eval ox=v at rp
  cases rp with
  | fn _ _ vs hl hr=>exact ⟨rfl,.p _ _ (.fn _ _ _ hl hr),rfl⟩
 ·simp at he
end
end Go.Dm

namespace Go.Dm
section
variable {P : Program} {T:Ty} {cx:Cx P} {β:Bi} {σ:St} {a:Act} {w:World}
theorem snd_new (h:Rel cx β σ a w) {ob:Nat→Option Obj} (dst:Nat) (hob:ob (key dst 0)=σ.objs (key dst 0)) (e:TypeId) (v:Value) (cs:List MV)
  (hl:v.cells.size=cs.length)
  (hr:∀ (i:Nat) y,cs[i]? = some y→RelV β σ.objs (Al cx.Av β σ.objs w) w (v.cells.getD i undef) y∧(v.cells.getD i undef).oneCell'=true) :
  Out P cx σ a (do pure (.pointer (some (← newVar e v)))) w (AaE dst ob (.box cs)).1 (AaE dst ob (.box cs)).2.1:=by
 refine ⟨.pointer (some (at_ w.heap.size 0)),w.alloc (.cells v.cells e),Fo β (key dst 0) (.box w.heap.size),?_,?_,?_⟩
 ·simp [newVar,newRow,at_]
 ·simp only [AaE,Cb,hob]
  refine h.fresh (key dst 0) (.box cs) (.box w.heap.size) w (.cells v.cells e) ⟨rfl,rfl,rfl,rfl⟩ rfl (.inl (by unfold key; omega)) ?_
  intro S' β' objs' hS hg
  refine ⟨w.heap.size,v.cells,e,rfl,heap_alloc_new w _,hl,fun j x hx => ?_⟩
  obtain ⟨g1,g2⟩:=hr j x hx
  refine ⟨v.cells.getD j undef,?_,g2,g1.mono hg hS fun b hb=>heap_alloc_old w _ b hb.1⟩
  have hlt:j<v.cells.size:=by rw [hl]; exact (List.getElem?_eq_some_iff.1 hx).1
  simp [Array.getD_eq_getD_getElem?,hlt]
 ·simp only [AaE,Cb,hob]
  exact .ref _ _ _ _ ⟨_,Bb _ _ _,Nat.le_refl _,fun _=>by rw [Db]⟩
theorem Ach (h:Rel cx β σ a w) {z:Value} {zs:List Value} (hz:z.cells.toList=zs) (h1:zs.all (fun c=>c.oneCell')=true) :
  z.cells.size=(zs.map Kk).length ∧
  (∀ (i:Nat) y,(zs.map Kk)[i]? = some y→RelV β σ.objs (Al cx.Av β σ.objs w) w (z.cells.getD i undef) y∧(z.cells.getD i undef).oneCell'=true):=by
 subst hz
 refine ⟨by simp,fun i y hy => ?_⟩
 rw [List.getElem?_map] at hy
 cases hq:z.cells.toList[i]? with
 | none=>simp [hq] at hy
 | some q =>
  simp [hq] at hy
  subst hy
  have hq':z.cells[i]? = some q:=by simpa using hq
  have:z.cells.getD i undef=q:=by simp [Array.getD_eq_getD_getElem?,hq']
  rw [this]
  rw [List.all_eq_true] at h1
  exact ⟨Abx q,h1 q (List.mem_of_getElem? hq)⟩
theorem snd_alloc (hT:Gk P T) (h:Rel cx β σ a w) {t dst:Nat} {y:MV} {wo obl} {ob:Nat→Option Obj} (hob:ob (key dst 0)=σ.objs (key dst 0))
  (hz1:∀ i,assoc T t=some i→i.zero.all (fun c=>c.oneCell')=true)
  (he:Zu T t dst ob=some (y,wo,obl)):Out P cx σ a (Instr.alloc t true (.tuple #[])) w y wo:=by
 unfold Zu at he
 split at he
 ·rename_i i hi
  simp only [Option.some.injEq] at he
  obtain ⟨z,hz,hzc⟩:=(hT t i hi).zeroValue w
  obtain ⟨h1,h2⟩:=Ach h hzc (hz1 i hi)
  obtain ⟨v,w',β',hr,hrel,hv⟩:=snd_new (P:=P) h dst hob t z _ h1 h2
  rw [he] at hrel hv
  refine ⟨v,w',β',?_,hrel,hv⟩
  simp only [Instr.alloc,Sem.run_bind,hz,Result.andThen_ok]
  simpa using hr
 ·simp at he
theorem snd_box (h:Rel cx β σ a w) {t dst:Nat} {ox:Operand} (hx:An ox=true) {y:MV} {wo obl} {ob:Nat→Option Obj} (hob:ob (key dst 0)=σ.objs (key dst 0))
  (he:AeA dst ob (ev σ ox)=some (y,wo,obl)):Out P cx σ a (Instr.box t (a.eval ox)) w y wo:=by
 unfold AeA at he
 split at he
 ·rename_i cs hcs
  simp only [Option.some.injEq] at he
  obtain ⟨h1,h2⟩:=AdB (Ba h ox hx) hcs
  have:=snd_new (P:=P) h dst hob t (a.eval ox) cs h1 h2
  rw [he] at this
  exact this
 ·simp at he
theorem Gn {α:Type} (xs:List α):∀ (l:List α) (o:Nat),(setRange l o xs).length=l.length:=by
 induction xs with
 | nil=>intro l o; rfl
 | cons x r ih=>intro l o; simp [setRange,ih]
theorem Ga {α:Type} (xs:List α):∀ (l:List α) (o j:Nat),o+xs.length≤l.length →
  (setRange l o xs)[j]? = if o≤j∧j<o+xs.length then xs[j-o]? else l[j]? := by
 induction xs with
 | nil=>intro l o j h; simp [setRange]; intro h1 h2; omega
 | cons x r ih =>
  intro l o j h
  simp only [setRange,List.length_cons] at h ⊢
  rw [ih (l.set o x) (o+1) j (by simp; omega)]
  by_cases hj:j=o
  ·subst hj
   have h1:¬ (j+1≤j∧j<j+1+r.length):=by omega
   have h2:j≤j∧j<j+(r.length+1):=by omega
   rw [if_neg h1,if_pos h2]
   have:j<l.length:=by omega
   simp [this]
  ·rw [List.getElem?_set_ne (Ne.symm hj)]
   by_cases hb:o+1≤j∧j<o+1+r.length
   ·have h2:o≤j∧j<o+(r.length+1):=by omega
    rw [if_pos hb,if_pos h2]
    have:j-o=(j-(o+1))+1:=by omega
    rw [this]
    simp
   ·have h2:¬ (o≤j∧j<o+(r.length+1)):=by omega
    rw [if_neg hb,if_neg h2]
theorem Amg (vs:List Value):∀ (o:Nat) (cs:Array Value) (n:Nat),o+n+vs.length≤cs.size →
  ((vs.zipIdx n).foldl (fun cs (c,j)=>cs.setIfInBounds (o+j) c) cs).toList=setRange cs.toList (o+n) vs:=by
 induction vs with
 | nil=>intro o cs n h; simp [setRange]
 | cons v r ih =>
  intro o cs n h
  simp only [List.zipIdx_cons,List.foldl_cons,setRange]
  simp only [List.length_cons] at h
  rw [ih o (cs.setIfInBounds (o+n) v) (n+1) (by simp; omega)]
  simp [Nat.add_assoc]
def Cells (β:Bi) (objs:Ar) (S:Nat→Prop) (w:World) (vs:List Value) (cs:List MV):Prop :=
 vs.length=cs.length∧∀ (i:Nat) v y,vs[i]? = some v→cs[i]? = some y→RelV β objs S w v y∧v.oneCell'=true
theorem Cells.setRange {S:Nat→Prop} {objs:Ar} {vs us:List Value} {cs ds:List MV} {o:Nat} (h:Cells β objs S w vs cs) (h':Cells β objs S w us ds)
  (hl:o+us.length≤vs.length):Cells β objs S w (setRange vs o us) (Dm.setRange cs o ds):=by
 refine ⟨by rw [Gn,Gn]; exact h.1,fun i v y hv hy => ?_⟩
 rw [Ga _ _ _ _ hl] at hv
 rw [Ga _ _ _ _ (by rw [← h.1,← h'.1]; exact hl)] at hy
 rw [← h'.1] at hy
 split at hv
 ·rename_i hc
  rw [if_pos hc] at hy
  exact h'.2 _ _ _ hv hy
 ·rename_i hc
  rw [if_neg hc] at hy
  exact h.2 _ _ _ hv hy
theorem Cells.of {S:Nat→Prop} {objs:Ar} {v:Value} {cs:List MV} (h1:v.cells.size=cs.length)
  (h2:∀ (i:Nat) y,cs[i]? = some y→RelV β objs S w (v.cells.getD i undef) y∧(v.cells.getD i undef).oneCell'=true) :
  Cells β objs S w v.cells.toList cs:=by
 refine ⟨by simpa using h1,fun i u y hu hy => ?_⟩
 have:=h2 i y hy
 have hu':v.cells[i]? = some u:=by simpa using hu
 have e:v.cells.getD i undef=u:=by simp [Array.getD_eq_getD_getElem?,hu']
 rw [e] at this
 exact this
theorem AiM {S:Nat→Prop} {objs:Ar} {place:Nat→Option (Nat×Nat)} : ∀ (parts:List (Nat×MV)) (vals:List (Nat×Value)) (cs:List MV) (zs:Array Value) (out:List MV),
  parts.map (·.1)=vals.map (·.1)→(∀ (i:Nat) x v,parts[i]? = some x→vals[i]? = some v→RelV β objs S w v.2 x.2) →
  Cells β objs S w zs.toList cs→AbC place cs parts=some out →
  ∃ zs',Instr.fill place zs vals=some zs'∧Cells β objs S w zs'.toList out:=by
 intro parts
 induction parts with
 | nil =>
  intro vals cs zs out hm _ hc he
  have:vals = []:=by
   cases vals with
   | nil=>rfl
   | cons v r=>simp at hm
  subst this
  simp [AbC] at he
  subst he
  exact ⟨zs,rfl,hc⟩
 | cons p r ih =>
  intro vals cs zs out hm hr hc he
  cases vals with
  | nil=>simp at hm
  | cons v vr =>
   simp at hm
   obtain ⟨pi,px⟩:=p
   obtain ⟨vi,vv⟩:=v
   simp at hm
   obtain ⟨rfl,hm⟩:=hm
   have r0:=hr 0 (pi,px) (pi,vv) rfl rfl
   simp at r0
   unfold AbC at he
   split at he
   ·rename_i off size ds hp hds
    cases hb:(Nat.beq ds.length size&&Nat.ble (off+size) cs.length) with
    | false=>simp [hb] at he
    | true =>
     simp only [hb,cond_true] at he
     simp only [Bool.and_eq_true] at hb
     have e1:=Nat.eq_of_beq_eq_true hb.1
     have e2:=Nat.le_of_ble_eq_true hb.2
     obtain ⟨g1,g2⟩:=AdB r0 hds
     have hC:=Cells.of g1 g2
     have hzs:zs.size=cs.length:=by have:=hc.1; simpa using this
     have hcond:¬ (vv.cells.size≠size∨off+vv.cells.size>zs.size):=by omega
     have hfold:(vv.cells.zipIdx.foldl (fun cs (c,j)=>cs.setIfInBounds (off+j) c) zs).toList=setRange zs.toList off vv.cells.toList:=by
      have:=Amg vv.cells.toList off zs 0 (by simp; omega)
      rw [← Array.foldl_toList]
      simpa using this
     obtain ⟨zs',h1,h2⟩:=ih vr (setRange cs off ds) (vv.cells.zipIdx.foldl (fun cs (c,j)=>cs.setIfInBounds (off+j) c) zs) out hm
      (fun i x v hx hv=>hr (i+1) x v (by simpa using hx) (by simpa using hv)) (by rw [hfold]; exact hc.setRange hC (by simp; omega)) he
     refine ⟨zs',?_,h2⟩
     simp only [Instr.fill,hp]
     rw [if_neg (by simpa using hcond)]
     exact h1
   ·simp at he
theorem AnW (hT:Gk P T):∀ (fields:List Field) (fs:List (Nat×Nat)),fields.map (fun f=>(f.offset,f.type))=fs →
  fs.all (fun p=>(assoc T p.2).isSome)=true →
  ∃ places:List (Nat×Nat),fields.mapM (fun f=>(P.info? f.type).map fun i=>(f.offset,i.size))=some places∧∀ i:Nat,places[i]? = Zj T fs i:=by
 intro fields
 induction fields with
 | nil=>intro fs h _; subst h; exact ⟨[],rfl,fun i=>by simp [Zj]⟩
 | cons f r ih =>
  intro fs h hk
  subst h
  simp only [List.map_cons,List.all_cons,Bool.and_eq_true] at hk
  obtain ⟨h1,h2⟩:=hk
  obtain ⟨places,hp,hq⟩:=ih _ rfl h2
  cases hi:assoc T f.type with
  | none=>simp [hi] at h1
  | some i =>
   obtain ⟨x,z,hx,hs,_⟩:=(hT _ i hi).info
   refine ⟨(f.offset,i.size)::places,?_,fun j => ?_⟩
   ·simp [List.mapM_cons,hx,hp,hs]
   ·cases j with
    | zero=>simp [Zj,hi]
    | succ j =>
     have:=hq j
     simpa [Zj] using this
theorem Amp (hT:Gk P T) {fields:Array Field} {fs:List (Nat×Nat)} (hfs:fields.toList.map (fun f=>(f.offset,f.type))=fs)
  (hk:fs.all (fun p=>(assoc T p.2).isSome)=true) :
  ∃ places:Array (Nat×Nat),(fields.mapM (m:=Sem) fun f=>do pure (f.offset,← Go.sizeOf f.type)).run P w = .ok places w ∧
   ∀ i:Nat,places[i]? = Zj T fs i:=by
 obtain ⟨places,h1,h2⟩:=AnW hT fields.toList fs hfs hk
 refine ⟨places.toArray,?_,fun i=>by simpa using h2 i⟩
 have:=run_places (P:=P) w _ _ h1
 simp [Array.mapM_eq_mapM_toList,this]
theorem snd_build (hT:Gk P T) (h:Rel cx β σ a w) {t:Nat} {parts:Array (Nat×Operand)} (hx:∀ x∈parts,An x.2=true) {y:MV} {wo obl}
  (hz1:∀ i,assoc T t=some i→i.zero.all (fun c=>c.oneCell')=true)
  (hk:∀ fs s b z q,assoc T t=some ⟨.struct fs,s,b,z,q⟩→fs.all (fun p=>(assoc T p.2).isSome)=true)
  (he:Ws T t (parts.toList.map fun x=>(x.1,ev σ x.2))=some (y,wo,obl)) :
  Out P cx σ a (Instr.build t (parts.map fun (i,x)=>(i,a.eval x))) w y wo:=by
 unfold Ws at he
 split at he
 ·rename_i fs s1 s2 zero s4 hi
  obtain ⟨fields,hu,hfs⟩:=(hT t _ hi).struct rfl
  obtain ⟨z,hz,hzc⟩:=(hT t _ hi).zeroValue w
  obtain ⟨places,hpl,hplaces⟩:=Amp (w:=w) hT hfs (hk _ _ _ _ _ hi)
  split at he
  ·rename_i cs hcs
   simp at he
   obtain ⟨rfl,rfl,rfl⟩:=he
   obtain ⟨g1,g2⟩:=Ach h hzc (hz1 _ hi)
   obtain ⟨zs',hf,hC⟩:=AiM (β:=β) (objs:=σ.objs) (S:=Al cx.Av β σ.objs w) (w:=w) (parts.toList.map fun x=>(x.1,ev σ x.2)) (parts.map fun (i,x)=>(i,a.eval x)).toList _ z.cells cs
    (by simp) (fun i x v hx' hv=>by
     rw [List.getElem?_map] at hx'
     simp only [Array.toList_map,List.getElem?_map] at hv
     cases hq:parts.toList[i]? with
     | none=>simp [hq] at hx'
     | some q =>
      simp [hq] at hx' hv
      subst hx'
      subst hv
      exact Ba h q.2 (hx q (by simpa using List.mem_of_getElem? hq))) (Cells.of g1 g2) hcs
   have hfn:(fun x=>places[x]?)=Zj T fs:=funext hplaces
   refine Aqm h (v := .agg zs') ?_ (.agg _ _ (by simpa using hC.1) (fun i y hy => ?_) (fun i y hy => ?_))
   ·simp only [Instr.build,Sem.run_bind,hz,Result.andThen_ok,run_underlying hu,hpl,hfn,hf]
    rfl
   all_goals
    have hlt:i<zs'.size:=by have:=hC.1; have h2:=(List.getElem?_eq_some_iff.1 hy).1; simp at this; omega
    have:=hC.2 i (zs'.getD i undef) y (by simp [Array.getD_eq_getD_getElem?,hlt]) hy
   ·exact this.1
   ·exact this.2
  ·simp at he
 ·simp at he
end
end Go.Dm

namespace Go.Dm
theorem Aaw (β:Bi) (k:Nat):Fo β k (β k)=β:=by
 funext j
 by_cases h:j=k
 ·subst h; rw [Db]
 ·rw [Ic _ _ h]
theorem AcX {α:Type} (l vs:List α) (o:Nat) (h:o+vs.length≤l.length):l.take o++vs++l.drop (o+vs.length)=setRange l o vs:=by
 apply List.ext_getElem?
 intro j
 rw [Ga _ _ _ _ h]
 by_cases h1:j<o
 ·rw [if_neg (by omega),List.append_assoc,List.getElem?_append_left (by simp; omega),List.getElem?_take]
  simp [h1]
 ·by_cases h2:j<o+vs.length
  ·rw [if_pos (by omega),List.append_assoc,List.getElem?_append_right (by simp; omega),List.getElem?_append_left (by simp; omega)]
   congr 1
   simp
   omega
  ·rw [if_neg (by omega),List.getElem?_append_right (by simp; omega),List.getElem?_drop]
   congr 1
   simp
   omega
section
variable {P : Program} {T:Ty} {cx:Cx P} {β:Bi} {σ:St} {a:Act} {w:World}
theorem Rel.inplace (h:Rel cx β σ a w) (k g:Nat) (bd bd':Body) (hk:σ.objs k=some ⟨g,bd⟩) (hs:bd.same bd') (hlive:bd.live) (b:Nat)
  (hb:(β k).block=some b) (cur cur':Array Value) (e:TypeId) (hh:w.heap[b]? = some (.cells cur e (0,0)))
  (hob:∀ S' objs',(∀ b,Al cx.Av β σ.objs w b→S' b)→Grows β β σ.objs objs'→(∀ b,Al cx.Av β σ.objs w b→(w.setRow b cur').heap[b]? = w.heap[b]? → True) →
   ObjRel β objs' S' (w.setRow b cur') (β k) bd') :
  Rel cx β ⟨σ.slots,Bj σ.objs k ⟨g,bd'⟩⟩ a (w.setRow b cur'):=by
 have hg:Grows β β σ.objs (Bj σ.objs k ⟨g,bd'⟩):=by
  intro j o ho
  by_cases hj:j=k
  ·subst hj
   rw [hk] at ho
   injection ho with ho
   subst ho
   exact ⟨_,Bb _ _ _,Nat.le_refl _,fun _=>⟨rfl,hs⟩⟩
  ·exact ⟨o,by rw [Cc _ _ hj]; exact ho,Nat.le_refl _,fun _=>⟨rfl,o.body.same_refl⟩⟩
 have hblk:=h.blk k _ b hk hlive hb
 have key:=h.upd1 k ⟨g,bd'⟩ (β k) (w.setRow b cur')
  (fun o ho=>by rw [hk] at ho; injection ho with ho; subst ho; exact ⟨Nat.le_refl _,fun _=>⟨rfl,hs⟩⟩)
  (fun b' _ hb'=>by rw [hb] at hb'; injection hb' with hb'; subst hb'; simpa using hblk)
  (fun b' _ hb'=>by
   rw [hb] at hb'; injection hb' with hb'; subst hb'
   exact ⟨fun hS=>hS.2.2 k _ hk hlive hb,fun k' oo hne hoo hl' hb'=>h.inj k k' _ oo b hk hoo hlive hl' (Ne.symm hne) hb hb'⟩)
  (fun b' hb' hne=>setRow_other w b b' cur' (fun e=>hne ((ApP hs).1 hlive) (by rw [e]; exact hb)))
  (by simp) rfl rfl rfl (fun _ hg0=>⟨_,hk,hg0⟩)
 rw [Aaw] at key
 refine key (hob _ _ ?_ hg (fun _ _ _=>trivial))
 intro b' hb'
 refine ⟨by simpa using hb'.1,hb'.2.1,fun j o ho hl => ?_⟩
 by_cases hj:j=k
 ·subst hj
  exact hb'.2.2 j _ hk hlive
 ·rw [Cc _ _ hj] at ho
  exact hb'.2.2 j o ho hl
theorem Agh {t b o:Nat} {i:TI} (hT:TyFact P t i) {v:Value} (hv:v.cells.size=i.size) {cur:Array Value} {e:TypeId} (hh:w.heap[b]? = some (.cells cur e (0,0)))
  (hle:o+i.size≤cur.size) (h1:∀ u∈v.cells.toList,u.oneCell'=true) :
  (Instr.storeAt t (.pointer (some (at_ b o))) v).run P w = .ok () (w.setRow b (setRange cur.toList o v.cells.toList).toArray):=by
 have:=run_storeCells_at P b o e v.cells.toList 0 cur w hh (by simp; omega) h1
 simp only [Nat.add_zero] at this
 rw [AcX _ _ _ (by simp; omega)] at this
 simp only [Instr.storeAt,Instr.sureAddr,storeVar,Sem.run_bind,Sem.run_pure,Result.andThen_ok,hT.sizeOf,hv,ne_eq,not_true_eq_false,if_false,at_]
 exact this
theorem Cells.one {S:Nat→Prop} {objs:Ar} {vs:List Value} {cs:List MV} (h:Cells β objs S w vs cs):∀ u∈vs,u.oneCell'=true:=by
 intro u hu
 obtain ⟨i,hi,rfl⟩:=List.getElem_of_mem hu
 exact (h.2 i _ (cs[i]'(by rw [← h.1]; exact hi)) (List.getElem?_eq_getElem hi) (List.getElem?_eq_getElem _)).2
theorem Cells.get {S:Nat→Prop} {objs:Ar} {vs:List Value} {cs:List MV} (h:Cells β objs S w vs cs) {i:Nat} {y:MV} (hy:cs[i]? = some y) :
  ∃ u,vs[i]? = some u∧u.oneCell'=true∧RelV β objs S w u y:=by
 have hlt:i<vs.length:=by rw [h.1]; exact (List.getElem?_eq_some_iff.1 hy).1
 have:=h.2 i vs[i] y (List.getElem?_eq_getElem hlt) hy
 exact ⟨vs[i],List.getElem?_eq_getElem hlt,this.2,this.1⟩
theorem Cells.mk' {S:Nat→Prop} {objs:Ar} {vs:List Value} {cs:List MV} (hl:vs.length=cs.length)
  (h:∀ (i:Nat) y,cs[i]? = some y→∃ u,vs[i]? = some u∧u.oneCell'=true∧RelV β objs S w u y):Cells β objs S w vs cs:=by
 refine ⟨hl,fun i v y hv hy => ?_⟩
 obtain ⟨u,h1,h2,h3⟩:=h i y hy
 rw [hv] at h1
 injection h1 with h1
 subst h1
 exact ⟨h3,h2⟩
theorem Cells.mono {β':Bi} {objs objs':Ar} {S S':Nat→Prop} {w':World} (hg:Grows β β' objs objs')
  (hS:∀ b,S b→S' b) (hw:∀ b,S b→w'.heap[b]? = w.heap[b]?) {vs:List Value} {cs:List MV} (h:Cells β objs S w vs cs):Cells β' objs' S' w' vs cs :=
 ⟨h.1,fun i v y hv hy=>⟨((h.2 i v y hv hy).1).mono hg hS hw,(h.2 i v y hv hy).2⟩⟩
theorem snd_store (hT:Gk P T) (h:Rel cx β σ a w) {t:Nat} {ox oy:Operand} (hx:An ox=true) (hy:An oy=true) {y:MV} {wo obl} {ob:Nat→Option Obj}
  (hob:∀ k o,ob k=some o→σ.objs k=some o) (he:Zs T t ob (ev σ ox) (ev σ oy)=some (y,wo,obl)) (ho:All obl) :
  ∃ w' β',(Instr.storeAt t (a.eval ox) (a.eval oy)).run P w = .ok () w'∧Rel cx β' ⟨σ.slots,Cb σ.objs wo⟩ a w'∧y = .und:=by
 have rx:=Ba h ox hx
 have ry:=Ba h oy hy
 unfold Zs at he
 split at he
 ·rename_i i ds hi hds
  have hF:=hT t i hi
  obtain ⟨g1,g2⟩:=AdB ry hds
  have hC:=Cells.of g1 g2
  cases hb:Nat.beq ds.length i.size with
  | false=>simp [hb] at he
  | true =>
   have esz:=Nat.eq_of_beq_eq_true hb
   simp only [hb,cond_true] at he
   split at he
   ·rename_i k g off hp
    rw [hp] at rx
    split at he
    ·rename_i old hg
     cases hle:Nat.ble (off+i.size) old.length with
     | false=>simp [hle] at he
     | true =>
      have hle':=Nat.le_of_ble_eq_true hle
      simp [hle] at he
      obtain ⟨rfl,rfl,rfl⟩:=he
      have ho1:=hob _ _ (Vn hg)
      obtain ⟨b,hv,hk⟩:=rx.inv_ref
      have hl:=hk.get ho1
      obtain ⟨b',cur,e,hl',hheap,hsz,hcs⟩:=h.ob k _ ho1
      rw [hl] at hl'
      injection hl' with hl'
      subst hl'
      have hCold:Cells β σ.objs (Al cx.Av β σ.objs w) w cur.toList old:=Cells.mk' (by simpa using hsz) (fun j x hx=>by
       obtain ⟨u,q1,q2,q3⟩:=hcs j x hx
       exact ⟨u,by simpa using q1,q2,q3⟩)
      refine ⟨_,β,by rw [hv]; exact Agh hF (by omega) hheap (by omega) hC.one,?_,rfl⟩
      refine h.inplace k g (.box old) (.box (setRange old off ds)) ho1 trivial trivial b (by rw [hl]; rfl) cur _ e hheap ?_
      intro S' objs' hS hgr _
      refine ⟨b,_,e,hl,setRow_heap w b cur _ e _ hheap,by simp [Gn,hsz],fun j x hx => ?_⟩
      have hCn:=(hCold.setRange hC (o:=off) (by simp; omega)).mono (w':=w.setRow b (setRange cur.toList off (a.eval oy).cells.toList).toArray) hgr hS (fun b' hb'=>setRow_other w b b' _ (fun e=>by
       subst e
       exact hb'.2.2 k _ ho1 trivial (by rw [hl]; rfl)))
      obtain ⟨u,q1,q2,q3⟩:=hCn.get hx
      exact ⟨u,by simpa using q1,q2,q3⟩
    ·simp at he
   ·rename_i k g ix off hp
    rw [hp] at rx
    split at he
    ·rename_i W n f ps hg hps
     cases hle:Nat.ble (off+i.size) W with
     | false=>simp [hle] at he
     | true =>
      have hle':=Nat.le_of_ble_eq_true hle
      simp [hle] at he
      obtain ⟨rfl,rfl,rfl⟩:=he
      simp [All] at ho
      have ho1:=hob _ _ (Es hg)
      obtain ⟨b,oo,hv,hk⟩:=rx.inv_eref
      obtain ⟨_,o,cap,hl,hoo⟩:=hk.get ho1
      rcases h.ob k _ ho1 with ⟨hl',_⟩|⟨b',o',cap',cur,e,hl',hheap,hcap,hn,hrow⟩
      ·rw [hl] at hl'; simp at hl'
      ·rw [hl] at hl'
       injection hl' with e1 e2 e3
       subst e1; subst e2; subst e3
       subst hoo
       have hmul:(ix+1)*W≤cap*W:=Nat.mul_le_mul_right _ (by omega)
       have hexp:(ix+1)*W=ix*W+W:=Nat.succ_mul ix W
       have hbound:o+ix*W+off+i.size≤cur.size:=by omega
       have hdsl:ds=ps.map .p:=Fw hps
       refine ⟨_,β,by rw [hv]; exact Agh hF (by omega) hheap hbound hC.one,?_,rfl⟩
       refine h.inplace k g (.row W n f) (.row W n (Cd f ix (setRange (f ix) off ps))) ho1 ⟨rfl,rfl⟩ trivial b (by rw [hl]; rfl) cur _ e hheap ?_
       intro S' objs' hS hgr _
       have hwS:∀ b',Al cx.Av β σ.objs w b'→(w.setRow b (setRange cur.toList (o+ix*W+off) (a.eval oy).cells.toList).toArray).heap[b']? = w.heap[b']? := fun b' hb'=>setRow_other w b b' _ (fun e=>by
        subst e
        exact hb'.2.2 k _ ho1 trivial (by rw [hl]; rfl))
       refine .inr ⟨b,o,cap,_,e,hl,setRow_heap w b cur _ e _ hheap,by simpa [Gn] using hcap,hn,fun i' hi' => ?_⟩
       obtain ⟨hW,hh⟩:=hrow i' hi'
       have hlen:ps.length=i.size:=by rw [hdsl] at esz; simpa using esz
       have hvl:(a.eval oy).cells.toList.length=i.size:=by simp; omega
       by_cases hii:i'=ix
       ·subst hii
        simp only [Cd,Ch,cond_true]
        refine ⟨by rw [Gn]; exact hW,fun j x hx => ?_⟩
        rw [Ga _ _ _ _ (by omega)] at hx
        split at hx
        ·rename_i hj
         obtain ⟨u,q1,q2,q3⟩:=hC.get (i:=j-off) (y := .p x) (by rw [hdsl,List.getElem?_map,hx]; rfl)
         refine ⟨u,?_,q2,(q3.inv_p).mono hS hwS⟩
         simp only [List.getElem?_toArray]
         rw [Ga _ _ _ _ (by simp; omega),if_pos (by omega)]
         have:o+i'*W+j-(o+i'*W+off)=j-off:=by omega
         rw [this]
         exact q1
        ·rename_i hj
         obtain ⟨u,q1,q2,q3⟩:=hh j x hx
         refine ⟨u,?_,q2,q3.mono hS hwS⟩
         simp only [List.getElem?_toArray]
         rw [Ga _ _ _ _ (by simp; omega),if_neg (by omega)]
         simpa using q1
       ·simp only [Cd,De hii,cond_false]
        refine ⟨hW,fun j x hx => ?_⟩
        obtain ⟨u,q1,q2,q3⟩:=hh j x hx
        refine ⟨u,?_,q2,q3.mono hS hwS⟩
        have hj:j<W:=by rw [← hW]; exact (List.getElem?_eq_some_iff.1 hx).1
        simp only [List.getElem?_toArray]
        rw [Ga _ _ _ _ (by simp; omega),if_neg ?_]
        ·simpa using q1
        ·rcases Nat.lt_or_gt_of_ne hii with hlt|hgt
         ·have h1:(i'+1)*W≤ix*W:=Nat.mul_le_mul_right _ hlt
          have h2:(i'+1)*W=i'*W+W:=Nat.succ_mul i' W
          omega
         ·have h1:(ix+1)*W≤i'*W:=Nat.mul_le_mul_right _ hgt
          omega
    ·simp at he
   ·simp at he
 ·simp at he
end
end Go.Dm

namespace Go.Dm
section
variable {P : Program} {T:Ty} {cx:Cx P} {β:Bi} {σ:St} {a:Act} {w:World}
theorem Rel.newRow (h:Rel cx β σ a w) (k W n cap:Nat) (cur:Array Value) (e:TypeId) (f:Nat→List PV) (w1:World)
  (hw1:w1.heap=w.heap∧w1.os=w.os∧w1.tape=w.tape∧w1.output=w.output) (hk1000:1000≤k∨(σ.objs k).isSome=true) (hcap:n≤cap) (hsz:cap*W≤cur.size)
  (hf:∀ i,i<n→(f i).length=W∧HoldsP (Al cx.Av β σ.objs w) w cur (i*W) (f i)) :
  Rel cx (Fo β k (.row w.heap.size 0 cap)) ⟨σ.slots,Bj σ.objs k ⟨Bl (σ.objs k),.row W n f⟩⟩ a (w1.alloc (.cells cur e)) ∧
  RelV (Fo β k (.row w.heap.size 0 cap)) (Bj σ.objs k ⟨Bl (σ.objs k),.row W n f⟩)
   (Al cx.Av (Fo β k (.row w.heap.size 0 cap)) (Bj σ.objs k ⟨Bl (σ.objs k),.row W n f⟩) (w1.alloc (.cells cur e))) (w1.alloc (.cells cur e))
   (.slice (some (at_ w.heap.size 0)) n cap) (.own k (Bl (σ.objs k)) 0 n):=by
 refine ⟨?_,?_⟩
 ·refine h.fresh k _ _ w1 _ hw1 rfl hk1000 ?_
  intro S' β' objs' hS hg
  refine .inr ⟨w.heap.size,0,cap,cur,e,rfl,by rw [← hw1.1]; exact heap_alloc_new w1 _,by omega,hcap,fun i hi=>⟨(hf i hi).1,?_⟩⟩
  rw [Nat.zero_add]
  exact (hf i hi).2.mono hS fun b hb=>by rw [heap_alloc_old w1 _ b (by rw [hw1.1]; exact hb.1),hw1.1]
 ·refine .own _ _ _ _ _ _ ⟨_,Bb _ _ _,Nat.le_refl _,fun _ => ?_⟩
  rw [Db]
  exact ⟨by omega,w.heap.size,0,rfl,by omega,fun _=>⟨rfl,by omega⟩⟩
theorem Hl {α:Type} (l:List α):∀ n,(reps n l).length=n*l.length:=by
 intro n
 induction n with
 | zero=>simp [reps]
 | succ n ih=>simp [reps,ih,Nat.succ_mul]; omega
theorem Aae {α:Type} (l:List α) (hl:0<l.length):∀ n i,i<n*l.length→(reps n l)[i]? = l[i % l.length]? := by
 intro n
 induction n with
 | zero=>intro i hi; omega
 | succ n ih =>
  intro i hi
  rw [Nat.succ_mul] at hi
  simp only [reps]
  by_cases h1:i<l.length
  ·rw [List.getElem?_append_left h1,Nat.mod_eq_of_lt h1]
  ·rw [List.getElem?_append_right (by omega),ih (i-l.length) (by omega)]
   congr 1
   rw [Nat.mod_eq_sub_mod (a:=i) (by omega)]
theorem AeW (z:Array Value) (n:Nat) (hz:0<z.size):((Array.range (n*z.size)).map (z[· % z.size]!)).toList=reps n z.toList:=by
 apply List.ext_getElem?
 intro i
 by_cases hi:i<n*z.size
 ·rw [Aae _ (by simpa using hz) n i (by simpa using hi)]
  have:=Nat.mod_lt i hz
  simp [hi,this]
 ·rw [List.getElem?_eq_none (by simp; omega),List.getElem?_eq_none (by rw [Hl]; simp; omega)]
theorem Ale (hT:Gk P T) (h:Rel cx β σ a w) {t len dst:Nat} {parts:Array (Nat×Operand)} (hx:∀ x∈parts,An x.2=true) {y:MV} {wo obl} {ob:Nat→Option Obj}
  (hob:ob (key dst 0)=σ.objs (key dst 0)) (hz1:∀ t i,assoc T t=some i→i.zero.all (fun c=>c.oneCell')=true)
  (he:Kb T t len dst ob (parts.toList.map fun x=>(x.1,ev σ x.2))=some (y,wo,obl)) :
  Out P cx σ a (Instr.buildSlice t len (parts.map fun (i,x)=>(i,a.eval x))) w y wo:=by
 unfold Kb at he
 split at he
 ·rename_i e s1 s2 s3 s4 hi
  have hu:=(hT t _ hi).slice rfl
  split at he
  ·rename_i i hi2
   have hF:=hT e i hi2
   cases hb:(Nat.ble (len*i.size) 16777216&&Nat.beq i.zero.length i.size&&Nat.blt 0 i.size) with
   | false=>simp only [hb,cond_false] at he; simp at he
   | true =>
    simp only [hb,cond_true] at he
    simp only [Bool.and_eq_true] at hb
    have b1:=Nat.le_of_ble_eq_true hb.1.1
    have b2:=Nat.eq_of_beq_eq_true hb.1.2
    have b3:0<i.size:=Nat.le_of_ble_eq_true hb.2
    obtain ⟨z,hz,hzc⟩:=hF.zeroValue w
    have hzsz:z.cells.size=i.size:=by rw [← b2,← hzc]; simp
    split at he
    ·rename_i cs hcs
     split at he
     ·rename_i ps hps
      simp only [Option.some.injEq,Ob,Prod.mk.injEq] at he
      obtain ⟨rfl,rfl,rfl⟩:=he
      obtain ⟨g1,g2⟩:=Ach h hzc (hz1 _ _ hi2)
      have hz0:=Cells.of g1 g2
      have hstart:Cells β σ.objs (Al cx.Av β σ.objs w) w ((Array.range (len*i.size)).map (z.cells[· % z.cells.size]!)).toList (reps len (i.zero.map Kk)):=by
       have e1:=AeW z.cells len (by omega)
       rw [hzsz] at e1
       rw [hzsz,e1]
       refine Cells.mk' (by rw [Hl,Hl]; simp [hzsz,b2]) (fun j x hx => ?_)
       have hj:j<len*(i.zero.map Kk).length:=by
        have:=(List.getElem?_eq_some_iff.1 hx).1
        rw [Hl] at this
        exact this
       rw [Aae _ (by simp; omega) len j hj] at hx
       rw [Aae _ (by simp; omega) len j (by simp at hj; simp [hzsz]; rw [b2] at hj; exact hj)]
       have e2:(i.zero.map Kk).length=z.cells.toList.length:=by simp [hzsz,b2]
       rw [e2] at hx
       exact hz0.get hx
      obtain ⟨zs',hf,hC⟩:=AiM (β:=β) (objs:=σ.objs) (S:=Al cx.Av β σ.objs w) (w:=w) (parts.toList.map fun x=>(x.1,ev σ x.2)) (parts.map fun (i,x)=>(i,a.eval x)).toList _ _ cs
       (by simp) (fun i x v hx' hv=>by
        rw [List.getElem?_map] at hx'
        simp only [Array.toList_map,List.getElem?_map] at hv
        cases hq:parts.toList[i]? with
        | none=>simp [hq] at hx'
        | some q =>
         simp [hq] at hx' hv
         subst hx'
         subst hv
         exact Ba h q.2 (hx q (by simpa using List.mem_of_getElem? hq))) hstart hcs
      have hcsp:=Fw hps
      have hlen:ps.length=len*i.size:=by
       have h3:∀ (pl:Nat→Option (Nat×Nat)) (parts:List (Nat×MV)) (c0 c1:List MV),AbC pl c0 parts=some c1→c1.length=c0.length:=by
        intro pl parts
        induction parts with
        | nil=>intro c0 c1 hh; simp [AbC] at hh; rw [hh]
        | cons p r ih =>
         intro c0 c1 hh
         obtain ⟨pi,px⟩:=p
         unfold AbC at hh
         split at hh
         ·rename_i off size ds _ _
          cases hbb:(Nat.beq ds.length size&&Nat.ble (off+size) c0.length) with
          | false=>simp [hbb] at hh
          | true =>
           simp only [hbb,cond_true] at hh
           rw [ih _ _ hh,Gn]
         ·simp at hh
       have h4:=h3 _ _ _ _ hcs
       rw [hcsp,Hl] at h4
       simpa [b2] using h4
      have hzl:zs'.size=len*i.size:=by
       have:=hC.1
       rw [hcsp] at this
       simp at this
       omega
      obtain ⟨r1,r2⟩:=h.newRow (key dst 0) i.size len len zs' e (cut i.size ps) w ⟨rfl,rfl,rfl,rfl⟩ (.inl (by unfold key; omega)) (Nat.le_refl _) (by omega) (fun j hj=>by
       have hmul:(j+1)*i.size≤len*i.size:=Nat.mul_le_mul_right _ hj
       have hexp:(j+1)*i.size=j*i.size+i.size:=Nat.succ_mul j i.size
       refine ⟨by simp [cut]; omega,fun q x hq => ?_⟩
       simp only [cut,List.getElem?_take] at hq
       split at hq
       ·rw [List.getElem?_drop] at hq
        obtain ⟨u,q1,q2,q3⟩:=hC.get (i:=j*i.size+q) (y := .p x) (by rw [hcsp,List.getElem?_map,hq]; rfl)
        exact ⟨u,by simpa using q1,q2,q3.inv_p⟩
       ·simp at hq)
      rw [hob]
      refine ⟨_,_,_,?_,r1,r2⟩
      have hlt:¬ (len*i.size>2 ^ 24):=by omega
      simp only [Instr.buildSlice,Sem.run_bind,run_underlying hu,Result.andThen_ok,hF.sizeOf,hlt,if_false]
      by_cases h0:len*i.size=0
      ·simp only [h0,if_true,Sem.run_pure,Result.andThen_ok]
       have he0:((Array.range 0).map fun x=>(#[]:Array Value)[x % (#[]:Array Value).size]!)=((Array.range (len*i.size)).map (z.cells[· % z.cells.size]!)):=by
        rw [h0]; simp
       simp only [he0,hf,newRow,run_newObj,Sem.run_bind,Result.andThen_ok,Sem.run_pure]
       rfl
      ·simp only [h0,if_false,Sem.run_bind,hz,Result.andThen_ok,Sem.run_pure,hf,newRow,run_newObj]
       rfl
     ·simp at he
    ·simp at he
  ·simp at he
 ·simp at he
def SrcOK (P:Program) (S:Nat→Prop) (w:World) (x:Value) (W n:Nat) (f:Nat→List PV):Prop :=
 ∃ src:List Value,src.length=n*W∧(∀ w':World,(Builtin.lenOf x).run P w' = .ok n w') ∧
  (∀ w':World,w'.heap=w.heap→(Builtin.firstCells W n x).run P w' = .ok src.toArray w') ∧
  (∀ u∈src,u.oneCell'=true)∧∀ i,i<n→(f i).length=W∧∀ (j:Nat) y,(f i)[j]? = some y→∃ u,src[i*W+j]? = some u∧Rep S w u y
def SrcM (P:Program) (S:Nat→Prop) (w:World) (x:Value) (W n:Nat) (f:Nat→List PV):Prop :=
 ∃ src:List Value,src.length=n*W∧(∀ w':World,w'.heap=w.heap→(Builtin.firstCells W n x).run P w' = .ok src.toArray w') ∧
  (∀ u∈src,u.oneCell'=true)∧∀ i,i<n→(f i).length=W∧∀ (j:Nat) y,(f i)[j]? = some y→∃ u,src[i*W+j]? = some u∧Rep S w u y
def SrcAll (P:Program) (S:Nat→Prop) (w:World) (x:Value) (W n:Nat) (f:Nat→List PV):Prop :=
 (∀ w':World,(Builtin.lenOf x).run P w' = .ok n w')∧∀ m,m≤n→SrcM P S w x W m f
theorem SrcAll.full {S:Nat→Prop} {x:Value} {W n:Nat} {f:Nat→List PV} (h:SrcAll P S w x W n f):SrcOK P S w x W n f:=by
 obtain ⟨src,h1,h2,h3,h4⟩:=h.2 n (Nat.le_refl _)
 exact ⟨src,h1,h.1,h2,h3,h4⟩
theorem SrcAll.zero {S:Nat→Prop} {x:Value} {W:Nat} {f:Nat→List PV} (h:x = .slice none 0 0∨∃ b c,x = .slice (some b) 0 c):SrcAll P S w x W 0 f:=by
 refine ⟨fun w' => ?_,fun m hm => ?_⟩
 ·rcases h with rfl|⟨b,c,rfl⟩ <;> simp [Builtin.lenOf]
 ·obtain rfl:m=0:=by omega
  refine ⟨[],by simp,fun w' _ => ?_,by simp,fun i hi=>by omega⟩
  rcases h with rfl|⟨b,c,rfl⟩ <;> simp [Builtin.firstCells,loadCells,loadCellsFrom]
theorem AlR {w w':World} (h:w'.heap=w.heap) (p:Addr):w'.cell? p=w.cell? p:=by simp [World.cell?,h]
theorem src_rowsM {S:Nat→Prop} {W n n0 b o cap:Nat} {f:Nat→List PV} (c:Nat→Nat→Value)
  (hlen:∀ i,i<n→(f i).length=W)
  (hc:∀ i j,i<n→j<W→w.cell? (at_ b (o+(i*W+j)))=some (c i j)) (h1:∀ i j,i<n→j<W→(c i j).oneCell'=true)
  (hr:∀ i j x,i<n→(f i)[j]? = some x→Rep S w (c i j) x):SrcM P S w (.slice (some (at_ b o)) n0 cap) W n f:=by
 have hdiv:∀ q,q<n*W→q / W<n∧q % W<W∧q / W*W+q % W=q:=by
  intro q hq
  have hW:0<W:=Nat.pos_of_ne_zero fun e=>by rw [e] at hq; simp at hq
  exact ⟨(Nat.div_lt_iff_lt_mul hW).2 hq,Nat.mod_lt _ hW,by rw [Nat.mul_comm]; exact Nat.div_add_mod q W⟩
 refine ⟨(List.range (n*W)).map fun q=>c (q / W) (q % W),by simp,fun w' hw' => ?_,?_,fun i hi=>⟨hlen i hi,fun j y hy => ?_⟩⟩
 ·refine run_firstCells_some w' W n (at_ b o) n0 cap _ (by simp) (fun j v hv => ?_)
  rw [AlR hw']
  simp only [List.getElem?_map] at hv
  cases hq:(List.range (n*W))[j]? with
  | none=>simp [hq] at hv
  | some q =>
   have hjl:=(List.getElem?_eq_some_iff.1 hq).1
   simp at hjl
   have hqe:q=j:=by rw [List.getElem?_range hjl] at hq; injection hq with hq; exact hq.symm
   subst hqe
   simp [hq] at hv
   subst hv
   obtain ⟨d1,d2,d3⟩:=hdiv q hjl
   have:=hc _ _ d1 d2
   rw [d3] at this
   rw [at_,Addr.add_lit]
   exact this
 ·intro u hu
  obtain ⟨q,hq,rfl⟩:=List.mem_map.1 hu
  simp at hq
  obtain ⟨d1,d2,_⟩:=hdiv q hq
  exact h1 _ _ d1 d2
 ·have hj:j<W:=by rw [← hlen i hi]; exact (List.getElem?_eq_some_iff.1 hy).1
  have hW:0<W:=by omega
  have hmul:(i+1)*W≤n*W:=Nat.mul_le_mul_right _ hi
  have hexp:(i+1)*W=i*W+W:=Nat.succ_mul i W
  refine ⟨c i j,?_,hr i j y hi hy⟩
  have e1:(i*W+j) / W=i:=by rw [Nat.mul_comm,Nat.mul_add_div hW,Nat.div_eq_of_lt hj,Nat.add_zero]
  have e2:(i*W+j) % W=j:=by rw [Nat.mul_comm,Nat.mul_add_mod,Nat.mod_eq_of_lt hj]
  rw [List.getElem?_map,List.getElem?_range (by omega)]
  simp [e1,e2]
theorem Ane {S:Nat→Prop} {W n b o cap:Nat} {f:Nat→List PV} (c:Nat→Nat→Value)
  (hlen:∀ i,i<n→(f i).length=W)
  (hc:∀ i j,i<n→j<W→w.cell? (at_ b (o+(i*W+j)))=some (c i j)) (h1:∀ i j,i<n→j<W→(c i j).oneCell'=true)
  (hr:∀ i j x,i<n→(f i)[j]? = some x→Rep S w (c i j) x):SrcAll P S w (.slice (some (at_ b o)) n cap) W n f :=
 ⟨fun w'=>by simp [Builtin.lenOf],fun m hm=>src_rowsM c (fun i hi=>hlen i (by omega)) (fun i j hi hj=>hc i j (by omega) hj) (fun i j hi hj=>h1 i j (by omega) hj) (fun i j x hi hx=>hr i j x (by omega) hx)⟩
theorem Yb (off:Nat) (f:Nat→List PV) (i:Nat):shF off f i=f (off+i):=by
 unfold shF
 cases h:Nat.beq off 0 with
 | true=>have:=Nat.eq_of_beq_eq_true h; simp [this]
 | false=>rfl
theorem src_all (h:Rel cx β σ a w) {x:Value} {mx:MV} (rx:RelV β σ.objs (Al cx.Av β σ.objs w) w x mx) {ob:Nat→Option Obj} (hob:∀ k o,ob k=some o→σ.objs k=some o)
  {W n:Nat} {f:Nat→List PV} {k2:Option Nat} (he:AcN ob W mx=some (n,f,k2)):SrcAll P (Al cx.Av β σ.objs w) w x W n f:=by
 unfold AcN at he
 split at he
 ·rename_i fl W' n' f'
  cases hb:(Nat.beq W' W||Nat.beq n' 0) with
  | false=>simp [hb] at he
  | true =>
   simp only [hb,cond_true,Option.some.injEq,Prod.mk.injEq] at he
   obtain ⟨rfl,rfl,rfl⟩:=he
   have rp:=rx.inv_p
   cases rp with
   | slnil _ _ _ _=>exact SrcAll.zero (.inl rfl)
   | sl _ _ _ cap b o _ c hfl hcap hs hlen hc h1 hr =>
    rcases ((Bool.or_eq_true _ _).mp hb).symm with h0|hW
    ·have:=Nat.eq_of_beq_eq_true h0
     subst this
     exact SrcAll.zero (.inr ⟨_,_,rfl⟩)
    ·have:=Nat.eq_of_beq_eq_true hW
     subst this
     exact Ane c hlen hc h1 hr
 ·rename_i k g off len
  split at he
  ·rename_i W' n' f' hg
   cases hb:Nat.beq W' W with
   | false=>simp [hb] at he
   | true =>
    have eW:=Nat.eq_of_beq_eq_true hb
    subst eW
    simp only [hb,cond_true,Option.some.injEq,Prod.mk.injEq] at he
    obtain ⟨rfl,rfl,rfl⟩:=he
    have ho1:=hob _ _ (Es hg)
    obtain ⟨base,c,hv,hk⟩:=rx.inv_own
    subst hv
    obtain ⟨hle,hl⟩:=hk.get ho1
    rcases h.ob k _ ho1 with ⟨hl',hn0⟩|⟨b,o,cap,cur,e',hl',hheap,hcap,hnn,hrow⟩
    ·rw [hl'] at hl
     obtain ⟨hbs,rfl,_,rfl⟩:=hl
     rcases hbs with rfl|⟨bb,oo,rfl⟩
     ·exact SrcAll.zero (.inl rfl)
     ·exact SrcAll.zero (.inr ⟨_,_,rfl⟩)
    ·rw [hl'] at hl
     obtain ⟨b',o',rfl,hcc,hadr⟩:=hl
     by_cases hlen0:len=0
     ·subst hlen0
      exact SrcAll.zero (.inr ⟨_,_,rfl⟩)
     ·obtain ⟨rfl,rfl⟩:=hadr (by omega)
      have hcell:∀ j,w.cell? (at_ b' j)=cur[j]? := fun j=>cell_of_row w b' j cur e' (0,0) hheap
      have hget:∀ i j,i<len→j<W'→∃ u,cur[o+off*W'+(i*W'+j)]? = some u∧u.oneCell'=true:=by
       intro i j hi hj
       obtain ⟨q1,q2⟩:=hrow (off+i) (by omega)
       obtain ⟨u,u1,u2,_⟩:=q2 j (f' (off+i))[j] (List.getElem?_eq_getElem (by omega))
       exact ⟨u,by rw [← u1]; congr 1; rw [Nat.add_mul]; omega,u2⟩
      refine Ane (fun i j=>cur.getD (o+off*W'+(i*W'+j)) undef) (fun i hi => ?_) (fun i j hi hj => ?_) (fun i j hi hj => ?_) (fun i j x hi hx => ?_)
      ·rw [Yb]; exact (hrow (off+i) (by omega)).1
      ·obtain ⟨u,u1,_⟩:=hget i j hi hj
       rw [hcell,Array.getD_eq_getD_getElem?,u1]
       rfl
      ·obtain ⟨u,u1,u2⟩:=hget i j hi hj
       rw [Array.getD_eq_getD_getElem?,u1]
       exact u2
      ·rw [Yb] at hx
       obtain ⟨u,u1,u2,u3⟩:=(hrow (off+i) (by omega)).2 j x hx
       have e2:o+(off+i)*W'+j=o+off*W'+(i*W'+j):=by rw [Nat.add_mul]; omega
       rw [← e2,Array.getD_eq_getD_getElem?,u1]
       exact u3
  ·simp at he
 ·simp at he
theorem src_of (h:Rel cx β σ a w) {x:Value} {mx:MV} (rx:RelV β σ.objs (Al cx.Av β σ.objs w) w x mx) {ob:Nat→Option Obj} (hob:∀ k o,ob k=some o→σ.objs k=some o)
  {W n:Nat} {f:Nat→List PV} {k2:Option Nat} (he:AcN ob W mx=some (n,f,k2)):SrcOK P (Al cx.Av β σ.objs w) w x W n f:=(src_all h rx hob he).full
theorem AkD {z:Array Value} {n:Nat} : (Builtin.zeroCells z n).size=n*z.size:=size_zeroCells z n
theorem Afs {t ty e:TypeId} {i:TypeInfo} (ht:P.underlying t=some (.slice e)) (hi:P.info? e=some i)
  {b o sLen sCap n:Nat} {x:Value} {src:List Value} {cur:Array Value} {e':TypeId} (hh:w.heap[b]? = some (.cells cur e' (0,0)))
  (hlenx:(Builtin.lenOf x).run P w = .ok n w) (hcells:(Builtin.firstCells i.size n x).run P w = .ok src.toArray w) (h1:∀ u∈src,u.oneCell'=true)
  (hroom:sLen+n≤sCap) (hfit:o+sLen*i.size+src.length≤cur.size) :
  (Builtin.append_ #[t,t] ty #[.slice (some (at_ b o)) sLen sCap,x]).run P w =
   .ok (.slice (some (at_ b o)) (sLen+n) sCap) (w.setRow b (setRange cur.toList (o+sLen*i.size) src).toArray):=by
 have hst:=run_storeCells_at P b (o+sLen*i.size) e' src 0 cur w hh (by simpa using hfit) h1
 simp only [Nat.add_zero] at hst
 rw [AcX _ _ _ (by simpa using hfit)] at hst
 simp [Builtin.append_,run_underlying ht,sizeOf,typeInfo,hi,hlenx,hroom,hcells,at_,Addr.add_lit,hst]
theorem AjV {t ty e:TypeId} {i:TypeInfo} (ht:P.underlying t=some (.slice e)) (hi:P.info? e=some i)
  {base:Option Addr} {sLen sCap:Nat} {x:Value} (hle:sLen≤sCap)
  (hlenx:(Builtin.lenOf x).run P w = .ok 0 w) (hcells:(Builtin.firstCells i.size 0 x).run P w = .ok #[] w) :
  (Builtin.append_ #[t,t] ty #[.slice base sLen sCap,x]).run P w = .ok (.slice base sLen sCap) w:=by
 cases base <;> simp [Builtin.append_,run_underlying ht,sizeOf,typeInfo,hi,hlenx,hle,hcells,storeCells]
theorem AkT {t ty e:TypeId} {i:TypeInfo} {z:Value} (ht:P.underlying t=some (.slice e)) (hi:P.info? e=some i) (hz:i.zero=some z)
  {base:Option Addr} {sLen sCap n:Nat} {x:Value} {old src:List Value}
  (hlenx:(Builtin.lenOf x).run P w = .ok n w) (hold:(Builtin.firstCells i.size sLen (.slice base sLen sCap)).run P w.drew = .ok old.toArray w.drew)
  (hcells:(Builtin.firstCells i.size n x).run P w.drew = .ok src.toArray w.drew)
  (hg:sCap<sLen+n) (h63:sLen+n≤9223372036854775807) (hfit:Builtin.nextslicecap (sLen+n) sCap*i.bytes≤281474976710656) :
  (Builtin.append_ #[t,t] ty #[.slice base sLen sCap,x]).run P w =
   .ok (.slice (some (at_ w.heap.size 0)) (sLen+n) (grownCap w (sLen+n) sCap e))
    (w.drew.alloc (.cells (old.toArray++src.toArray++Builtin.zeroCells z.cells (grownCap w (sLen+n) sCap e-(sLen+n))) e)):=by
 have hn:¬ (sLen+n≤sCap):=by omega
 have h63':¬ (9223372036854775807<((sLen:Int)+(n:Int))):=by omega
 have h48':¬ (281474976710656<Builtin.nextslicecap (sLen+n) sCap*i.bytes):=by omega
 simp [Builtin.append_,run_underlying ht,sizeOf,typeInfo,zeroValue,hi,hz,hlenx,hn,h63',h48',Question.forced,hold,hcells,newRow,grownCap,at_]
 congr 2
 apply Array.ext'
 simp [List.append_assoc]
theorem Apr (hT:Gk P T) (h:Rel cx β σ a w) {t t2 ty dst:Nat} {os ox:Operand} (hs:An os=true) (hx:An ox=true) {y:MV} {wo obl} {ob:Nat→Option Obj}
  (hob:∀ k o,ob k=some o→σ.objs k=some o) (hobd:ob (key dst 0)=σ.objs (key dst 0))
  (he:Xg T t t2 dst ob (ev σ os) (ev σ ox)=some (y,wo,obl)) (ho:All obl) :
  Out P cx σ a (Builtin.append_ #[t,t2] ty #[a.eval os,a.eval ox]) w y wo:=by
 have rs:=Ba h os hs
 have rx:=Ba h ox hx
 unfold Xg at he
 split at he
 ·rename_i e s1 s2 s3 s4 hi
  have hu:=(hT t _ hi).slice rfl
  split at he
  ·rename_i i hi2
   have hF:=hT e i hi2
   obtain ⟨info,z,hinfo,hisz,hib,hizero,hzc,_⟩:=hF.info
   cases hb:(Nat.beq t t2&&Nat.beq i.zero.length i.size&&Nat.blt 0 i.size&&Nat.blt 0 i.bytes) with
   | false=>simp only [hb,cond_false] at he; simp at he
   | true =>
    simp only [hb,cond_true] at he
    simp only [Bool.and_eq_true] at hb
    have et:=Nat.eq_of_beq_eq_true hb.1.1.1
    subst et
    have ez:=Nat.eq_of_beq_eq_true hb.1.1.2
    have epos:0<i.size:=Nat.le_of_ble_eq_true hb.1.2
    have ebpos:0<i.bytes:=Nat.le_of_ble_eq_true hb.2
    have hzs:z.cells.size=i.size:=by rw [← ez,← hzc]; simp
    split at he
    ·rename_i n2 f2 k2 hsrc
     obtain ⟨src,hsl,hslen,hsrun,hsone,hsf⟩:=src_of (P:=P) h rx hob hsrc
     have grown:∀ (k:Nat) (old:List Value) (sLen sCap:Nat) (base:Option Addr) (f1:Nat→List PV),old.length=sLen*i.size →
       (∀ w':World,w'.heap=w.heap→(Builtin.firstCells i.size sLen (.slice base sLen sCap)).run P w' = .ok old.toArray w') →
       (∀ j,j<sLen→(f1 j).length=i.size∧∀ (q:Nat) x,(f1 j)[q]? = some x→∃ u,old[j*i.size+q]? = some u∧u.oneCell'=true∧Rep (Al cx.Av β σ.objs w) w u x) →
       sCap<sLen+n2→(sLen+n2)*i.bytes≤140737488355328→(1000≤k∨(σ.objs k).isSome=true) →
       ∃ v w' β',(Builtin.append_ #[t,t] ty #[.slice base sLen sCap,a.eval ox]).run P w = .ok v w' ∧
        Rel cx β' ⟨σ.slots,Bj σ.objs k ⟨Bl (σ.objs k),.row i.size (sLen+n2) (Rg sLen f1 f2)⟩⟩ a w' ∧
        RelV β' (Bj σ.objs k ⟨Bl (σ.objs k),.row i.size (sLen+n2) (Rg sLen f1 f2)⟩) (Al cx.Av β' (Bj σ.objs k ⟨Bl (σ.objs k),.row i.size (sLen+n2) (Rg sLen f1 f2)⟩) w') w' v (.own k (Bl (σ.objs k)) 0 (sLen+n2)):=by
      intro k old sLen sCap base f1 hol holdrun hf1 hgt hby hk1000
      have hsmall:sLen+n2≤140737488355328:=Nat.le_trans (Nat.le_mul_of_pos_right _ ebpos) hby
      have hcapge:=grownCap_ge w (sLen+n2) sCap e
      have hr:=AkT (P:=P) (w:=w) (ty:=ty) hu hinfo hizero (base:=base) (sLen:=sLen) (sCap:=sCap) (n:=n2) (x:=a.eval ox) (old:=old) (src:=src)
       (hslen w) (by rw [hisz]; exact holdrun w.drew rfl) (by rw [hisz]; exact hsrun w.drew rfl) hgt (by omega) (by rw [hib]; exact growslice_fits hgt hby)
      obtain ⟨r1,r2⟩:=h.newRow k i.size (sLen+n2) (grownCap w (sLen+n2) sCap e) (old.toArray++src.toArray++Builtin.zeroCells z.cells (grownCap w (sLen+n2) sCap e-(sLen+n2))) e (Rg sLen f1 f2) w.drew
       ⟨rfl,rfl,rfl,rfl⟩ hk1000 hcapge (by
        simp only [Array.size_append,List.size_toArray,AkD,hzs,hol,hsl]
        rw [← Nat.add_mul,← Nat.add_mul]
        apply Nat.mul_le_mul_right
        omega) (fun j hj=>by
        by_cases hjl:j<sLen
        ·have hlt:Nat.blt j sLen=true:=Nat.ble_eq_true_of_le hjl
         simp only [Rg,hlt,cond_true]
         obtain ⟨q1,q2⟩:=hf1 j hjl
         refine ⟨q1,fun q x hx => ?_⟩
         obtain ⟨u,u1,u2,u3⟩:=q2 q x hx
         refine ⟨u,?_,u2,u3⟩
         have hul:=(List.getElem?_eq_some_iff.1 u1).1
         rw [Array.getElem?_append_left (by simp; omega),Array.getElem?_append_left (by simpa using hul)]
         simpa using u1
        ·have hlt:Nat.blt j sLen=false:=by
          cases hb:Nat.blt j sLen with
          | false=>rfl
          | true=>exact absurd (Nat.le_of_ble_eq_true hb) hjl
         simp only [Rg,hlt,cond_false]
         obtain ⟨q1,q2⟩:=hsf (j-sLen) (by omega)
         refine ⟨q1,fun q x hx => ?_⟩
         obtain ⟨u,u1,u3⟩:=q2 q x hx
         have hul:=(List.getElem?_eq_some_iff.1 u1).1
         refine ⟨u,?_,hsone u (List.mem_of_getElem? u1),u3⟩
         have e1:j*i.size=sLen*i.size+(j-sLen)*i.size:=by rw [← Nat.add_mul]; congr 1; omega
         rw [Array.getElem?_append_left (by simp; omega),Array.getElem?_append_right (by simp; omega)]
         have e2:j*i.size+q-old.toArray.size=(j-sLen)*i.size+q:=by simp; omega
         rw [e2]
         simpa using u1)
      exact ⟨_,_,_,hr,r1,r2⟩
     have empty:∀ (k:Nat) (base:Option Addr) (f':Nat→List PV),(base=none∨∃ b o,base=some (at_ b o))→n2=0→(1000≤k∨(σ.objs k).isSome=true) →
       ∃ v w' β',(Builtin.append_ #[t,t] ty #[.slice base 0 0,a.eval ox]).run P w = .ok v w' ∧
        Rel cx β' ⟨σ.slots,Bj σ.objs k ⟨Bl (σ.objs k),.row i.size (0+n2) f'⟩⟩ a w' ∧
        RelV β' (Bj σ.objs k ⟨Bl (σ.objs k),.row i.size (0+n2) f'⟩) (Al cx.Av β' (Bj σ.objs k ⟨Bl (σ.objs k),.row i.size (0+n2) f'⟩) w') w' v (.own k (Bl (σ.objs k)) 0 (0+n2)):=by
      intro k base f' hbase hn2 hk1000
      subst hn2
      have hs0:src = []:=List.eq_nil_of_length_eq_zero (by simpa using hsl)
      subst hs0
      refine ⟨.slice base 0 0,w,Fo β k .nilrow,AjV hu hinfo (Nat.le_refl _) (hslen w) (by rw [hisz]; exact hsrun w rfl),?_,?_⟩
      ·refine h.upd1 k _ .nilrow w (fun o ho => ?_) (fun b _ hb=>by simp [Loc.block] at hb) (fun b _ hb=>by simp [Loc.block] at hb) (fun _ _ _=>rfl) (Nat.le_refl _) rfl rfl rfl (fun hkm hgen => ?_) (.inl ⟨rfl,rfl⟩)
       ·rw [ho]
        exact ⟨by simp [Bl],fun e=>by simp [Bl] at e⟩
       ·rcases hk1000 with h1|h1
        ·have:=h.mle; omega
        ·cases ho2:σ.objs k with
         | none=>simp [ho2] at h1
         | some o=>simp [ho2,Bl] at hgen
      ·refine .own _ _ _ _ _ _ ⟨_,Bb _ _ _,Nat.le_refl _,fun _ => ?_⟩
       rw [Db]
       exact ⟨by omega,hbase,rfl,rfl,by omega⟩
     have hcat0:∀ f1,Rg 0 f1 f2=f2:=by
      intro f1
      funext j
      have:Nat.blt j 0=false:=rfl
      simp [Rg,this]
     have fresh0:∀ (base:Option Addr),(base=none∨∃ b o,base=some (at_ b o))→n2*i.bytes≤140737488355328 →
       Out P cx σ a (Builtin.append_ #[t,t] ty #[.slice base 0 0,a.eval ox]) w (Ob dst ob i.size n2 f2 [n2*i.bytes≤140737488355328]).1 (Ob dst ob i.size n2 f2 [n2*i.bytes≤140737488355328]).2.1:=by
      intro base hbase hby
      simp only [Ob,Cb,hobd]
      by_cases hn2:n2=0
      ·obtain ⟨v,w',β',q1,q2,q3⟩:=empty (key dst 0) base f2 hbase hn2 (.inl (by unfold key; omega))
       rw [Nat.zero_add] at q2 q3
       exact ⟨v,w',β',q1,q2,q3⟩
      ·obtain ⟨v,w',β',q1,q2,q3⟩:=grown (key dst 0) [] 0 0 base f2 (by simp) (fun w' _=>by
        rcases hbase with rfl|⟨b,o,rfl⟩ <;> simp [Builtin.firstCells,loadCells,loadCellsFrom]) (fun j hj=>by omega) (by omega) (by simpa using hby) (.inl (by unfold key; omega))
       rw [Nat.zero_add,hcat0] at q2 q3
       exact ⟨v,w',β',q1,q2,q3⟩
     split at he
     all_goals try (simp at he; done)
     ·rename_i W0 f0 hp
      rw [hp] at rs
      have he':=he
      simp only [Option.some.injEq,Ob,Prod.mk.injEq] at he'
      obtain ⟨e1,e2,rfl⟩:=he'
      simp [All] at ho
      have rp:=rs.inv_p
      have hnilv:a.eval os = .slice none 0 0:=by
       generalize a.eval os=v at rp
       cases rp with
       | slnil=>rfl
       | sl _ _ _ _ _ _ _ _ hfl=>exact absurd rfl hfl.1
      rw [hnilv]
      have:=fresh0 none (.inl rfl) ho
      simp only [Option.some.injEq] at he
      rw [he] at this
      exact this
     ·rename_i W0 f0 hp
      rw [hp] at rs
      have he':=he
      simp only [Option.some.injEq,Ob,Prod.mk.injEq] at he'
      obtain ⟨e1,e2,rfl⟩:=he'
      simp [All] at ho
      have rp:=rs.inv_p
      have hnilv:∃ base,a.eval os = .slice base 0 0∧(base=none∨∃ b o,base=some (at_ b o)):=by
       generalize a.eval os=v at rp
       cases rp with
       | slnil=>exact ⟨none,rfl,.inl rfl⟩
       | sl _ _ _ cap b o _ _ hfl=>exact ⟨some (at_ b o),by rw [hfl.2 rfl],.inr ⟨b,o,rfl⟩⟩
      obtain ⟨base,hv,hbase⟩:=hnilv
      rw [hv]
      have:=fresh0 base hbase ho
      simp only [Option.some.injEq] at he
      rw [he] at this
      exact this
     ·rename_i k g off len hp
      rw [hp] at rs
      split at he
      ·rename_i W n f hg
       cases hb2:(Nat.beq W i.size && !(k2==some k)) with
       | false=>simp only [hb2,cond_false] at he; simp at he
       | true =>
        simp only [hb2,cond_true,Option.some.injEq,Prod.mk.injEq] at he
        simp only [Bool.and_eq_true] at hb2
        have eW:=Nat.eq_of_beq_eq_true hb2.1
        subst eW
        obtain ⟨rfl,rfl,rfl⟩:=he
        simp [All] at ho
        have ho1:=hob _ _ (Es hg)
        obtain ⟨base,c,hv,hk⟩:=rs.inv_own
        have hown:=hk.get ho1
        obtain ⟨hle,hl⟩:=hown
        have hng:Bl (σ.objs k)=g+1:=by rw [ho1]; rfl
        rw [hv]
        have hgrown:=grown k
        have hempty:=empty k
        rw [hng] at hgrown hempty
        rcases h.ob k _ ho1 with ⟨hl',hn0⟩|⟨b,o,cap,cur,e',hl',hheap,hcap,hnn,hrow⟩
        ·rw [hl'] at hl
         obtain ⟨hbs,rfl,rfl,rfl⟩:=hl
         by_cases hn2:n2=0
         ·exact hempty base _ hbs hn2 (.inr (by rw [ho1]; rfl))
         ·exact hgrown [] 0 0 base (shF 0 f) (by simp) (fun w' _=>by
           rcases hbs with rfl|⟨b,o,rfl⟩ <;> simp [Builtin.firstCells,loadCells,loadCellsFrom]) (fun j hj=>by omega) (by omega) (by simpa using ho) (.inr (by rw [ho1]; rfl))
        ·rw [hl'] at hl
         obtain ⟨b',o',rfl,hcc,hadr⟩:=hl
         by_cases hroom:len+n2≤c
         ·by_cases hc0:c=0
          ·obtain ⟨rfl,hn2⟩:len=0∧n2=0:=by omega
           subst hc0
           exact hempty _ _ (.inr ⟨b',o',rfl⟩) hn2 (.inr (by rw [ho1]; rfl))
          ·obtain ⟨rfl,rfl⟩:=hadr hc0
           have hmulc:(off+c)*i.size=off*i.size+c*i.size:=Nat.add_mul _ _ _
           have hmull:(len+n2)*i.size≤c*i.size:=Nat.mul_le_mul_right _ hroom
           have hmull2:(len+n2)*i.size=len*i.size+n2*i.size:=Nat.add_mul _ _ _
           rw [← hcc] at hcap
           have hr:=Afs (P:=P) (w:=w) (ty:=ty) hu hinfo (b:=b') (o:=o+off*i.size) (sLen:=len) (sCap:=c) (n:=n2) (x:=a.eval ox) (src:=src) hheap (hslen w) (by rw [hisz]; exact hsrun w rfl) hsone hroom (by rw [hisz,hsl]; omega)
           rw [hisz] at hr
           have hlive:=h.blk k _ b' ho1 trivial (by rw [hl']; rfl)
           refine ⟨_,_,Fo β k (.row b' (o+off*i.size) c),hr,?_,?_⟩
           ·refine h.upd1 k _ (.row b' (o+off*i.size) c) _ (fun oo hoo => ?_) (fun bb _ hbb => ?_) (fun bb _ hbb => ?_) (fun bb hbb hne => ?_) (by simp) rfl rfl rfl (fun _ e=>by simp at e) ?_
            ·rw [ho1] at hoo; injection hoo with hoo; subst hoo
             exact ⟨by simp,fun e=>by simp at e⟩
            ·simp [Loc.block] at hbb; subst hbb; simpa using hlive
            ·simp [Loc.block] at hbb; subst hbb
             exact ⟨fun hS=>hS.2.2 k _ ho1 trivial (by rw [hl']; rfl),fun k' oo hne hoo hlv hb'=>h.inj k k' _ oo b' ho1 hoo trivial hlv (Ne.symm hne) (by rw [hl']; rfl) hb'⟩
            ·exact setRow_other w b' bb _ (fun e=>hne trivial (by rw [e]; rfl))
            ·have hS:∀ bb,Al cx.Av β σ.objs w bb→Al cx.Av (Fo β k (.row b' (o+off*i.size) c)) (Bj σ.objs k ⟨g+1,.row i.size (len+n2) (Rg len (shF off f) f2)⟩) (w.setRow b' (setRange cur.toList (o+off*i.size+len*i.size) src).toArray) bb:=by
              intro bb hbb
              refine ⟨by simpa using hbb.1,hbb.2.1,fun j oo hoo hlv => ?_⟩
              by_cases hj:j=k
              ·subst hj
               rw [Db]
               have:=hbb.2.2 j _ ho1 trivial
               rw [hl'] at this
               exact this
              ·rw [Ic _ _ hj]
               rw [Cc _ _ hj] at hoo
               exact hbb.2.2 j oo hoo hlv
             have hwS:∀ bb,Al cx.Av β σ.objs w bb→(w.setRow b' (setRange cur.toList (o+off*i.size+len*i.size) src).toArray).heap[bb]? = w.heap[bb]? := fun bb hbb=>setRow_other w b' bb _ (fun e=>by
              subst e
              exact hbb.2.2 k _ ho1 trivial (by rw [hl']; rfl))
             refine .inr ⟨b',o+off*i.size,c,_,e',rfl,setRow_heap w b' cur _ e' _ hheap,by simp [Gn]; omega,hroom,fun j hj => ?_⟩
             have hsrcl:o+off*i.size+len*i.size+src.length≤cur.toList.length:=by simp [hsl]; omega
             by_cases hjl:j<len
             ·have hlt:Nat.blt j len=true:=Nat.ble_eq_true_of_le hjl
              simp only [Rg,hlt,cond_true,Yb]
              obtain ⟨q1,q2⟩:=hrow (off+j) (by omega)
              refine ⟨q1,fun q x hx => ?_⟩
              obtain ⟨u,u1,u2,u3⟩:=q2 q x hx
              refine ⟨u,?_,u2,u3.mono hS hwS⟩
              have hq:q<i.size:=by rw [← q1]; exact (List.getElem?_eq_some_iff.1 hx).1
              have hm1:(j+1)*i.size≤len*i.size:=Nat.mul_le_mul_right _ hjl
              have hm2:(j+1)*i.size=j*i.size+i.size:=Nat.succ_mul j i.size
              simp only [List.getElem?_toArray]
              rw [Ga _ _ _ _ hsrcl,if_neg (by omega)]
              have e3:o+(off+j)*i.size+q=o+off*i.size+j*i.size+q:=by rw [Nat.add_mul]; omega
              rw [← e3]
              simpa using u1
             ·have hlt:Nat.blt j len=false:=by
               cases hb:Nat.blt j len with
               | false=>rfl
               | true=>exact absurd (Nat.le_of_ble_eq_true hb) hjl
              simp only [Rg,hlt,cond_false]
              obtain ⟨q1,q2⟩:=hsf (j-len) (by omega)
              refine ⟨q1,fun q x hx => ?_⟩
              obtain ⟨u,u1,u3⟩:=q2 q x hx
              have hul:=(List.getElem?_eq_some_iff.1 u1).1
              refine ⟨u,?_,hsone u (List.mem_of_getElem? u1),u3.mono hS hwS⟩
              have e1:j*i.size=len*i.size+(j-len)*i.size:=by rw [← Nat.add_mul]; congr 1; omega
              simp only [List.getElem?_toArray]
              rw [Ga _ _ _ _ hsrcl,if_pos (by omega)]
              have e2:o+off*i.size+j*i.size+q-(o+off*i.size+len*i.size)=(j-len)*i.size+q:=by omega
              rw [e2]
              exact u1
           ·refine .own _ _ _ _ _ _ ⟨_,Bb _ _ _,Nat.le_refl _,fun _ => ?_⟩
            rw [Db]
            exact ⟨by omega,b',o+off*i.size,rfl,by omega,fun _=>⟨rfl,by omega⟩⟩
         ·obtain ⟨old,ol1,ol2,ol3,ol4,ol5⟩:=src_of (P:=P) h rs hob (W:=i.size) (n:=len) (f:=shF off f) (k2:=some k) (by simp [AcN,hg,Ch])
          rw [hv] at ol3
          exact hgrown old len c _ (shF off f) ol1 ol3 (fun j hj=>⟨(ol5 j hj).1,fun q x hx=>by
           obtain ⟨u,u1,u2⟩:=(ol5 j hj).2 q x hx
           exact ⟨u,u1,ol4 u (List.mem_of_getElem? u1),u2⟩⟩) (by omega) ho (.inr (by rw [ho1]; rfl))
      ·simp at he
    ·simp at he
  ·simp at he
 ·simp at he
end
end Go.Dm

namespace Go.Dm
structure Rec where
 rs:List Nat
 ro:List Nat
 ws:List (Nat×MV)
 wo:List (Nat×Obj)
def Nd (slots:Nat→MV):List (Nat×MV)→Nat→MV
 | []=>slots
 | (t,x)::r=>Nd (Cd slots t x) r
def Fh (τ:St) (r:Rec):St:=⟨Nd τ.slots r.ws,Cb τ.objs r.wo⟩
def OpOK (P:Program) (nt:Nat) (ops:Array Oper) (i:Nat) (r:Rec) (σ:St):Prop :=
 ∀ (cx:Cx P) (β:Bi) (τ:St) (a:Act) (w:World) (Q:Exit→Act→World→Prop),cx.nt=nt→Rel cx β τ a w →
  (∀ t∈r.rs,τ.slots t=σ.slots t)→(∀ k∈r.ro,τ.objs k=σ.objs k) →
  wpOpIn (fen cx.rd) 0 P ops Q i (fun a' w'=>∃ β',Rel cx β' (Fh τ r) a' w') a w
def Cy (σ:St) (R:Nat→Rec) (S:Nat→Bool):Nat→St
 | 0=>σ
 | i+1=>if S i then Fh (Cy σ R S i) (R i) else Cy σ R S i
theorem AiS {slots:Nat→MV} {t:Nat} : ∀ (ws:List (Nat×MV)),t∉ws.map (·.1)→Nd slots ws t=slots t:=by
 intro ws
 induction ws generalizing slots with
 | nil=>intro _; rfl
 | cons p r ih =>
  intro h
  obtain ⟨u,x⟩:=p
  simp at h
  simp only [Nd]
  rw [ih (by simpa using h.2)]
  simp [Cd,De h.1]
theorem Ni {objs:Ar} {t:Nat} : ∀ (ws:List (Nat×Obj)),t∉ws.map (·.1)→Cb objs ws t=objs t:=by
 intro ws
 induction ws generalizing objs with
 | nil=>intro _; rfl
 | cons p r ih =>
  intro h
  obtain ⟨u,x⟩:=p
  simp at h
  simp only [Cb]
  rw [ih (by simpa using h.2),Cc _ _ h.1]
theorem Akb {slots slots':Nat→MV} {t:Nat} : ∀ (ws:List (Nat×MV)),(t∈ws.map (·.1)∨slots t=slots' t)→Nd slots ws t=Nd slots' ws t:=by
 intro ws
 induction ws generalizing slots slots' with
 | nil=>intro h; simpa [Nd] using h
 | cons p r ih =>
  intro h
  obtain ⟨u,x⟩:=p
  simp only [Nd]
  apply ih
  by_cases hu:t=u
  ·right; subst hu; simp [Cd,Ch]
  ·rcases h with h|h
   ·simp [hu] at h
    left; simpa using h
   ·right; simp [Cd,De hu,h]
theorem AjN {objs objs':Ar} {t:Nat} : ∀ (ws:List (Nat×Obj)),(t∈ws.map (·.1)∨objs t=objs' t)→Cb objs ws t=Cb objs' ws t:=by
 intro ws
 induction ws generalizing objs objs' with
 | nil=>intro h; simpa [Cb] using h
 | cons p r ih =>
  intro h
  obtain ⟨u,x⟩:=p
  simp only [Cb]
  apply ih
  by_cases hu:t=u
  ·right; subst hu; rw [Bb,Bb]
  ·rcases h with h|h
   ·simp [hu] at h
    left; simpa using h
   ·right; rw [Cc _ _ hu,Cc _ _ hu]; exact h
theorem AbM {σ:St} {R:Nat→Rec} {S S':Nat→Bool} {t:Nat} : ∀ m,(∀ j,j<m→t∈(R j).ws.map (·.1)→S j=S' j) →
  (Cy σ R S m).slots t=(Cy σ R S' m).slots t:=by
 intro m
 induction m with
 | zero=>intro _; rfl
 | succ m ih =>
  intro h
  have ih':=ih fun j hj=>h j (by omega)
  simp only [Cy]
  by_cases hw:t∈(R m).ws.map (·.1)
  ·rw [h m (by omega) hw]
   split
   ·exact Akb _ (.inl hw)
   ·exact ih'
  ·have e1:∀ X:St,(Fh X (R m)).slots t=X.slots t:=fun X=>AiS _ hw
   split <;> split <;> (try simp only [e1]) <;> exact ih'
theorem Adb {σ:St} {R:Nat→Rec} {S S':Nat→Bool} {t:Nat} : ∀ m,(∀ j,j<m→t∈(R j).wo.map (·.1)→S j=S' j) →
  (Cy σ R S m).objs t=(Cy σ R S' m).objs t:=by
 intro m
 induction m with
 | zero=>intro _; rfl
 | succ m ih =>
  intro h
  have ih':=ih fun j hj=>h j (by omega)
  simp only [Cy]
  by_cases hw:t∈(R m).wo.map (·.1)
  ·rw [h m (by omega) hw]
   split
   ·exact AjN _ (.inl hw)
   ·exact ih'
  ·have e1:∀ X:St,(Fh X (R m)).objs t=X.objs t:=fun X=>Ni _ hw
   split <;> split <;> (try simp only [e1]) <;> exact ih'
theorem St.ext' {x y:St} (h1:∀ t,x.slots t=y.slots t) (h2:∀ k,x.objs k=y.objs k):x=y:=by
 cases x; cases y
 have e1:=funext h1
 have e2:=funext h2
 simp at e1 e2
 subst e1; subst e2; rfl
theorem Xo {σ:St} {R:Nat→Rec} (i:Nat):∀ n,i≤n→Cy σ R (fun j=>decide (j<i)) n=Cy σ R (fun _=>true) i:=by
 have h0:∀ m,m≤i→Cy σ R (fun j=>decide (j<i)) m=Cy σ R (fun _=>true) m:=by
  intro m
  induction m with
  | zero=>intro _; rfl
  | succ m ih=>intro h; simp [Cy,ih (by omega),show m<i by omega]
 intro n hn
 induction n with
 | zero =>
  have:i=0:=by omega
  subst this; rfl
 | succ n ih =>
  by_cases h:i=n+1
  ·subst h; exact h0 _ (Nat.le_refl _)
  ·simp only [Cy]
   rw [if_neg (by simp; omega)]
   exact ih (by omega)
def hits (xs ys:List Nat):Bool:=xs.any fun x=>ys.any fun y=>Nat.beq x y
theorem Sv {xs ys:List Nat} {t:Nat} (h1:t∈xs) (h2:t∈ys):hits xs ys=true:=by
 simp only [hits,List.any_eq_true]
 exact ⟨t,h1,t,h2,Ch t⟩
def Ce {α:Type} : List (Nat×α)→List Nat
 | [] => []
 | (k,_)::r=>k::Ce r
theorem Cm {α:Type} (l:List (Nat×α)):Ce l=l.map (·.1):=by
 induction l with
 | nil=>rfl
 | cons p r ih=>obtain ⟨k,x⟩:=p; simp [Ce,ih]
def clash (x y:Rec):Bool :=
 hits (Ce x.ws) y.rs||hits (Ce x.ws) (Ce y.ws)||hits x.rs (Ce y.ws) ||
 hits (Ce x.wo) y.ro||hits (Ce x.wo) (Ce y.wo)||hits x.ro (Ce y.wo)
def Jb (o:Oper):List Nat:=(o.after.toList.filter fun e=>Region.binds .any e).map (·.on)
inductive Anc (pr:Nat→List Nat) (i:Nat):Nat→Prop where
 | one (j:Nat) (h:i∈pr j):Anc pr i j
 | step (p j:Nat) (h:p∈pr j) (h':Anc pr i p):Anc pr i j
def maskOf (acc:List Nat) (ps:List Nat):Nat:=ps.foldl (fun s p=>s ||| 2 ^ p ||| acc.getD p 0) 0
def masks : List (List Nat)→List Nat→List Nat
 | [],acc=>acc
 | ps::r,acc=>masks r (acc ++ [maskOf acc ps])
theorem Aom (acc:List Nat) (i:Nat):∀ (ps:List Nat) (s:Nat),(ps.foldl (fun s p=>s ||| 2 ^ p ||| acc.getD p 0) s).testBit i=true →
  s.testBit i=true∨i∈ps∨∃ p∈ps,(acc.getD p 0).testBit i=true:=by
 intro ps
 induction ps with
 | nil=>intro s h; exact .inl h
 | cons p r ih =>
  intro s h
  rcases ih _ h with h|h|⟨q,hq,h⟩
  ·simp only [Nat.testBit_or,Bool.or_eq_true] at h
   rcases h with (h|h)|h
   ·exact .inl h
   ·right; left
    rw [Nat.testBit_two_pow] at h
    simp at h
    simp [h]
   ·exact .inr (.inr ⟨p,by simp,h⟩)
  ·exact .inr (.inl (by simp [h]))
  ·exact .inr (.inr ⟨q,by simp [hq],h⟩)
theorem Apf (pr:Nat→List Nat):∀ (l:List (List Nat)) (acc:List Nat),(∀ (j:Nat) ps,l[j]? = some ps→pr (acc.length+j)=ps) →
  (∀ (j i m:Nat),acc[j]? = some m→m.testBit i=true→Anc pr i j)→∀ (j i m:Nat),(masks l acc)[j]? = some m→m.testBit i=true→Anc pr i j:=by
 intro l
 induction l with
 | nil=>intro acc _ h; exact h
 | cons ps r ih =>
  intro acc hp h
  refine ih (acc ++ [maskOf acc ps]) (fun j qs hq => ?_) (fun j i m hj hb => ?_)
  ·have:=hp (j+1) qs (by simpa using hq)
   rw [← this]
   congr 1
   simp
   omega
  ·by_cases hlt:j<acc.length
   ·rw [List.getElem?_append_left hlt] at hj
    exact h j i m hj hb
   ·rw [List.getElem?_append_right (by omega)] at hj
    cases hd:j-acc.length with
    | zero =>
     simp [hd] at hj
     subst hj
     have hj2:j=acc.length:=by omega
     subst hj2
     have hps:=hp 0 ps rfl
     simp only [Nat.add_zero] at hps
     rcases Aom acc i ps 0 hb with h0|h0|⟨p,hp1,h0⟩
     ·simp at h0
     ·exact .one _ (by rw [hps]; exact h0)
     ·refine .step p _ (by rw [hps]; exact hp1) ?_
      cases hg:acc[p]? with
      | none=>simp [hg] at h0
      | some mm=>simp [hg] at h0; exact h p i mm hg h0
    | succ d=>simp [hd] at hj
def AkB (x:Rec) (m:Nat):List Rec→Nat→Bool
 | [],_=>true
 | y::r,i=>(m.testBit i || !(clash y x))&&AkB x m r (i+1)
def indep : List Rec→List Rec→List Nat→Bool
 | _,[],_=>true
 | done,x::r,m::ms=>AkB x m done 0&&indep (done ++ [x]) r ms
 | _,_::_,[]=>false
theorem AoF {x:Rec} {m:Nat} : ∀ (l:List Rec) (s:Nat),AkB x m l s=true→∀ (i:Nat) y,l[i]? = some y→m.testBit (s+i)=true∨clash y x=false:=by
 intro l
 induction l with
 | nil=>intro s _ i y h; simp at h
 | cons z r ih =>
  intro s h i y hy
  simp only [AkB,Bool.and_eq_true,Bool.or_eq_true,Bool.not_eq_true'] at h
  cases i with
  | zero=>simp at hy; subst hy; exact h.1
  | succ i =>
   have:=ih (s+1) h.2 i y (by simpa using hy)
   rwa [show s+1+i=s+(i+1) by omega] at this
theorem AoQ : ∀ (l done:List Rec) (ms:List Nat),indep done l ms=true →
  ∀ (i j:Nat) x y m,i<done.length+j→(done++l)[i]? = some y→l[j]? = some x→ms[j]? = some m→m.testBit i=true∨clash y x=false:=by
 intro l
 induction l with
 | nil=>intro done ms _ i j x y m _ _ hx; simp at hx
 | cons z r ih =>
  intro done ms h i j x y m hij hy hx hm
  cases ms with
  | nil=>simp [indep] at h
  | cons m0 ms =>
   simp only [indep,Bool.and_eq_true] at h
   cases j with
   | zero =>
    simp at hx hm
    subst hx
    subst hm
    rw [List.getElem?_append_left (by omega)] at hy
    have:=AoF done 0 h.1 i y hy
    simpa using this
   | succ j =>
    refine ih (done ++ [z]) ms h.2 i j x y m (by simp; omega) ?_ (by simpa using hx) (by simpa using hm)
    simpa using hy
theorem indep_len : ∀ (l done:List Rec) (ms:List Nat),indep done l ms=true→l.length≤ms.length:=by
 intro l
 induction l with
 | nil=>intro done ms _; simp
 | cons z r ih =>
  intro done ms h
  cases ms with
  | nil=>simp [indep] at h
  | cons m0 ms =>
   simp only [indep,Bool.and_eq_true] at h
   have:=ih _ _ h.2
   simp
   omega
section
variable {P : Program} {nt:Nat} {ops:Array Oper}
def Li (ops:Array Oper) (j:Nat):List Nat:=((ops[j]?).map Jb).getD []
theorem Anc.closed {pr:Nat→List Nat} {L:Nat→Bool} (hcl:∀ j,L j=true→∀ p∈pr j,L p=true) {i j:Nat} (h:Anc pr i j):L j=true→L i=true:=by
 induction h with
 | one j h=>intro hj; exact hcl j hj _ h
 | step p j h _ ih=>intro hj; exact ih (hcl j hj p h)
theorem Anc.ready {pr:Nat→List Nat} {L:Nat→Bool} (hcl:∀ j,L j=true→∀ p∈pr j,L p=true) {i j:Nat} (h:Anc pr i j) (hr:∀ p∈pr j,L p=true):L i=true:=by
 cases h with
 | one _ h=>exact hr i h
 | step p _ h h'=>exact h'.closed hcl (hr p h)
theorem Aob (L:Nat→Bool) (i:Nat) (hi:L i=false):∀ (l:List Nat),i∈l→l.countP (fun j => !(L j||decide (j=i)))<l.countP (fun j => !L j):=by
 have hle:∀ r:List Nat,r.countP (fun j => !(L j||decide (j=i)))≤r.countP (fun j => !L j):=fun r =>
  List.countP_mono_left fun j _ hj=>by
   simp only [Bool.not_or,Bool.and_eq_true] at hj
   exact hj.1
 intro l
 induction l with
 | nil=>intro h; simp at h
 | cons x r ihl =>
  intro hx
  simp only [List.countP_cons]
  by_cases hxi:x=i
  ·subst hxi
   have:=hle r
   simp only [hi,Bool.false_or,decide_true,Bool.not_true,Bool.not_false,if_true]
   simp
   simp at this
   omega
  ·have h3:=ihl (by simpa [Ne.symm hxi] using hx)
   simp only [hxi,decide_false,Bool.or_false]
   omega
def cnt (n:Nat) (L:Nat→Bool):Nat:=(List.range n).countP fun i => !L i
theorem wpAny_run {Q:Exit→Act→World→Prop} {cx:Cx P} (hnt:cx.nt=nt) (σ:St) (R:Nat→Rec)
  (hop:∀ i,i<ops.size→OpOK P nt ops i (R i) (Cy σ R (fun _=>true) i))
  (hind:∀ i j,i<j→j<ops.size→Anc (Li ops) i j∨clash (R i) (R j)=false)
  (hback:∀ j,j<ops.size→∀ p∈Li ops j,p<j)
  (hQ:∀ β a w,Rel cx β (Cy σ R (fun _=>true) ops.size) a w→Q .normal a w) :
  ∀ (fuel:Nat) (listed:Array Bool) (β:Bi) (a:Act) (w:World),listed.size=ops.size→cnt ops.size (fun i=>listed.getD i false)≤fuel →
   (∀ j,listed.getD j false=true→∀ p∈Li ops j,listed.getD p false=true) →
   Rel cx β (Cy σ R (fun i=>listed.getD i false) ops.size) a w→wpAnyIn (fen cx.rd) 0 P .any ops Q fuel listed a w:=by
 have hdone:∀ (listed:Array Bool) β a w,listed.size=ops.size→Region.ready .any ops listed = [] →
   Rel cx β (Cy σ R (fun i=>listed.getD i false) ops.size) a w→Q .normal a w:=by
  intro listed β a w hsz hr hrel
  have hall:∀ i,i<ops.size→listed.getD i false=true:=by
   intro i
   induction i using Nat.strongRecOn with
   | _ i ih =>
    intro hi
    cases hl:listed.getD i false with
    | true=>rfl
    | false =>
     have hmem:i∈Region.ready .any ops listed:=by
      simp only [Region.ready,List.mem_filter,List.mem_range,Bool.and_eq_true,Bool.not_eq_true']
      refine ⟨hi,?_,?_⟩
      ·have:i<listed.size:=by omega
       rw [Array.getD_eq_getD_getElem?] at hl ⊢
       simp [this] at hl ⊢
       exact hl
      ·have ho:ops[i]? = some ops[i]:=Array.getElem?_eq_getElem hi
       rw [ho]
       simp only [Option.map_some,Option.getD_some]
       rw [← Array.all_toList,List.all_eq_true]
       intro e he
       cases hb:Region.binds .any e with
       | false=>simp
       | true =>
        simp only [Bool.not_true,Bool.false_or]
        have hp:e.on∈Li ops i:=by
         simp only [Li,ho,Option.map_some,Option.getD_some,Jb,List.mem_map,List.mem_filter]
         exact ⟨e,⟨he,hb⟩,rfl⟩
        have hlt:=hback i hi _ hp
        exact ih e.on hlt (by omega)
     rw [hr] at hmem
     simp at hmem
  have:Cy σ R (fun i=>listed.getD i false) ops.size=Cy σ R (fun _=>true) ops.size:=by
   apply St.ext'
   ·intro t; exact AbM _ fun j hj _=>hall j hj
   ·intro t; exact Adb _ fun j hj _=>hall j hj
  rw [this] at hrel
  exact hQ β a w hrel
 intro fuel
 induction fuel with
 | zero =>
  intro listed β a w hsz hc hcl hrel
  have hr:Region.ready .any ops listed = []:=by
   cases hh:Region.ready .any ops listed with
   | nil=>rfl
   | cons i r =>
    have hi:i∈Region.ready .any ops listed:=by rw [hh]; simp
    simp only [Region.ready,List.mem_filter,List.mem_range,Bool.and_eq_true,Bool.not_eq_true'] at hi
    have:0<cnt ops.size (fun i=>listed.getD i false):=by
     rw [cnt,List.countP_pos_iff]
     refine ⟨i,List.mem_range.2 hi.1,?_⟩
     have h2:=hi.2.1
     have:i<listed.size:=by omega
     rw [Array.getD_eq_getD_getElem?] at h2 ⊢
     simp [this] at h2 ⊢
     exact h2
    omega
  exact ⟨hr,hdone listed β a w hsz hr hrel⟩
 | succ fuel ih =>
  intro listed β a w hsz hc hcl hrel
  refine ⟨fun hr=>hdone listed β a w hsz hr hrel,fun i hi => ?_⟩
  simp only [Region.ready,List.mem_filter,List.mem_range,Bool.and_eq_true,Bool.not_eq_true'] at hi
  obtain ⟨hin,hnl,hpr⟩:=hi
  have hil:i<listed.size:=by omega
  have hnl':listed.getD i false=false:=by
   rw [Array.getD_eq_getD_getElem?] at hnl ⊢
   simp [hil] at hnl ⊢
   exact hnl
  have hpreds:∀ p∈Li ops i,listed.getD p false=true:=by
   intro p hp
   have ho:ops[i]? = some ops[i]:=Array.getElem?_eq_getElem hin
   rw [ho] at hpr
   simp only [Option.map_some,Option.getD_some] at hpr
   rw [← Array.all_toList,List.all_eq_true] at hpr
   simp only [Li,ho,Option.map_some,Option.getD_some,Jb,List.mem_map,List.mem_filter] at hp
   obtain ⟨e,⟨he,hb⟩,rfl⟩:=hp
   have:=hpr e he
   rw [hb] at this
   simpa using this
  have hconf:∀ j,j<ops.size→(j<i→clash (R j) (R i)=true)→(i<j→clash (R i) (R j)=true)→listed.getD j false=decide (j<i):=by
   intro j hj h1 h2
   rcases Nat.lt_trichotomy j i with hlt|heq|hgt
   ·rcases hind j i hlt hin with h|h
    ·simp only [hlt,decide_true]
     exact h.ready hcl hpreds
    ·rw [h1 hlt] at h; simp at h
   ·subst heq; simp [hnl']
   ·have hd:decide (j<i)=false:=by simp; omega
    rw [hd]
    rcases hind i j hgt hj with h|h
    ·cases hlj:listed.getD j false with
     | false=>rfl
     | true =>
      have:=h.closed (L:=fun i=>listed.getD i false) hcl hlj
      simp only [hnl'] at this
      exact absurd this (by simp)
    ·rw [h2 hgt] at h; simp at h
  have hL':∀ j,(listed.setIfInBounds i true).getD j false=(listed.getD j false||decide (j=i)):=by
   intro j
   by_cases hji:j=i
   ·subst hji; simp [Array.getD_eq_getD_getElem?,hil]
   ·simp [Array.getD_eq_getD_getElem?,Array.getElem?_setIfInBounds_ne (Ne.symm hji),hji]
  refine wpOpIn_mono ?_ (hop i hin cx β _ a w Q hnt hrel ?_ ?_)
  ·rintro a' w' ⟨β',hrel'⟩
   refine ih (listed.setIfInBounds i true) β' a' w' (by simpa using hsz) ?_ ?_ ?_
   ·have hlt:cnt ops.size (fun j=>(listed.setIfInBounds i true).getD j false)<cnt ops.size (fun j=>listed.getD j false):=by
     simp only [cnt,hL']
     exact Aob (fun j=>listed.getD j false) i hnl' _ (List.mem_range.2 hin)
    omega
   ·intro j hj p hp
    rw [hL'] at hj ⊢
    simp only [Bool.or_eq_true,decide_eq_true_eq] at hj ⊢
    rcases hj with hj|hj
    ·exact .inl (hcl j hj p hp)
    ·subst hj; exact .inl (hpreds p hp)
   ·have:Cy σ R (fun j=>(listed.setIfInBounds i true).getD j false) ops.size=Fh (Cy σ R (fun j=>listed.getD j false) ops.size) (R i):=by
     apply St.ext'
     ·intro t
      by_cases hw:t∈(R i).ws.map (·.1)
      ·have e1:(Cy σ R (fun j=>(listed.setIfInBounds i true).getD j false) ops.size).slots t=(Cy σ R (fun j=>decide (j<i+1)) ops.size).slots t:=by
        apply AbM
        intro j hj hwj
        rw [hL',hconf j hj (fun _=>by simp only [clash,Bool.or_eq_true]; exact .inl (.inl (.inl (.inl (.inr (Sv (t:=t) (by rw [Cm]; exact hwj) (by rw [Cm]; exact hw)))))))
         (fun _=>by simp only [clash,Bool.or_eq_true]; exact .inl (.inl (.inl (.inl (.inr (Sv (t:=t) (by rw [Cm]; exact hw) (by rw [Cm]; exact hwj)))))))]
        by_cases h1:j<i
        ·simp [h1]; omega
        ·by_cases h2:j=i
         ·simp [h2]
         ·simp [h1,h2]; omega
       rw [e1,Xo (i+1) _ (by omega)]
       simp only [Cy,if_true,Fh]
       exact Akb _ (.inl hw)
      ·rw [show (Fh (Cy σ R (fun j=>listed.getD j false) ops.size) (R i)).slots t=(Cy σ R (fun j=>listed.getD j false) ops.size).slots t from AiS _ hw]
       apply AbM
       intro j hj hwj
       have:j≠i:=fun e=>hw (e▸hwj)
       rw [hL']
       simp [this]
     ·intro t
      by_cases hw:t∈(R i).wo.map (·.1)
      ·have e1:(Cy σ R (fun j=>(listed.setIfInBounds i true).getD j false) ops.size).objs t=(Cy σ R (fun j=>decide (j<i+1)) ops.size).objs t:=by
        apply Adb
        intro j hj hwj
        rw [hL',hconf j hj (fun _=>by simp only [clash,Bool.or_eq_true]; exact .inl (.inr (Sv (t:=t) (by rw [Cm]; exact hwj) (by rw [Cm]; exact hw))))
         (fun _=>by simp only [clash,Bool.or_eq_true]; exact .inl (.inr (Sv (t:=t) (by rw [Cm]; exact hw) (by rw [Cm]; exact hwj))))]
        by_cases h1:j<i
        ·simp [h1]; omega
        ·by_cases h2:j=i
         ·simp [h2]
         ·simp [h1,h2]; omega
       rw [e1,Xo (i+1) _ (by omega)]
       simp only [Cy,if_true,Fh]
       exact AjN _ (.inl hw)
      ·rw [show (Fh (Cy σ R (fun j=>listed.getD j false) ops.size) (R i)).objs t=(Cy σ R (fun j=>listed.getD j false) ops.size).objs t from Ni _ hw]
       apply Adb
       intro j hj hwj
       have:j≠i:=fun e=>hw (e▸hwj)
       rw [hL']
       simp [this]
    rw [this]
    exact hrel'
  ·intro t ht
   rw [← Xo i ops.size (by omega)]
   apply AbM
   intro j hj hwj
   exact hconf j hj (fun _=>by simp only [clash,Bool.or_eq_true]; exact .inl (.inl (.inl (.inl (.inl (Sv (t:=t) (by rw [Cm]; exact hwj) ht))))))
    (fun _=>by simp only [clash,Bool.or_eq_true]; exact .inl (.inl (.inl (.inr (Sv (t:=t) ht (by rw [Cm]; exact hwj))))))
  ·intro t ht
   rw [← Xo i ops.size (by omega)]
   apply Adb
   intro j hj hwj
   exact hconf j hj (fun _=>by simp only [clash,Bool.or_eq_true]; exact .inl (.inl (.inr (Sv (t:=t) (by rw [Cm]; exact hwj) ht))))
    (fun _=>by simp only [clash,Bool.or_eq_true]; exact .inr (Sv (t:=t) ht (by rw [Cm]; exact hwj)))
end
end Go.Dm

namespace Go.Dm
section
variable {P : Program} {T:Ty} {cx:Cx P} {β:Bi} {σ:St} {a:Act} {w:World}
theorem Aen (h l:Nat):Fz h l=h-l:=by
 unfold Fz
 cases e:Nat.beq l 0 with
 | true=>have:=Nat.eq_of_beq_eq_true e; simp [this]
 | false=>rfl
theorem Em {k:IntKind} {z:Int} {y:Nat} {c:BoundsCode} (h0:0≤z) (h1:z≤(y:Int)):(Instr.sliceBound (.int k z) y c).run P w = .ok z.toNat w:=by
 simp [Instr.sliceBound,asIntOf,h0,h1]
def bndOK (v:Option Value) (z:Option Int):Prop:=(v=none∧z=none)∨∃ k n,v=some (.int k n)∧z=some n
theorem Rz {b:Bool} {len cap:Nat} {lo hi:Option Value} {zl zh:Option Int} (hl:bndOK lo zl) (hh:bndOK hi zh)
  (h0:0≤zl.getD 0) (h1:zl.getD 0≤zh.getD len) (h2:zh.getD len≤(len:Int)) (hc:len≤cap) :
  (Instr.sliceBounds b len cap lo hi none).run P w = .ok ((zl.getD 0).toNat,(zh.getD len).toNat,cap) w:=by
 rcases hh with ⟨rfl,rfl⟩|⟨kh,nh,rfl,rfl⟩
 ·rcases hl with ⟨rfl,rfl⟩|⟨kl,nl,rfl,rfl⟩
  ·simp [Instr.sliceBounds]
  ·simp only [Option.getD_some,Option.getD_none] at h0 h1 h2 ⊢
   simp [Instr.sliceBounds,Em h0 h1]
 ·rcases hl with ⟨rfl,rfl⟩|⟨kl,nl,rfl,rfl⟩
  ·simp only [Option.getD_some,Option.getD_none] at h0 h1 h2 ⊢
   simp [Instr.sliceBounds,Em (P:=P) (w:=w) (k:=kh) (y:=cap) (show (0:Int)≤nh by omega) (by omega)]
  ·simp only [Option.getD_some] at h0 h1 h2 ⊢
   have hb:(Instr.sliceBound (.int kl nl) nh.toNat .sliceB).run P w = .ok nl.toNat w:=Em h0 (by omega)
   simp [Instr.sliceBounds,Em (P:=P) (w:=w) (k:=kh) (y:=cap) (show (0:Int)≤nh by omega) (by omega),hb]
theorem Rep.slW {S:Nat→Prop} {w:World} {v:Value} {fl:Fl} {W W':Nat} {f:Nat→List PV} (h:Rep S w v (.sl fl W 0 f)):Rep S w v (.sl fl W' 0 f):=by
 cases h with
 | slnil _ _ _ h=>exact .slnil _ _ _ h
 | sl _ _ _ cap b o _ c hfl hcap hs hlen hc h1 hr=>exact .sl _ _ _ _ _ _ _ c hfl hcap hs (fun i hi=>by omega) (fun i j hi=>by omega) (fun i j hi=>by omega) (fun i j x hi=>by omega)
theorem AdE (hT:Gk P T) (h:Rel cx β σ a w) {t:Nat} {ox:Operand} (hx:An ox=true) {lo hi:Option Value} {zl zh:Option Int} (hl:bndOK lo zl) (hh:bndOK hi zh)
  {y:MV} {wo obl} {ob:Nat→Option Obj} (hob:∀ k o,ob k=some o→σ.objs k=some o) (he:Kg T t ob (ev σ ox) zl zh=some (y,wo,obl)) (ho:All obl):Out P cx σ a (Instr.sliceAt t (a.eval ox) lo hi none) w y wo:=by
 have rx:=Ba h ox hx
 unfold Kg at he
 split at he
 ·rename_i s1 s2 s3 s4 s hi2 hp
  have hu:=(hT t _ hi2).str rfl
  simp only [Option.some.injEq,Prod.mk.injEq] at he
  obtain ⟨rfl,rfl,rfl⟩:=he
  simp only [All,and_true] at ho
  obtain ⟨h0,h1,h2⟩:=ho
  rw [hp] at rx
  obtain ⟨ex,_⟩:=rx.inv_v
  refine Aqm h (v := .string (s.extract (zl.getD 0).toNat (zh.getD s.size).toNat)) ?_ (.mk_v rfl)
  rw [ex]
  simp only [Instr.sliceAt,Sem.run_bind,run_underlying hu,Result.andThen_ok,Instr.slice]
  simp [Rz (P:=P) (w:=w) (b:=false) (cap:=s.size) hl hh h0 h1 h2 (Nat.le_refl _)]
 ·rename_i e s1 s2 s3 s4 fl W n f hi2 hp
  have hu:=(hT t _ hi2).slice rfl
  split at he
  ·rename_i i hi3
   have hF:=hT e i hi3
   cases hW:(Nat.beq W i.size||Nat.beq n 0) with
   | false=>simp [hW] at he
   | true =>
    simp only [hW,cond_true,Option.some.injEq,Prod.mk.injEq] at he
    obtain ⟨rfl,rfl,rfl⟩:=he
    simp only [All,and_true] at ho
    obtain ⟨h0,h1,h2⟩:=ho
    rw [hp] at rx
    obtain ⟨W',eW,rp⟩:∃ W',W'=i.size∧Rep (Al cx.Av β σ.objs w) w (a.eval ox) (.sl fl W' n f):=by
     rcases (Bool.or_eq_true _ _).mp hW with q|q
     ·exact ⟨W,Nat.eq_of_beq_eq_true q,rx.inv_p⟩
     ·have q:=Nat.eq_of_beq_eq_true q
      subst q
      exact ⟨i.size,rfl,Rep.slW rx.inv_p⟩
    rw [← eW]
    rw [Aen]
    generalize a.eval ox=v at rp
    cases rp with
    | slnil _ _ _ hf =>
     have e0:((0:Nat):Int)=0:=rfl
     rw [e0] at h1 h2 ⊢
     have e1:(zl.getD 0).toNat=0:=by omega
     have e2:(zh.getD 0).toNat=0:=by omega
     refine Aqm h (v := .slice none 0 0) ?_ ?_
     ·simp only [Instr.sliceAt,Sem.run_bind,run_underlying hu,Result.andThen_ok,Instr.slice]
      have:=Rz (P:=P) (w:=w) (b:=true) (len:=0) (cap:=0) hl hh h0 (by rw [e0]; exact h1) (by rw [e0]; exact h2) (Nat.le_refl _)
      rw [this,e0]
      simp [hF.sizeOf,e1,e2]
     ·rw [e1,e2]
      exact .p _ _ (.slnil _ _ _ (by simp))
    | sl _ _ _ cap b o _ c hfl hcap hs hlen hc hone hr =>
     have hrun:=Rz (P:=P) (w:=w) (b:=true) (len:=n) (cap:=cap) hl hh h0 h1 h2 hcap
     generalize hL:(zl.getD 0).toNat=l at hrun ⊢
     generalize hH:(zh.getD (n:Int)).toNat=hh' at hrun ⊢
     have hlh:l≤hh':=by omega
     have hhn:hh'≤n:=by omega
     by_cases hcl:cap=l
     ·-- nothing is left of it
      have hz:hh'-l=0:=by omega
      refine Aqm h (v := .slice (some (at_ b o)) (hh'-l) (cap-l)) ?_ ?_
      ·simp only [Instr.sliceAt,Sem.run_bind,run_underlying hu,Result.andThen_ok,Instr.slice]
       rw [hrun]
       simp [hF.sizeOf,hcl]
      ·rw [hz]
       exact .p _ _ (.sl _ _ _ _ _ _ _ (fun _ _=>undef) (by simp) (Nat.zero_le _) (fun e=>absurd rfl e) (fun i hi=>by omega) (fun i j hi=>by omega) (fun i j hi=>by omega) (fun i j x hi=>by omega))
     ·refine Aqm h (v := .slice (some (at_ b (o+l*W'))) (hh'-l) (cap-l)) ?_ ?_
      ·simp only [Instr.sliceAt,Sem.run_bind,run_underlying hu,Result.andThen_ok,Instr.slice]
       rw [hrun]
       simp [hF.sizeOf,hcl,at_,Addr.add_lit,eW]
      ·refine .p _ _ (.sl _ _ _ _ _ _ _ (fun i j=>c (l+i) j) (by simp) (by omega) (fun hn=>hs (by omega)) (fun i hi => ?_) (fun i j hi hj => ?_) (fun i j hi hj=>hone _ _ (by omega) hj) (fun i j x hi hx => ?_))
       ·rw [Yb]; exact hlen _ (by omega)
       ·have:=hc (l+i) j (by omega) hj
        rw [← this]
        congr 2
        rw [Nat.add_mul]
        omega
       ·rw [Yb] at hx
        exact hr _ _ _ (by omega) hx
  ·simp at he
 ·rename_i e s1 s2 s3 s4 k g off len hi2 hp
  have hu:=(hT t _ hi2).slice rfl
  split at he
  ·rename_i i W n f hi3 hg
   have hF:=hT e i hi3
   cases hW:Nat.beq W i.size with
   | false=>simp [hW] at he
   | true =>
   have eW:=Nat.eq_of_beq_eq_true hW
   simp only [hW,cond_true,Option.some.injEq,Prod.mk.injEq] at he
   obtain ⟨rfl,rfl,rfl⟩:=he
   simp only [All,and_true] at ho
   obtain ⟨h0,h1,h2⟩:=ho
   rw [hp] at rx
   obtain ⟨base,c,hv,hk⟩:=rx.inv_own
   have ho1:=hob _ _ (Es hg)
   obtain ⟨hle,hlo⟩:=hk.get ho1
   have hrow:=h.ob k _ ho1
   rw [Aen,AhS,hv]
   have hlc:len≤c:=by
    rcases hrow with ⟨hl',hn0⟩|⟨b,o,cap,cur,e',hl',hheap,hcap,hnn,_⟩
    ·rw [hl'] at hlo; have:=hlo.2; omega
    ·rw [hl'] at hlo
     obtain ⟨b',o',_,hcc,_⟩:=hlo
     omega
   have hrun:=Rz (P:=P) (w:=w) (b:=true) (len:=len) (cap:=c) hl hh h0 h1 h2 hlc
   generalize hL:(zl.getD 0).toNat=l at hrun ⊢
   generalize hH:(zh.getD (len:Int)).toNat=hh' at hrun ⊢
   have hlh:l≤hh':=by omega
   have hhn:hh'≤len:=by omega
   refine Aqm h (v := .slice (if c=l then base else base.map (·.add (l*i.size))) (hh'-l) (c-l)) ?_ (.own _ _ _ _ _ _ ⟨_,ho1,Nat.le_refl _,fun _=>⟨by omega,?_⟩⟩)
   ·simp only [Instr.sliceAt,Sem.run_bind,run_underlying hu,Result.andThen_ok,Instr.slice]
    rw [hrun]
    simp [hF.sizeOf]
   ·rcases hrow with ⟨hl',hn0⟩|⟨b,o,cap,cur,e',hl',hheap,hcap,hnn,_⟩
    ·rw [hl'] at hlo ⊢
     obtain ⟨hb,rfl,rfl,rfl⟩:=hlo
     refine ⟨?_,by omega,by omega,by omega⟩
     have:l=0:=by omega
     subst this
     simpa using hb
    ·rw [hl'] at hlo ⊢
     obtain ⟨b',o',hb,hcc,hadr⟩:=hlo
     subst hb
     by_cases hcl:c=l
     ·rw [if_pos hcl]
      exact ⟨b',o',rfl,by omega,fun hne=>by omega⟩
     ·rw [if_neg hcl]
      refine ⟨b',o'+l*i.size,by simp [at_,Addr.add_lit],by omega,fun hne => ?_⟩
      obtain ⟨q1,q2⟩:=hadr (by omega)
      exact ⟨q1,by rw [q2,Nat.add_mul,eW]; omega⟩
  ·simp at he
 ·simp at he
theorem Apm (hT:Gk P T) (h:Rel cx β σ a w) {t:Nat} {ox:Operand} (hx:An ox=true) {k1 k2:IntKind}
  {y:MV} {wo obl} (he:Pi T t (ev σ ox)=some (y,wo,obl)):Out P cx σ a (Instr.sliceAt t (a.eval ox) none (some (.int k1 0)) (some (.int k2 0))) w y wo:=by
 have rx:=Ba h ox hx
 unfold Pi at he
 split at he
 ·rename_i e s1 s2 s3 s4 fl W n f hi2 hp
  have hu:=(hT t _ hi2).slice rfl
  cases hee:Dm.assoc T e with
  | none=>simp [hee] at he
  | some i =>
  simp only [hee,Option.isSome_some,cond_true,Option.some.injEq,Prod.mk.injEq] at he
  obtain ⟨rfl,rfl,rfl⟩:=he
  rw [hp] at rx
  have rp:=rx.inv_p
  have hb:∀ len cap:Nat,(Instr.sliceBounds true len cap none (some (.int k1 0)) (some (.int k2 0))).run P w = .ok (0,0,0) w:=by
   intro len cap
   have q1:(Instr.sliceBound (.int k2 0) cap .slice3Acap).run P w = .ok 0 w:=Em (Int.le_refl _) (by omega)
   have q2:(Instr.sliceBound (.int k1 0) 0 .slice3B).run P w = .ok 0 w:=Em (Int.le_refl _) (by omega)
   simp [Instr.sliceBounds,q1,q2]
  have hz:=(hT e i hee).sizeOf w
  generalize a.eval ox=v at rp
  cases rp with
  | slnil =>
   refine Aqm h (v := .slice none 0 0) ?_ (.p _ _ (.slnil _ _ _ (by simp)))
   simp only [Instr.sliceAt,Sem.run_bind,run_underlying hu,Result.andThen_ok,Instr.slice]
   rw [hb]
   simp [hz]
  | sl _ _ _ cap b o _ c hfl hcap hs hlen hc hone hr =>
   refine Aqm h (v := .slice (some (at_ b o)) 0 0) ?_ (.p _ _ (.sl _ _ _ _ _ _ _ (fun _ _=>undef) (by simp) (Nat.zero_le _) (fun e=>absurd rfl e) (fun i hi=>by omega) (fun i j hi=>by omega) (fun i j hi=>by omega) (fun i j x hi=>by omega)))
   simp only [Instr.sliceAt,Sem.run_bind,run_underlying hu,Result.andThen_ok,Instr.slice]
   rw [hb]
   simp [hz]
 ·simp at he
def Vr (P:Program) (t:Nat):Prop :=
 P.stoodInHeld t=false∧P.eqGuardType P.depth t=false∧(P.fieldsOf t).toList.all (fun f=>f.name != "_")=true
theorem AdF {ft:Nat} {i:TI} (hF:TyFact P ft i) (hk:i.kd.agg=false) {vs:Array Value} {off:Nat} {v:Value} (hv:vs[off]? = some v):(part ft vs off).run P w = .ok v w:=by
 simp [part,hF.isAgg,hk,hv]
theorem Apy {ft:Nat} {i:TI} (hF:TyFact P ft i) {x y:PV} (hx:Hq i.kd x=true) (hy:Hq i.kd y=true) {b:Bool} (hb:Aax x y=some b) {u v:Value} {S:Nat→Prop}
  (ru:Rep S w u x) (rv:Rep S w v y) (d:Nat):(Op.equalIn (d+1) ft u v).run P w = .ok b w∧i.kd.agg=false:=by
 cases ru with
 | v u hu =>
  cases rv with
  | v v hv =>
   cases hk:i.kd with
   | int k =>
    rw [hk] at hx hy
    cases u <;> simp [Hq] at hx
    cases v <;> simp [Hq] at hy
    rename_i k1 n1 k2 n2
    simp only [Aax] at hb
    split at hb
    ·rename_i hkk
     subst hkk
     simp at hb
     subst hb
     exact ⟨run_equalIn_int w d ft k1 k n1 n2 (hF.int hk),rfl⟩
    ·simp at hb
   | str =>
    rw [hk] at hx hy
    cases u <;> simp [Hq] at hx
    cases v <;> simp [Hq] at hy
    simp [Aax] at hb
    subst hb
    exact ⟨run_equalIn_string w d ft _ _ (hF.str hk),rfl⟩
   | bool =>
    rw [hk] at hx hy
    cases u <;> simp [Hq] at hx
    cases v <;> simp [Hq] at hy
    simp [Aax] at hb
    subst hb
    refine ⟨run_equalIn_bool' w d ft _ _ ?_,rfl⟩
    obtain ⟨dd,h1,h2,_⟩:=hF.under
    rw [hk] at h2
    cases dd <;> simp_all [Kd.of]
   | _=>rw [hk] at hx; simp [Hq] at hx
  | _=>simp [Aax] at hb
 | _=>simp [Aax] at hb
theorem Age (hT:Gk P T) {S:Nat→Prop} {us vs:Array Value} {ps qs:List PV}
  (hu:∀ (i:Nat) x,ps[i]? = some x→∃ u,us[i]? = some u∧Rep S w u x) (hv:∀ (i:Nat) x,qs[i]? = some x→∃ u,vs[i]? = some u∧Rep S w u x) (d:Nat) :
  ∀ (fields:List Field) (fs:List (Nat×Nat)) (b:Bool),fields.map (fun f=>(f.offset,f.type))=fs→fields.all (fun f=>f.name != "_")=true→eqFields T fs ps qs=some b →
   (Op.eqFields (d+1) us vs fields).run P w = .ok b w:=by
 intro fields
 induction fields with
 | nil =>
  intro fs b h _ he
  subst h
  simp [eqFields] at he
  subst he
  simp [Op.eqFields]
 | cons f r ih =>
  intro fs b h hn he
  subst h
  simp only [List.all_cons,Bool.and_eq_true] at hn
  simp only [List.map_cons,eqFields] at he
  split at he
  ·rename_i i x y hi hx hy
   have hF:=hT _ _ hi
   cases hb:(Hq i.kd x&&Hq i.kd y) with
   | false=>simp [hb] at he
   | true =>
    simp only [hb,cond_true] at he
    simp only [Bool.and_eq_true] at hb
    split at he
    ·rename_i b1 c1 h1 h2
     simp at he
     subst he
     obtain ⟨u,hu1,hu2⟩:=hu _ _ hx
     obtain ⟨v,hv1,hv2⟩:=hv _ _ hy
     obtain ⟨hr,hagg⟩:=Apy (P:=P) (w:=w) hF hb.1 hb.2 h1 hu2 hv2 d
     have hn1:f.name ≠ "_" := by simpa using hn.1
     simp only [Op.eqFields,hn1,ne_eq,not_false_eq_true,if_true,Sem.run_bind,AdF hF hagg hu1,AdF hF hagg hv1,Result.andThen_ok,hr]
     cases b1 with
     | false=>simp
     | true=>simpa using ih _ _ rfl hn.2 h2
    ·simp at he
  ·simp at he
theorem snd_eq (hT:Gk P T) (hE:∀ t i,assoc T t=some i→i.eq=true→Vr P t) (h:Rel cx β σ a w) {op:BinOp} {t:Nat} {ox oy:Operand} (hx:An ox=true) (hy:An oy=true) {y:MV} {wo obl}
  (he:effEq T op t (ev σ ox) (ev σ oy)=some (y,wo,obl)) :
  Out P cx σ a (do eqGuard op t ox oy (a.eval ox) (a.eval oy); binOp op t (a.eval ox) (a.eval oy)) w y wo:=by
 have rx:=Ba h ox hx
 have ry:=Ba h oy hy
 unfold effEq at he
 split at he
 case h_2=>simp at he
 rename_i fs s1 s2 s3 cs ds hi hc hd
 obtain ⟨e1,e2,e3⟩:=hE t _ hi rfl
 obtain ⟨fields,hu,hfs⟩:=(hT t _ hi).struct rfl
 have hfo:P.fieldsOf t=fields:=by simp [Program.fieldsOf,hu]
 split at he
 case h_2=>simp at he
 rename_i ps qs hps hqs
 split at he
 case h_2=>simp at he
 rename_i b hb
 obtain ⟨us,hus,hul,hur⟩:=Afj rx hc
 obtain ⟨vs,hvs,hvl,hvr⟩:=Afj ry hd
 have key:∀ (us:Array Value) (cs:List MV) (ps:List PV),us.size=cs.length→pures cs=some ps →
   (∀ (i:Nat) y,cs[i]? = some y→RelV β σ.objs (Al cx.Av β σ.objs w) w (us.getD i undef) y∧(us.getD i undef).oneCell'=true) →
   ∀ (i:Nat) x,ps[i]? = some x→∃ u,us[i]? = some u∧Rep (Al cx.Av β σ.objs w) w u x:=by
  intro us cs ps hl hp hr i x hx
  have hcs:=Fw hp
  have hlt:i<us.size:=by rw [hl,hcs]; simpa using (List.getElem?_eq_some_iff.1 hx).1
  have:=(hr i (.p x) (by rw [hcs,List.getElem?_map,hx]; rfl)).1.inv_p
  exact ⟨us[i],Array.getElem?_eq_getElem hlt,by simpa [Array.getD_eq_getD_getElem?,hlt] using this⟩
 have hrun:=Age (P:=P) (w:=w) hT (key us cs ps hul hps hur) (key vs ds qs hvl hqs hvr) 9998 fields.toList fs b hfs (by rw [← hfo]; exact e3) hb
 have heq:(Op.equalIn 10000 t (.agg us) (.agg vs)).run P w = .ok b w:=by
  rw [run_equalIn_struct w 9999 t us vs (by rw [hfo]; exact hu) e1,hfo]
  exact hrun
 rw [hus,hvs]
 cases op <;> simp at he
 ·obtain ⟨rfl,rfl,rfl⟩:=he
  refine Aqm h (v := .bool b) ?_ (.mk_v rfl)
  rw [Sem.run_bind,run_eqGuard_agg w _ _ _ _ _ _ e2,Result.andThen_ok,run_eql_struct,heq]
  rfl
 ·obtain ⟨rfl,rfl,rfl⟩:=he
  refine Aqm h (v := .bool !b) ?_ (.mk_v rfl)
  rw [Sem.run_bind,run_eqGuard_agg w _ _ _ _ _ _ e2,Result.andThen_ok,run_neq_struct,heq]
  rfl
theorem Aly (d:Nat) (t e:TypeId) (b:Option Addr) (n c:Nat) (h:P.underlying t=some (.slice e)):(Op.equalIn (d+1) t (.slice b n c) (.slice none 0 0)).run P w = .ok b.isNone w:=by
 cases b <;> simp [Op.equalIn,run_underlying h]
theorem AbE (t e:TypeId) (b:Option Addr) (n c:Nat) (h:P.underlying t=some (.slice e)):(binOp .eql t (.slice b n c) (.slice none 0 0)).run P w = .ok (.bool b.isNone) w:=by
 simp only [binOp]
 simp [Op.equal,Op.maxDepth,Aly 9999 t e b n c h]
theorem AbD (t e:TypeId) (b:Option Addr) (n c:Nat) (h:P.underlying t=some (.slice e)):(binOp .neq t (.slice b n c) (.slice none 0 0)).run P w = .ok (.bool (!b.isNone)) w:=by
 simp only [binOp]
 simp [Op.equal,Op.maxDepth,Aly 9999 t e b n c h]
theorem snd_nilEq (hT:Gk P T) (h:Rel cx β σ a w) {op:BinOp} {t:Nat} {ox oy:Operand} (hx:An ox=true) (hy:An oy=true) {y:MV} {wo obl}
  (he:AeK T op t (ev σ ox) (ev σ oy)=some (y,wo,obl)) :
  Out P cx σ a (do eqGuard op t ox oy (a.eval ox) (a.eval oy); binOp op t (a.eval ox) (a.eval oy)) w y wo:=by
 have rx:=Ba h ox hx
 have ry:=Ba h oy hy
 unfold AeK at he
 split at he
 case h_2=>simp at he
 rename_i e s1 s2 s3 s4 fl W n f W2 n2 f2 hi hp hq
 have hu:=(hT t _ hi).slice rfl
 rw [hp] at rx
 rw [hq] at ry
 have rpx:=rx.inv_p
 have rpy:=ry.inv_p
 have hy0:a.eval oy = .slice none 0 0:=by
  generalize a.eval oy=v at rpy
  cases rpy with
  | slnil=>rfl
  | sl _ _ _ _ _ _ _ _ hfl=>exact absurd rfl hfl.1
 have hxn:fl = .nil→a.eval ox = .slice none 0 0:=by
  intro e
  subst e
  generalize a.eval ox=v at rpx
  cases rpx with
  | slnil=>rfl
  | sl _ _ _ _ _ _ _ _ hfl=>exact absurd rfl hfl.1
 have hxs:fl = .nn→∃ b n c,a.eval ox = .slice (some b) n c:=by
  intro e
  subst e
  generalize a.eval ox=v at rpx
  cases rpx with
  | slnil _ _ _ hf=>exact absurd rfl hf
  | sl=>exact ⟨_,_,_,rfl⟩
 rw [hy0]
 split at he
 case h_5=>simp at he
 ·have:=hxn rfl
  simp only [Option.some.injEq,Prod.mk.injEq] at he
  obtain ⟨rfl,rfl,rfl⟩:=he
  rw [this]
  refine Aqm h (v := .bool true) ?_ (.mk_v rfl)
  first|(simp [eqGuard,AbE _ _ _ _ _ hu]; done)|(simp [eqGuard,AbD _ _ _ _ _ hu]; done)
 ·obtain ⟨b,n,c,hv⟩:=hxs rfl
  simp only [Option.some.injEq,Prod.mk.injEq] at he
  obtain ⟨rfl,rfl,rfl⟩:=he
  rw [hv]
  refine Aqm h (v := .bool false) ?_ (.mk_v rfl)
  first|(simp [eqGuard,AbE _ _ _ _ _ hu]; done)|(simp [eqGuard,AbD _ _ _ _ _ hu]; done)
 ·have:=hxn rfl
  simp only [Option.some.injEq,Prod.mk.injEq] at he
  obtain ⟨rfl,rfl,rfl⟩:=he
  rw [this]
  refine Aqm h (v := .bool false) ?_ (.mk_v rfl)
  first|(simp [eqGuard,AbE _ _ _ _ _ hu]; done)|(simp [eqGuard,AbD _ _ _ _ _ hu]; done)
 ·obtain ⟨b,n,c,hv⟩:=hxs rfl
  simp only [Option.some.injEq,Prod.mk.injEq] at he
  obtain ⟨rfl,rfl,rfl⟩:=he
  rw [hv]
  refine Aqm h (v := .bool true) ?_ (.mk_v rfl)
  first|(simp [eqGuard,AbE _ _ _ _ _ hu]; done)|(simp [eqGuard,AbD _ _ _ _ _ hu]; done)
theorem Apl (hT:Gk P T) (h:Rel cx β σ a w) {op:BinOp} {t:Nat} {ox oy:Operand} (hx:An ox=true) (hy:An oy=true) {y:MV} {wo obl}
  (he:AcP T op t (ev σ ox) (ev σ oy)=some (y,wo,obl)) :
  Out P cx σ a (do eqGuard op t ox oy (a.eval ox) (a.eval oy); binOp op t (a.eval ox) (a.eval oy)) w y wo:=by
 have rx:=Ba h ox hx
 have ry:=Ba h oy hy
 unfold AcP at he
 split at he
 case h_2=>simp at he
 rename_i s1 s2 s3 s4 p q hi hp hq
 rw [hp] at rx
 rw [hq] at ry
 obtain ⟨e1,h1⟩:=rx.inv_v
 obtain ⟨e2,h2⟩:=ry.inv_v
 have hF:=hT t _ hi
 have hu:P.underlying t=some .bool:=by
  obtain ⟨dd,h1,h2,_⟩:=hF.under
  cases dd <;> simp [Kd.of] at h2
  exact h1
 have heq:(Op.equalIn 10000 t (.bool p) (.bool q)).run P w = .ok (p==q) w:=run_equalIn_bool' w 9999 t p q hu
 rw [e1,e2]
 cases op <;> simp at he
 ·obtain ⟨rfl,rfl,rfl⟩:=he
  refine Aqm h (v := .bool (p==q)) ?_ (.mk_v rfl)
  simp [eqGuard,binOp,Op.equal,Op.maxDepth,heq]
 ·obtain ⟨rfl,rfl,rfl⟩:=he
  refine Aqm h (v := .bool (p != q)) ?_ (.mk_v rfl)
  simp [eqGuard,binOp,Op.equal,Op.maxDepth,heq,bne]
theorem snd_bin2 (hT:Gk P T) (hE:∀ t i,assoc T t=some i→i.eq=true→Vr P t) (h:Rel cx β σ a w) {op:BinOp} {t:Nat} {ox oy:Operand} (hx:An ox=true) (hy:An oy=true) {y:MV} {wo obl}
  (he:AbR T op t (ev σ ox) (ev σ oy)=some (y,wo,obl)) (ho:All obl) :
  Out P cx σ a (do eqGuard op t ox oy (a.eval ox) (a.eval oy); binOp op t (a.eval ox) (a.eval oy)) w y wo:=by
 unfold AbR at he
 split at he
 ·rename_i e hb
  rw [he] at hb
  exact snd_bin (t2:=t) h hx hy hb ho
 ·split at he
  ·rename_i e hb
   rw [he] at hb
   exact snd_eq hT hE h hx hy hb
  ·split at he
   ·rename_i e hb
    rw [he] at hb
    exact Apl hT h hx hy hb
   ·exact snd_nilEq hT h hx hy he
theorem Rel.free (h:Rel cx β σ a w) (w1:World) (ob:Go.Obj) (hw1:w1.heap=w.heap.push ob∧w1.os=w.os∧w1.tape=w.tape∧w1.output=w.output) :
  Rel cx β σ a w1∧∀ b,Al cx.Av β σ.objs w b→Al cx.Av β σ.objs w1 b:=by
 have hsz:w1.heap.size=w.heap.size+1:=by simp [hw1.1]
 have hlt:∀ b,b<w.heap.size→w1.heap[b]? = w.heap[b]? := fun b hb=>by
  rw [hw1.1]
  simp [Array.getElem?_push,Nat.ne_of_lt hb]
 have hS:∀ b,Al cx.Av β σ.objs w b→Al cx.Av β σ.objs w1 b:=fun b hb=>⟨by have:=hb.1; omega,hb.2.1,hb.2.2⟩
 have hw:∀ b,Al cx.Av β σ.objs w b→w1.heap[b]? = w.heap[b]? := fun b hb=>hlt b hb.1
 refine ⟨⟨h.nd_mono hw,h.sz,fun t=>(h.sl t).mono (Grows.refl _ _) hS hw,fun k o ho => ?_,fun k o b ho hl hb => ?_,h.inj,?_,h.avo,h.avlt,h.mle,h.oloc⟩,hS⟩
 ·by_cases hl:o.body.live
  ·exact (h.ob k o ho).mono (Grows.refl _ _) hS hw fun b hb=>hlt b (h.blk k o b ho hl hb).1
  ·cases hbd:o.body with
   | dead=>trivial
   | box cs=>simp [hbd,Body.live] at hl
   | row W n f=>simp [hbd,Body.live] at hl
   | mp z has f=>simp [hbd,Body.live] at hl
   | mq q=>simp [hbd,Body.live] at hl
 ·have:=h.blk k o b ho hl hb
  exact ⟨by omega,this.2⟩
 ·have hk:=h.kept
  exact ⟨hw1.2.1.trans hk.os,hw1.2.2.1.trans hk.tape,hw1.2.2.2.trans hk.output,by have:=hk.size; omega,fun b hb hno=>(hlt b (Nat.lt_of_lt_of_le hb hk.size)).trans (hk.block b hb hno)⟩
theorem Aoj (h:Array Go.Obj) (o:Go.Obj) (f:Go.Obj→Go.Obj):(h.push o).modify h.size f=h.push (f o):=by
 apply Array.ext
 ·simp
 ·intro i h1 h2
  rw [Array.getElem_modify]
  by_cases hi:h.size=i
  ·subst hi; simp
  ·have:i<h.size:=by simp at h2; omega
   simp [hi,Array.getElem_push,this]
theorem byte_get (str:ByteArray) (i:Nat) (hi:i<str.size):(str.data.map fun b=>Value.int .u8 b.toNat)[i]? = some (.int .u8 (Br str i)):=by
 have hid:i<str.data.size:=hi
 have hb:str[i]? = some str.data[i]:=by
  rw [getElem?_pos str i hi]
  rfl
 rw [Array.getElem?_map,Array.getElem?_eq_getElem hid]
 simp only [Option.map_some,Br,hb,Option.getD_some]
theorem snd_bytes (hT:Gk P T) (h:Rel cx β σ a w) {s d:Nat} {si:TI} (hs:assoc T s=some si) {ox:Operand} (hx:An ox=true) {y:MV} {wo obl}
  (he:Zp T d (ev σ ox)=some (y,wo,obl)):Out P cx σ a (convert s d (a.eval ox)) w y wo:=by
 have rx:=Ba h ox hx
 obtain ⟨sd,hsd,_⟩:=(hT s si hs).under
 unfold Zp at he
 split at he
 case h_2=>simp at he
 rename_i e s1 s2 s3 s4 str hi hp
 have hu:=(hT d _ hi).slice rfl
 split at he
 case h_2=>simp at he
 rename_i q1 q2 q3 q4 hi2
 have hue:=(hT e _ hi2).int rfl
 simp only [Option.some.injEq,Prod.mk.injEq] at he
 obtain ⟨rfl,rfl,rfl⟩:=he
 rw [hp] at rx
 obtain ⟨ex,_⟩:=rx.inv_v
 rw [ex]
 generalize hcap:grownCap w str.size 0 e=cap
 generalize hcells:(str.data.map fun b=>Value.int .u8 b.toNat)++Array.replicate (cap-str.size) (Value.int .u8 0)=cells
 have hsz:cells.size=str.size+(cap-str.size):=by
  rw [← hcells,Array.size_append,Array.size_map,Array.size_replicate]
  rfl
 obtain ⟨r1,r2⟩:=h.free ({ w.drew with heap:=w.heap.push (.cells cells e (cells.size,cells.size+1)) }) (.cells cells e (cells.size,cells.size+1)) ⟨rfl,rfl,rfl,rfl⟩
 have hle:str.size≤cap:=by rw [← hcap]; exact grownCap_ge w str.size 0 e
 refine ⟨.slice (some (at_ w.heap.size 0)) str.size cap,_,β,?_,r1,?_⟩
 ·simp only [convert,Sem.run_bind,run_underlying hsd,run_underlying hu,Result.andThen_ok,run_underlying hue]
  simp only [Conv.stringToBytes,Sem.run_bind,run_choose,Question.forced,Bool.false_eq_true,if_false,Result.andThen_ok]
  have hg:Question.cut (.appendCap str.size 0 e) (w.tape w.drawn (.appendCap str.size 0 e))=cap:=hcap
  rw [hg,hcells]
  simp only [newRow,Sem.run_bind,run_newObj,Result.andThen_ok,Sem.run_pure,markStringish,run_shape]
  have hsh:World.shape? { w with heap:=w.heap.push (.cells cells e),drawn:=w.drawn+1 } w.heap.size=some (e,cells.size):=by simp [World.shape?]
  rw [hsh]
  simp only [freeze,Sem.run,World.freeze,Nat.succ_ne_zero,if_false,Aoj,Result.andThen_ok,beq_self_eq_true,if_true]
  rfl
 ·refine .p _ _ (.sl _ _ _ _ _ _ _ (fun i _ => .int .u8 (Br str i)) (by simp) hle (fun _=>⟨by simp,?_,?_⟩) (fun i hi=>rfl) (fun i j hi hj => ?_) (fun i j hi hj=>rfl) (fun i j x hi hx => ?_))
  ·intro hA
   have h1:=h.avlt _ hA
   have h2:=h.kept.size
   omega
  ·intro k o ho hl hb
   have:=(h.blk k o _ ho hl hb).1
   omega
  ·have hj0:j=0:=by omega
   subst hj0
   have:cells[i]? = some (.int .u8 (Br str i)):=by
    rw [← hcells,Array.getElem?_append_left (by rw [Array.size_map]; exact hi)]
    exact byte_get str i hi
   simp [World.cell?,at_,this]
  ·cases j with
   | zero=>simp [AgU] at hx; subst hx; exact .v _ rfl
   | succ j=>simp [AgU] at hx
theorem snd_min (h:Rel cx β σ a w) {mx:Bool} {ts:Array TypeId} {ty:Nat} {ox oy:Operand} (hx:An ox=true) (hy:An oy=true) {y:MV} {wo obl}
  (he:Aay mx (ev σ ox) (ev σ oy)=some (y,wo,obl)):Out P cx σ a (if mx then Builtin.max_ ts ty #[a.eval ox,a.eval oy] else Builtin.min_ ts ty #[a.eval ox,a.eval oy]) w y wo:=by
 have rx:=Ba h ox hx
 have ry:=Ba h oy hy
 unfold Aay at he
 split at he
 case h_2=>simp at he
 rename_i k n k' m hp hq
 split at he
 case isFalse=>simp at he
 rename_i hk
 subst hk
 simp only [Option.some.injEq,Prod.mk.injEq] at he
 obtain ⟨rfl,rfl,rfl⟩:=he
 rw [hp] at rx
 rw [hq] at ry
 obtain ⟨ex,_⟩:=rx.inv_v
 obtain ⟨ey,_⟩:=ry.inv_v
 rw [ex,ey]
 cases mx with
 | false =>
  refine Aqm h (v := .int k (if m<n then m else n)) ?_ (.mk_v rfl)
  simp [Builtin.min_,Builtin.min2]
 | true =>
  refine Aqm h (v := .int k (if n<m then m else n)) ?_ (.mk_v rfl)
  simp [Builtin.max_,Builtin.max2]
theorem inR_iff (a b j:Nat):inR a b j=true↔a≤j∧j<b:=by
 simp only [inR,Bool.and_eq_true]
 exact ⟨fun ⟨h1,h2⟩=>⟨Nat.le_of_ble_eq_true h1,Nat.le_of_ble_eq_true h2⟩,fun ⟨h1,h2⟩=>⟨Nat.ble_eq_true_of_le h1,Nat.ble_eq_true_of_le h2⟩⟩
theorem Rel.overRow (h:Rel cx β σ a w) {k g W n:Nat} {f:Nat→List PV} (ho1:σ.objs k=some ⟨g,.row W n f⟩) {b o cap:Nat} {cur:Array Value} {e:TypeId} (hl:β k = .row b o cap)
  (hheap:w.heap[b]? = some (.cells cur e (0,0))) (hcap:o+cap*W≤cur.size) (hn:n≤cap)
  (hrow:∀ i,i<n→(f i).length=W∧HoldsP (Al cx.Av β σ.objs w) w cur (o+i*W) (f i)) (off n2:Nat) (hoff:off+n2≤n) (src:List Value) (hsl:src.length=n2*W) (g2:Nat→List PV)
  (hsf:∀ i,i<n2→(g2 i).length=W∧∀ (j:Nat) y,(g2 i)[j]? = some y→∃ u,src[i*W+j]? = some u∧u.oneCell'=true∧Rep (Al cx.Av β σ.objs w) w u y) :
  Rel cx β ⟨σ.slots,Bj σ.objs k ⟨g,.row W n (Ns f off n2 g2)⟩⟩ a (w.setRow b (setRange cur.toList (o+off*W) src).toArray):=by
 have hm1:(off+n2)*W≤cap*W:=Nat.mul_le_mul_right _ (by omega)
 have hm2:(off+n2)*W=off*W+n2*W:=Nat.add_mul _ _ _
 have hfit:o+off*W+src.length≤cur.toList.length:=by simp; omega
 refine h.inplace k g (.row W n f) (.row W n (Ns f off n2 g2)) ho1 ⟨rfl,rfl⟩ trivial b (by rw [hl]; rfl) cur _ e hheap ?_
 intro S' objs' hS hgr _
 have hwS:∀ b',Al cx.Av β σ.objs w b'→(w.setRow b (setRange cur.toList (o+off*W) src).toArray).heap[b']? = w.heap[b']? := fun b' hb'=>setRow_other w b b' _ (fun e=>by
  subst e
  exact hb'.2.2 k _ ho1 trivial (by rw [hl]; rfl))
 refine .inr ⟨b,o,cap,_,e,hl,setRow_heap w b cur _ e _ hheap,by simpa [Gn] using hcap,hn,fun i hi => ?_⟩
 by_cases hin:off≤i∧i<off+n2
 ·have e1:inR off (off+n2) i=true:=(inR_iff _ _ _).2 hin
  simp only [Ns,e1,cond_true]
  obtain ⟨q1,q2⟩:=hsf (i-off) (by omega)
  refine ⟨q1,fun j x hx => ?_⟩
  obtain ⟨u,u1,u2,u3⟩:=q2 j x hx
  have hul:=(List.getElem?_eq_some_iff.1 u1).1
  refine ⟨u,?_,u2,u3.mono hS hwS⟩
  have e2:i*W=off*W+(i-off)*W:=by rw [← Nat.add_mul]; congr 1; omega
  simp only [List.getElem?_toArray]
  rw [Ga _ _ _ _ hfit,if_pos (by omega)]
  rw [← u1]
  congr 1
  omega
 ·have e1:inR off (off+n2) i=false:=by
   cases hq:inR off (off+n2) i with
   | false=>rfl
   | true=>exact absurd ((inR_iff _ _ _).1 hq) hin
  simp only [Ns,e1,cond_false]
  obtain ⟨q1,q2⟩:=hrow i hi
  refine ⟨q1,fun j x hx => ?_⟩
  obtain ⟨u,u1,u2,u3⟩:=q2 j x hx
  refine ⟨u,?_,u2,u3.mono hS hwS⟩
  have hj:j<W:=by rw [← q1]; exact (List.getElem?_eq_some_iff.1 hx).1
  simp only [List.getElem?_toArray]
  rw [Ga _ _ _ _ hfit,if_neg ?_]
  ·simpa using u1
  ·rcases Nat.lt_or_ge i off with hlt|hge
   ·have h1:(i+1)*W≤off*W:=Nat.mul_le_mul_right _ hlt
    have h2:(i+1)*W=i*W+W:=Nat.succ_mul i W
    omega
   ·have h1:(off+n2)*W≤i*W:=Nat.mul_le_mul_right _ (by omega)
    omega
def Mm (P:Program) (T:Ty):Prop:=Gk P T∧∀ t i,assoc T t=some i→i.zero.all (fun c=>c.oneCell')=true
theorem Alm (z:Array Value) (n:Nat) (hz:0<z.size):(Builtin.zeroCells z n).toList=reps n z.toList:=AeW z n hz
theorem snd_clear (hT:Mm P T) (h:Rel cx β σ a w) {t ty:Nat} {ox:Operand} (hx:An ox=true) {y:MV} {wo obl} {ob:Nat→Option Obj}
  (hob:∀ k o,ob k=some o→σ.objs k=some o) (he:Zz T t ob (ev σ ox)=some (y,wo,obl)) (ho:All obl) :
  Out P cx σ a (Builtin.clear_ #[t] ty #[a.eval ox]) w y wo:=by
 have rx:=Ba h ox hx
 unfold Zz at he
 split at he
 case h_2=>simp at he
 rename_i e s1 s2 s3 s4 k g off len hi hp
 have hu:=(hT.1 t _ hi).slice rfl
 split at he
 case h_2=>simp at he
 rename_i i W n f hi2 hg
 have hF:=hT.1 e i hi2
 cases hb:(Nat.beq W i.size&&Nat.beq i.zero.length i.size&&Nat.blt 0 i.size) with
 | false=>simp only [hb,cond_false] at he; simp at he
 | true =>
 simp only [hb,cond_true] at he
 simp only [Bool.and_eq_true] at hb
 have eW:=Nat.eq_of_beq_eq_true hb.1.1
 have ez:=Nat.eq_of_beq_eq_true hb.1.2
 have epos:0<i.size:=Nat.le_of_ble_eq_true hb.2
 subst eW
 split at he
 case h_2=>simp at he
 rename_i zs hzs
 simp only [Option.some.injEq,Prod.mk.injEq] at he
 obtain ⟨rfl,rfl,rfl⟩:=he
 simp only [All,and_true] at ho
 rw [hp] at rx
 obtain ⟨base,c,hv,hk⟩:=rx.inv_own
 have ho1:=hob _ _ (Es hg)
 obtain ⟨hle,hlo⟩:=hk.get ho1
 obtain ⟨z,hz,hzc⟩:=hF.zeroValue w
 have hzsz:z.cells.size=i.size:=by rw [← ez,← hzc]; simp
 obtain ⟨z1,z2⟩:=Ach h hzc (hT.2 _ _ hi2)
 have hCz:=Cells.of z1 z2
 rw [hv]
 rcases h.ob k _ ho1 with ⟨hl',hn0⟩|⟨b,o,cap,cur,e',hl',hheap,hcap,hnn,hrow⟩
 ·rw [hl'] at hlo
  obtain ⟨hbs,rfl,rfl,rfl⟩:=hlo
  subst hn0
  refine ⟨.tuple #[],w,β,?_,?_,.und⟩
  ·rcases hbs with rfl|⟨bb,oo,rfl⟩ <;> simp [Builtin.clear_,run_underlying hu]
  ·have:=h.upd1 k ⟨g,.row i.size 0 (Ns f 0 0 fun _=>zs)⟩ (β k) w (fun o ho=>by rw [ho1] at ho; injection ho with ho; subst ho; exact ⟨Nat.le_refl _,fun _=>⟨rfl,⟨rfl,rfl⟩⟩⟩)
    (fun b _ hb=>by rw [hl'] at hb; simp [Loc.block] at hb) (fun b _ hb=>by rw [hl'] at hb; simp [Loc.block] at hb) (fun _ _ _=>rfl) (Nat.le_refl _) rfl rfl rfl (fun _ hg0=>⟨_,ho1,hg0⟩) (.inl ⟨hl',rfl⟩)
   rw [Aaw] at this
   exact this
 ·rw [hl'] at hlo
  obtain ⟨b',o',rfl,hcc,hadr⟩:=hlo
  have hsf:∀ q,q<len→zs.length=i.size∧∀ (j:Nat) y,zs[j]? = some y→∃ u,(reps len z.cells.toList)[q*i.size+j]? = some u∧u.oneCell'=true∧Rep (Al cx.Av β σ.objs w) w u y:=by
   intro q hq
   have hpz:=Fw hzs
   have hlz:zs.length=i.size:=by
    have:=congrArg List.length hpz
    simp at this
    omega
   refine ⟨hlz,fun j y hy => ?_⟩
   have hj:j<i.size:=by rw [← hlz]; exact (List.getElem?_eq_some_iff.1 hy).1
   obtain ⟨u,u1,u2,u3⟩:=hCz.get (i:=j) (y := .p y) (by rw [hpz,List.getElem?_map,hy]; rfl)
   refine ⟨u,?_,u2,u3.inv_p⟩
   have hm1:(q+1)*i.size≤len*i.size:=Nat.mul_le_mul_right _ hq
   have hm2:(q+1)*i.size=q*i.size+i.size:=Nat.succ_mul q i.size
   rw [Aae _ (by simp; omega) len _ (by simp [hzsz]; omega)]
   have e3:(q*i.size+j) % z.cells.toList.length=j:=by
    simp only [Array.length_toList,hzsz]
    rw [Nat.mul_comm,Nat.mul_add_mod,Nat.mod_eq_of_lt hj]
   rw [e3]
   exact u1
  by_cases hlen0:len=0
  ·subst hlen0
   have hov:=h.overRow ho1 hl' hheap hcap hnn hrow off 0 (by omega) [] (by simp) (fun _=>zs) (fun i hi=>by omega)
   simp only [setRange] at hov
   rw [show cur.toList.toArray=cur by simp,setRow_self w b cur e' _ hheap] at hov
   refine ⟨.tuple #[],w,β,by simp [Builtin.clear_,run_underlying hu],hov,.und⟩
  ·obtain ⟨rfl,rfl⟩:=hadr (by omega)
   have hov:=h.overRow ho1 hl' hheap hcap hnn hrow off len hle (reps len z.cells.toList) (by rw [Hl]; simp [hzsz]) (fun _=>zs) hsf
   have hm1:(off+len)*i.size≤cap*i.size:=Nat.mul_le_mul_right _ (by omega)
   have hm2:(off+len)*i.size=off*i.size+len*i.size:=Nat.add_mul _ _ _
   refine ⟨.tuple #[],_,β,?_,hov,.und⟩
   have hone:∀ u∈reps len z.cells.toList,u.oneCell'=true:=by
    intro u hu2
    obtain ⟨j,hj,rfl⟩:=List.getElem_of_mem hu2
    rw [Hl] at hj
    have hg2:=Aae z.cells.toList (by simp; omega) len j hj
    rw [List.getElem?_eq_getElem (by rw [Hl]; exact hj)] at hg2
    exact hCz.one _ (List.mem_of_getElem? hg2.symm)
   have hst:=run_storeCells_at P b' (o+off*i.size) e' (reps len z.cells.toList) 0 cur w hheap (by rw [Hl]; simp [hzsz]; omega) hone
   simp only [Nat.add_zero] at hst
   rw [AcX _ _ _ (by rw [Hl]; simp [hzsz]; omega)] at hst
   obtain ⟨m,rfl⟩:∃ m,len=m+1:=⟨len-1,by omega⟩
   have hzl:(Builtin.zeroCells z.cells (m+1)).toList=reps (m+1) z.cells.toList:=Alm _ _ (by omega)
   simp [Builtin.clear_,run_underlying hu,hz,hzl,at_,hst]
theorem AmZ (a b:Nat):Mf a b=Nat.min a b:=by
 unfold Mf
 cases h:Nat.ble a b with
 | true =>
  have:=Nat.le_of_ble_eq_true h
  simp [Nat.min_eq_left this]
 | false =>
  have:¬ a≤b:=fun hle=>by rw [Nat.ble_eq_true_of_le hle] at h; simp at h
  simp [Nat.min_eq_right (show b≤a by omega)]
theorem snd_copy (hT:Mm P T) (h:Rel cx β σ a w) {t t2 ty:Nat} {ox oy:Operand} (hx:An ox=true) (hy:An oy=true) {y:MV} {wo obl} {ob:Nat→Option Obj}
  (hob:∀ k o,ob k=some o→σ.objs k=some o) (he:AbY T t ob (ev σ ox) (ev σ oy)=some (y,wo,obl)) (ho:All obl) :
  Out P cx σ a (Builtin.copy_ #[t,t2] ty #[a.eval ox,a.eval oy]) w y wo:=by
 have rx:=Ba h ox hx
 have ry:=Ba h oy hy
 unfold AbY at he
 split at he
 case h_2=>simp at he
 rename_i e s1 s2 s3 s4 k g off len hi hp
 have hu:=(hT.1 t _ hi).slice rfl
 split at he
 case h_2=>simp at he
 rename_i i W n f hi2 hg
 have hF:=hT.1 e i hi2
 cases hb:(Nat.beq W i.size&&Nat.blt 0 i.size) with
 | false=>simp only [hb,cond_false] at he; simp at he
 | true =>
 simp only [hb,cond_true] at he
 simp only [Bool.and_eq_true] at hb
 have eW:=Nat.eq_of_beq_eq_true hb.1
 have epos:0<i.size:=Nat.le_of_ble_eq_true hb.2
 subst eW
 split at he
 case h_2=>simp at he
 rename_i n2 f2 k2 hsrc
 simp only [Option.some.injEq,Prod.mk.injEq] at he
 obtain ⟨rfl,rfl,rfl⟩:=he
 simp only [All,and_true] at ho
 rw [hp] at rx
 obtain ⟨base,c,hv,hk⟩:=rx.inv_own
 have ho1:=hob _ _ (Es hg)
 obtain ⟨hle,hlo⟩:=hk.get ho1
 obtain ⟨hlen2,hall⟩:=src_all (P:=P) h ry hob hsrc
 have hmin:Mf n2 len≤n2∧Mf n2 len≤len:=by rw [AmZ]; exact ⟨Nat.min_le_left _ _,Nat.min_le_right _ _⟩
 obtain ⟨src,q1,q2,q3,q4⟩:=hall (Mf n2 len) hmin.1
 have hsz:(Go.sizeOf e).run P w = .ok i.size w:=hF.sizeOf w
 rw [hv]
 have hrun:∀ w',(match base with
   | some b=>(do storeCells b src.toArray.toList; pure (goInt (Mf n2 len)):Sem Value)
   | none=>pure (goInt (Mf n2 len))).run P w = .ok (goInt (Mf n2 len)) w'→(Builtin.copy_ #[t,t2] ty #[.slice base len c,a.eval oy]).run P w = .ok (goInt (Mf n2 len)) w':=by
  intro w' hw'
  have e3:=q2 w rfl
  rw [AmZ] at e3 hw' ⊢
  cases base with
  | none=>simpa [Builtin.copy_,run_underlying hu,hlen2 w,hsz,e3] using hw'
  | some b=>simpa [Builtin.copy_,run_underlying hu,hlen2 w,hsz,e3] using hw'
 rcases h.ob k _ ho1 with ⟨hl',hn0⟩|⟨b,o,cap,cur,e',hl',hheap,hcap,hnn,hrow⟩
 ·rw [hl'] at hlo
  obtain ⟨hbs,rfl,rfl,rfl⟩:=hlo
  subst hn0
  have hm0:Mf n2 0=0:=by omega
  have hsn:src = []:=List.eq_nil_of_length_eq_zero (by rw [q1,hm0]; simp)
  refine ⟨goInt (Mf n2 0),w,β,hrun w ?_,?_,.mk_v rfl⟩
  ·subst hsn
   rcases hbs with rfl|⟨bb,oo,rfl⟩ <;> simp [storeCells]
  ·have:=h.upd1 k ⟨g,.row i.size 0 (Ns f 0 (Mf n2 0) f2)⟩ (β k) w (fun o ho=>by rw [ho1] at ho; injection ho with ho; subst ho; exact ⟨Nat.le_refl _,fun _=>⟨rfl,⟨rfl,rfl⟩⟩⟩)
    (fun b _ hb=>by rw [hl'] at hb; simp [Loc.block] at hb) (fun b _ hb=>by rw [hl'] at hb; simp [Loc.block] at hb) (fun _ _ _=>rfl) (Nat.le_refl _) rfl rfl rfl (fun _ hg0=>⟨_,ho1,hg0⟩) (.inl ⟨hl',rfl⟩)
   rw [Aaw] at this
   exact this
 ·rw [hl'] at hlo
  obtain ⟨b',o',rfl,hcc,hadr⟩:=hlo
  by_cases hlen0:len=0
  ·subst hlen0
   have hm0:Mf n2 0=0:=by omega
   have hsn:src = []:=List.eq_nil_of_length_eq_zero (by rw [q1,hm0]; simp)
   subst hsn
   have hov:=h.overRow ho1 hl' hheap hcap hnn hrow off (Mf n2 0) (by omega) [] (by rw [hm0]; simp) f2 (fun i hi=>by omega)
   simp only [setRange] at hov
   rw [show cur.toList.toArray=cur by simp,setRow_self w b cur e' _ hheap] at hov
   exact ⟨goInt (Mf n2 0),w,β,hrun w (by simp [storeCells]),hov,.mk_v rfl⟩
  ·obtain ⟨rfl,rfl⟩:=hadr (by omega)
   have hov:=h.overRow ho1 hl' hheap hcap hnn hrow off (Mf n2 len) (by omega) src q1 f2 (fun j hj=>⟨(q4 j hj).1,fun q y hy=>by
    obtain ⟨u,u1,u2⟩:=(q4 j hj).2 q y hy
    exact ⟨u,u1,q3 u (List.mem_of_getElem? u1),u2⟩⟩)
   have hm1:(off+len)*i.size≤cap*i.size:=Nat.mul_le_mul_right _ (by omega)
   have hm2:(off+Mf n2 len)*i.size=off*i.size+Mf n2 len*i.size:=Nat.add_mul _ _ _
   have hm3:(off+Mf n2 len)*i.size≤(off+len)*i.size:=Nat.mul_le_mul_right _ (by omega)
   have hst:=run_storeCells_at P b' (o+off*i.size) e' src 0 cur w hheap (by rw [q1]; omega) q3
   simp only [Nat.add_zero] at hst
   rw [AcX _ _ _ (by rw [q1]; simp; omega)] at hst
   exact ⟨goInt (Mf n2 len),_,β,hrun _ (by simp [at_,hst]),hov,.mk_v rfl⟩
theorem AoM (hT:Gk P T) (h:Rel cx β σ a w) {t:Nat} {ox:Operand} (hx:An ox=true) {kl kh km:IntKind} {l hi m:Int}
  {y:MV} {wo obl} {ob:Nat→Option Obj} (hob:∀ k o,ob k=some o→σ.objs k=some o) (he:Agu T t ob (ev σ ox) l hi m=some (y,wo,obl)) (ho:All obl) :
  Out P cx σ a (Instr.sliceAt t (a.eval ox) (some (.int kl l)) (some (.int kh hi)) (some (.int km m))) w y wo:=by
 have rx:=Ba h ox hx
 unfold Agu at he
 split at he
 case h_2=>simp at he
 rename_i e s1 s2 s3 s4 k g off len hi2 hp
 have hu:=(hT t _ hi2).slice rfl
 split at he
 case h_2=>simp at he
 rename_i i r hi3 hg
 have hF:=hT e i hi3
 simp only [Option.some.injEq,Prod.mk.injEq] at he
 obtain ⟨rfl,rfl,rfl⟩:=he
 simp only [All,and_true] at ho
 obtain ⟨h0,h1,h2,h3⟩:=ho
 rw [hp] at rx
 obtain ⟨base,c,hv,hk⟩:=rx.inv_own
 obtain ⟨W,n,f⟩:=r
 have ho1:=hob _ _ (Es hg)
 obtain ⟨hle,hlo⟩:=hk.get ho1
 have hlc:len≤c:=by
  rcases h.ob k _ ho1 with ⟨hl',hn0⟩|⟨b,o,cap,cur,e',hl',hheap,hcap,hnn,hrow⟩
  ·rw [hl'] at hlo
   obtain ⟨_,rfl,_,rfl⟩:=hlo
   exact Nat.le_refl _
  ·rw [hl'] at hlo
   obtain ⟨b',o',_,hcc,_⟩:=hlo
   omega
 rw [hv]
 have hb:(Instr.sliceBounds true len c (some (.int kl l)) (some (.int kh hi)) (some (.int km m))).run P w = .ok (l.toNat,hi.toNat,m.toNat) w:=by
  have b1:(Instr.sliceBound (.int km m) c .slice3Acap).run P w = .ok m.toNat w:=Em (by omega) (by omega)
  have b2:(Instr.sliceBound (.int kh hi) m.toNat .slice3B).run P w = .ok hi.toNat w:=Em (by omega) (by omega)
  have b3:(Instr.sliceBound (.int kl l) hi.toNat .slice3C).run P w = .ok l.toNat w:=Em (by omega) (by omega)
  simp [Instr.sliceBounds,b1,b2,b3]
 refine Aqm h (v := .slice (if m.toNat=l.toNat then base else base.map (·.add (l.toNat*i.size))) (hi.toNat-l.toNat) (m.toNat-l.toNat)) ?_ (.any _)
 simp only [Instr.sliceAt,Sem.run_bind,run_underlying hu,Result.andThen_ok,Instr.slice]
 rw [hb]
 simp [hF.sizeOf]
theorem AmS (hT:Gk P T) (h:Rel cx β σ a w) {t t2 ty:Nat} {os ox:Operand} (hs:An os=true) (hx:An ox=true) {y:MV} {wo obl} {ob:Nat→Option Obj}
  (hob:∀ k o,ob k=some o→σ.objs k=some o) (he:Aeb T t t2 ob (ev σ os) (ev σ ox)=some (y,wo,obl)) (ho:All obl) :
  Out P cx σ a (Builtin.append_ #[t,t2] ty #[a.eval os,a.eval ox]) w y wo:=by
 have rs:=Ba h os hs
 have rx:=Ba h ox hx
 unfold Aeb at he
 split at he
 case h_2=>simp at he
 rename_i e s1 s2 s3 s4 k g off len hi hp
 have hu:=(hT t _ hi).slice rfl
 split at he
 case h_2=>simp at he
 rename_i i W n f hi2 hg
 have hF:=hT e i hi2
 obtain ⟨info,z,hinfo,hisz,hib,hizero,hzc,_⟩:=hF.info
 cases hb:(Nat.beq t t2&&Nat.beq W i.size&&Nat.blt 0 i.size) with
 | false=>simp only [hb,cond_false] at he; simp at he
 | true =>
 simp only [hb,cond_true] at he
 simp only [Bool.and_eq_true] at hb
 have et:=Nat.eq_of_beq_eq_true hb.1.1
 subst et
 have eW:=Nat.eq_of_beq_eq_true hb.1.2
 subst eW
 split at he
 case h_2=>simp at he
 rename_i n2 f2 k2 hsrc
 cases hkk:Nat.beq k2 k with
 | false=>simp only [hkk,cond_false] at he; simp at he
 | true =>
 simp only [hkk,cond_true,Option.some.injEq,Prod.mk.injEq] at he
 obtain ⟨rfl,rfl,rfl⟩:=he
 simp only [All,and_true] at ho
 obtain ⟨ho2,ho3⟩:=ho
 rw [hp] at rs
 obtain ⟨base,c,hv,hk⟩:=rs.inv_own
 have ho1:=hob _ _ (Es hg)
 obtain ⟨hle,hl⟩:=hk.get ho1
 obtain ⟨src,hsl,hslen,hsrun,hsone,hsf⟩:=src_of (P:=P) h rx hob hsrc
 rw [hv]
 rcases h.ob k _ ho1 with ⟨hl',hn0⟩|⟨b,o,cap,cur,e',hl',hheap,hcap,hnn,hrow⟩
 ·omega
 ·rw [hl'] at hl
  obtain ⟨b',o',rfl,hcc,hadr⟩:=hl
  obtain ⟨rfl,rfl⟩:=hadr (by omega)
  have hmul:(off+len)*i.size=off*i.size+len*i.size:=Nat.add_mul _ _ _
  have hm1:(off+len+n2)*i.size≤cap*i.size:=Nat.mul_le_mul_right _ (by omega)
  have hm2:(off+len+n2)*i.size=(off+len)*i.size+n2*i.size:=Nat.add_mul _ _ _
  have hov:=h.overRow ho1 hl' hheap hcap hnn hrow (off+len) n2 ho2 src hsl f2 (fun j hj=>⟨(hsf j hj).1,fun q y hy=>by
   obtain ⟨u,u1,u2⟩:=(hsf j hj).2 q y hy
   exact ⟨u,u1,hsone u (List.mem_of_getElem? u1),u2⟩⟩)
  have hr:=Afs (P:=P) (w:=w) (ty:=ty) hu hinfo (b:=b') (o:=o+off*i.size) (sLen:=len) (sCap:=c) (n:=n2) (x:=a.eval ox) (src:=src) hheap (hslen w) (by rw [hisz]; exact hsrun w rfl) hsone (by omega) (by rw [hisz,hsl]; omega)
  rw [hisz] at hr
  have ea:o+off*i.size+len*i.size=o+(off+len)*i.size:=by omega
  rw [ea] at hr
  refine ⟨_,_,β,hr,hov,.own _ _ _ _ _ _ ⟨_,Bb _ _ _,Nat.le_refl _,fun _ => ?_⟩⟩
  rw [hl']
  exact ⟨by omega,b',o+off*i.size,rfl,hcc,fun _=>⟨rfl,rfl⟩⟩
theorem Anp (hT:Gk P T) (h:Rel cx β σ a w) {t:Nat} {ox:Operand} (hx:An ox=true) {kl kh:IntKind} {zl zh:Int}
  {y:MV} {wo obl} {ob:Nat→Option Obj} (hob:∀ k o,ob k=some o→σ.objs k=some o) (he:Aea T t ob (ev σ ox) zl zh=some (y,wo,obl)) (ho:All obl) :
  Out P cx σ a (Instr.sliceAt t (a.eval ox) (some (.int kl zl)) (some (.int kh zh)) none) w y wo:=by
 have rx:=Ba h ox hx
 unfold Aea at he
 split at he
 case h_2=>simp at he
 rename_i e s1 s2 s3 s4 k g off len hi2 hp
 have hu:=(hT t _ hi2).slice rfl
 split at he
 case h_2=>simp at he
 rename_i i W n f hi3 hg
 have hF:=hT e i hi3
 cases hW:Nat.beq W i.size with
 | false=>simp [hW] at he
 | true =>
 have eW:=Nat.eq_of_beq_eq_true hW
 simp only [hW,cond_true,Option.some.injEq,Prod.mk.injEq] at he
 obtain ⟨rfl,rfl,rfl⟩:=he
 simp only [All,and_true] at ho
 obtain ⟨h0,h1,h2⟩:=ho
 rw [hp] at rx
 obtain ⟨base,c,hv,hk⟩:=rx.inv_own
 have ho1:=hob _ _ (Es hg)
 obtain ⟨hle,hlo⟩:=hk.get ho1
 have hrow:=h.ob k _ ho1
 rw [Aen,AhS,hv]
 have hlc:zh.toNat≤c:=by
  rcases hrow with ⟨hl',hn0⟩|⟨b,o,cap,cur,e',hl',hheap,hcap,hnn,_⟩
  ·rw [hl'] at hlo; have:=hlo.2; omega
  ·rw [hl'] at hlo
   obtain ⟨b',o',_,hcc,_⟩:=hlo
   omega
 have hrun:(Instr.sliceBounds true len c (some (.int kl zl)) (some (.int kh zh)) none).run P w = .ok (zl.toNat,zh.toNat,c) w:=by
  have b2:(Instr.sliceBound (.int kh zh) c .sliceAcap).run P w = .ok zh.toNat w:=Em (by omega) (by omega)
  have b3:(Instr.sliceBound (.int kl zl) zh.toNat .sliceB).run P w = .ok zl.toNat w:=Em (by omega) (by omega)
  simp [Instr.sliceBounds,b2,b3]
 generalize hL:zl.toNat=l at hrun ⊢
 generalize hH:zh.toNat=hh' at hrun hlc h2 ⊢
 have hlh:l≤hh':=by omega
 refine Aqm h (v := .slice (if c=l then base else base.map (·.add (l*i.size))) (hh'-l) (c-l)) ?_ (.own _ _ _ _ _ _ ⟨_,ho1,Nat.le_refl _,fun _=>⟨by omega,?_⟩⟩)
 ·simp only [Instr.sliceAt,Sem.run_bind,run_underlying hu,Result.andThen_ok,Instr.slice]
  rw [hrun]
  simp [hF.sizeOf]
 ·rcases hrow with ⟨hl',hn0⟩|⟨b,o,cap,cur,e',hl',hheap,hcap,hnn,_⟩
  ·rw [hl'] at hlo ⊢
   obtain ⟨hb,rfl,rfl,rfl⟩:=hlo
   refine ⟨?_,by omega,by omega,by omega⟩
   have:l=0:=by omega
   subst this
   simpa using hb
  ·rw [hl'] at hlo ⊢
   obtain ⟨b',o',hb,hcc,hadr⟩:=hlo
   subst hb
   by_cases hcl:c=l
   ·rw [if_pos hcl]
    exact ⟨b',o',rfl,by omega,fun hne=>by omega⟩
   ·rw [if_neg hcl]
    refine ⟨b',o'+l*i.size,by simp [at_,Addr.add_lit],by omega,fun hne => ?_⟩
    obtain ⟨q1,q2⟩:=hadr (by omega)
    exact ⟨q1,by rw [q2,Nat.add_mul,eW]; omega⟩
end
end Go.Dm

namespace Go.Dm
theorem Ra {ob:Nat→Option Obj} {k g:Nat} {z:PV} {has:Int→Bool} {f:Int→PV} (h:Km ob k g=some (z,has,f)):ob k=some ⟨g,.mp z has f⟩:=by
 unfold Km at h
 split at h
 ·rename_i g' z' has' f' ho
  cases hb:Nat.beq g' g with
  | false=>simp [hb] at h
  | true =>
   simp [hb] at h
   rw [ho,Nat.eq_of_beq_eq_true hb,h.1,h.2.1,h.2.2]
 ·simp at h
section
variable {P : Program} {T:Ty} {cx:Cx P} {β:Bi} {σ:St} {a:Act} {w:World}
theorem TyFact.map {t:Nat} {i:TI} {k e:Nat} (h:TyFact P t i) (hk:i.kd = .map k e):P.underlying t=some (.map k e):=by
 obtain ⟨d,h1,h2,h3⟩:=h.under
 rw [hk] at h2
 cases d <;> simp_all [Kd.of]
theorem Pr (hT:Gk P T) {t e:Nat} (h:AbK T t=some e):∃ k,P.underlying t=some (.map k e)∧P.underlying k=some (.int .i64):=by
 unfold AbK at h
 split at h
 ·rename_i k e' s1 s2 s3 s4 hi
  split at h
  ·rename_i q1 q2 q3 q4 hi2
   simp at h
   subst h
   exact ⟨k,(hT t _ hi).map rfl,(hT k _ hi2).int rfl⟩
  ·simp at h
 ·simp at h
theorem Aee (hT:Mm P T) {t:Nat} {z:PV} (h:Ye T t=some z) {S:Nat→Prop} : ∃ v,(Go.zeroValue t).run P w = .ok v w∧Rep S w v z:=by
 unfold Ye at h
 split at h
 case h_2=>simp at h
 rename_i i hi
 have hF:=hT.1 t i hi
 obtain ⟨v,hv,hvc,hva⟩:=hF.zeroValue2 w
 split at h
 case h_2=>simp at h
 rename_i zs hzs
 have hpz:=Fw hzs
 have hcell:∀ (j:Nat) y,zs[j]? = some y→∃ u,i.zero[j]? = some u∧Rep S w u y∧u.oneCell'=true:=by
  intro j y hy
  have h1:(i.zero.map Kk)[j]? = some (.p y):=by rw [hpz,List.getElem?_map,hy]; rfl
  rw [List.getElem?_map] at h1
  cases hq:i.zero[j]? with
  | none=>simp [hq] at h1
  | some u =>
   simp [hq] at h1
   have hone:=hT.2 t i hi
   rw [List.all_eq_true] at hone
   have:=Abx (β:=fun _ => .nilrow) (objs:=fun _=>none) (S:=S) (w:=w) u
   rw [h1] at this
   exact ⟨u,rfl,this.inv_p,hone u (List.mem_of_getElem? hq)⟩
 have hlen:zs.length=i.zero.length:=by
  have:=congrArg List.length hpz
  simpa using this.symm
 refine ⟨v,hv,?_⟩
 cases hk:i.kd.agg with
 | true =>
  rw [hk] at h hva
  simp at h
  subst h
  cases v <;> simp [Acb] at hva
  rename_i cs
  have hcs:cs.toList=i.zero:=hvc
  have hget:∀ (j:Nat) u,i.zero[j]? = some u→cs.getD j undef=u:=by
   intro j u hu
   rw [← hcs] at hu
   have:cs[j]? = some u:=by simpa using hu
   simp [Array.getD_eq_getD_getElem?,this]
  refine .agg _ _ (by rw [hlen,← hcs]; simp) (fun j y hy => ?_) (fun j y hy => ?_)
  ·obtain ⟨u,h1,h2,h3⟩:=hcell j y hy
   rw [hget j u h1]; exact h2
  ·obtain ⟨u,h1,h2,h3⟩:=hcell j y hy
   rw [hget j u h1]; exact h3
 | false =>
  rw [hk] at h hva
  simp only [cond_false] at h
  obtain ⟨u,h1,h2,h3⟩:=hcell 0 z h
  have hvv:v.cells = #[v]:=by cases v <;> simp_all [Acb,Value.cells]
  rw [hvv] at hvc
  simp at hvc
  rw [← hvc] at h1
  simp at h1
  rw [h1]
  exact h2
theorem AmK (n:Int):∀ (es:List MapEntry) (s:Nat),(∀ e∈es,∃ m,e.key = .int .i64 m) →
  (Instr.findNow (.int .i64) (.int .i64 n) es s=some none∧∀ e∈es,e.key ≠ .int .i64 n) ∨
  ∃ (j:Nat) (e:MapEntry),Instr.findNow (.int .i64) (.int .i64 n) es s=some (some (s+j,e.val))∧es[j]? = some e∧e.key = .int .i64 n:=by
 intro es
 induction es with
 | nil=>intro s _; exact .inl ⟨rfl,by simp⟩
 | cons e r ih =>
  intro s h
  obtain ⟨m,hm⟩:=h e (by simp)
  by_cases hnm:n=m
  ·subst hnm
   right
   exact ⟨0,e,by simp [Instr.findNow,Instr.sameNow,hm],rfl,hm⟩
  ·have hf:Instr.findNow (.int .i64) (.int .i64 n) (e::r) s=Instr.findNow (.int .i64) (.int .i64 n) r (s+1):=by
    have:(n==m)=false:=by simpa using hnm
    simp [Instr.findNow,Instr.sameNow,hm,this]
   rcases ih (s+1) (fun e' he'=>h e' (by simp [he'])) with ⟨h1,h2⟩|⟨j,e',h1,h2,h3⟩
   ·left
    refine ⟨by rw [hf,h1],fun e' he' => ?_⟩
    rcases List.mem_cons.1 he' with rfl|he'
    ·rw [hm]; intro hh; injection hh with _ hh; exact hnm hh.symm
    ·exact h2 e' he'
   ·right
    exact ⟨j+1,e',by rw [hf,h1]; congr 3; omega,by simpa using h2,h3⟩
theorem Uk {k:Nat} (hk:P.underlying k=some (.int .i64)) (b:Bool) (n:Int) (d:Nat):(Instr.checkKey b (d+1) k (.int .i64 n)).run P w = .ok () w:=by
 simp [Instr.checkKey,run_underlying hk]
theorem Hb {k:Nat} (hk:P.underlying k=some (.int .i64)) (b:Bool) (n:Int):(Instr.checkKey b 10000 k (.int .i64 n)).run P w = .ok () w :=
 Uk hk b n 9999
theorem Aam {k:Nat} (hk:P.underlying k=some (.int .i64)) {es:Array MapEntry} {has:Int→Bool} {clock:Nat} (hm:Xs es clock has) (n:Int) :
  (has n=false∧(Instr.findKey k (.int .i64 n) es.toList).run P w = .ok none w) ∨
  (has n=true∧∃ (j:Nat) (e:MapEntry),(Instr.findKey k (.int .i64 n) es.toList).run P w = .ok (some (j,e.val)) w∧es[j]? = some e∧e.key = .int .i64 n):=by
 have hkeys:∀ e∈es.toList,∃ m,e.key = .int .i64 m:=by
  intro e he
  obtain ⟨i,hi,rfl⟩:=List.getElem_of_mem he
  obtain ⟨m,h1,_⟩:=hm.1 i es.toList[i] (by simp at hi ⊢)
  exact ⟨m,h1⟩
 rcases AmK n es.toList 0 hkeys with ⟨h1,h2⟩|⟨j,e,h1,h2,h3⟩
 ·left
  refine ⟨?_,by simp [Instr.findKey,run_underlying hk,h1]⟩
  cases hh:has n with
  | false=>rfl
  | true =>
   obtain ⟨i,e,h4,h5⟩:=hm.2.1 n hh
   exact absurd h5 (h2 e (by simpa using Array.mem_of_getElem? h4))
 ·right
  have h2':es[j]? = some e:=by simpa using h2
  obtain ⟨m,h4,h5⟩:=hm.1 j e h2'
  rw [h3] at h4
  injection h4 with _ h4
  subst h4
  exact ⟨h5,j,e,by simp [Instr.findKey,run_underlying hk,h1],h2',h3⟩
theorem Api (hT:Mm P T) (h:Rel cx β σ a w) {t:Nat} {ok:Bool} {ox oy:Operand} (hx:An ox=true) (hy:An oy=true) {y:MV} {wo obl} {ob:Nat→Option Obj}
  (hob:∀ k o,ob k=some o→σ.objs k=some o) (he:Xj T t ob ok (ev σ ox) (ev σ oy)=some (y,wo,obl)) (ho:All obl) :
  Out P cx σ a (Instr.lookup t (a.eval ox) (a.eval oy) ok) w y wo:=by
 have rx:=Ba h ox hx
 have ry:=Ba h oy hy
 unfold Xj at he
 split at he
 case h_2=>simp at he
 rename_i e n hmt hq
 obtain ⟨k,hu,hk⟩:=Pr hT.1 hmt
 rw [hq] at ry
 obtain ⟨ey,_⟩:=ry.inv_v
 split at he
 case h_2=>simp at he
 rename_i z0 z has f hz0 hm
 simp only [Option.some.injEq,Prod.mk.injEq] at he
 obtain ⟨rfl,rfl,rfl⟩:=he
 simp only [All,and_true] at ho
 obtain ⟨b,es,clock,hv,hh,hmo,hzz,hr⟩:∃ b es clock,a.eval ox = .map (some b)∧w.heap[b]? = some (.map es clock)∧Xs es clock has∧(∀ n,has n=false→f n=z) ∧
   ∀ (i:Nat) (e:MapEntry) (n:Int),es[i]? = some e→e.key = .int .i64 n→Rep (Al cx.Av β σ.objs w) w e.val (f n):=by
  split at hm
  ·rename_i k1 g hp
   rw [hp] at rx
   obtain ⟨b,hv,hkn⟩:=rx.inv_mref
   have ho1:=hob _ _ (Ra hm)
   have hl:=hkn.get ho1
   obtain ⟨b',es,clock,hl',q1,q2,q3,q4⟩:=h.ob k1 _ ho1
   rw [hl] at hl'
   injection hl' with hl'
   subst hl'
   exact ⟨b,es,clock,hv,q1,q2,q3,q4⟩
  ·rename_i z' has' f' hp
   simp at hm
   obtain ⟨rfl,rfl,rfl⟩:=hm
   rw [hp] at rx
   have rp:=rx.inv_p
   generalize a.eval ox=v at rp
   cases rp with
   | mp _ _ _ b clock es hs hh hk hz hr=>exact ⟨b,es,clock,rfl,hh,hk,hz,hr⟩
  ·simp at hm
 rw [hv,ey]
 obtain ⟨v0,hv0,hrep0⟩:=Aee (P:=P) (w:=w) hT hz0 (S:=Al cx.Av β σ.objs w)
 have hget:(getObj b).run P w = .ok (.map es clock) w:=by simp [getObj,Sem.run,hh]
 have hend:∀ (u:Value),Rep (Al cx.Av β σ.objs w) w u (f n) →
   RelV β σ.objs (Al cx.Av β σ.objs w) w (if ok=true then .tuple #[u,.bool (has n)] else u) (bif ok then .tup [.p (f n),.p (.v (.bool (has n)))] else .p (f n)):=by
  intro u hu2
  cases ok with
  | false=>exact .p _ _ hu2
  | true =>
   refine .tup _ _ rfl (fun i q hi => ?_)
   match i,hi with
   | 0,hi=>simp at hi; subst hi; exact .p _ _ hu2
   | 1,hi=>simp at hi; subst hi; exact .mk_v rfl
   | i+2,hi=>simp at hi
 rcases Aam (P:=P) (w:=w) hk hmo n with ⟨h1,h2⟩|⟨h1,j,e1,h2,h3,h4⟩
 ·refine Aqm h ?_ (hend v0 (by rw [hzz n h1]; exact ho _ _ _ hrep0))
  simp [Instr.lookup,run_underlying hu,hget,Hb hk,h2,hv0,h1]
 ·refine Aqm h ?_ (hend e1.val (hr j e1 n h3 h4))
  simp [Instr.lookup,run_underlying hu,hget,Hb hk,h2,h1]
theorem Aiy (hT:Mm P T) (h:Rel cx β σ a w) {t dst:Nat} {r:Option Value} (hr:r=none∨∃ k n,r=some (.int k n)) {y:MV} {wo obl} {ob:Nat→Option Obj} (hob:ob (key dst 0)=σ.objs (key dst 0))
  (he:Mq T t dst ob=some (y,wo,obl)):Out P cx σ a (Instr.makeMap t r) w y wo:=by
 unfold Mq at he
 split at he
 case h_2=>simp at he
 rename_i e hmt
 obtain ⟨k,hu,hk⟩:=Pr hT.1 hmt
 split at he
 case h_2=>simp at he
 rename_i z hz
 simp only [Option.some.injEq,Prod.mk.injEq] at he
 obtain ⟨rfl,rfl,rfl⟩:=he
 refine ⟨.map (some w.heap.size),w.alloc (.map #[] 0),Fo β (key dst 0) (.box w.heap.size),?_,?_,?_⟩
 ·rcases hr with rfl|⟨k1,n1,rfl⟩
  ·simp [Instr.makeMap]
  ·simp [Instr.makeMap,run_underlying hu,asInt,asIntOf]
 ·simp only [Cb,hob]
  refine h.fresh (key dst 0) _ (.box w.heap.size) w (.map #[] 0) ⟨rfl,rfl,rfl,rfl⟩ rfl (.inl (by unfold key; omega)) ?_
  intro S' β' objs' hS hg
  exact ⟨w.heap.size,#[],0,rfl,heap_alloc_new w _,⟨fun i e hi=>by simp at hi,fun n hn=>by simp at hn,fun i j e e' n hi=>by simp at hi,fun i e hi=>by simp at hi,fun i j e e' hi=>by simp at hi⟩,fun _ _=>rfl,fun i e n hi=>by simp at hi⟩
 ·simp only [Cb,hob]
  exact .mref _ _ _ ⟨_,Bb _ _ _,Nat.le_refl _,fun _=>by rw [Db]⟩
theorem Ahm {S:Nat→Prop} {objs:Ar} {v:Value} {x:MV} {p:PV} (h:RelV β objs S w v x) (hp:x.whole=some p):Rep S w v p:=by
 cases h with
 | p _ _ h=>simp [MV.whole] at hp; subst hp; exact h
 | agg cs vs hl hr h1 =>
  simp only [MV.whole] at hp
  split at hp
  ·rename_i ps hps
   simp at hp
   subst hp
   have hcs:=Fw hps
   refine .agg _ _ (by rw [hl,hcs]; simp) (fun i q hq => ?_) (fun i q hq => ?_)
   ·exact (hr i (.p q) (by rw [hcs,List.getElem?_map,hq]; rfl)).inv_p
   ·exact h1 i (.p q) (by rw [hcs,List.getElem?_map,hq]; rfl)
  ·simp at hp
 | _=>simp [MV.whole] at hp
theorem AgL (n:Int):Instr.sameBits 10000 (.int .i64 n) (.int .i64 n)=true:=by
 show Instr.sameBits (9999+1) (.int .i64 n) (.int .i64 n)=true
 simp [Instr.sameBits]
theorem AjG (hT:Mm P T) (h:Rel cx β σ a w) {t:Nat} {om ok ov:Operand} (hm:An om=true) (hk:An ok=true) (hv:An ov=true) {y:MV} {wo obl} {ob:Nat→Option Obj}
  (hob:∀ k o,ob k=some o→σ.objs k=some o) (he:Lb T t ob (ev σ om) (ev σ ok) (ev σ ov)=some (y,wo,obl)) :
  ∃ w' β',(Instr.mapUpdate t (a.eval om) (a.eval ok) (a.eval ov)).run P w = .ok () w'∧Rel cx β' ⟨σ.slots,Cb σ.objs wo⟩ a w'∧y = .und:=by
 have rm:=Ba h om hm
 have rk:=Ba h ok hk
 have rv:=Ba h ov hv
 unfold Lb at he
 split at he
 case h_2=>simp at he
 rename_i e q g n x hmt hpm hpk hpv
 obtain ⟨kt,hu,hkt⟩:=Pr hT.1 hmt
 split at he
 case h_2=>simp at he
 rename_i z has f hg
 simp only [Option.some.injEq,Prod.mk.injEq] at he
 obtain ⟨rfl,rfl,rfl⟩:=he
 rw [hpm] at rm
 rw [hpk] at rk
 obtain ⟨ek,_⟩:=rk.inv_v
 have hrep:=Ahm rv hpv
 obtain ⟨b,hbv,hkn⟩:=rm.inv_mref
 have ho1:=hob _ _ (Ra hg)
 have hl:=hkn.get ho1
 obtain ⟨b',es,clock,hl',hh,hmo,hzz,hr⟩:=h.ob q _ ho1
 rw [hl] at hl'
 injection hl' with hl'
 subst hl'
 have hblt:b<w.heap.size:=(Array.getElem?_eq_some_iff.1 hh).1
 have hget:(getObj b).run P w = .ok (.map es clock) w:=by simp [getObj,Sem.run,hh]
 have hset:∀ o,(setObj b o).run P w = .ok () { w with heap:=w.heap.setIfInBounds b o } := by intro o; simp [setObj,Sem.run,hh]
 have hblk:=h.blk q _ b ho1 trivial (by rw [hl]; rfl)
 have fin:∀ (es':Array MapEntry) (clock':Nat),Xs es' clock' (Ay has n true) →
   (∀ (i:Nat) (e:MapEntry) (m:Int),es'[i]? = some e→e.key = .int .i64 m→Rep (Al cx.Av β σ.objs w) w e.val (Ay f n x m)) →
   Rel cx β ⟨σ.slots,Bj σ.objs q ⟨g,.mp z (Ay has n true) (Ay f n x)⟩⟩ a { w with heap:=w.heap.setIfInBounds b (.map es' clock') } := by
  intro es' clock' hm' hr'
  have hother:∀ b',b'≠b→(w.heap.setIfInBounds b (.map es' clock'))[b']? = w.heap[b']? := fun b' hne=>Array.getElem?_setIfInBounds_ne (Ne.symm hne)
  have key:=h.upd1 q ⟨g,.mp z (Ay has n true) (Ay f n x)⟩ (β q) { w with heap:=w.heap.setIfInBounds b (.map es' clock') }
   (fun o ho=>by rw [ho1] at ho; injection ho with ho; subst ho; exact ⟨Nat.le_refl _,fun _=>⟨rfl,trivial⟩⟩)
   (fun b' _ hb'=>by rw [hl] at hb'; simp [Loc.block] at hb'; subst hb'; simpa using hblk)
   (fun b' _ hb'=>by
    rw [hl] at hb'; simp [Loc.block] at hb'; subst hb'
    exact ⟨fun hS=>hS.2.2 q _ ho1 trivial (by rw [hl]; rfl),fun k' oo hne hoo hlv hb'=>h.inj q k' _ oo b ho1 hoo trivial hlv (Ne.symm hne) (by rw [hl]; rfl) hb'⟩)
   (fun b' hb' hne=>hother b' (fun e=>hne trivial (by rw [hl,e]; rfl)))
   (by simp) rfl rfl rfl (fun _ hg0=>⟨_,ho1,hg0⟩)
  rw [Aaw] at key
  refine key ⟨b,es',clock',hl,by simp [hblt],hm',fun m hmf => ?_,fun i e m hi hem=>(hr' i e m hi hem).mono (fun b' hb'=>⟨by simpa using hb'.1,hb'.2.1,fun j o ho hlv => ?_⟩) (fun b' hb'=>hother b' (fun e=>by
    subst e
    exact hb'.2.2 q _ ho1 trivial (by rw [hl]; rfl)))⟩
  ·simp only [Ay] at hmf ⊢
   split at hmf
   ·simp at hmf
   ·rename_i hne
    rw [if_neg hne]
    exact hzz m hmf
  ·by_cases hj:j=q
   ·subst hj
    exact hb'.2.2 j _ ho1 trivial
   ·rw [Cc _ _ hj] at ho
    exact hb'.2.2 j o ho hlv
 rw [hbv,ek]
 rcases Aam (P:=P) (w:=w) hkt hmo n with ⟨h1,h2⟩|⟨h1,j,e1,h2,h3,h4⟩
 ·refine ⟨_,β,?_,fin (es.push { key := .int .i64 n,val:=a.eval ov,born:=clock }) (clock+1) ?_ ?_,rfl⟩
  ·simp [Instr.mapUpdate,run_underlying hu,hget,Hb hkt,h2,hset]
  ·have hpush:∀ (i:Nat) (e:MapEntry),(es.push { key := .int .i64 n,val:=a.eval ov,born:=clock })[i]? = some e→(es[i]? = some e)∨(i=es.size∧e = { key := .int .i64 n,val:=a.eval ov,born:=clock }):=by
    intro i e hi
    rw [Array.getElem?_push] at hi
    split at hi
    ·rename_i hie; right; exact ⟨hie,by simpa using hi.symm⟩
    ·left; exact hi
   have hnk:∀ (i:Nat) (e:MapEntry),es[i]? = some e→e.key ≠ .int .i64 n:=by
    intro i e hi hek
    obtain ⟨m,h5,h6⟩:=hmo.1 i e hi
    rw [hek] at h5
    injection h5 with _ h5
    subst h5
    rw [h1] at h6
    simp at h6
   refine ⟨fun i e hi => ?_,fun m hmt2 => ?_,fun i j e e' m hi hj he1 he2 => ?_,fun i e hi => ?_,fun i j e e' hi hj he => ?_⟩
   ·rcases hpush i e hi with h5|⟨_,rfl⟩
    ·obtain ⟨m,h6,h7⟩:=hmo.1 i e h5
     refine ⟨m,h6,?_⟩
     simp only [Ay]
     split
     ·rfl
     ·exact h7
    ·exact ⟨n,rfl,by simp [Ay]⟩
   ·simp only [Ay] at hmt2
    by_cases hmn:m=n
    ·subst hmn
     exact ⟨es.size,{ key := .int .i64 m,val:=a.eval ov,born:=clock },by simp,rfl⟩
    ·rw [if_neg hmn] at hmt2
     obtain ⟨i,e,h5,h6⟩:=hmo.2.1 m hmt2
     have hlt:=(Array.getElem?_eq_some_iff.1 h5).1
     exact ⟨i,e,by rw [Array.getElem?_push,if_neg (by omega)]; exact h5,h6⟩
   ·rcases hpush i e hi with h5|⟨h5,rfl⟩
    ·rcases hpush j e' hj with h6|⟨h6,rfl⟩
     ·exact hmo.2.2.1 i j e e' m h5 h6 he1 he2
     ·exact absurd (by rw [he1]; exact he2.symm) (hnk i e h5)
    ·rcases hpush j e' hj with h6|⟨h6,rfl⟩
     ·exact absurd (by rw [he2]; exact he1.symm) (hnk j e' h6)
     ·omega
   ·rcases hpush i e hi with h5|⟨_,rfl⟩
    ·have:=hmo.2.2.2.1 i e h5
     omega
    ·show clock<clock+1
     omega
   ·rcases hpush i e hi with h5|⟨h5,rfl⟩
    ·rcases hpush j e' hj with h6|⟨h6,rfl⟩
     ·exact hmo.2.2.2.2 i j e e' h5 h6 he
     ·have:=hmo.2.2.2.1 i e h5
      have he:e.born=clock:=he
      omega
    ·rcases hpush j e' hj with h6|⟨h6,rfl⟩
     ·have:=hmo.2.2.2.1 j e' h6
      have he:clock=e'.born:=he
      omega
     ·omega
  ·intro i e m hi hem
   rw [Array.getElem?_push] at hi
   split at hi
   ·simp at hi
    subst hi
    simp only at hem
    injection hem with _ hem
    subst hem
    simp only [Ay,if_true]
    exact hrep
   ·have hne:m≠n:=by
     intro hmn
     subst hmn
     obtain ⟨m',h5,h6⟩:=hmo.1 i e hi
     rw [hem] at h5
     injection h5 with _ h5
     subst h5
     rw [h1] at h6
     simp at h6
    simp only [Ay,hne,if_false]
    exact hr i e m hi hem
 ·have hjlt:j<es.size:=(Array.getElem?_eq_some_iff.1 h3).1
  have hmod:∀ (i:Nat),(es.modify j fun e => { e with key := .int .i64 n,val:=a.eval ov })[i]? = if i=j then some { e1 with key := .int .i64 n,val:=a.eval ov } else es[i]? := by
   intro i
   rw [Array.getElem?_modify]
   by_cases hij:j=i
   ·subst hij; simp [h3]
   ·have:¬ i=j:=fun e=>hij e.symm
    simp [hij,this]
  refine ⟨_,β,?_,fin (es.modify j fun e => { e with key := .int .i64 n,val:=a.eval ov }) clock ?_ ?_,rfl⟩
  ·have hkk:((es[j]?).map (·.key)).getD (.int .i64 n) = .int .i64 n:=by rw [h3]; simp [h4]
   have hks:∀ (v:Value),v = .int .i64 n→(Instr.keyThatStays v (.int .i64 n)).run P w = .ok (.int .i64 n) w:=by
    intro v hv2
    subst hv2
    simp [Instr.keyThatStays,AgL]
   simp [Instr.mapUpdate,run_underlying hu,hget,Hb hkt,h2,hset,hks _ hkk]
  ·have hborn:∀ (i:Nat) (e:MapEntry),(es.modify j fun e => { e with key := .int .i64 n,val:=a.eval ov })[i]? = some e→∃ e0,es[i]? = some e0∧e0.born=e.born:=by
    intro i e hi
    rw [hmod i] at hi
    split at hi
    ·rename_i hij
     simp at hi
     subst hi
     exact ⟨e1,by rw [hij]; exact h3,rfl⟩
    ·exact ⟨e,hi,rfl⟩
   refine ⟨fun i e hi => ?_,fun m hmt2 => ?_,fun i i' e e' m hi hi' he1 he2 => ?_,fun i e hi => ?_,fun i i' e e' hi hi' he => ?_⟩
   ·rw [hmod i] at hi
    split at hi
    ·simp at hi
     subst hi
     exact ⟨n,rfl,by simp [Ay]⟩
    ·obtain ⟨m,h6,h7⟩:=hmo.1 i e hi
     refine ⟨m,h6,?_⟩
     simp only [Ay]
     split
     ·rfl
     ·exact h7
   ·simp only [Ay] at hmt2
    by_cases hmn:m=n
    ·subst hmn
     exact ⟨j,_,by rw [hmod j,if_pos rfl],rfl⟩
    ·rw [if_neg hmn] at hmt2
     obtain ⟨i,e,h5,h6⟩:=hmo.2.1 m hmt2
     have hij:i≠j:=by
      intro hij
      subst hij
      rw [h3] at h5
      injection h5 with h5
      subst h5
      rw [h4] at h6
      injection h6 with _ h6
      exact hmn h6.symm
     exact ⟨i,e,by rw [hmod i,if_neg hij]; exact h5,h6⟩
   ·-- the keys are what they were
    have hkey:∀ (i:Nat) (e:MapEntry),(es.modify j fun e => { e with key := .int .i64 n,val:=a.eval ov })[i]? = some e→∃ e0,es[i]? = some e0∧e0.key=e.key:=by
     intro i e hi
     rw [hmod i] at hi
     split at hi
     ·rename_i hij
      simp at hi
      subst hi
      exact ⟨e1,by rw [hij]; exact h3,h4⟩
     ·exact ⟨e,hi,rfl⟩
    obtain ⟨e0,q1,q2⟩:=hkey i e hi
    obtain ⟨e0',r1,r2⟩:=hkey i' e' hi'
    exact hmo.2.2.1 i i' e0 e0' m q1 r1 (by rw [q2]; exact he1) (by rw [r2]; exact he2)
   ·obtain ⟨e0,q1,q2⟩:=hborn i e hi
    rw [← q2]
    exact hmo.2.2.2.1 i e0 q1
   ·obtain ⟨e0,q1,q2⟩:=hborn i e hi
    obtain ⟨e0',r1,r2⟩:=hborn i' e' hi'
    exact hmo.2.2.2.2 i i' e0 e0' q1 r1 (by rw [q2,r2]; exact he)
  ·intro i e m hi hem
   rw [hmod i] at hi
   split at hi
   ·simp at hi
    subst hi
    simp only at hem
    injection hem with _ hem
    subst hem
    simp only [Ay,if_true]
    exact hrep
   ·rename_i hij
    have hne:m≠n:=by
     intro hmn
     subst hmn
     exact hij (hmo.2.2.1 i j e e1 m hi h3 hem h4)
    simp only [Ay,hne,if_false]
    exact hr i e m hi hem
theorem Adm (w:World) (o:Go.Obj) {r:Nat} (h:r<w.heap.size):(w.alloc o).heap[r]? = w.heap[r]? := by
 show (w.heap.push o)[r]? = _
 rw [Array.getElem?_push_lt h,Array.getElem?_eq_getElem h]
theorem AiN {ob:Nat→Option Obj} {k g:Nat} {z:PV} {has:Int→Bool} {f:Int→PV} {born:Int→Nat} {clock:Nat} (h:Akr ob k g=some (z,has,f,born,clock)):ob k=some ⟨g,.mq (.clk z has f born clock)⟩:=by
 unfold Akr at h
 split at h
 ·rename_i g' z' has' f' born' clock' ho
  cases hb:Nat.beq g' g with
  | false=>simp [hb] at h
  | true =>
   simp [hb] at h
   rw [ho,Nat.eq_of_beq_eq_true hb,h.1,h.2.1,h.2.2.1,h.2.2.2.1,h.2.2.2.2]
 ·simp at h
theorem AoP {ob:Nat→Option Obj} {k g:Nat} {f:Int→PV} {rem:Int→Bool} {cur:Option Int} (h:getIt ob k g=some (f,rem,cur)):ob k=some ⟨g,.mq (.it f rem cur)⟩:=by
 unfold getIt at h
 split at h
 ·rename_i g' f' rem' cur' ho
  cases hb:Nat.beq g' g with
  | false=>simp [hb] at h
  | true =>
   simp [hb] at h
   rw [ho,Nat.eq_of_beq_eq_true hb,h.1,h.2.1,h.2.2]
 ·simp at h
theorem Rel.reput (h:Rel cx β σ a w) {q g b:Nat} {bd bd':Body} (ho1:σ.objs q=some ⟨g,bd⟩) (hl:β q = .box b) (hlv:bd.live) (hlv':bd'.live) (hsame:bd.same bd') {o:Go.Obj} (hb0:w.heap[b]? = some o) (o':Go.Obj)
  (hr:∀ (S':Nat→Prop) (w':World),(∀ b',Al cx.Av β σ.objs w b'→S' b')→(∀ b',Al cx.Av β σ.objs w b'→w'.heap[b']? = w.heap[b']?)→w'.heap[b]? = some o'→∀ objs',ObjRel β objs' S' w' (.box b) bd') :
  Rel cx β ⟨σ.slots,Bj σ.objs q ⟨g,bd'⟩⟩ a { w with heap:=w.heap.setIfInBounds b o' } := by
 have hblt:b<w.heap.size:=(Array.getElem?_eq_some_iff.1 hb0).1
 have hblk:=h.blk q _ b ho1 hlv (by rw [hl]; rfl)
 have hother:∀ b',b'≠b→(w.heap.setIfInBounds b o')[b']? = w.heap[b']? := fun b' hne=>Array.getElem?_setIfInBounds_ne (Ne.symm hne)
 have hns:¬ Al cx.Av β σ.objs w b:=fun hS=>hS.2.2 q _ ho1 hlv (by rw [hl]; rfl)
 have key:=h.upd1 q ⟨g,bd'⟩ (β q) { w with heap:=w.heap.setIfInBounds b o' }
  (fun o ho=>by rw [ho1] at ho; injection ho with ho; subst ho; exact ⟨Nat.le_refl _,fun _=>⟨rfl,hsame⟩⟩)
  (fun b' _ hb'=>by rw [hl] at hb'; simp [Loc.block] at hb'; subst hb'; simpa using hblk)
  (fun b' _ hb'=>by
   rw [hl] at hb'; simp [Loc.block] at hb'; subst hb'
   exact ⟨hns,fun k' oo hne hoo hlv2 hb'=>h.inj q k' _ oo b ho1 hoo hlv hlv2 (Ne.symm hne) (by rw [hl]; rfl) hb'⟩)
  (fun b' hb' hne=>hother b' (fun e=>hne hlv' (by rw [hl,e]; rfl)))
  (by simp) rfl rfl rfl (fun _ hg0=>⟨_,ho1,hg0⟩)
 rw [Aaw] at key
 refine key ?_
 rw [hl]
 refine hr _ _ (fun b' hb'=>⟨by simpa using hb'.1,hb'.2.1,fun j o ho hlv2 => ?_⟩) (fun b' hb'=>hother b' (fun e=>hns (e▸hb'))) (by simp [hblt]) _
 by_cases hj:j=q
 ·subst hj
  exact hb'.2.2 j _ ho1 hlv
 ·rw [Cc _ _ hj] at ho
  exact hb'.2.2 j o ho hlv2
theorem Ahw {es:Array MapEntry} {j:Nat} (hj:j<es.size) (i:Nat):(es.eraseIdxIfInBounds j)[i]? = if i<j then es[i]? else es[i+1]? := by
 rw [Array.eraseIdxIfInBounds,dif_pos hj,Array.getElem?_eraseIdx]
theorem AoY (hT:Mm P T) (h:Rel cx β σ a w) {t:Nat} {ty:TypeId} {om ok:Operand} {t2:TypeId} (hm:An om=true) (hk:An ok=true) {y:MV} {wo obl} {ob:Nat→Option Obj}
  (hob:∀ k o,ob k=some o→σ.objs k=some o) (he:Wz T t ob (ev σ om) (ev σ ok)=some (y,wo,obl)) :
  Out P cx σ a (Builtin.delete_ #[t,t2] ty #[a.eval om,a.eval ok]) w y wo:=by
 have rm:=Ba h om hm
 have rk:=Ba h ok hk
 unfold Wz at he
 split at he
 case h_2=>simp at he
 rename_i e q g n hmt hpm hpk
 obtain ⟨kt,hu,hkt⟩:=Pr hT.1 hmt
 split at he
 case h_2=>simp at he
 rename_i z has f hg
 simp only [Option.some.injEq,Prod.mk.injEq] at he
 obtain ⟨rfl,rfl,rfl⟩:=he
 rw [hpm] at rm
 rw [hpk] at rk
 obtain ⟨ek,_⟩:=rk.inv_v
 obtain ⟨b,hbv,hkn⟩:=rm.inv_mref
 have ho1:=hob _ _ (Ra hg)
 have hl:=hkn.get ho1
 obtain ⟨b',es,clock,hl',hh,hmo,hzz,hr⟩:=h.ob q _ ho1
 rw [hl] at hl'
 injection hl' with hl'
 subst hl'
 have hget:(getObj b).run P w = .ok (.map es clock) w:=by simp [getObj,Sem.run,hh]
 have hset:∀ o,(setObj b o).run P w = .ok () { w with heap:=w.heap.setIfInBounds b o } := by intro o; simp [setObj,Sem.run,hh]
 have hckk:(Instr.checkKey es.isEmpty 10000 kt (.int .i64 n)).run P w = .ok () w:=Hb hkt _ n
 have fin:∀ (es':Array MapEntry),Xs es' clock (Ay has n false) →
   (∀ (i:Nat) (e:MapEntry) (m:Int),es'[i]? = some e→e.key = .int .i64 m→Rep (Al cx.Av β σ.objs w) w e.val (Ay f n z m)) →
   Rel cx β ⟨σ.slots,Bj σ.objs q ⟨g,.mp z (Ay has n false) (Ay f n z)⟩⟩ a { w with heap:=w.heap.setIfInBounds b (.map es' clock) } := by
  intro es' hm' hr'
  refine h.reput (bd' := .mp z (Ay has n false) (Ay f n z)) ho1 hl trivial trivial trivial hh _ fun S' w' hS hw hb' objs' => ?_
  refine ⟨b,es',clock,rfl,hb',hm',fun m hmf => ?_,fun i e m hi hem=>(hr' i e m hi hem).mono hS hw⟩
  simp only [Ay] at hmf ⊢
  split
  ·rfl
  ·rename_i hne
   rw [if_neg hne] at hmf
   exact hzz m hmf
 have hres:∀ (w':World) (β':Bi) (objs':Ar),RelV β' objs' (Al cx.Av β' objs' w') w' (.tuple #[]) (.p (.tup [])):=fun w' β' objs' => .p _ _ (.tup [] #[] rfl (fun i x hx=>by simp at hx))
 rw [hbv,ek]
 rcases Aam (P:=P) (w:=w) hkt hmo n with ⟨h1,h2⟩|⟨h1,j,e1,h2,h3,h4⟩
 ·refine ⟨_,_,β,?_,fin es ?_ ?_,hres _ _ _⟩
  ·simp [Builtin.delete_,run_underlying hu,hget,hckk,h2,hset]
  ·have hhas:∀ m,has m=true→(Ay has n false) m=true:=by
    intro m hm
    simp only [Ay]
    split
    ·rename_i e; subst e; rw [h1] at hm; exact hm
    ·exact hm
   refine ⟨fun i e hi => ?_,fun m hm => ?_,hmo.2.2⟩
   ·obtain ⟨m,q1,q2⟩:=hmo.1 i e hi
    exact ⟨m,q1,hhas m q2⟩
   ·simp only [Ay] at hm
    split at hm
    ·simp at hm
    ·exact hmo.2.1 m hm
  ·intro i e m hi hem
   obtain ⟨m',q1,q2⟩:=hmo.1 i e hi
   rw [hem] at q1
   injection q1 with _ q1
   subst q1
   have:m≠n:=fun e=>by subst e; rw [h1] at q2; simp at q2
   simp only [Ay,this,if_false]
   exact hr i e m hi hem
 ·have hjlt:j<es.size:=(Array.getElem?_eq_some_iff.1 h3).1
  have old:∀ (i:Nat) (e:MapEntry),(es.eraseIdxIfInBounds j)[i]? = some e→∃ i',es[i']? = some e∧i'=(if i<j then i else i+1):=by
   intro i e hi
   rw [Ahw hjlt] at hi
   split at hi
   ·rename_i hlt; exact ⟨i,hi,by rw [if_pos hlt]⟩
   ·rename_i hlt; exact ⟨i+1,hi,by rw [if_neg hlt]⟩
  have hkn2:∀ (i:Nat) (e:MapEntry) (m:Int),(es.eraseIdxIfInBounds j)[i]? = some e→e.key = .int .i64 m→m≠n:=by
   intro i e m hi hem hmn
   subst hmn
   obtain ⟨i',q1,q2⟩:=old i e hi
   have:=hmo.2.2.1 i' j e e1 m q1 h3 hem h4
   split at q2 <;> omega
  refine ⟨_,_,β,?_,fin (es.eraseIdxIfInBounds j) ?_ ?_,hres _ _ _⟩
  ·simp [Builtin.delete_,run_underlying hu,hget,hckk,h2,hset]
  ·refine ⟨fun i e hi => ?_,fun m hm => ?_,fun i i2 e e' m hi hi2 he1 he2 => ?_,fun i e hi => ?_,fun i i2 e e' hi hi2 he => ?_⟩
   ·obtain ⟨i',q1,q2⟩:=old i e hi
    obtain ⟨m,q3,q4⟩:=hmo.1 i' e q1
    have:=hkn2 i e m hi q3
    exact ⟨m,q3,by simp only [Ay,this,if_false]; exact q4⟩
   ·simp only [Ay] at hm
    split at hm
    ·simp at hm
    ·rename_i hne
     obtain ⟨i,e,q1,q2⟩:=hmo.2.1 m hm
     have hij:i≠j:=fun e'=>by
      subst e'
      rw [h3] at q1
      injection q1 with q1
      subst q1
      rw [h4] at q2
      injection q2 with _ q2
      exact hne q2.symm
     rcases Nat.lt_or_gt_of_ne hij with hlt|hgt
     ·exact ⟨i,e,by rw [Ahw hjlt,if_pos hlt]; exact q1,q2⟩
     ·exact ⟨i-1,e,by rw [Ahw hjlt,if_neg (by omega),show i-1+1=i by omega]; exact q1,q2⟩
   ·obtain ⟨i',q1,q2⟩:=old i e hi
    obtain ⟨i2',r1,r2⟩:=old i2 e' hi2
    have:=hmo.2.2.1 i' i2' e e' m q1 r1 he1 he2
    split at q2 <;> split at r2 <;> omega
   ·obtain ⟨i',q1,q2⟩:=old i e hi
    exact hmo.2.2.2.1 i' e q1
   ·obtain ⟨i',q1,q2⟩:=old i e hi
    obtain ⟨i2',r1,r2⟩:=old i2 e' hi2
    have:=hmo.2.2.2.2 i' i2' e e' q1 r1 he
    split at q2 <;> split at r2 <;> omega
  ·intro i e m hi hem
   have hne:=hkn2 i e m hi hem
   obtain ⟨i',q1,q2⟩:=old i e hi
   simp only [Ay,hne,if_false]
   exact hr i' e m q1 hem
theorem Anz (hT:Mm P T) (h:Rel cx β σ a w) {t:Nat} {om ok:Operand} (hm:An om=true) (hk:An ok=true) {y:MV} {wo obl} {ob:Nat→Option Obj}
  (hob:∀ k o,ob k=some o→σ.objs k=some o) (he:AdR T t ob (ev σ om) (ev σ ok)=some (y,wo,obl)) (ho:All obl) :
  Out P cx σ a (Instr.mapEntry t (a.eval om) (a.eval ok)) w y wo:=by
 have rm:=Ba h om hm
 have rk:=Ba h ok hk
 unfold AdR at he
 split at he
 case h_2=>simp at he
 rename_i e q g n hmt hpm hpk
 obtain ⟨kt,hu,hkt⟩:=Pr hT.1 hmt
 split at he
 case h_2=>simp at he
 rename_i z0 z has f born clock hz0 hg
 simp only [Option.some.injEq,Prod.mk.injEq] at he
 obtain ⟨rfl,rfl,rfl⟩:=he
 simp only [All,and_true] at ho
 rw [hpm] at rm
 rw [hpk] at rk
 obtain ⟨ek,_⟩:=rk.inv_v
 obtain ⟨b,hbv,hkn⟩:=rm.inv_mref
 have ho1:=hob _ _ (AiN hg)
 have hl:=hkn.get ho1
 obtain ⟨b',es,hl',hh,hmo,hzz,hr,hbo⟩:=h.ob q _ ho1
 rw [hl] at hl'
 injection hl' with hl'
 subst hl'
 have hget:(getObj b).run P w = .ok (.map es clock) w:=by simp [getObj,Sem.run,hh]
 have hset:∀ o,(setObj b o).run P w = .ok () { w with heap:=w.heap.setIfInBounds b o } := by intro o; simp [setObj,Sem.run,hh]
 obtain ⟨v0,hv0,hrep0⟩:=Aee (P:=P) (w:=w) hT hz0 (S:=Al cx.Av β σ.objs w)
 have hres:∀ (u:Value) (w':World) (objs':Ar) (s:Nat),Rep (Al cx.Av β objs' w') w' u (f n)→RelV β objs' (Al cx.Av β objs' w') w' (.tuple #[u,goInt s]) (.tup [.p (f n),.p (.v (.int .i64 (s:Nat)))]):=by
  intro u w' objs' s hu2
  refine .tup _ _ rfl (fun i x hx => ?_)
  match i,hx with
  | 0,hx=>simp at hx; subst hx; exact .p _ _ hu2
  | 1,hx=>simp at hx; subst hx; exact .mk_v rfl
  | i+2,hx=>simp at hx
 have fin:∀ (es':Array MapEntry) (has':Int→Bool) (born':Int→Nat) (clock':Nat) (u:Value),Rep (Al cx.Av β σ.objs w) w u (f n)→Xs es' clock' has'→(∀ m,has' m=false→f m=z) →
   (∀ (i:Nat) (e:MapEntry) (m:Int),es'[i]? = some e→e.key = .int .i64 m→Rep (Al cx.Av β σ.objs w) w e.val (f m)) →
   (∀ (i:Nat) (e:MapEntry) (m:Int),es'[i]? = some e→e.key = .int .i64 m→e.born=born' m) →
   Rel cx β ⟨σ.slots,Bj σ.objs q ⟨g,.mq (.clk z has' f born' clock')⟩⟩ a { w with heap:=w.heap.setIfInBounds b (.map es' clock') } ∧
   Rep (Al cx.Av β (Bj σ.objs q ⟨g,.mq (.clk z has' f born' clock')⟩) { w with heap:=w.heap.setIfInBounds b (.map es' clock') }) { w with heap:=w.heap.setIfInBounds b (.map es' clock') } u (f n):=by
  intro es' has' born' clock' u hu2 hm' hz' hr' hb'
  have hns:¬ Al cx.Av β σ.objs w b:=fun hS=>hS.2.2 q _ ho1 trivial (by rw [hl]; rfl)
  refine ⟨h.reput (bd' := .mq (.clk z has' f born' clock')) ho1 hl trivial trivial trivial hh _ fun S' w' hS hw hbb objs'=>⟨b,es',rfl,hbb,hm',hz',fun i e m hi hem=>(hr' i e m hi hem).mono hS hw,hb'⟩,hu2.mono (fun b' hb'=>⟨by simpa using hb'.1,hb'.2.1,fun j o ho hlv => ?_⟩) (fun b' hb'=>Array.getElem?_setIfInBounds_ne (fun e=>hns (by rw [e]; exact hb')))⟩
  by_cases hj:j=q
  ·subst hj
   exact hb'.2.2 j _ ho1 trivial
  ·rw [Cc _ _ hj] at ho
   exact hb'.2.2 j o ho hlv
 rw [hbv,ek]
 rcases Aam (P:=P) (w:=w) hkt hmo n with ⟨h1,h2⟩|⟨h1,j,e1,h2,h3,h4⟩
 ·have hpush:∀ (i:Nat) (e:MapEntry),(es.push { key := .int .i64 n,val:=v0,born:=clock })[i]? = some e→(es[i]? = some e)∨(i=es.size∧e = { key := .int .i64 n,val:=v0,born:=clock }):=by
   intro i e hi
   rw [Array.getElem?_push] at hi
   split at hi
   ·rename_i hie; right; exact ⟨hie,by simpa using hi.symm⟩
   ·left; exact hi
  have hnk:∀ (i:Nat) (e:MapEntry),es[i]? = some e→e.key ≠ .int .i64 n:=by
   intro i e hi hek
   obtain ⟨m,h5,h6⟩:=hmo.1 i e hi
   rw [hek] at h5
   injection h5 with _ h5
   subst h5
   rw [h1] at h6
   simp at h6
  have hv0f:Rep (Al cx.Av β σ.objs w) w v0 (f n):=by rw [hzz n h1]; exact ho _ _ _ hrep0
  simp only [h1,cond_false]
  have c1:Xs (es.push { key := .int .i64 n,val:=v0,born:=clock }) (clock+1) (Ay has n true):=by
   refine ⟨fun i e hi => ?_,fun m hmt2 => ?_,fun i j e e' m hi hj he1 he2 => ?_,fun i e hi => ?_,fun i j e e' hi hj he => ?_⟩
   ·rcases hpush i e hi with h5|⟨_,rfl⟩
    ·obtain ⟨m,h6,h7⟩:=hmo.1 i e h5
     refine ⟨m,h6,?_⟩
     simp only [Ay]
     split
     ·rfl
     ·exact h7
    ·exact ⟨n,rfl,by simp [Ay]⟩
   ·simp only [Ay] at hmt2
    by_cases hmn:m=n
    ·subst hmn
     exact ⟨es.size,{ key := .int .i64 m,val:=v0,born:=clock },by simp,rfl⟩
    ·rw [if_neg hmn] at hmt2
     obtain ⟨i,e,h5,h6⟩:=hmo.2.1 m hmt2
     have hlt:=(Array.getElem?_eq_some_iff.1 h5).1
     exact ⟨i,e,by rw [Array.getElem?_push,if_neg (by omega)]; exact h5,h6⟩
   ·rcases hpush i e hi with h5|⟨h5,rfl⟩
    ·rcases hpush j e' hj with h6|⟨h6,rfl⟩
     ·exact hmo.2.2.1 i j e e' m h5 h6 he1 he2
     ·exact absurd (by rw [he1]; exact he2.symm) (hnk i e h5)
    ·rcases hpush j e' hj with h6|⟨h6,rfl⟩
     ·exact absurd (by rw [he2]; exact he1.symm) (hnk j e' h6)
     ·omega
   ·rcases hpush i e hi with h5|⟨_,rfl⟩
    ·have:=hmo.2.2.2.1 i e h5
     omega
    ·show clock<clock+1
     omega
   ·rcases hpush i e hi with h5|⟨h5,rfl⟩
    ·rcases hpush j e' hj with h6|⟨h6,rfl⟩
     ·exact hmo.2.2.2.2 i j e e' h5 h6 he
     ·have:=hmo.2.2.2.1 i e h5
      have he:e.born=clock:=he
      omega
    ·rcases hpush j e' hj with h6|⟨h6,rfl⟩
     ·have:=hmo.2.2.2.1 j e' h6
      have he:clock=e'.born:=he
      omega
     ·omega
  have c2:∀ m,(Ay has n true) m=false→f m=z:=by
   intro m hmf
   simp only [Ay] at hmf
   split at hmf
   ·simp at hmf
   ·exact hzz m hmf
  have c3:∀ (i:Nat) (e:MapEntry) (m:Int),(es.push { key := .int .i64 n,val:=v0,born:=clock })[i]? = some e→e.key = .int .i64 m→Rep (Al cx.Av β σ.objs w) w e.val (f m):=by
   intro i e m hi hem
   rcases hpush i e hi with h5|⟨h5,rfl⟩
   ·exact hr i e m h5 hem
   ·simp only at hem
    injection hem with _ hem
    subst hem
    exact hv0f
  have c4:∀ (i:Nat) (e:MapEntry) (m:Int),(es.push { key := .int .i64 n,val:=v0,born:=clock })[i]? = some e→e.key = .int .i64 m→e.born=(Ay born n clock) m:=by
   intro i e m hi hem
   rcases hpush i e hi with h5|⟨h5,rfl⟩
   ·have hne:m≠n:=fun e'=>hnk i e h5 (by rw [hem,e'])
    simp only [Ay,hne,if_false]
    exact hbo i e m h5 hem
   ·simp only at hem
    injection hem with _ hem
    subst hem
    simp [Ay]
  obtain ⟨k1,k2⟩:=fin (es.push { key := .int .i64 n,val:=v0,born:=clock }) (Ay has n true) (Ay born n clock) (clock+1) v0 hv0f c1 c2 c3 c4
  refine ⟨_,_,β,?_,k1,hres v0 _ _ clock k2⟩
  simp [Instr.mapEntry,run_underlying hu,hget,Hb hkt,h2,hv0,hset]
 ·have hjlt:j<es.size:=(Array.getElem?_eq_some_iff.1 h3).1
  have hkk:((es[j]?).map (·.key)).getD (.int .i64 n) = .int .i64 n:=by rw [h3]; simp [h4]
  have hks:∀ (v:Value),v = .int .i64 n→(Instr.keyThatStays v (.int .i64 n)).run P w = .ok (.int .i64 n) w:=by
   intro v hv2
   subst hv2
   simp [Instr.keyThatStays,AgL]
  have hmod:(es.modify j fun e => { e with key := .int .i64 n })=es:=by
   apply Array.ext_getElem?
   intro i
   rw [Array.getElem?_modify]
   by_cases hij:j=i
   ·subst hij
    simp only [if_pos,h3,Option.map_some,Option.some.injEq]
    cases e1
    simp only at h4
    subst h4
    rfl
   ·simp [hij]
  have hbs:((es[j]?).map (fun x=>(x.born:Int))).getD 0=born n:=by rw [h3]; simp [hbo j e1 n h3 h4]
  have hhas:Ay has n true=has:=by
   funext m
   simp only [Ay]
   split
   ·rename_i e; subst e; exact h1.symm
   ·rfl
  have hbn:Ay born n (born n)=born:=by
   funext m
   simp only [Ay]
   split
   ·rename_i e; subst e; rfl
   ·rfl
  simp only [h1,cond_true,hhas,hbn]
  obtain ⟨k1,k2⟩:=fin es has born clock e1.val (hr j e1 n h3 h4) hmo hzz hr hbo
  refine ⟨_,_,β,?_,k1,hres e1.val _ _ (born n) k2⟩
  simp [Instr.mapEntry,run_underlying hu,hget,Hb hkt,h2,hset,hks _ hkk,hmod,hbs]
theorem Alp (h:Rel cx β σ a w) {t:Nat} {n:Int} {om os ov:Operand} (hm:An om=true) (hs:An os=true) (hv:An ov=true) {y:MV} {wo obl} {ob:Nat→Option Obj}
  (hob:∀ k o,ob k=some o→σ.objs k=some o) (he:AaX n ob (ev σ om) (ev σ os) (ev σ ov)=some (y,wo,obl)) (ho:All obl) :
  ∃ w' β',(Instr.entryStore t (a.eval om) (a.eval os) (a.eval ov)).run P w = .ok () w'∧Rel cx β' ⟨σ.slots,Cb σ.objs wo⟩ a w'∧y = .und:=by
 have rm:=Ba h om hm
 have rs:=Ba h os hs
 have rv:=Ba h ov hv
 unfold AaX at he
 split at he
 case h_2=>simp at he
 rename_i q g st x hpm hps hpv
 split at he
 case h_2=>simp at he
 rename_i z has f born clock hg
 simp only [Option.some.injEq,Prod.mk.injEq] at he
 obtain ⟨rfl,rfl,rfl⟩:=he
 simp only [All,and_true] at ho
 obtain ⟨hhas,hst⟩:=ho
 rw [hpm] at rm
 rw [hps] at rs
 obtain ⟨es_,_⟩:=rs.inv_v
 have hrep:=Ahm rv hpv
 obtain ⟨b,hbv,hkn⟩:=rm.inv_mref
 have ho1:=hob _ _ (AiN hg)
 have hl:=hkn.get ho1
 obtain ⟨b',es,hl',hh,hmo,hzz,hr,hbo⟩:=h.ob q _ ho1
 rw [hl] at hl'
 injection hl' with hl'
 subst hl'
 have hget:(getObj b).run P w = .ok (.map es clock) w:=by simp [getObj,Sem.run,hh]
 have hset:∀ o,(setObj b o).run P w = .ok () { w with heap:=w.heap.setIfInBounds b o } := by intro o; simp [setObj,Sem.run,hh]
 obtain ⟨j,e1,h3,h4⟩:=hmo.2.1 n hhas
 have hb1:e1.born=born n:=hbo j e1 n h3 h4
 have hjlt:j<es.size:=(Array.getElem?_eq_some_iff.1 h3).1
 have hfind:es.findIdx? (fun e=>(e.born:Int)==st)=some j:=by
  rw [Array.findIdx?_eq_some_iff_getElem]
  refine ⟨hjlt,?_,fun i hi => ?_⟩
  ·have:es[j]=e1:=by rw [Array.getElem?_eq_getElem hjlt] at h3; simpa using h3
   rw [this,hst,hb1]
   simp
  ·intro hc
   have hc':((es[i]'(by omega)).born:Int)=st:=by simpa using hc
   have e2:(es[i]'(by omega)).born=e1.born:=by rw [hb1]; rw [hst] at hc'; exact_mod_cast hc'
   have:=hmo.2.2.2.2 i j _ e1 (Array.getElem?_eq_getElem (by omega)) h3 e2
   omega
 have hmod:∀ (i:Nat),(es.modify j fun e => { e with val:=a.eval ov })[i]? = if i=j then some { e1 with val:=a.eval ov } else es[i]? := by
  intro i
  rw [Array.getElem?_modify]
  by_cases hij:j=i
  ·subst hij; simp [h3]
  ·have:¬ i=j:=fun e=>hij e.symm
   simp [hij,this]
 have hback:∀ (i:Nat) (e:MapEntry),(es.modify j fun e => { e with val:=a.eval ov })[i]? = some e→∃ e0,es[i]? = some e0∧e0.key=e.key∧e0.born=e.born∧((i=j∧e.val=a.eval ov)∨(i≠j∧e=e0)):=by
  intro i e hi
  rw [hmod i] at hi
  split at hi
  ·rename_i hij
   simp at hi
   subst hi
   exact ⟨e1,by rw [hij]; exact h3,rfl,rfl,.inl ⟨hij,rfl⟩⟩
  ·rename_i hij
   exact ⟨e,hi,rfl,rfl,.inr ⟨hij,rfl⟩⟩
 refine ⟨_,β,?_,h.reput (bd' := .mq (.clk z has (Ay f n x) born clock)) ho1 hl trivial trivial trivial hh (.map (es.modify j fun e => { e with val:=a.eval ov }) clock) fun S' w' hS hw hbb objs' => ?_,rfl⟩
 ·rw [hbv,es_]
  simp [Instr.entryStore,hget,asInt,asIntOf,hfind,hset]
 ·refine ⟨b,_,rfl,hbb,⟨fun i e hi => ?_,fun m hm2 => ?_,fun i i2 e e' m hi hi2 he1 he2 => ?_,fun i e hi => ?_,fun i i2 e e' hi hi2 he => ?_⟩,fun m hmf => ?_,fun i e m hi hem => ?_,fun i e m hi hem => ?_⟩
  ·obtain ⟨e0,q1,q2,_⟩:=hback i e hi
   rw [← q2]
   exact hmo.1 i e0 q1
  ·obtain ⟨i,e,q1,q2⟩:=hmo.2.1 m hm2
   by_cases hij:i=j
   ·subst hij
    rw [h3] at q1
    injection q1 with q1
    subst q1
    exact ⟨i,{ e1 with val:=a.eval ov },by rw [hmod i,if_pos rfl],q2⟩
   ·exact ⟨i,e,by rw [hmod i,if_neg hij]; exact q1,q2⟩
  ·obtain ⟨e0,q1,q2,_⟩:=hback i e hi
   obtain ⟨e0',r1,r2,_⟩:=hback i2 e' hi2
   exact hmo.2.2.1 i i2 e0 e0' m q1 r1 (by rw [q2]; exact he1) (by rw [r2]; exact he2)
  ·obtain ⟨e0,q1,_,q2,_⟩:=hback i e hi
   rw [← q2]
   exact hmo.2.2.2.1 i e0 q1
  ·obtain ⟨e0,q1,_,q2,_⟩:=hback i e hi
   obtain ⟨e0',r1,_,r2,_⟩:=hback i2 e' hi2
   exact hmo.2.2.2.2 i i2 e0 e0' q1 r1 (by rw [q2,r2]; exact he)
  ·have hne:m≠n:=fun e=>by subst e; rw [hhas] at hmf; simp at hmf
   simp only [Ay,hne,if_false]
   exact hzz m hmf
  ·obtain ⟨e0,q1,q2,q3,q4⟩:=hback i e hi
   rcases q4 with ⟨hij,hval⟩|⟨hij,rfl⟩
   ·have:m=n:=by
     subst hij
     rw [h3] at q1
     injection q1 with q1
     subst q1
     rw [← q2,h4] at hem
     injection hem with _ hem
     exact hem.symm
    subst this
    simp only [Ay,if_true]
    rw [hval]
    exact hrep.mono hS hw
   ·have hne:m≠n:=fun e'=>by
     subst e'
     exact hij (hmo.2.2.1 i j e e1 m q1 h3 hem h4)
    simp only [Ay,hne,if_false]
    exact (hr i e m q1 hem).mono hS hw
  ·obtain ⟨e0,q1,q2,q3,_⟩:=hback i e hi
   rw [← q3]
   exact hbo i e0 m q1 (by rw [q2]; exact hem)
theorem Rel.die (h:Rel cx β σ a w) {k g:Nat} {bd:Body} (ho:σ.objs k=some ⟨g,bd⟩) (hlv:bd.live) :
  Rel cx β ⟨σ.slots,Bj σ.objs k ⟨g+1,.dead⟩⟩ a w∧(∀ b,Al cx.Av β σ.objs w b→Al cx.Av β (Bj σ.objs k ⟨g+1,.dead⟩) w b)∧∀ b,(β k).block=some b→Al cx.Av β (Bj σ.objs k ⟨g+1,.dead⟩) w b:=by
 have hg:Grows β β σ.objs (Bj σ.objs k ⟨g+1,.dead⟩):=by
  intro j o hj
  by_cases e:j=k
  ·subst e
   rw [ho] at hj; injection hj with hj; subst hj
   exact ⟨_,Bb _ _ _,Nat.le_succ _,fun e=>absurd e (by simp)⟩
  ·exact ⟨o,by rw [Cc _ _ e]; exact hj,Nat.le_refl _,fun _=>⟨rfl,Body.same_refl _⟩⟩
 have hold:∀ j o',Bj σ.objs k ⟨g+1,.dead⟩ j=some o'→o'.body.live→j≠k∧σ.objs j=some o':=by
  intro j o' hj hl
  by_cases e:j=k
  ·subst e; rw [Bb] at hj; injection hj with hj; subst hj; exact absurd hl (by simp [Body.live])
  ·rw [Cc _ _ e] at hj; exact ⟨e,hj⟩
 have hS:∀ b,Al cx.Av β σ.objs w b→Al cx.Av β (Bj σ.objs k ⟨g+1,.dead⟩) w b:=fun b hb=>⟨hb.1,hb.2.1,fun j o' hj hl=>hb.2.2 j o' (hold j o' hj hl).2 hl⟩
 have hSk:∀ b,(β k).block=some b→Al cx.Av β (Bj σ.objs k ⟨g+1,.dead⟩) w b:=by
  intro b hb
  have hblk:=h.blk k _ b ho hlv hb
  exact ⟨hblk.1,hblk.2.1,fun j o' hj hl=>h.inj k j _ o' b ho (hold j o' hj hl).2 hlv hl (Ne.symm (hold j o' hj hl).1) hb⟩
 refine ⟨⟨h.nd,h.sz,fun t'=>(h.sl t').mono hg hS (fun _ _=>rfl),fun j o' hj => ?_,fun j o' b hj hl hb => ?_,fun j j' o o' b hj hj' hl hl' hne hb => ?_,h.kept,h.avo,h.avlt,h.mle,fun j o' hjm hj hgen => ?_⟩,hS,hSk⟩
 ·by_cases e:j=k
  ·have hj:Bj σ.objs k ⟨g+1,.dead⟩ j=some o':=hj
   subst e; rw [Bb] at hj; injection hj with hj; subst hj; trivial
  ·have hj:Bj σ.objs k ⟨g+1,.dead⟩ j=some o':=hj
   rw [Cc _ _ e] at hj
   exact (h.ob j o' hj).mono hg hS (fun _ _=>rfl) (fun _ _=>rfl)
 ·exact h.blk j o' b (hold j o' hj hl).2 hl hb
 ·exact h.inj j j' o o' b (hold j o hj hl).2 (hold j' o' hj' hl').2 hl hl' hne hb
 ·by_cases e:j=k
  ·have hj:Bj σ.objs k ⟨g+1,.dead⟩ j=some o':=hj
   subst e; rw [Bb] at hj; injection hj with hj; subst hj; simp at hgen
  ·have hj:Bj σ.objs k ⟨g+1,.dead⟩ j=some o':=hj
   rw [Cc _ _ e] at hj
   exact h.oloc j o' hjm hj hgen
theorem AlU {objs:Ar} (h:Rel cx β ⟨σ.slots,objs⟩ a w) {k:Nat} (hk:1000≤k) {z:PV} {has:Int→Bool} {f:Int→PV} {b clock:Nat} {es:Array MapEntry} (hs:Al cx.Av β objs w b) (hh:w.heap[b]? = some (.map es clock)) (hmo:Xs es clock has)
  (hr:∀ (i:Nat) (e:MapEntry) (n:Int),es[i]? = some e→e.key = .int .i64 n→Rep (Al cx.Av β objs w) w e.val (f n)) :
  Rel cx (Fo β k (.box w.heap.size)) ⟨σ.slots,Bj objs k ⟨Bl (objs k),.mq (.it f has none)⟩⟩ a (w.alloc (.mapIter (some b) clock #[] clock)):=by
 refine h.fresh k (.mq (.it f has none)) (.box w.heap.size) w _ ⟨rfl,rfl,rfl,rfl⟩ rfl (.inl hk) ?_
 intro S' β' objs' hS hg
 refine ⟨w.heap.size,b,es,clock,clock,#[],clock,has,rfl,heap_alloc_new w _,hS _ hs,by rw [Adm w _ hs.1]; exact hh,hmo,rfl,rfl,fun i e n hi hn=>(hr i e n hi hn).mono hS (fun b' hb'=>Adm w _ hb'.1),fun n=>⟨fun hn => ?_,?_⟩,fun n hn=>by simp at hn⟩
 ·obtain ⟨i,e,q1,q2⟩:=hmo.2.1 n hn
  exact ⟨i,e,q1,q2,by simp⟩
 ·rintro ⟨i,e,q1,q2,_⟩
  obtain ⟨m,q3,q4⟩:=hmo.1 i e q1
  rw [q2] at q3
  injection q3 with _ q3
  subst q3
  exact q4
theorem snd_range (hT:Mm P T) (h:Rel cx β σ a w) {t dst:Nat} {ox:Operand} (hx:An ox=true) {y:MV} {wo obl} {ob:Nat→Option Obj} (hobs:∀ k o,ob k=some o→σ.objs k=some o) (hob:ob (key dst 0)=σ.objs (key dst 0))
  (he:Sr T t dst ob (ev σ ox)=some (y,wo,obl)):Out P cx σ a (Instr.range t (a.eval ox)) w y wo:=by
 have rx:=Ba h ox hx
 unfold Sr at he
 split at he
 case h_3=>simp at he
 ·rename_i e z has f hmt hp
  obtain ⟨k,hu,hk⟩:=Pr hT.1 hmt
  simp only [Option.some.injEq,Prod.mk.injEq] at he
  obtain ⟨rfl,rfl,rfl⟩:=he
  rw [hp] at rx
  have rp:=rx.inv_p
  generalize a.eval ox=v at rp
  cases rp with
  | mp _ _ _ b clock es hs hh hk hz hr =>
   have hget:(getObj b).run P w = .ok (.map es clock) w:=by simp [getObj,Sem.run,hh]
   refine ⟨.pointer (some ⟨w.heap.size,0,none⟩),w.alloc (.mapIter (some b) clock #[] clock),Fo β (key dst 0) (.box w.heap.size),?_,?_,?_⟩
   ·simp [Instr.range,run_underlying hu,hget]
   ·simp only [Cb,hob]
    exact AlU (σ:=σ) (z:=z) h (by unfold key; omega) hs hh hk hr
   ·simp only [Cb,hob]
    exact .ref _ _ _ _ ⟨_,Bb _ _ _,Nat.le_refl _,fun _=>by rw [Db]⟩
 ·rename_i e q g hmt hp
  obtain ⟨k,hu,hk⟩:=Pr hT.1 hmt
  split at he
  case h_2=>simp at he
  rename_i z has f hg
  cases hqk:Nat.beq q (key dst 0) with
  | true=>simp [hqk] at he
  | false =>
  simp only [hqk,cond_false,Option.some.injEq,Prod.mk.injEq] at he
  obtain ⟨rfl,rfl,rfl⟩:=he
  have hne:key dst 0≠q:=fun e=>by subst e; rw [Ch] at hqk; simp at hqk
  rw [hp] at rx
  obtain ⟨b,hbv,hkn⟩:=rx.inv_mref
  have ho1:=hobs _ _ (Ra hg)
  have hl:=hkn.get ho1
  obtain ⟨b',es,clock,hl',hh,hmo,hzz,hr⟩:=h.ob q _ ho1
  rw [hl] at hl'
  injection hl' with hl'
  subst hl'
  obtain ⟨d1,d2,d3⟩:=h.die ho1 trivial
  have hget:(getObj b).run P w = .ok (.map es clock) w:=by simp [getObj,Sem.run,hh]
  have hkey:Bj σ.objs q ⟨g+1,.dead⟩ (key dst 0)=σ.objs (key dst 0):=Cc _ _ hne
  refine ⟨.pointer (some ⟨w.heap.size,0,none⟩),w.alloc (.mapIter (some b) clock #[] clock),Fo β (key dst 0) (.box w.heap.size),?_,?_,?_⟩
  ·rw [hbv]
   simp [Instr.range,run_underlying hu,hget]
  ·have:=AlU (σ:=σ) (z:=z) d1 (k:=key dst 0) (by unfold key; omega) (d3 b (by rw [hl]; rfl)) hh hmo (fun i e n hi hn=>(hr i e n hi hn).mono d2 (fun _ _=>rfl))
   rw [hkey] at this
   simp only [Cb,hob]
   exact this
  ·simp only [Cb,hob]
   exact .ref _ _ _ _ ⟨_,Bb _ _ _,Nat.le_refl _,fun _=>by rw [Db]⟩
theorem AoL (es:List MapEntry) (e:MapEntry) (he:e∈es) (hn:∀ x∈es,∀ y∈es,x.born=y.born→x=y):es.find? (·.born==e.born)=some e:=by
 induction es with
 | nil=>simp at he
 | cons x r ih =>
  simp only [List.find?_cons]
  by_cases hx:x.born=e.born
  ·rw [hn x (by simp) e he hx]
   simp
  ·have:(x.born==e.born)=false:=by simpa using hx
   rw [this]
   rcases List.mem_cons.1 he with rfl|he
   ·exact absurd rfl hx
   ·exact ih he (fun p hp q hq=>hn p (by simp [hp]) q (by simp [hq]))
theorem snd_entry (h:Rel cx β σ a w) {ox:Operand} (hx:An ox=true) {y:MV} {wo obl} {ob:Nat→Option Obj}
  (hob:∀ k o,ob k=some o→σ.objs k=some o) (he:Zn ob (ev σ ox)=some (y,wo,obl)):Out P cx σ a (Instr.entry (a.eval ox)) w y wo:=by
 have rx:=Ba h ox hx
 unfold Zn at he
 split at he
 case h_2=>simp at he
 rename_i k g hp
 split at he
 case h_2=>simp at he
 rename_i f rem n hg
 simp only [Option.some.injEq,Prod.mk.injEq] at he
 obtain ⟨rfl,rfl,rfl⟩:=he
 rw [hp] at rx
 obtain ⟨b,hbv,hkn⟩:=rx.inv_ref
 have ho1:=hob _ _ (AoP hg)
 have hl:=hkn.get ho1
 obtain ⟨b',bm,es,clock,since,seen,c0,has,hl',h1,h2,h3,h4,h5,h6,h7,h8,h9⟩:=h.ob k _ ho1
 rw [hl] at hl'
 injection hl' with hl'
 subst hl'
 obtain ⟨hc,i,e,q1,q2,q3⟩:=h9 n rfl
 have hf:es.find? (·.born==e.born)=some e:=by
  rw [← Array.find?_toList]
  refine AoL es.toList e (by simpa using Array.mem_of_getElem? q1) (fun x hx y hy hxy => ?_)
  obtain ⟨i1,hi1,e1⟩:=List.getElem_of_mem hx
  obtain ⟨i2,hi2,e2⟩:=List.getElem_of_mem hy
  have r1:es[i1]? = some x:=by simp at hi1 e1; rw [Array.getElem?_eq_getElem hi1,e1]
  have r2:es[i2]? = some y:=by simp at hi2 e2; rw [Array.getElem?_eq_getElem hi2,e2]
  have:=h4.2.2.2.2 i1 i2 x y r1 r2 hxy
  subst this
  rw [r1] at r2
  exact Option.some.inj r2
 have hget:(getObj b).run P w = .ok (.mapIter (some bm) since seen c0) w:=by simp [getObj,Sem.run,h1]
 have hget2:(getObj bm).run P w = .ok (.map es clock) w:=by simp [getObj,Sem.run,h3]
 refine Aqm h (v := .tuple #[e.key,e.val]) ?_ ?_
 ·rw [hbv]
  simp only [at_]
  simp [Instr.entry,hget,hget2,q3,hc,hf]
 ·refine .tup _ _ rfl (fun i2 x hx => ?_)
  match i2,hx with
  | 0,hx=>simp at hx; subst hx; show RelV _ _ _ _ e.key _; rw [q2]; exact .mk_v rfl
  | 1,hx=>simp at hx; subst hx; exact .p _ _ (h7 i e n q1 q2)
  | i2+2,hx=>simp at hx
end
end Go.Dm
