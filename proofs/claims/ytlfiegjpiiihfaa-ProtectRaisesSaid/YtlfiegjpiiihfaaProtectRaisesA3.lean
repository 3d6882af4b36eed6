/- Texts of the proof of ProtectRaises: the data machine, the models of the Go functions, their contracts. -/
import Derived.Test.YtlfiegjpiiihfaaProtectRaisesA1
import Derived.Test.YtlfiegjpiiihfaaProtectRaisesA2
import Derived.Test.YtlfiegjpiiihfaaProg
set_option linter.unusedVariables false
set_option linter.unusedSimpArgs false
/- The data machine, part 24: states by their changes; shorter words for the printed proofs. -/
namespace Go.Dm
def memN : List Nat → Nat → Bool
 | [], _ => false
 | a :: r, k => bif Nat.beq a k then true else memN r k
def delK {α : Type} (ds : List Nat) : List (Nat × α) → List (Nat × α)
 | [] => []
 | (k, x) :: r => bif memN ds k then delK ds r else (k, x) :: delK ds r
def insK {α : Type} (k : Nat) (x : α) : List (Nat × α) → List (Nat × α)
 | [] => [(k, x)]
 | (t, y) :: r => bif Nat.beq k t then (k, x) :: r else bif Nat.ble k t then (k, x) :: (t, y) :: r else (t, y) :: insK k x r
def insA {α : Type} : List (Nat × α) → List (Nat × α) → List (Nat × α)
 | [], l => l
 | (k, x) :: r, l => insK k x (insA r l)
def up {α : Type} (ds : List Nat) (us l : List (Nat × α)) : List (Nat × α) := insA us (delK ds l)
theorem assoc_insK {α : Type} (k : Nat) (x : α) (l : List (Nat × α)) (j : Nat) : assoc (insK k x l) j = assoc ((k, x) :: l) j := by
 induction l with
 | nil => rfl
 | cons p r ih =>
  obtain ⟨t, y⟩ := p
  rw [insK]
  cases hb : Nat.beq k t with
  | true =>
   have := Nat.eq_of_beq_eq_true hb
   subst this
   simp only [cond_true, assoc]
   cases Nat.beq j k <;> rfl
  | false =>
   simp only [cond_false]
   cases Nat.ble k t with
   | true => rfl
   | false =>
    simp only [cond_false, assoc] at ih ⊢
    rw [ih]
    cases h1 : Nat.beq j t with
    | true =>
     have := Nat.eq_of_beq_eq_true h1
     subst this
     cases h2 : Nat.beq j k with
     | true =>
      have := Nat.eq_of_beq_eq_true h2
      subst this
      rw [h1] at hb
      cases hb
     | false => rfl
    | false => rfl
theorem mset_has {α : Type} (m : IMap α) (n : Int) (v : α) : updI m.has n true = (m.set n v).has := rfl
theorem mset_get {α : Type} (enc : α → PV) (m : IMap α) (n : Int) (v : α) : updI (fun j => enc (m.get j)) n (enc v) = fun j => enc ((m.set n v).get j) := by
 funext j
 show (if j = n then enc v else enc (m.get j)) = enc (if j = n then v else m.get j)
 split <;> rfl
inductive AdP where
 | s (t : Nat)
 | a (t j : Nat)
 | o (q j : Nat)
def adNil (k : Nat) : MV → Option MV
 | .p (.sl .nil _ n _) => bif Nat.beq n 0 then some (.own k 0 0 0) else none
 | _ => none
def adCell (k : Nat) : Nat → List MV → Option (List MV)
 | _, [] => none
 | 0, x :: r => match adNil k x with
  | some y => some (y :: r)
  | none => none
 | j + 1, x :: r => match adCell k j r with
  | some s => some (x :: s)
  | none => none
def adMV (k : Nat) : Option Nat → MV → Option MV
 | none, x => adNil k x
 | some j, .agg cs => (adCell k j cs).map .agg
 | _, _ => none
def adObj (k j : Nat) : Obj → Option Obj
 | ⟨g, .box cs⟩ => (adCell k j cs).map fun ds => ⟨g, .box ds⟩
 | _ => none
def adSlot (k t : Nat) (j : Option Nat) : List (Nat × MV) → Option (List (Nat × MV))
 | [] => none
 | (q, x) :: r => bif Nat.beq q t then (adMV k j x).map fun y => (q, y) :: r else (adSlot k t j r).map fun s => (q, x) :: s
def adBox (k q j : Nat) : List (Nat × Obj) → Option (List (Nat × Obj))
 | [] => none
 | (i, o) :: r => bif Nat.beq i q then (adObj k j o).map fun p => (i, p) :: r else (adBox k q j r).map fun s => (i, o) :: s
def adOne (k : Nat) (sl : List (Nat × MV)) (ob : List (Nat × Obj)) : AdP → Option (List (Nat × MV) × List (Nat × Obj))
 | .s t => (adSlot k t none sl).map fun s => (s, ob)
 | .a t j => (adSlot k t (some j) sl).map fun s => (s, ob)
 | .o q j => (adBox k q j ob).map fun b => (sl, b)
def adAll : List (AdP × Nat × Nat × (Nat → List PV)) → List (Nat × MV) → List (Nat × Obj) → Option (List (Nat × MV) × List (Nat × Obj))
 | [], sl, ob => some (sl, ob)
 | (p, k, W, f) :: r, sl, ob => bif Nat.ble 1000 k && (assoc ob k).isNone then (adOne k sl ob p).bind fun q => adAll r q.1 (insK k ⟨0, .row W 0 f⟩ q.2) else none
theorem adNil_ok {k : Nat} {x y : MV} (h : adNil k x = some y) : Ad1 k x y := by
 unfold adNil at h
 split at h
 ·rename_i W n f
  cases hb : Nat.beq n 0 with
  | true =>
   rw [hb] at h
   have := Nat.eq_of_beq_eq_true hb
   subst this
   simp only [cond_true, Option.some.injEq] at h
   subst h
   exact .nil _ _
  | false => rw [hb] at h; simp at h
 ·simp at h
theorem adCell_ok {k : Nat} : ∀ {j : Nat} {l m : List MV}, adCell k j l = some m → AdL k l m
 | _, [], _, h => by simp [adCell] at h
 | 0, x :: r, m, h => by
  rw [adCell] at h
  split at h
  ·rename_i y hy
   simp only [Option.some.injEq] at h
   subst h
   exact .cons (adNil_ok hy) (.rfl _)
  ·simp at h
 | j + 1, x :: r, m, h => by
  rw [adCell] at h
  split at h
  ·rename_i s hs
   simp only [Option.some.injEq] at h
   subst h
   exact .cons (.rfl _) (adCell_ok hs)
  ·simp at h
theorem adMV_ok {k : Nat} {j : Option Nat} {x y : MV} (h : adMV k j x = some y) : Ad k x y := by
 unfold adMV at h
 split at h
 ·exact .one (adNil_ok h)
 ·obtain ⟨ds, hd, rfl⟩ := Option.map_eq_some_iff.mp h
  exact .agg (adCell_ok hd)
 ·simp at h
theorem adSlot_ok {k t : Nat} {j : Option Nat} : ∀ {l m : List (Nat × MV)}, adSlot k t j l = some m → AdS k l m
 | [], _, h => by simp [adSlot] at h
 | (q, x) :: r, m, h => by
  rw [adSlot] at h
  cases hb : Nat.beq q t with
  | true =>
   rw [hb, cond_true] at h
   obtain ⟨y, hy, rfl⟩ := Option.map_eq_some_iff.mp h
   exact .cons (adMV_ok hy) (.rfl _)
  | false =>
   rw [hb, cond_false] at h
   obtain ⟨s, hs, rfl⟩ := Option.map_eq_some_iff.mp h
   exact .cons (.one (.rfl _)) (adSlot_ok hs)
theorem adBox_ok {k q j : Nat} : ∀ {l m : List (Nat × Obj)}, adBox k q j l = some m → AdO k l m
 | [], _, h => by simp [adBox] at h
 | (i, o) :: r, m, h => by
  rw [adBox] at h
  cases hb : Nat.beq i q with
  | true =>
   rw [hb, cond_true] at h
   obtain ⟨p, hp, rfl⟩ := Option.map_eq_some_iff.mp h
   unfold adObj at hp
   split at hp
   ·obtain ⟨ds, hd, rfl⟩ := Option.map_eq_some_iff.mp hp
    exact .box (adCell_ok hd) (.rfl _)
   ·simp at hp
  | false =>
   rw [hb, cond_false] at h
   obtain ⟨s, hs, rfl⟩ := Option.map_eq_some_iff.mp h
   exact .keep (adBox_ok hs)
theorem mkSt_ins (sl : List (Nat × MV)) (k : Nat) (o : Obj) (ob : List (Nat × Obj)) : mkSt sl (insK k o ob) = mkSt sl ((k, o) :: ob) := by
 unfold mkSt
 congr 1
 funext j
 exact assoc_insK k o ob j
theorem Conv.adsAll {cx : Cx} : ∀ (acts : List (AdP × Nat × Nat × (Nat → List PV))) {sl sl' : List (Nat × MV)} {ob ob' : List (Nat × Obj)}, adAll acts sl ob = some (sl', ob') → Conv cx (mkSt sl ob) (mkSt sl' ob')
 | [], sl, sl', ob, ob', h => by
  simp only [adAll, Option.some.injEq, Prod.mk.injEq] at h
  obtain ⟨rfl, rfl⟩ := h
  exact .refl
 | (p, k, W, f) :: r, sl, sl', ob, ob', h => by
  rw [adAll] at h
  cases hk : (Nat.ble 1000 k && (assoc ob k).isNone) with
  | false => rw [hk] at h; simp at h
  | true =>
   rw [hk, cond_true] at h
   obtain ⟨q, hq, h⟩ := Option.bind_eq_some_iff.mp h
   rw [Bool.and_eq_true, Option.isNone_iff_eq_none] at hk
   have a : Conv cx (mkSt sl ob) (mkSt q.1 (insK k ⟨0, .row W 0 f⟩ q.2)) := by
    rw [mkSt_ins]
    unfold adOne at hq
    split at hq
    ·obtain ⟨s, hs, rfl⟩ := Option.map_eq_some_iff.mp hq
     exact Conv.adopt k W f hk.1 hk.2 (adSlot_ok hs) (AdO.rfl ob)
    ·obtain ⟨s, hs, rfl⟩ := Option.map_eq_some_iff.mp hq
     exact Conv.adopt k W f hk.1 hk.2 (adSlot_ok hs) (AdO.rfl ob)
    ·obtain ⟨b, hb, rfl⟩ := Option.map_eq_some_iff.mp hq
     exact Conv.adopt k W f hk.1 hk.2 (AdS.rfl sl) (adBox_ok hb)
   exact a.trans (Conv.adsAll r h)
theorem Conv.ads {cx : Cx} (acts : List (AdP × Nat × Nat × (Nat → List PV))) {sl sl' : List (Nat × MV)} {ob ob' : List (Nat × Obj)} (h : adAll acts sl ob = some (sl', ob') := by kernel_rfl) : Conv cx (mkSt sl ob) (mkSt sl' ob') := Conv.adsAll acts h
theorem Conv.frz {cx : Cx} (ks : List Nat) {sl sl' : List (Nat × MV)} {ob ob' : List (Nat × Obj)} (h : frzAll ks (sl, ob) = (sl', ob') := by kernel_rfl) : Conv cx (mkSt sl ob) (mkSt sl' ob') := Conv.freezes ks h
section
variable {P : Program} {T : Ty} {cx : Cx} {σ : St} {Q : Exit → St → Prop} {R : Type}
theorem DW.rd {nt : Nat} (hT : TyGood P T) (hm : P.follows .mixedOrders = true) (hnt : cx.nt = nt) {ops : Array Oper} {id : Nat} {draw : Bool} {r : List Code} {sl0 : List (Nat × MV)} {ob0 : List (Nat × Obj)} (xs : List Orc) (ds : List Nat) (us : List (Nat × MV)) (dk : List Nat) (uo : List (Nat × Obj))
  {q : Prop} (hq : q) (hQ : DW P cx r (mkSt (up ds us sl0) (up dk uo ob0)) Q) (h : dregQ P T nt ops xs (keysW (up ds us sl0)) (keysW (up dk uo ob0)) draw (mkSt sl0 ob0) = some ((up ds us sl0, up dk uo ob0), q)) : DW P cx (.region id ops draw :: r) (mkSt sl0 ob0) Q :=
 DW.rk hT hm hnt xs _ _ hq h hQ
theorem DW.cv {c : Code} {r : List Code} {sl0 : List (Nat × MV)} {ob0 : List (Nat × Obj)} (ds : List Nat) (us : List (Nat × MV)) (dk : List Nat) (uo : List (Nat × Obj)) (h : Conv cx (mkSt sl0 ob0) (mkSt (up ds us sl0) (up dk uo ob0))) (k : DW P cx (c :: r) (mkSt (up ds us sl0) (up dk uo ob0)) Q) : DW P cx (c :: r) (mkSt sl0 ob0) Q := DW.conv h k
theorem Conv.eqK {sl0 sl : List (Nat × MV)} {ob0 ob : List (Nat × Obj)} (h : (sl0, ob0) = (sl, ob) := by kernel_rfl) : Conv cx (mkSt sl0 ob0) (mkSt sl ob) := by
 obtain ⟨rfl, rfl⟩ := Prod.mk.inj h
 exact .refl
theorem Conv.t0 {sl : List (Nat × MV)} {ob : List (Nat × Obj)} (h : (normSl (keysW sl) (keysW ob) σ, normOb (keysW ob) σ) = (patchS [] sl, patchO [] ob) := by kernel_rfl) : Conv cx σ (mkSt sl ob) := Conv.tp [] [] h .nil .nil
theorem condM {c : Operand} {x y : Code} {r : List Code} {b : Bool} {X Y : Option R} {res : R} (hm : (if b = true then X else Y) = some res) (h1 : b = true → X = some res → DW P cx (x :: r) σ Q) (h2 : b = false → Y = some res → DW P cx (y :: r) σ Q)
  (hk : constOK c = true := by kernel_rfl) (hc : ev σ c = .p (.v (.bool b)) := by kernel_rfl) : DW P cx (.cond c x y :: r) σ Q :=
 DW.cond b hk hc (fun e => h1 e (if_t e hm)) (fun e => h2 e (if_f e hm))
theorem condK {c : Operand} {x y : Code} {r : List Code} (b : Bool) (h1 : b = true → DW P cx (x :: r) σ Q) (h2 : b = false → DW P cx (y :: r) σ Q)
  (hk : constOK c = true := by kernel_rfl) (hc : ev σ c = .p (.v (.bool b)) := by kernel_rfl) : DW P cx (.cond c x y :: r) σ Q := DW.cond b hk hc h1 h2
theorem condF {c : Operand} {x y : Code} {r : List Code} {b : Bool} (hb : b = false) (h1 : DW P cx (y :: r) σ Q)
  (hk : constOK c = true := by kernel_rfl) (hc : ev σ c = .p (.v (.bool b)) := by kernel_rfl) : DW P cx (.cond c x y :: r) σ Q := DW.cond b hk hc (fun e => by rw [hb] at e; cases e) (fun _ => h1)
theorem retK {results : List ResultVar} {m : Nat} {res : MV} {bs : List Body} (bs' : List Body) (ex : List Nat) (res' : MV) (h : fin T results m ex σ = some (res', bs') := by kernel_rfl) (e : res' = res := by rfl) (e2 : bs' = bs := by rfl) : finQ T results m res bs .ret σ := retOK ex res' h e e2
theorem endK {results : List ResultVar} {m : Nat} {res : MV} {bs : List Body} (bs' : List Body) (ex : List Nat) (res' : MV) (h : fin T results m ex σ = some (res', bs') := by kernel_rfl) (e : res' = res := by rfl) (e2 : bs' = bs := by rfl) : finQ T results m res bs .normal σ := endOK ex res' h e e2
theorem Sq {x y : Code} {r : List Code} (h : DW P cx (x :: y :: r) σ Q) : DW P cx (.seq x y :: r) σ Q := DW.seq h
theorem Sk {r : List Code} (h : DW P cx r σ Q) : DW P cx (.skip :: r) σ Q := DW.skip h
theorem Bk {id : Nat} {c : Code} {r : List Code} (h : DW P cx [c] σ (blockQ id (KQ P cx r Q))) : DW P cx (.block id c :: r) σ Q := DW.block h
theorem Jn {ι : Type} {c : Code} {r : List Code} (J : ι → St) (m : ι → Prop) (hj : ∀ i, m i → DW P cx r (J i) Q) (h : DW P cx [c] σ (joinQ cx J m (KQ P cx r Q))) : DW P cx (c :: r) σ Q := DW.join J m hj h
theorem jD {ι : Type} {J : ι → St} {m : ι → Prop} (i : ι) (h1 : m i) (h2 : Conv cx σ (J i)) : DW P cx [] σ (joinQ cx J m Q) := joinDone i h1 h2
theorem bD {ι : Type} {J : ι → St} {m : ι → Prop} {id : Nat} (i : ι) (h1 : m i) (h2 : Conv cx σ (J i)) : DW P cx [] σ (blockQ id (KQ P cx [] (joinQ cx J m Q))) := blockDone i h1 h2
theorem tv : True := trivial
theorem sj {a b : R} (h : some a = some b) : a = b := Option.some.inj h
theorem bo {α : Type} {x : Option α} {k : α → Option R} {r : R} (h : x.bind k = some r) : ∃ a, x = some a ∧ k a = some r := bind_open h
theorem go1 {p : Prop} [Decidable p] {x : Option R} {r : R} (h : (if p then x else none) = some r) : p ∧ x = some r := guard_open h
theorem go2 {p q : Prop} [Decidable p] [Decidable q] {x : Option R} {r : R} (h : (if p then if q then x else none else none) = some r) : p ∧ q ∧ x = some r := ⟨(guard_open h).1, guard_open (guard_open h).2⟩
theorem go3 {p q s : Prop} [Decidable p] [Decidable q] [Decidable s] {x : Option R} {r : R} (h : (if p then if q then if s then x else none else none else none) = some r) : p ∧ q ∧ s ∧ x = some r := ⟨(guard_open h).1, go2 (guard_open h).2⟩
theorem go4 {p q s t : Prop} [Decidable p] [Decidable q] [Decidable s] [Decidable t] {x : Option R} {r : R} (h : (if p then if q then if s then if t then x else none else none else none else none) = some r) : p ∧ q ∧ s ∧ t ∧ x = some r := ⟨(guard_open h).1, go3 (guard_open h).2⟩
end
end Go.Dm

/- Types of the program. -/
namespace Go.Dm
open Go.Proofs
set_option linter.unusedVariables false
def Tt : Ty := [(3, ⟨.int .i64, 1, 8, [.int .i64 0], false⟩),
  (5, ⟨.int .u8, 1, 1, [.int .u8 0], false⟩),
  (9, ⟨.str, 1, 16, [.string ByteArray.empty], false⟩),
  (22, ⟨.slice 3, 1, 24, [.slice none 0 0], false⟩),
  (27, ⟨.slice 45, 1, 24, [.slice none 0 0], false⟩),
  (29, ⟨.struct [(0, 27), (1, 3)], 2, 32, [.slice none 0 0, .int .i64 0], false⟩),
  (31, ⟨.slice 61, 1, 24, [.slice none 0 0], false⟩),
  (33, ⟨.struct [(0, 31)], 1, 24, [.slice none 0 0], false⟩),
  (35, ⟨.slice 38, 1, 24, [.slice none 0 0], false⟩),
  (38, ⟨.struct [(0, 3), (1, 3), (2, 3)], 3, 24, [.int .i64 0, .int .i64 0, .int .i64 0], false⟩),
  (39, ⟨.int .i64, 1, 8, [.int .i64 0], false⟩),
  (45, ⟨.struct [(0, 3), (1, 3), (2, 9), (3, 3), (4, 3), (5, 3)], 6, 56, [.int .i64 0, .int .i64 0, .string ByteArray.empty, .int .i64 0, .int .i64 0, .int .i64 0], false⟩),
  (61, ⟨.struct [(0, 3), (1, 3)], 2, 16, [.int .i64 0, .int .i64 0], false⟩),
  (63, ⟨.struct [(0, 22), (1, 3)], 2, 32, [.slice none 0 0, .int .i64 0], false⟩),
  (74, ⟨.map 3 3, 1, 8, [(.map none)], false⟩),
  (87, ⟨.slice 9, 1, 24, [.slice none 0 0], false⟩),
  (92, ⟨.int .u64, 1, 8, [.int .u64 0], false⟩),
  (101, ⟨.int .i64, 1, 8, [.int .i64 0], false⟩),
  (112, ⟨.int .u64, 1, 8, [.int .u64 0], false⟩),
  (115, ⟨.int .u64, 1, 8, [.int .u64 0], false⟩),
  (121, ⟨.slice 5, 1, 24, [.slice none 0 0], false⟩)]
theorem Tgood : TyGood Try.prog Tt := tyGood_of ⟨⟨⟨by kernel_rfl, by kernel_rfl⟩, trivial⟩, ⟨⟨by kernel_rfl, by kernel_rfl⟩, trivial⟩, ⟨⟨by kernel_rfl, by kernel_rfl⟩, trivial⟩, ⟨⟨by kernel_rfl, by kernel_rfl⟩, trivial⟩, ⟨⟨by kernel_rfl, by kernel_rfl⟩, trivial⟩, ⟨⟨by kernel_rfl, by kernel_rfl⟩, trivial⟩, ⟨⟨by kernel_rfl, by kernel_rfl⟩, trivial⟩, ⟨⟨by kernel_rfl, by kernel_rfl⟩, trivial⟩, ⟨⟨by kernel_rfl, by kernel_rfl⟩, trivial⟩, ⟨⟨by kernel_rfl, by kernel_rfl⟩, trivial⟩, ⟨⟨by kernel_rfl, by kernel_rfl⟩, trivial⟩, ⟨⟨by kernel_rfl, by kernel_rfl⟩, trivial⟩, ⟨⟨by kernel_rfl, by kernel_rfl⟩, trivial⟩, ⟨⟨by kernel_rfl, by kernel_rfl⟩, trivial⟩, ⟨⟨by kernel_rfl, by kernel_rfl⟩, trivial⟩, ⟨⟨by kernel_rfl, by kernel_rfl⟩, trivial⟩, ⟨⟨by kernel_rfl, by kernel_rfl⟩, trivial⟩, ⟨⟨by kernel_rfl, by kernel_rfl⟩, trivial⟩, ⟨⟨by kernel_rfl, by kernel_rfl⟩, trivial⟩, ⟨⟨by kernel_rfl, by kernel_rfl⟩, trivial⟩, ⟨⟨by kernel_rfl, by kernel_rfl⟩, trivial⟩, trivial⟩ (by kernel_rfl) (by kernel_rfl)
theorem mixed : Try.prog.follows .mixedOrders = true := by kernel_rfl
theorem RK {cx : Cx} {σ : St} {Q : Exit → St → Prop} {nt : Nat} (hnt : cx.nt = nt) {ops : Array Oper} {id : Nat} {draw : Bool} {r : List Code} (xs : List Orc) (sl : List (Nat × MV)) (ob : List (Nat × Obj))
    {q : Prop} (hq : q) (hQ : DW Try.prog cx r (mkSt sl ob) Q) (h : dregQ Try.prog Tt nt ops xs (keysW sl) (keysW ob) draw σ = some ((sl, ob), q) := by kernel_rfl) : DW Try.prog cx (.region id ops draw :: r) σ Q := DW.rk Tgood mixed hnt xs sl ob hq h hQ
theorem RD {cx : Cx} {Q : Exit → St → Prop} {nt : Nat} (hnt : cx.nt = nt) {ops : Array Oper} {id : Nat} {draw : Bool} {r : List Code} {sl0 : List (Nat × MV)} {ob0 : List (Nat × Obj)} (xs : List Orc) (ds : List Nat) (us : List (Nat × MV)) (dk : List Nat) (uo : List (Nat × Obj))
    {q : Prop} (hq : q) (hQ : DW Try.prog cx r (mkSt (up ds us sl0) (up dk uo ob0)) Q) (h : dregQ Try.prog Tt nt ops xs (keysW (up ds us sl0)) (keysW (up dk uo ob0)) draw (mkSt sl0 ob0) = some ((up ds us sl0, up dk uo ob0), q) := by kernel_rfl) : DW Try.prog cx (.region id ops draw :: r) (mkSt sl0 ob0) Q := DW.rd Tgood mixed hnt xs ds us dk uo hq hQ h
theorem SO {f : FuncId} {fn : Func} {c : Code} (hf : Try.prog.funcs[f]? = some fn) (hb : fn.body = some c)
    {args : List MV} {outs : List Body} {res : MV} {outs' news : List Body} (hlen : outs'.length = outs.length)
    (sl : List (Nat × MV)) (ob : List (Nat × Obj)) (hd : ∀ cx : Cx, cx.nt = fn.ntmps → DW Try.prog cx [c] (mkSt sl ob) (finQ Tt fn.results.toList outs.length res (outs' ++ news)))
    (hname : fn.name ≠ "runtime.NumGoroutine" := by decide) (hle : Nat.ble args.length fn.ntmps = true := by rfl) (hm : Nat.ble outs.length 1000 = true := by rfl)
    (h1 : normSl (upN args.length 0) (upN outs.length 0) ⟨fun t => (args[t]?).getD .any, objsL outs⟩ = sl := by kernel_rfl)
    (h2 : normOb (upN outs.length 0) ⟨fun t => (args[t]?).getD .any, objsL outs⟩ = ob := by kernel_rfl) :
    Spec Try.prog f args outs res outs' news := spec_of Tgood hf hname hb hlen (Nat.le_of_ble_eq_true hle) (Nat.le_of_ble_eq_true hm) h1 h2 fun cx hnt => DW.start (hd cx hnt)
theorem RN {cx : Cx} {σ : St} {Q : Exit → St → Prop} {nt : Nat} (hnt : cx.nt = nt) {ops : Array Oper} {id : Nat} {draw : Bool} {r : List Code} (xs : List Orc) (sl : List (Nat × MV)) (ob : List (Nat × Obj))
    (ps : List (Nat × MV)) (qs : List (Nat × Body)) {q : Prop} (hq : q) (h : dregQ Try.prog Tt nt ops xs (keysW sl) (keysW ob) draw σ = some ((patchS ps sl, patchO qs ob), q)) (hs : SP sl ps) (ho : OP ob qs)
    (hQ : DW Try.prog cx r (mkSt sl ob) Q) : DW Try.prog cx (.region id ops draw :: r) σ Q := DW.rn Tgood mixed hnt xs sl ob ps qs hq h hs ho hQ
theorem RT {cx : Cx} {σ : St} {nt : Nat} (hnt : cx.nt = nt) {ops : Array Oper} {draw : Bool} {sl : List (Nat × MV)} {ob : List (Nat × Obj)} (xs : List Orc)
    (ps : List (Nat × MV)) {q : Prop} (hq : q) (h : dregQ Try.prog Tt nt ops xs (keysW sl) (keysW ob) draw σ = some ((patchS ps sl, ob), q)) (hs : SP sl ps) : RegTo Try.prog cx ops draw σ sl ob := RegTo.rn Tgood mixed hnt xs ps hq h hs
end Go.Dm


/- Go functions compute their models, printed by a program. -/
namespace Go.Dm
open Go.Proofs
set_option linter.unusedVariables false
theorem Light_madeSpec (p0 : List Int) (RES : Bool) (hm : Light_made p0 = some RES) : Spec Try.prog 9 [.p (slI p0)] [] (pB RES) [] [] := by
 unfold Light_made at hm
 refine SO Try.func9 rfl rfl [(0, .p (slI p0))] [] ?_
 intro cx hnt
 refine Sq (RK hnt (.no :: []) [(0, .p (slI p0))] [] tv ?_)
 refine Sq (RK hnt (nn 4 []) [(2, pB (decide (((p0.length : Nat) : Int) ≤ 600)))] [] tv ?_)
 obtain rfl := sj hm
 exact DW.ret (retK [] [] (pB (decide (((p0.length : Nat) : Int) ≤ 600))))
abbrev o2 (ks : List Nat) (b : Bool) (RES : Bool) : Orc := .call 9 ks b (pB RES) [] []

abbrev c4e1 := ({ id := 1, parent := 0, name := ByteArray.empty, control := 0, kind := 0, owner := 0 } : Node)
abbrev c4e2 := ({ id := 2, parent := 1, name := (bs [97]), control := 0, kind := 0, owner := 0 } : Node)
abbrev c4e3 := ({ id := 3, parent := 2, name := (bs [98]), control := 0, kind := 0, owner := 0 } : Node)
abbrev c4e4 := ({ id := 4, parent := 2, name := (bs [99]), control := 0, kind := 0, owner := 0 } : Node)
theorem pair_law23Spec (RES : Tree) (hm : pair_law23 = some RES) : Spec Try.prog 26 [] [] (.agg [ow 0 RES.nodes.length, pI RES.next]) [] [roNode RES.nodes] := by
 unfold pair_law23 at hm
 refine SO Try.func26 rfl rfl [] [] ?_
 intro cx hnt
 refine Sq (RK hnt (.no :: []) [(0, rr 1000)] [(1000, bx [.p (.sl .nil 0 0 (fun _ => [])), pI 0])] tv ?_)
 refine Sq (RN hnt (nn 7 []) [(0, rr 1000)] [(1000, bx [ow 1040 [(c4e1), (c4e2), (c4e3), (c4e4)].length, pI 5]), (1040, ob0 (roNode [(c4e1), (c4e2), (c4e3), (c4e4)]))] [] [(1000, .box [ow 1040 4, pI 5]), (1040, .row 6 4 (cut 6 [vi 1, vi 0, vs ByteArray.empty, vi 0, vi 0, vi 0, vi 2, vi 1, vs (bs [97]), vi 0, vi 0, vi 0, vi 3, vi 2, vs (bs [98]), vi 0, vi 0, vi 0, vi 4, vi 2, vs (bs [99]), vi 0, vi 0, vi 0]))] tv (by kernel_rfl) .nil (.cons rfl (.box (.cons (MLe.ownLen (enc := encNode) (d := dNode) (f := (cut 6 [vi 1, vi 0, vs ByteArray.empty, vi 0, vi 0, vi 0, vi 2, vi 1, vs (bs [97]), vi 0, vi 0, vi 0, vi 3, vi 2, vs (bs [98]), vi 0, vi 0, vi 0, vi 4, vi 2, vs (bs [99]), vi 0, vi 0, vi 0])) (RowIs.lit (enc := encNode) (d := dNode) (n := 4) (f := (cut 6 [vi 1, vi 0, vs ByteArray.empty, vi 0, vi 0, vi 0, vi 2, vi 1, vs (bs [97]), vi 0, vi 0, vi 0, vi 3, vi 2, vs (bs [98]), vi 0, vi 0, vi 0, vi 4, vi 2, vs (bs [99]), vi 0, vi 0, vi 0])) [(c4e1), (c4e2), (c4e3), (c4e4)] rfl (fun | 0, _ => rfl | 1, _ => rfl | 2, _ => rfl | 3, _ => rfl | n + 4, h => absurd h (by omega)))) (.cons .rfl .nil))) (.cons rfl (BLe.typed (RowIs.lit (enc := encNode) (d := dNode) (n := 4) (f := (cut 6 [vi 1, vi 0, vs ByteArray.empty, vi 0, vi 0, vi 0, vi 2, vi 1, vs (bs [97]), vi 0, vi 0, vi 0, vi 3, vi 2, vs (bs [98]), vi 0, vi 0, vi 0, vi 4, vi 2, vs (bs [99]), vi 0, vi 0, vi 0])) [(c4e1), (c4e2), (c4e3), (c4e4)] rfl (fun | 0, _ => rfl | 1, _ => rfl | 2, _ => rfl | 3, _ => rfl | n + 4, h => absurd h (by omega)))) .nil)) ?_)
 obtain rfl := sj hm
 exact DW.ret (retK [roNode [(c4e1), (c4e2), (c4e3), (c4e4)]] [1040] (.agg [ow 0 [(c4e1), (c4e2), (c4e3), (c4e4)].length, pI 5]))
abbrev o4 (ks : List Nat) (b : Bool) (RES : Tree) : Orc := .call 26 ks b (.agg [ow 0 RES.nodes.length, pI RES.next]) [] [roNode RES.nodes]

theorem root_treeSpec (p0 : Node) (RES : Bool) (hm : root_tree p0 = some RES) : Spec Try.prog 69 [.p (.agg (encNode p0))] [] (pB RES) [] [] := by
 unfold root_tree at hm
 refine SO Try.func69 rfl rfl [(0, .p (.agg (encNode p0)))] [] ?_
 intro cx hnt
 refine Sq (RK hnt (nn 2 []) [(1, rr 1008)] [(1008, bx (pm (encNode p0)))] tv ?_)
 refine Sq (DW.regJ (sl2 := [(2, pB ((((p0.id == 1) && (p0.parent == 0)) && (beqS p0.name ByteArray.empty)) && (p0.kind == 0)))]) (ob2 := []) ?_ ?_)
 ·rcases bt (p0.id == 1) with h1 | h1
  ·rcases bt (p0.parent == 0) with h2 | h2
   ·rcases bt (beqS p0.name ByteArray.empty) with h3 | h3
    ·exact RT hnt (nn 7 (pT :: nn 4 (pT :: nn 4 (pT :: .no :: [])))) [(2, pB (p0.kind == 0))] (an4 h1 (an4 h2 (an4 h3 tv))) (by kernel_rfl) (.cons rfl (.of_eq (by rw [h1, h2, h3]; try rfl)) .nil)
    ·exact RT hnt (nn 7 (pT :: nn 4 (pT :: .no :: sk 3 (pF :: .no :: [])))) [(2, pB false)] (an4 h1 (an4 h2 (an4 h3 tv))) (by kernel_rfl) (.cons rfl (.of_eq (by rw [h1, h2, h3]; try rfl)) .nil)
   ·exact RT hnt (nn 7 (pT :: .no :: sk 3 (pF :: .no :: sk 3 (pF :: .no :: [])))) [(2, pB false)] (an4 h1 (an4 h2 (an4 ff tv))) (by kernel_rfl) (.cons rfl (.of_eq (by rw [h1, h2]; try rfl)) .nil)
  ·exact RT hnt (nn 4 (sk 3 (pF :: .no :: sk 3 (pF :: .no :: sk 3 (pF :: .no :: []))))) [(2, pB false)] (an4 h1 (an2 ff (an6 ff tv))) (by kernel_rfl) (.cons rfl (.of_eq (by rw [h1]; try rfl)) .nil)
 ·refine DW.ret ?_
  obtain rfl := sj hm
  exact retK [] [] (pB ((((p0.id == 1) && (p0.parent == 0)) && (beqS p0.name ByteArray.empty)) && (p0.kind == 0)))
abbrev o8 (ks : List Nat) (b : Bool) (RES : Bool) : Orc := .call 69 ks b (pB RES) [] []

theorem inner_nameSpec (p0 : Int) (RES : Bool) (hm : inner_name p0 = some RES) : Spec Try.prog 93 [.p (vk .u8 p0)] [] (pB RES) [] [] := by
 unfold inner_name at hm
 refine SO Try.func93 rfl rfl [(0, .p (vk .u8 p0))] [] ?_
 intro cx hnt
 refine Sq (RD hnt (.no :: []) [] [] [] [] tv ?_)
 refine Sq (DW.regJ (sl2 := [(2, pB ((((((decide (p0 ≥ 97)) && (decide (p0 ≤ 122))) || ((decide (p0 ≥ 65)) && (decide (p0 ≤ 90)))) || ((decide (p0 ≥ 48)) && (decide (p0 ≤ 57)))) || (p0 == 95)) || (p0 == 45)))]) (ob2 := []) ?_ ?_)
 ·rcases bt (decide (p0 ≥ 97)) with h1 | h1
  ·rcases bt (decide (p0 ≤ 122)) with h2 | h2
   ·exact RT hnt (nn 5 (pT :: .no :: sk 6 (pT :: .no :: sk 6 (pT :: .no :: sk 2 (pT :: .no :: sk 2 (pT :: .no :: [])))))) [(2, pB true)] (an3 h1 (an5 h2 (an5 tt (an6 tt tv)))) (by kernel_rfl) (.cons rfl (.of_eq (by rw [h1, h2]; try rfl)) .nil)
   ·rcases bt (decide (p0 ≥ 65)) with h3 | h3
    ·rcases bt (decide (p0 ≤ 90)) with h4 | h4
     ·exact RT hnt (nn 5 (pT :: nn 6 (pT :: pF :: .no :: sk 6 (pT :: .no :: sk 2 (pT :: .no :: sk 2 (pT :: .no :: [])))))) [(2, pB true)] (an3 h1 (an3 h2 (an2 h3 (an h2 (an h3 (an h2 (an5 h4 (an6 tt tv)))))))) (by kernel_rfl) (.cons rfl (.of_eq (by rw [h1, h2, h3, h4]; try rfl)) .nil)
     ·rcases bt (decide (p0 ≥ 48)) with h5 | h5
      ·rcases bt (decide (p0 ≤ 57)) with h6 | h6
       ·exact RT hnt (nn 5 (pT :: nn 6 (pT :: pF :: nn 6 (pT :: pF :: .no :: sk 2 (pT :: .no :: sk 2 (pT :: .no :: [])))))) [(2, pB true)] (an3 h1 (an3 h2 (an2 h3 (an h2 (an h3 (an h2 (an3 h4 (an2 h5 (an h4 (an h5 (an h4 (an3 h6 (an3 tt tv))))))))))))) (by kernel_rfl) (.cons rfl (.of_eq (by rw [h1, h2, h3, h4, h5, h6]; try rfl)) .nil)
       ·rcases bt (p0 == 95) with h7 | h7
        ·exact RT hnt (nn 5 (pT :: nn 6 (pT :: pF :: nn 6 (pT :: pF :: nn 3 (pF :: .no :: sk 2 (pT :: .no :: [])))))) [(2, pB true)] (an3 h1 (an3 h2 (an2 h3 (an h2 (an h3 (an h2 (an3 h4 (an2 h5 (an h4 (an h5 (an h4 (an3 h6 (an3 h7 tv))))))))))))) (by kernel_rfl) (.cons rfl (.of_eq (by rw [h1, h2, h3, h4, h5, h6, h7]; try rfl)) .nil)
        ·exact RT hnt (nn 5 (pT :: nn 6 (pT :: pF :: nn 6 (pT :: pF :: nn 3 (pF :: nn 3 (pF :: .no :: [])))))) [(2, pB (p0 == 45))] (an3 h1 (an3 h2 (an2 h3 (an h2 (an h3 (an h2 (an3 h4 (an2 h5 (an h4 (an h5 (an h4 (an3 h6 (an3 h7 tv))))))))))))) (by kernel_rfl) (.cons rfl (.of_eq (by rw [h1, h2, h3, h4, h5, h6, h7]; try rfl)) .nil)
      ·rcases bt (p0 == 95) with h8 | h8
       ·exact RT hnt (nn 5 (pT :: nn 6 (pT :: pF :: nn 4 (sk 2 (pF :: pF :: nn 3 (pF :: .no :: sk 2 (pT :: .no :: []))))))) [(2, pB true)] (an3 h1 (an3 h2 (an2 h3 (an h2 (an h3 (an h2 (an3 h4 (an2 h5 (an h4 (an h5 (an h4 (an3 ff (an3 h8 tv))))))))))))) (by kernel_rfl) (.cons rfl (.of_eq (by rw [h1, h2, h3, h4, h5, h8]; try rfl)) .nil)
       ·exact RT hnt (nn 5 (pT :: nn 6 (pT :: pF :: nn 4 (sk 2 (pF :: pF :: nn 3 (pF :: nn 3 (pF :: .no :: []))))))) [(2, pB (p0 == 45))] (an3 h1 (an3 h2 (an2 h3 (an h2 (an h3 (an h2 (an3 h4 (an2 h5 (an h4 (an h5 (an h4 (an3 ff (an3 h8 tv))))))))))))) (by kernel_rfl) (.cons rfl (.of_eq (by rw [h1, h2, h3, h4, h5, h8]; try rfl)) .nil)
    ·rcases bt (decide (p0 ≥ 48)) with h9 | h9
     ·rcases bt (decide (p0 ≤ 57)) with h10 | h10
      ·exact RT hnt (nn 5 (pT :: nn 4 (sk 2 (pF :: pF :: nn 6 (pT :: pF :: .no :: sk 2 (pT :: .no :: sk 2 (pT :: .no :: []))))))) [(2, pB true)] (an3 h1 (an3 h2 (an2 h3 (an h2 (an h3 (an h2 (an3 ff (an2 h9 (an ff (an h9 (an ff (an3 h10 (an3 tt tv))))))))))))) (by kernel_rfl) (.cons rfl (.of_eq (by rw [h1, h2, h3, h9, h10]; try rfl)) .nil)
      ·rcases bt (p0 == 95) with h11 | h11
       ·exact RT hnt (nn 5 (pT :: nn 4 (sk 2 (pF :: pF :: nn 6 (pT :: pF :: nn 3 (pF :: .no :: sk 2 (pT :: .no :: []))))))) [(2, pB true)] (an3 h1 (an3 h2 (an2 h3 (an h2 (an h3 (an h2 (an3 ff (an2 h9 (an ff (an h9 (an ff (an3 h10 (an3 h11 tv))))))))))))) (by kernel_rfl) (.cons rfl (.of_eq (by rw [h1, h2, h3, h9, h10, h11]; try rfl)) .nil)
       ·exact RT hnt (nn 5 (pT :: nn 4 (sk 2 (pF :: pF :: nn 6 (pT :: pF :: nn 3 (pF :: nn 3 (pF :: .no :: []))))))) [(2, pB (p0 == 45))] (an3 h1 (an3 h2 (an2 h3 (an h2 (an h3 (an h2 (an3 ff (an2 h9 (an ff (an h9 (an ff (an3 h10 (an3 h11 tv))))))))))))) (by kernel_rfl) (.cons rfl (.of_eq (by rw [h1, h2, h3, h9, h10, h11]; try rfl)) .nil)
     ·rcases bt (p0 == 95) with h12 | h12
      ·exact RT hnt (nn 5 (pT :: nn 4 (sk 2 (pF :: pF :: nn 4 (sk 2 (pF :: pF :: nn 3 (pF :: .no :: sk 2 (pT :: .no :: [])))))))) [(2, pB true)] (an3 h1 (an3 h2 (an2 h3 (an h2 (an h3 (an h2 (an3 ff (an2 h9 (an ff (an h9 (an4 ff (an3 h12 tv)))))))))))) (by kernel_rfl) (.cons rfl (.of_eq (by rw [h1, h2, h3, h9, h12]; try rfl)) .nil)
      ·exact RT hnt (nn 5 (pT :: nn 4 (sk 2 (pF :: pF :: nn 4 (sk 2 (pF :: pF :: nn 3 (pF :: nn 3 (pF :: .no :: [])))))))) [(2, pB (p0 == 45))] (an3 h1 (an3 h2 (an2 h3 (an h2 (an h3 (an h2 (an3 ff (an2 h9 (an ff (an h9 (an4 ff (an3 h12 tv)))))))))))) (by kernel_rfl) (.cons rfl (.of_eq (by rw [h1, h2, h3, h9, h12]; try rfl)) .nil)
  ·rcases bt (decide (p0 ≥ 65)) with h13 | h13
   ·rcases bt (decide (p0 ≤ 90)) with h14 | h14
    ·exact RT hnt (nn 3 (sk 2 (pF :: nn 6 (pT :: pF :: .no :: sk 6 (pT :: .no :: sk 2 (pT :: .no :: sk 2 (pT :: .no :: []))))))) [(2, pB true)] (an3 h1 (an3 ff (an2 h13 (an ff (an h13 (an ff (an5 h14 (an6 tt tv)))))))) (by kernel_rfl) (.cons rfl (.of_eq (by rw [h1, h13, h14]; try rfl)) .nil)
    ·rcases bt (decide (p0 ≥ 48)) with h15 | h15
     ·rcases bt (decide (p0 ≤ 57)) with h16 | h16
      ·exact RT hnt (nn 3 (sk 2 (pF :: nn 6 (pT :: pF :: nn 6 (pT :: pF :: .no :: sk 2 (pT :: .no :: sk 2 (pT :: .no :: []))))))) [(2, pB true)] (an3 h1 (an3 ff (an2 h13 (an ff (an h13 (an ff (an3 h14 (an2 h15 (an h14 (an h15 (an h14 (an3 h16 (an3 tt tv))))))))))))) (by kernel_rfl) (.cons rfl (.of_eq (by rw [h1, h13, h14, h15, h16]; try rfl)) .nil)
      ·rcases bt (p0 == 95) with h17 | h17
       ·exact RT hnt (nn 3 (sk 2 (pF :: nn 6 (pT :: pF :: nn 6 (pT :: pF :: nn 3 (pF :: .no :: sk 2 (pT :: .no :: []))))))) [(2, pB true)] (an3 h1 (an3 ff (an2 h13 (an ff (an h13 (an ff (an3 h14 (an2 h15 (an h14 (an h15 (an h14 (an3 h16 (an3 h17 tv))))))))))))) (by kernel_rfl) (.cons rfl (.of_eq (by rw [h1, h13, h14, h15, h16, h17]; try rfl)) .nil)
       ·exact RT hnt (nn 3 (sk 2 (pF :: nn 6 (pT :: pF :: nn 6 (pT :: pF :: nn 3 (pF :: nn 3 (pF :: .no :: []))))))) [(2, pB (p0 == 45))] (an3 h1 (an3 ff (an2 h13 (an ff (an h13 (an ff (an3 h14 (an2 h15 (an h14 (an h15 (an h14 (an3 h16 (an3 h17 tv))))))))))))) (by kernel_rfl) (.cons rfl (.of_eq (by rw [h1, h13, h14, h15, h16, h17]; try rfl)) .nil)
     ·rcases bt (p0 == 95) with h18 | h18
      ·exact RT hnt (nn 3 (sk 2 (pF :: nn 6 (pT :: pF :: nn 4 (sk 2 (pF :: pF :: nn 3 (pF :: .no :: sk 2 (pT :: .no :: [])))))))) [(2, pB true)] (an3 h1 (an3 ff (an2 h13 (an ff (an h13 (an ff (an3 h14 (an2 h15 (an h14 (an h15 (an h14 (an3 ff (an3 h18 tv))))))))))))) (by kernel_rfl) (.cons rfl (.of_eq (by rw [h1, h13, h14, h15, h18]; try rfl)) .nil)
      ·exact RT hnt (nn 3 (sk 2 (pF :: nn 6 (pT :: pF :: nn 4 (sk 2 (pF :: pF :: nn 3 (pF :: nn 3 (pF :: .no :: [])))))))) [(2, pB (p0 == 45))] (an3 h1 (an3 ff (an2 h13 (an ff (an h13 (an ff (an3 h14 (an2 h15 (an h14 (an h15 (an h14 (an3 ff (an3 h18 tv))))))))))))) (by kernel_rfl) (.cons rfl (.of_eq (by rw [h1, h13, h14, h15, h18]; try rfl)) .nil)
   ·rcases bt (decide (p0 ≥ 48)) with h19 | h19
    ·rcases bt (decide (p0 ≤ 57)) with h20 | h20
     ·exact RT hnt (nn 3 (sk 2 (pF :: nn 4 (sk 2 (pF :: pF :: nn 6 (pT :: pF :: .no :: sk 2 (pT :: .no :: sk 2 (pT :: .no :: [])))))))) [(2, pB true)] (an3 h1 (an3 ff (an2 h13 (an ff (an h13 (an4 ff (an2 h19 (an ff (an h19 (an ff (an3 h20 (an3 tt tv)))))))))))) (by kernel_rfl) (.cons rfl (.of_eq (by rw [h1, h13, h19, h20]; try rfl)) .nil)
     ·rcases bt (p0 == 95) with h21 | h21
      ·exact RT hnt (nn 3 (sk 2 (pF :: nn 4 (sk 2 (pF :: pF :: nn 6 (pT :: pF :: nn 3 (pF :: .no :: sk 2 (pT :: .no :: [])))))))) [(2, pB true)] (an3 h1 (an3 ff (an2 h13 (an ff (an h13 (an4 ff (an2 h19 (an ff (an h19 (an ff (an3 h20 (an3 h21 tv)))))))))))) (by kernel_rfl) (.cons rfl (.of_eq (by rw [h1, h13, h19, h20, h21]; try rfl)) .nil)
      ·exact RT hnt (nn 3 (sk 2 (pF :: nn 4 (sk 2 (pF :: pF :: nn 6 (pT :: pF :: nn 3 (pF :: nn 3 (pF :: .no :: [])))))))) [(2, pB (p0 == 45))] (an3 h1 (an3 ff (an2 h13 (an ff (an h13 (an4 ff (an2 h19 (an ff (an h19 (an ff (an3 h20 (an3 h21 tv)))))))))))) (by kernel_rfl) (.cons rfl (.of_eq (by rw [h1, h13, h19, h20, h21]; try rfl)) .nil)
    ·rcases bt (p0 == 95) with h22 | h22
     ·exact RT hnt (nn 3 (sk 2 (pF :: nn 4 (sk 2 (pF :: pF :: nn 4 (sk 2 (pF :: pF :: nn 3 (pF :: .no :: sk 2 (pT :: .no :: []))))))))) [(2, pB true)] (an3 h1 (an3 ff (an2 h13 (an ff (an h13 (an4 ff (an2 h19 (an ff (an h19 (an4 ff (an3 h22 tv))))))))))) (by kernel_rfl) (.cons rfl (.of_eq (by rw [h1, h13, h19, h22]; try rfl)) .nil)
     ·exact RT hnt (nn 3 (sk 2 (pF :: nn 4 (sk 2 (pF :: pF :: nn 4 (sk 2 (pF :: pF :: nn 3 (pF :: nn 3 (pF :: .no :: []))))))))) [(2, pB (p0 == 45))] (an3 h1 (an3 ff (an2 h13 (an ff (an h13 (an4 ff (an2 h19 (an ff (an h19 (an4 ff (an3 h22 tv))))))))))) (by kernel_rfl) (.cons rfl (.of_eq (by rw [h1, h13, h19, h22]; try rfl)) .nil)
 ·refine DW.ret ?_
  obtain rfl := sj hm
  exact retK [] [] (pB ((((((decide (p0 ≥ 97)) && (decide (p0 ≤ 122))) || ((decide (p0 ≥ 65)) && (decide (p0 ≤ 90)))) || ((decide (p0 ≥ 48)) && (decide (p0 ≤ 57)))) || (p0 == 95)) || (p0 == 45)))
abbrev o11 (ks : List Nat) (b : Bool) (RES : Bool) : Orc := .call 93 ks b (pB RES) [] []

theorem Valid_nameSpec (p0 : ByteArray) (RES : Bool) (hm : Valid_name p0 = some RES) : Spec Try.prog 86 [pS p0] [] (pB RES) [] [] := by
 unfold Valid_name at hm
 refine SO Try.func86 rfl rfl [(0, pS p0)] [] ?_
 intro cx hnt
 refine Sq (RK hnt (.no :: []) [(0, pS p0)] [] tv ?_)
 refine Sq (Sq (RN hnt (nn 4 []) [(0, pS p0), (6, .p (slOf 1 (encK .u8) 0 (bytesL p0))), (7, pI ((p0.size : Nat) : Int)), (8, pI 0)] [] [(6, .p (.sl .unk 1 p0.size (bytesF p0)))] [] tv (by kernel_rfl) (.cons rfl (MLe.typed RowIs.bytes) .nil) .nil ?_))
 refine Bk ?_
 obtain ⟨hc1, hm⟩ := go1 hm
 refine DW.rangeO (fun (k1 : Nat) (s1 : Unit) => mkSt [(0, pS p0), (6, .p (slOf 1 (encK .u8) 0 (bytesL p0))), (7, pI ((p0.size : Nat) : Int)), (8, pI ((k1 : Nat) : Int))] []) 0 hm .refl ?_
 intro k1 s1 n1 hk1 hs1 he1
 refine Sq (RD hnt (.no :: []) [] [(9, pB (decide (((k1 : Nat) : Int) < ((p0.size : Nat) : Int))))] [] [] tv ?_)
 refine Sq (condK (decide (((k1 : Nat) : Int) < ((p0.size : Nat) : Int))) ?_ ?_)
 ·intro h15
  have hlt1 : k1 < (bytesL p0).length := by have := of_decide_eq_true h15; have := bytesL_length p0; omega
  have hm := hs1 hlt1
  unfold Valid_nameL1 at hm
  refine Sk ?_
  refine Sq (Bk ?_)
  refine Sq (RD hnt (nn 3 []) [9] [(4, .p (vk .u8 ((bytesL p0).getD k1 0)))] [] [] (an (nn0 k1) (an (ltc hlt1) tv)) ?_)
  obtain ⟨r16, hr16, hm⟩ := bo hm
  refine Sq (RD hnt (.no :: o11 [] true r16 :: .no :: []) [4] [(14, pB (!r16))] [] [] (an (inner_nameSpec ((bytesL p0).getD k1 0) r16 hr16) tv) ?_)
  refine condM hm ?_ ?_
  ·intro h17 hm
   refine Sq (RK hnt (.no :: []) [(2, pB false)] [] tv ?_)
   obtain rfl := sj hm
   exact DW.ret (retK [] [] (pB false))
  ·intro h17 hm
   refine Sk ?_
   refine DW.done ?_
   show DW _ _ _ _ _
   refine RD hnt (nn 2 []) [14] [(8, pI (w64 (((k1 : Nat) : Int) + 1)))] [] [] tv ?_
   exact jD () ⟨hlt1, hm⟩ (Conv.tp [(8, pI (w64 (((k1 : Nat) : Int) + 1)))] [] (by kernel_rfl) (.cons rfl (.of_eq (congrArg pI (w64_succ hlt1 hc1))) .nil) .nil)
 ·intro h15
  have hge1 : ¬ k1 < (bytesL p0).length := by have := of_decide_eq_false h15; have := bytesL_length p0; omega
  have hm := he1 hge1
  unfold Valid_nameD1 at hm
  refine DW.exit ?_
  refine joinQ_exit ?_
  refine KQ_exit ?_
  refine blockQ_exit ?_
  show DW _ _ _ _ _
  refine Sq ?_
  refine Jn (ι := Bool) (fun (y3 : Bool) => mkSt [(2, pB y3)] []) (fun y3 => Valid_nameJ3 y3 = some RES) ?_ ?_
  ·intro y3 hm
   unfold Valid_nameJ3 at hm
   obtain rfl := sj hm
   exact DW.ret (retK [] [] (pB y3))
  ·rcases bt (!(beqS p0 ByteArray.empty)) with h18 | h18
   ·replace hm := if_t h18 hm
    rcases bt (decide (((p0.size : Nat) : Int) ≤ 32)) with h19 | h19
    ·replace hm := if_t h19 hm
     obtain ⟨g20, hm⟩ := go1 hm
     refine RK hnt (nn 6 (pT :: nn 4 (pT :: .no :: []))) [(2, pB ((((byteAt p0 0) : Nat) : Int) != 45))] [] (an4 h18 (an2 h19 (an (nn0 0) (an (ltc g20) (an2 h19 tv))))) ?_
     exact jD ((((byteAt p0 0) : Nat) : Int) != 45) hm .refl
    ·replace hm := if_f h19 hm
     refine RK hnt (nn 6 (pT :: .no :: sk 3 (pF :: .no :: []))) [(2, pB false)] [] (an4 h18 (an4 h19 tv)) ?_
     exact jD false hm .refl
   ·replace hm := if_f h18 hm
    refine RK hnt (nn 3 (sk 3 (pF :: .no :: sk 3 (pF :: .no :: [])))) [(2, pB false)] [] (an4 h18 (an4 ff tv)) ?_
    exact jD false hm .refl
abbrev o10 (ks : List Nat) (b : Bool) (RES : Bool) : Orc := .call 86 ks b (pB RES) [] []

abbrev c9e1 (p0 : List Node) (k1 : Nat) := (p0.getD k1 (default : Node))
abbrev c9e2 (p1 : Node) : Nat × Obj := (1024, bx (pm (encNode p1)))
abbrev c9e3 (p0 : List Node) : Nat × MV := (35, pI ((p0.length : Nat) : Int))
theorem fine_treeSpec (p0 : List Node) (p1 : Node) (RES : Bool) (hm : fine_tree p0 p1 = some RES) : Spec Try.prog 70 [.p (slNode p0), .p (.agg (encNode p1))] [] (pB RES) [] [] := by
 unfold fine_tree at hm
 refine SO Try.func70 rfl rfl [(0, .p (slNode p0)), (1, .p (.agg (encNode p1)))] [] ?_
 intro cx hnt
 refine Sq (RD hnt (nn 2 []) [1] [(3, rr 1024)] [] [(c9e2 p1)] tv ?_)
 obtain ⟨g1, hm⟩ := go1 hm
 refine Sq (Sq ?_)
 refine Jn (ι := Bool) (fun (y1 : Bool) => mkSt [(0, .p (slNode p0)), (3, rr 1024), (33, pB y1)] [(c9e2 p1)]) (fun y1 => (fine_treeJ1 p0 p1) y1 = some RES) ?_ ?_
 ·intro y1 hm
  unfold fine_treeJ1 at hm
  refine condM hm ?_ ?_
  ·intro h6 hm
   refine Sq (RK hnt (.no :: []) [(4, pB false)] [] tv ?_)
   obtain rfl := sj hm
   exact DW.ret (retK [] [] (pB false))
  ·intro h6 hm
   refine Sk ?_
   refine Sq (RD hnt (.no :: []) [33] [(5, pB false)] [] [] tv ?_)
   refine Sq (Sq (RD hnt (nn 3 []) [0] [(34, .p (slNode p0)), (c9e3 p0), (36, pI 0)] [] [] tv ?_))
   refine Bk ?_
   obtain ⟨hc1, hm⟩ := go1 hm
   refine DW.rangeO (fun (k1 : Nat) (s1 : Bool) => mkSt [(3, rr 1024), (5, pB s1), (34, .p (slNode p0)), (c9e3 p0), (36, pI ((k1 : Nat) : Int))] [(c9e2 p1)]) dNode hm Conv.eqK ?_
   intro k1 s1 n1 hk1 hs1 he1
   refine Sq (RD hnt (.no :: []) [] [(37, pB (decide (((k1 : Nat) : Int) < ((p0.length : Nat) : Int))))] [] [] tv ?_)
   refine Sq (condK (decide (((k1 : Nat) : Int) < ((p0.length : Nat) : Int))) ?_ ?_)
   ·intro h16
    have hlt1 : k1 < p0.length := by have := of_decide_eq_true h16; omega
    have hm := hs1 hlt1
    unfold fine_treeL1 at hm
    refine Sk ?_
    refine Sq (Bk ?_)
    refine Sq (RD hnt (nn 4 []) [37] [(7, rr 1056)] [] [(1056, bx (pm (encNode (c9e1 p0 k1))))] (an (nn0 k1) (an (ltc hlt1) tv)) ?_)
    refine Sq (DW.regJ (sl2 := [(3, rr 1024), (5, pB (s1 || ((c9e1 p0 k1).id == p1.parent))), (7, rr 1056), (34, .p (slNode p0)), (c9e3 p0), (36, pI ((k1 : Nat) : Int))]) (ob2 := [(c9e2 p1), (1056, bx (pm (encNode (c9e1 p0 k1))))]) ?_ ?_)
    ·rcases bt s1 with h17 | h17
     ·exact RT hnt (nn 2 (sk 5 (pT :: .no :: []))) [(5, pB true)] (an6 h17 tv) (by kernel_rfl) (.cons rfl (.of_eq (by rw [h17]; try rfl)) .nil)
     ·exact RT hnt (nn 7 (pF :: .no :: [])) [(5, pB ((c9e1 p0 k1).id == p1.parent))] (an6 h17 tv) (by kernel_rfl) (.cons rfl (.of_eq (by rw [h17]; try rfl)) .nil)
    ·refine Sq (DW.regJ (sl2 := [(3, rr 1024), (5, pB (s1 || ((c9e1 p0 k1).id == p1.parent))), (34, .p (slNode p0)), (c9e3 p0), (36, pI ((k1 : Nat) : Int)), (59, pB (((c9e1 p0 k1).parent == p1.parent) && (beqS (c9e1 p0 k1).name p1.name)))]) (ob2 := [(c9e2 p1)]) ?_ ?_)
     ·rcases bt ((c9e1 p0 k1).parent == p1.parent) with h18 | h18
      ·exact RT hnt (nn 11 (pT :: [])) [(59, pB (beqS (c9e1 p0 k1).name p1.name))] (an6 h18 tv) (by kernel_rfl) (.cons rfl (.of_eq (by rw [h18]; try rfl)) .nil)
      ·exact RT hnt (nn 6 (sk 5 (pF :: []))) [(59, pB false)] (an6 h18 tv) (by kernel_rfl) (.cons rfl (.of_eq (by rw [h18]; try rfl)) .nil)
     ·refine condM hm ?_ ?_
      ·intro h19 hm
       refine Sq (RK hnt (.no :: []) [(4, pB false)] [] tv ?_)
       obtain rfl := sj hm
       exact DW.ret (retK [] [] (pB false))
      ·intro h19 hm
       refine Sk ?_
       refine DW.done ?_
       show DW _ _ _ _ _
       refine RD hnt (nn 2 []) [59] [(36, pI (w64 (((k1 : Nat) : Int) + 1)))] [] [] tv ?_
       exact jD (s1 || ((c9e1 p0 k1).id == p1.parent)) ⟨hlt1, hm⟩ (Conv.tp [(36, pI (w64 (((k1 : Nat) : Int) + 1)))] [] (by kernel_rfl) (.cons rfl (.of_eq (congrArg pI (w64_succ hlt1 hc1))) .nil) .nil)
   ·intro h16
    have hge1 : ¬ k1 < p0.length := by have := of_decide_eq_false h16; omega
    have hm := he1 hge1
    unfold fine_treeD1 at hm
    refine DW.exit ?_
    refine joinQ_exit ?_
    refine KQ_exit ?_
    refine blockQ_exit ?_
    show DW _ _ _ _ _
    refine Sq (RK hnt (nn 2 []) [(4, pB s1)] [] tv ?_)
    obtain rfl := sj hm
    exact DW.ret (retK [] [] (pB s1))
 ·rcases bt (decide (p1.id ≤ (p0.getD (Int.toNat (w64 (((p0.length : Nat) : Int) - 1))) dNode).id)) with h2 | h2
  ·replace hm := if_t h2 hm
   refine RD hnt (nn 11 (sk 4 (pT :: .no :: sk 8 (pT :: [])))) [] [(33, pB true)] [] [] (an g1.1 (an g1.2 (an5 h2 (an6 tt tv)))) ?_
   exact jD true hm Conv.eqK
  ·replace hm := if_f h2 hm
   obtain ⟨r3, hr3, hm⟩ := bo hm
   rcases bt (!r3) with h4 | h4
   ·replace hm := if_t h4 hm
    refine RD hnt (nn 13 (o10 [] true r3 :: .no :: pF :: .no :: sk 8 (pT :: []))) [] [(33, pB true)] [] [] (an g1.1 (an g1.2 (an3 h2 (an (Valid_nameSpec p1.name r3 hr3) (an2 h2 (an6 h4 tv)))))) ?_
    exact jD true hm Conv.eqK
   ·replace hm := if_f h4 hm
    rcases bt (p1.kind != 0) with h5 | h5
    ·replace hm := if_t h5 hm
     refine RD hnt (nn 13 (o10 [] true r3 :: .no :: pF :: nn 8 (pT :: pF :: []))) [] [(33, pB (p1.kind != 1))] [] [] (an g1.1 (an g1.2 (an3 h2 (an (Valid_nameSpec p1.name r3 hr3) (an2 h2 (an4 h4 (an3 h5 (an h4 (an h5 (an h4 tv)))))))))) ?_
     exact jD (p1.kind != 1) hm Conv.eqK
    ·replace hm := if_f h5 hm
     refine RD hnt (nn 13 (o10 [] true r3 :: .no :: pF :: nn 5 (sk 3 (pF :: pF :: [])))) [] [(33, pB false)] [] [] (an g1.1 (an g1.2 (an3 h2 (an (Valid_nameSpec p1.name r3 hr3) (an2 h2 (an4 h4 (an3 h5 (an h4 (an h5 (an h4 tv)))))))))) ?_
     exact jD false hm Conv.eqK
abbrev o9 (ks : List Nat) (b : Bool) (RES : Bool) : Orc := .call 70 ks b (pB RES) [] []

abbrev c7e1 (p0 : Tree) (k1 : Nat) := (p0.nodes.getD k1 (default : Node))
abbrev c7e2 (s1 : IMap Int) (p0 : Tree) (k1 : Nat) := (s1.set (c7e1 p0 k1).id (w64 ((s1.get (c7e1 p0 k1).parent) + 1)))
abbrev c7e3 (p0 : Tree) : Nat × MV := (27, pI ((p0.nodes.length : Nat) : Int))
abbrev c7e4 (p0 : Tree) : Nat × Obj := (1008, bx (pm (encTree p0)))
theorem Check_treeSpec (p0 : Tree) (RES : Bool) (hm : Check_tree p0 = some RES) : Spec Try.prog 56 [.p (.agg (encTree p0))] [] (pB RES) [] [] := by
 unfold Check_tree at hm
 refine SO Try.func56 rfl rfl [(0, .p (.agg (encTree p0)))] [] ?_
 intro cx hnt
 refine Sq (RK hnt (nn 2 []) [(1, rr 1008)] [(c7e4 p0)] tv ?_)
 refine Sq (Sq ?_)
 refine Jn (ι := Bool) (fun (y1 : Bool) => mkSt [(1, rr 1008), (23, pB y1)] [(c7e4 p0)]) (fun y1 => (Check_treeJ1 p0) y1 = some RES) ?_ ?_
 ·intro y1 hm
  unfold Check_treeJ1 at hm
  refine condM hm ?_ ?_
  ·intro h5 hm
   refine Sq (RK hnt (.no :: []) [(2, pB false)] [] tv ?_)
   obtain rfl := sj hm
   exact DW.ret (retK [] [] (pB false))
  ·intro h5 hm
   refine Sk ?_
   refine Sq (RD hnt (nn 2 []) [23] [(3, .mref 1192 0)] [] [(1192, ob0 (mapOf vi (vi 0) (IMap.empty 0)))] tv ?_)
   refine Sq (Sq (RD hnt (nn 4 []) [] [(26, .p (slNode p0.nodes)), (c7e3 p0), (28, pI 0)] [] [] tv ?_))
   refine Bk ?_
   obtain ⟨hc1, hm⟩ := go1 hm
   refine DW.rangeO (fun (k1 : Nat) (s1 : IMap Int) => mkSt [(1, rr 1008), (3, .mref 1192 0), (26, .p (slNode p0.nodes)), (c7e3 p0), (28, pI ((k1 : Nat) : Int))] [(c7e4 p0), (1192, ob0 (mapOf vi (vi 0) s1))]) dNode hm Conv.eqK ?_
   intro k1 s1 n1 hk1 hs1 he1
   refine Sq (RD hnt (.no :: []) [] [(29, pB (decide (((k1 : Nat) : Int) < ((p0.nodes.length : Nat) : Int))))] [] [] tv ?_)
   refine Sq (condK (decide (((k1 : Nat) : Int) < ((p0.nodes.length : Nat) : Int))) ?_ ?_)
   ·intro h36
    have hlt1 : k1 < p0.nodes.length := by have := of_decide_eq_true h36; omega
    have hm := hs1 hlt1
    unfold Check_treeL1 at hm
    refine Sk ?_
    refine Sq (Bk ?_)
    refine Sq (RD hnt (nn 6 []) [29] [(4, pI ((k1 : Nat) : Int)), (5, rr 1040)] [] [(1040, bx (pm (encNode (c7e1 p0 k1))))] (an (nn0 k1) (an (ltc hlt1) tv)) ?_)
    refine Sq (Sq ?_)
    refine Jn (ι := Bool) (fun (y8 : Bool) => mkSt [(1, rr 1008), (3, .mref 1192 0), (4, pI ((k1 : Nat) : Int)), (5, rr 1040), (26, .p (slNode p0.nodes)), (c7e3 p0), (28, pI ((k1 : Nat) : Int)), (64, pB y8)] [(c7e4 p0), (1040, bx (pm (encNode (c7e1 p0 k1)))), (1192, ob0 (mapOf vi (vi 0) s1))]) (fun y8 => (Check_treeJ8 k1 (c7e1 p0 k1) s1 n1) y8 = some RES) ?_ ?_
    ·intro y8 hm
     unfold Check_treeJ8 at hm
     refine condM hm ?_ ?_
     ·intro h44 hm
      refine Sq (RK hnt (.no :: []) [(2, pB false)] [] tv ?_)
      obtain rfl := sj hm
      exact DW.ret (retK [] [] (pB false))
     ·intro h44 hm
      refine Sk ?_
      refine Sq (Sq (RD hnt (nn 2 []) [4, 64] [(66, pB (decide (((k1 : Nat) : Int) > 0)))] [] [] tv ?_))
      refine Jn (ι := IMap Int) (fun (y9 : IMap Int) => mkSt [(1, rr 1008), (3, .mref 1192 0), (5, rr 1040), (26, .p (slNode p0.nodes)), (c7e3 p0), (28, pI ((k1 : Nat) : Int))] [(c7e4 p0), (1040, bx (pm (encNode (c7e1 p0 k1)))), (1192, ob0 (mapOf vi (vi 0) y9))]) (fun y9 => (Check_treeJ9 (c7e1 p0 k1) n1) y9 = some RES) ?_ ?_
      ·intro y9 hm
       unfold Check_treeJ9 at hm
       refine Sq (RD hnt (nn 5 []) [5] [(79, pB (decide ((y9.get (c7e1 p0 k1).id) > 8)))] [1040] [] (an (rfl : vi 0 = vi 0) tv) ?_)
       refine condM hm ?_ ?_
       ·intro h46 hm
        refine Sq (RK hnt (.no :: []) [(2, pB false)] [] tv ?_)
        obtain rfl := sj hm
        exact DW.ret (retK [] [] (pB false))
       ·intro h46 hm
        refine Sk ?_
        refine DW.done ?_
        show DW _ _ _ _ _
        refine RD hnt (nn 2 []) [79] [(28, pI (w64 (((k1 : Nat) : Int) + 1)))] [] [] tv ?_
        exact jD y9 ⟨hlt1, hm⟩ (Conv.tp [(28, pI (w64 (((k1 : Nat) : Int) + 1)))] [] (by kernel_rfl) (.cons rfl (.of_eq (congrArg pI (w64_succ hlt1 hc1))) .nil) .nil)
      ·refine condM hm ?_ ?_
       ·intro h45 hm
        refine RD hnt (nn 8 (.asM (c7e2 s1 p0 k1).has (fun j => vi ((c7e2 s1 p0 k1).get j)) :: [])) [66] [] [] [(1192, ob0 (mapOf vi (vi 0) (c7e2 s1 p0 k1)))] (an (rfl : vi 0 = vi 0) (an (mset_has s1 (c7e1 p0 k1).id (w64 ((s1.get (c7e1 p0 k1).parent) + 1))) (an (mset_get vi s1 (c7e1 p0 k1).id (w64 ((s1.get (c7e1 p0 k1).parent) + 1))) tv))) ?_
        exact jD (c7e2 s1 p0 k1) hm Conv.eqK
       ·intro h45 hm
        refine Sk ?_
        exact jD s1 hm Conv.t0
    ·rcases bt (decide ((c7e1 p0 k1).control < 0)) with h37 | h37
     ·replace hm := if_t h37 hm
      refine RD hnt (nn 4 (sk 4 (pT :: .no :: sk 3 (pT :: .no :: sk 3 (pT :: .no :: sk 11 (pT :: [])))))) [] [(64, pB true)] [] [] (an5 h37 (an tt (an6 tt (an6 tt tv)))) ?_
      exact jD true hm Conv.eqK
     ·replace hm := if_f h37 hm
      rcases bt ((kandNot .i64 (c7e1 p0 k1).control 31) != 0) with h38 | h38
      ·replace hm := if_t h38 hm
       refine RD hnt (nn 8 (pF :: .no :: sk 3 (pT :: .no :: sk 3 (pT :: .no :: sk 11 (pT :: []))))) [] [(64, pB true)] [] [] (an5 h37 (an4 h38 (an3 tt (an6 tt tv)))) ?_
       exact jD true hm Conv.eqK
      ·replace hm := if_f h38 hm
       rcases bt (decide ((c7e1 p0 k1).owner < 0)) with h39 | h39
       ·replace hm := if_t h39 hm
        refine RD hnt (nn 8 (pF :: nn 4 (pF :: .no :: sk 3 (pT :: .no :: sk 11 (pT :: []))))) [] [(64, pB true)] [] [] (an5 h37 (an4 h38 (an4 h39 (an5 tt tv)))) ?_
        exact jD true hm Conv.eqK
       ·replace hm := if_f h39 hm
        rcases bt (decide ((c7e1 p0 k1).owner > 1048576)) with h40 | h40
        ·replace hm := if_t h40 hm
         refine RD hnt (nn 8 (pF :: nn 4 (pF :: nn 4 (pF :: .no :: sk 11 (pT :: []))))) [] [(64, pB true)] [] [] (an5 h37 (an4 h38 (an4 h39 (an5 h40 tv)))) ?_
         exact jD true hm Conv.eqK
        ·replace hm := if_f h40 hm
         rcases bt (decide (((k1 : Nat) : Int) > 0)) with h41 | h41
         ·replace hm := if_t h41 hm
          obtain ⟨g42, hm⟩ := go1 hm
          obtain ⟨r43, hr43, hm⟩ := bo hm
          refine RD hnt (nn 8 (pF :: nn 4 (pF :: nn 4 (pF :: nn 9 (o9 [] true r43 :: .no :: pT :: pF :: []))))) [] [(64, pB (!r43))] [] [] (an5 h37 (an4 h38 (an4 h39 (an3 h40 (an4 h41 (an (by omega : (0 : Int) ≤ 0) (an (by omega : (0 : Int) ≤ ((k1 : Nat) : Int)) (an (by omega : ((k1 : Nat) : Int) ≤ ((p0.nodes.length : Nat) : Int)) (an2 h41 (an (Spec.args (xs := [.p (.sl .unk 6 k1 (elNode p0.nodes)), .p (.agg (encNode (c7e1 p0 k1)))]) (fine_treeSpec (p0.nodes.take k1) (c7e1 p0 k1) r43 hr43) (.cons (.p (PLe.typed (RowIs.elems.take (by omega)))) (.cons .rfl .nil))) (an h41 (an h40 (an h41 (an h40 tv)))))))))))))) ?_
          exact jD (!r43) hm Conv.eqK
         ·replace hm := if_f h41 hm
          refine RD hnt (nn 8 (pF :: nn 4 (pF :: nn 4 (pF :: nn 4 (sk 7 (pF :: pF :: [])))))) [] [(64, pB false)] [] [] (an5 h37 (an4 h38 (an4 h39 (an3 h40 (an h41 (an6 h41 (an h40 (an h41 (an h40 tv))))))))) ?_
          exact jD false hm Conv.eqK
   ·intro h36
    have hge1 : ¬ k1 < p0.nodes.length := by have := of_decide_eq_false h36; omega
    have hm := he1 hge1
    unfold Check_treeD1 at hm
    refine DW.exit ?_
    refine joinQ_exit ?_
    refine KQ_exit ?_
    refine blockQ_exit ?_
    show DW _ _ _ _ _
    obtain ⟨g47, hm⟩ := go1 hm
    refine Sq ?_
    refine Jn (ι := Bool) (fun (y10 : Bool) => mkSt [(2, pB y10)] []) (fun y10 => Check_treeJ10 y10 = some RES) ?_ ?_
    ·intro y10 hm
     unfold Check_treeJ10 at hm
     obtain rfl := sj hm
     exact DW.ret (retK [] [] (pB y10))
    ·rcases bt (decide (p0.next > (p0.nodes.getD (Int.toNat (w64 (((p0.nodes.length : Nat) : Int) - 1))) dNode).id)) with h48 | h48
     ·replace hm := if_t h48 hm
      refine RK hnt (nn 16 (pT :: .no :: [])) [(2, pB (decide (p0.next ≤ 2147483648)))] [] (an g47.1 (an g47.2 (an4 h48 tv))) ?_
      exact jD (decide (p0.next ≤ 2147483648)) hm .refl
     ·replace hm := if_f h48 hm
      refine RK hnt (nn 13 (sk 3 (pF :: .no :: []))) [(2, pB false)] [] (an g47.1 (an g47.2 (an4 h48 tv))) ?_
      exact jD false hm .refl
 ·rcases bt (decide (((p0.nodes.length : Nat) : Int) < 1)) with h1 | h1
  ·replace hm := if_t h1 hm
   refine RD hnt (nn 5 (sk 4 (pT :: .no :: sk 6 (pT :: [])))) [] [(23, pB true)] [] [] (an5 h1 (an tt (an6 tt tv))) ?_
   exact jD true hm Conv.eqK
  ·replace hm := if_f h1 hm
   rcases bt (decide (((p0.nodes.length : Nat) : Int) > 64)) with h2 | h2
   ·replace hm := if_t h2 hm
    refine RD hnt (nn 9 (pF :: .no :: sk 6 (pT :: []))) [] [(23, pB true)] [] [] (an5 h1 (an h2 (an6 h2 tv))) ?_
    exact jD true hm Conv.eqK
   ·replace hm := if_f h2 hm
    obtain ⟨g3, hm⟩ := go1 hm
    obtain ⟨r4, hr4, hm⟩ := bo hm
    refine RD hnt (nn 9 (pF :: nn 5 (o8 [] true r4 :: .no :: pF :: []))) [] [(23, pB (!r4))] [] [] (an5 h1 (an3 h2 (an (nn0 0) (an (ltc g3) (an2 h2 (an (root_treeSpec (p0.nodes.getD 0 dNode) r4 hr4) (an2 h2 tv))))))) ?_
    exact jD (!r4) hm Conv.eqK
abbrev o7 (ks : List Nat) (b : Bool) (RES : Bool) : Orc := .call 56 ks b (pB RES) [] []

theorem AtFa_forestSpec (p0 : Node) (p1 : Int) (RES : Bool) (hm : AtFa_forest p0 p1 = some RES) : Spec Try.prog 72 [.p (.agg (encNode p0)), rr 0] [.box [pI p1]] (pB RES) [.box [pI p1]] [] := by
 unfold AtFa_forest at hm
 refine SO Try.func72 rfl rfl [(0, .p (.agg (encNode p0))), (1, rr 0)] [(0, bx [pI p1])] ?_
 intro cx hnt
 refine Sq (RD hnt (nn 2 []) [0] [(2, rr 1016)] [] [(1016, bx (pm (encNode p0)))] tv ?_)
 refine Sq (RK hnt (nn 5 []) [(3, pB (p0.id == p1))] [(0, bx [pI p1])] tv ?_)
 obtain rfl := sj hm
 exact DW.ret (retK [.box [pI p1]] [] (pB (p0.id == p1)))

theorem IndexFunc_slices_NodeQAtFa_forestSpec (p0 : List Node) (p1c0 : Int) (RES : Int) (hm : IndexFunc_slices_NodeQAtFa_forest p0 p1c0 = some RES) : Spec Try.prog 71 [.p (slNode p0), .fn 72 [rr 0]] [.box [pI p1c0]] (pI RES) [.box [pI p1c0]] [] := by
 unfold IndexFunc_slices_NodeQAtFa_forest at hm
 refine SO Try.func71 rfl rfl [(0, .p (slNode p0)), (1, .fn 72 [rr 0])] [(0, bx [pI p1c0])] ?_
 intro cx hnt
 refine Sq (RD hnt (.no :: []) [] [] [] [] tv ?_)
 refine Sq (Sq (RD hnt (nn 3 []) [] [(7, pI ((p0.length : Nat) : Int)), (8, pI 0)] [] [] tv ?_))
 refine Bk ?_
 obtain ⟨hc1, hm⟩ := go1 hm
 refine DW.rangeO (fun (k1 : Nat) (s1 : Unit) => mkSt [(0, .p (slNode p0)), (1, .fn 72 [rr 0]), (7, pI ((p0.length : Nat) : Int)), (8, pI ((k1 : Nat) : Int))] [(0, bx [pI p1c0])]) dNode hm Conv.eqK ?_
 intro k1 s1 n1 hk1 hs1 he1
 refine Sq (RD hnt (.no :: []) [] [(9, pB (decide (((k1 : Nat) : Int) < ((p0.length : Nat) : Int))))] [] [] tv ?_)
 refine Sq (condK (decide (((k1 : Nat) : Int) < ((p0.length : Nat) : Int))) ?_ ?_)
 ·intro h9
  have hlt1 : k1 < p0.length := by have := of_decide_eq_true h9; omega
  have hm := hs1 hlt1
  unfold IndexFunc_slices_NodeQAtFa_forestL1 at hm
  refine Sk ?_
  refine Sq (Bk ?_)
  refine Sq (RD hnt (nn 2 []) [9] [(5, pI ((k1 : Nat) : Int))] [] [] tv ?_)
  obtain ⟨r10, hr10, hm⟩ := bo hm
  refine Sq (RD hnt (nn 5 (.call 72 [0] true (pB r10) [.box [pI p1c0]] [] :: [])) [] [(16, pB r10)] [] [] (an (nn0 k1) (an (ltc hlt1) (an (AtFa_forestSpec (p0.getD k1 (default : Node)) p1c0 r10 hr10) (an tv tv)))) ?_)
  refine condM hm ?_ ?_
  ·intro h11 hm
   refine Sq (RK hnt (nn 2 []) [(4, pI ((k1 : Nat) : Int))] [(0, bx [pI p1c0])] tv ?_)
   obtain rfl := sj hm
   exact DW.ret (retK [.box [pI p1c0]] [] (pI ((k1 : Nat) : Int)))
  ·intro h11 hm
   refine Sk ?_
   refine DW.done ?_
   show DW _ _ _ _ _
   refine RD hnt (nn 2 []) [5, 16] [(8, pI (w64 (((k1 : Nat) : Int) + 1)))] [] [] tv ?_
   exact jD () ⟨hlt1, hm⟩ (Conv.tp [(8, pI (w64 (((k1 : Nat) : Int) + 1)))] [] (by kernel_rfl) (.cons rfl (.of_eq (congrArg pI (w64_succ hlt1 hc1))) .nil) .nil)
 ·intro h9
  have hge1 : ¬ k1 < p0.length := by have := of_decide_eq_false h9; omega
  have hm := he1 hge1
  unfold IndexFunc_slices_NodeQAtFa_forestD1 at hm
  refine DW.exit ?_
  refine joinQ_exit ?_
  refine KQ_exit ?_
  refine blockQ_exit ?_
  show DW _ _ _ _ _
  refine Sq (RK hnt (.no :: []) [(4, pI (-1))] [(0, bx [pI p1c0])] tv ?_)
  obtain rfl := sj hm
  exact DW.ret (retK [.box [pI p1c0]] [] (pI (-1)))

theorem At_forestSpec (p0 : Tree) (p1 : Int) (RES : Int) (hm : At_forest p0 p1 = some RES) : Spec Try.prog 57 [.p (.agg (encTree p0)), pI p1] [] (pI RES) [] [] := by
 unfold At_forest at hm
 refine SO Try.func57 rfl rfl [(0, .p (.agg (encTree p0))), (1, pI p1)] [] ?_
 intro cx hnt
 refine Sq (RK hnt (nn 3 []) [(2, rr 1016), (3, rr 1024)] [(1016, bx (pm (encTree p0))), (1024, bx [pI p1])] tv ?_)
 obtain ⟨r1, hr1, hm⟩ := bo hm
 refine Sq (RK hnt (nn 3 (.call 71 [1024] true (pI r1) [.box [pI p1]] [] :: .no :: [])) [(4, pI r1)] [] (an (IndexFunc_slices_NodeQAtFa_forestSpec p0.nodes p1 r1 hr1) (an tv tv)) ?_)
 obtain rfl := sj hm
 exact DW.ret (retK [] [] (pI r1))
abbrev o13 (ks : List Nat) (b : Bool) (RES : Int) : Orc := .call 57 ks b (pI RES) [] []

theorem Find_forestSpec (p0 : Tree) (p1 : Int) (RES : Node × Bool) (hm : Find_forest p0 p1 = some RES) : Spec Try.prog 35 [.p (.agg (encTree p0)), pI p1] [] (.p (.tup [.agg (encNode RES.1), vb RES.2])) [] [] := by
 unfold Find_forest at hm
 refine SO Try.func35 rfl rfl [(0, .p (.agg (encTree p0))), (1, pI p1)] [] ?_
 intro cx hnt
 refine Sq (RK hnt (nn 3 []) [(1, pI p1), (2, rr 1016), (4, rr 1032)] [(1016, bx (pm (encTree p0))), (1032, bx [pI 0, pI 0, pS ByteArray.empty, pI 0, pI 0, pI 0])] tv ?_)
 obtain ⟨r1, hr1, hm⟩ := bo hm
 refine Sq (RD hnt (nn 2 (o13 [] true r1 :: .no :: [])) [1] [(6, pI r1)] [] [] (an (At_forestSpec p0 p1 r1 hr1) tv) ?_)
 refine Sq (Sq (RD hnt (nn 2 []) [] [(11, pB (decide (r1 < 0)))] [] [] tv ?_))
 refine condM hm ?_ ?_
 ·intro h2 hm
  refine Sq (RD hnt (nn 3 []) [2, 6, 11] [(5, pB false)] [1016] [] tv ?_)
  obtain rfl := sj hm
  exact DW.ret (retK [] [] (.p (.tup [.agg [vi 0, vi 0, vs ByteArray.empty, vi 0, vi 0, vi 0], vb false])))
 ·intro h2 hm
  refine Sk ?_
  obtain ⟨g3, hm⟩ := go1 hm
  refine Sq (RK hnt (nn 7 []) [(4, rr 1032), (5, pB true)] [(1032, bx (pm (encNode (p0.nodes.getD (Int.toNat r1) dNode))))] (an g3.1 (an g3.2 tv)) ?_)
  obtain rfl := sj hm
  exact DW.ret (retK [] [] (.p (.tup [.agg (encNode (p0.nodes.getD (Int.toNat r1) dNode)), vb true])))
abbrev o12 (ks : List Nat) (b : Bool) (RES : Node × Bool) : Orc := .call 35 ks b (.p (.tup [.agg (encNode RES.1), vb RES.2])) [] []

abbrev c6e1 (p1 : Counter) (k1 : Nat) := (p1.charges.getD k1 (default : Charge))
theorem Valid_counterSpec (p0 : Tree) (p1 : Counter) (RES : Bool) (hm : Valid_counter p0 p1 = some RES) : Spec Try.prog 33 [.p (.agg (encTree p0)), .p (.agg [slCharge p1.charges])] [] (pB RES) [] [] := by
 unfold Valid_counter at hm
 refine SO Try.func33 rfl rfl [(0, .p (.agg (encTree p0))), (1, .p (.agg [slCharge p1.charges]))] [] ?_
 intro cx hnt
 refine Sq (RK hnt (nn 3 []) [(2, rr 1016), (3, rr 1024)] [(1016, bx (pm (encTree p0))), (1024, bx [.p (slCharge p1.charges)])] tv ?_)
 obtain ⟨r1, hr1, hm⟩ := bo hm
 refine Sq (Sq (RD hnt (.no :: o7 [] true r1 :: .no :: []) [] [(12, pB (!r1))] [] [] (an (Check_treeSpec p0 r1 hr1) tv) ?_))
 refine condM hm ?_ ?_
 ·intro h2 hm
  refine Sq (RK hnt (.no :: []) [(4, pB false)] [] tv ?_)
  obtain rfl := sj hm
  exact DW.ret (retK [] [] (pB false))
 ·intro h2 hm
  refine Sk ?_
  refine Sq (RD hnt (.no :: []) [12] [(5, pI 0)] [] [] tv ?_)
  refine Sq (Sq (RD hnt (nn 4 []) [] [(14, .p (slCharge p1.charges)), (15, pI ((p1.charges.length : Nat) : Int)), (16, pI 0)] [] [] tv ?_))
  refine Bk ?_
  obtain ⟨hc1, hm⟩ := go1 hm
  refine DW.rangeO (fun (k1 : Nat) (s1 : Int) => mkSt [(2, rr 1016), (3, rr 1024), (5, pI s1), (14, .p (slCharge p1.charges)), (15, pI ((p1.charges.length : Nat) : Int)), (16, pI ((k1 : Nat) : Int))] [(1016, bx (pm (encTree p0))), (1024, bx [.p (slCharge p1.charges)])]) dCharge hm Conv.eqK ?_
  intro k1 s1 n1 hk1 hs1 he1
  refine Sq (RD hnt (.no :: []) [] [(17, pB (decide (((k1 : Nat) : Int) < ((p1.charges.length : Nat) : Int))))] [] [] tv ?_)
  refine Sq (condK (decide (((k1 : Nat) : Int) < ((p1.charges.length : Nat) : Int))) ?_ ?_)
  ·intro h23
   have hlt1 : k1 < p1.charges.length := by have := of_decide_eq_true h23; omega
   have hm := hs1 hlt1
   unfold Valid_counterL1 at hm
   refine Sk ?_
   refine Sq (Bk ?_)
   refine Sq (RD hnt (nn 6 []) [17] [(6, pI ((k1 : Nat) : Int)), (7, rr 1056)] [] [(1056, bx (pm (encCharge (c6e1 p1 k1))))] (an (nn0 k1) (an (ltc hlt1) tv)) ?_)
   obtain ⟨r24, hr24, hm⟩ := bo hm
   refine Sq (Sq (RD hnt (nn 3 (o12 [] true r24 :: nn 6 [])) [] [(9, pB r24.2)] [] [] (an (Find_forestSpec p0 (c6e1 p1 k1).group r24 hr24) tv) ?_))
   refine Sq ?_
   refine Jn (ι := Bool) (fun (y3 : Bool) => mkSt [(2, rr 1016), (3, rr 1024), (5, pI s1), (7, rr 1056), (14, .p (slCharge p1.charges)), (15, pI ((p1.charges.length : Nat) : Int)), (16, pI ((k1 : Nat) : Int)), (57, pB y3)] [(1016, bx (pm (encTree p0))), (1024, bx [.p (slCharge p1.charges)]), (1056, bx (pm (encCharge (c6e1 p1 k1))))]) (fun y3 => (Valid_counterJ3 (c6e1 p1 k1) s1 n1) y3 = some RES) ?_ ?_
   ·intro y3 hm
    unfold Valid_counterJ3 at hm
    refine condM hm ?_ ?_
    ·intro h31 hm
     refine Sq (RK hnt (.no :: []) [(4, pB false)] [] tv ?_)
     obtain rfl := sj hm
     exact DW.ret (retK [] [] (pB false))
    ·intro h31 hm
     refine Sk ?_
     refine RD hnt (nn 5 []) [7, 57] [(5, pI (w64 (s1 + (c6e1 p1 k1).own)))] [1056] [] tv ?_
     refine DW.done ?_
     show DW _ _ _ _ _
     refine RD hnt (nn 2 []) [] [(16, pI (w64 (((k1 : Nat) : Int) + 1)))] [] [] tv ?_
     exact jD (w64 (s1 + (c6e1 p1 k1).own)) ⟨hlt1, hm⟩ (Conv.tp [(16, pI (w64 (((k1 : Nat) : Int) + 1)))] [] (by kernel_rfl) (.cons rfl (.of_eq (congrArg pI (w64_succ hlt1 hc1))) .nil) .nil)
   ·rcases bt (!r24.2) with h25 | h25
    ·replace hm := if_t h25 hm
     refine RD hnt (nn 3 (sk 14 (pT :: .no :: sk 3 (pT :: .no :: sk 5 (pT :: []))))) [6, 9] [(57, pB true)] [] [] (an5 h25 (an4 tt (an6 tt tv))) ?_
     exact jD true hm Conv.eqK
    ·replace hm := if_f h25 hm
     rcases bt (decide (((k1 : Nat) : Int) > 0)) with h26 | h26
     ·replace hm := if_t h26 hm
      obtain ⟨g27, hm⟩ := go1 hm
      rcases bt (decide ((c6e1 p1 k1).group ≤ (p1.charges.getD (Int.toNat (w64 (((k1 : Nat) : Int) - 1))) dCharge).group)) with h28 | h28
      ·replace hm := if_t h28 hm
       refine RD hnt (nn 16 (pT :: pF :: .no :: sk 3 (pT :: .no :: sk 5 (pT :: [])))) [6, 9] [(57, pB true)] [] [] (an3 h25 (an h26 (an6 h26 (an g27.1 (an g27.2 (an3 h26 (an h25 (an h26 (an h25 (an4 h28 (an6 tt tv))))))))))) ?_
       exact jD true hm Conv.eqK
      ·replace hm := if_f h28 hm
       rcases bt (decide ((c6e1 p1 k1).own < 1)) with h29 | h29
       ·replace hm := if_t h29 hm
        refine RD hnt (nn 16 (pT :: pF :: nn 4 (pF :: .no :: sk 5 (pT :: [])))) [6, 9] [(57, pB true)] [] [] (an3 h25 (an h26 (an6 h26 (an g27.1 (an g27.2 (an3 h26 (an h25 (an h26 (an h25 (an4 h28 (an6 h29 tv))))))))))) ?_
        exact jD true hm Conv.eqK
       ·replace hm := if_f h29 hm
        refine RD hnt (nn 16 (pT :: pF :: nn 4 (pF :: nn 6 (pF :: [])))) [6, 9] [(57, pB (decide ((c6e1 p1 k1).own > (w64 (16777216 - s1)))))] [] [] (an3 h25 (an h26 (an6 h26 (an g27.1 (an g27.2 (an3 h26 (an h25 (an h26 (an h25 (an4 h28 (an6 h29 tv))))))))))) ?_
        exact jD (decide ((c6e1 p1 k1).own > (w64 (16777216 - s1)))) hm Conv.eqK
     ·replace hm := if_f h26 hm
      rcases bt (decide ((c6e1 p1 k1).own < 1)) with h30 | h30
      ·replace hm := if_t h30 hm
       refine RD hnt (nn 6 (sk 10 (pF :: pF :: nn 4 (pF :: .no :: sk 5 (pT :: []))))) [6, 9] [(57, pB true)] [] [] (an3 h25 (an4 h26 (an6 h26 (an h25 (an h26 (an h25 (an4 ff (an6 h30 tv)))))))) ?_
       exact jD true hm Conv.eqK
      ·replace hm := if_f h30 hm
       refine RD hnt (nn 6 (sk 10 (pF :: pF :: nn 4 (pF :: nn 6 (pF :: []))))) [6, 9] [(57, pB (decide ((c6e1 p1 k1).own > (w64 (16777216 - s1)))))] [] [] (an3 h25 (an4 h26 (an6 h26 (an h25 (an h26 (an h25 (an4 ff (an6 h30 tv)))))))) ?_
       exact jD (decide ((c6e1 p1 k1).own > (w64 (16777216 - s1)))) hm Conv.eqK
  ·intro h23
   have hge1 : ¬ k1 < p1.charges.length := by have := of_decide_eq_false h23; omega
   have hm := he1 hge1
   unfold Valid_counterD1 at hm
   refine DW.exit ?_
   refine joinQ_exit ?_
   refine KQ_exit ?_
   refine blockQ_exit ?_
   show DW _ _ _ _ _
   refine Sq (RK hnt (.no :: []) [(4, pB true)] [] tv ?_)
   obtain rfl := sj hm
   exact DW.ret (retK [] [] (pB true))
abbrev o6 (ks : List Nat) (b : Bool) (RES : Bool) : Orc := .call 33 ks b (pB RES) [] []

abbrev c16e1 (p1 : List Protection) (k1 : Nat) := (p1.getD k1 (default : Protection))
theorem Valid_protectSpec (p0 : Tree) (p1 : List Protection) (RES : Bool) (hm : Valid_protect p0 p1 = some RES) : Spec Try.prog 34 [.p (.agg (encTree p0)), .p (slProtection p1)] [] (pB RES) [] [] := by
 unfold Valid_protect at hm
 refine SO Try.func34 rfl rfl [(0, .p (.agg (encTree p0))), (1, .p (slProtection p1))] [] ?_
 intro cx hnt
 refine Sq (RD hnt (nn 2 []) [0] [(2, rr 1016)] [] [(1016, bx (pm (encTree p0)))] tv ?_)
 obtain ⟨r1, hr1, hm⟩ := bo hm
 refine Sq (Sq (RD hnt (.no :: o7 [] true r1 :: .no :: []) [] [(11, pB (!r1))] [] [] (an (Check_treeSpec p0 r1 hr1) tv) ?_))
 refine condM hm ?_ ?_
 ·intro h2 hm
  refine Sq (RK hnt (.no :: []) [(4, pB false)] [] tv ?_)
  obtain rfl := sj hm
  exact DW.ret (retK [] [] (pB false))
 ·intro h2 hm
  refine Sk ?_
  refine Sq (Sq (RD hnt (nn 3 []) [11] [(12, .p (slProtection p1)), (13, pI ((p1.length : Nat) : Int)), (14, pI 0)] [] [] tv ?_))
  refine Bk ?_
  obtain ⟨hc1, hm⟩ := go1 hm
  refine DW.rangeO (fun (k1 : Nat) (s1 : Unit) => mkSt [(1, .p (slProtection p1)), (2, rr 1016), (12, .p (slProtection p1)), (13, pI ((p1.length : Nat) : Int)), (14, pI ((k1 : Nat) : Int))] [(1016, bx (pm (encTree p0)))]) dProtection hm Conv.eqK ?_
  intro k1 s1 n1 hk1 hs1 he1
  refine Sq (RD hnt (.no :: []) [] [(15, pB (decide (((k1 : Nat) : Int) < ((p1.length : Nat) : Int))))] [] [] tv ?_)
  refine Sq (condK (decide (((k1 : Nat) : Int) < ((p1.length : Nat) : Int))) ?_ ?_)
  ·intro h31
   have hlt1 : k1 < p1.length := by have := of_decide_eq_true h31; omega
   have hm := hs1 hlt1
   unfold Valid_protectL1 at hm
   refine Sk ?_
   refine Sq (Bk ?_)
   refine Sq (RD hnt (nn 6 []) [15] [(5, pI ((k1 : Nat) : Int)), (6, rr 1048)] [] [(1048, bx (pm (encProtection (c16e1 p1 k1))))] (an (nn0 k1) (an (ltc hlt1) tv)) ?_)
   obtain ⟨r32, hr32, hm⟩ := bo hm
   refine Sq (RD hnt (nn 3 (o12 [] true r32 :: nn 6 [])) [] [(8, pB r32.2)] [] [] (an (Find_forestSpec p0 (c16e1 p1 k1).group r32 hr32) tv) ?_)
   refine Sq ?_
   refine Jn (ι := Bool) (fun (y3 : Bool) => mkSt [(1, .p (slProtection p1)), (2, rr 1016), (12, .p (slProtection p1)), (13, pI ((p1.length : Nat) : Int)), (14, pI ((k1 : Nat) : Int)), (62, pB y3)] [(1016, bx (pm (encTree p0)))]) (fun y3 => (Valid_protectJ3 n1) y3 = some RES) ?_ ?_
   ·intro y3 hm
    unfold Valid_protectJ3 at hm
    refine condM hm ?_ ?_
    ·intro h43 hm
     refine Sq (RK hnt (.no :: []) [(4, pB false)] [] tv ?_)
     obtain rfl := sj hm
     exact DW.ret (retK [] [] (pB false))
    ·intro h43 hm
     refine Sk ?_
     refine DW.done ?_
     show DW _ _ _ _ _
     refine RD hnt (nn 2 []) [62] [(14, pI (w64 (((k1 : Nat) : Int) + 1)))] [] [] tv ?_
     exact jD () ⟨hlt1, hm⟩ (Conv.tp [(14, pI (w64 (((k1 : Nat) : Int) + 1)))] [] (by kernel_rfl) (.cons rfl (.of_eq (congrArg pI (w64_succ hlt1 hc1))) .nil) .nil)
   ·rcases bt (!r32.2) with h33 | h33
    ·replace hm := if_t h33 hm
     refine RD hnt (nn 3 (sk 13 (pT :: .no :: sk 3 (pT :: .no :: sk 3 (pT :: .no :: sk 3 (pT :: .no :: sk 3 (pT :: []))))))) [5, 6, 8] [(62, pB true)] [1048] [] (an5 h33 (an4 tt (an6 tt (an6 tt tv)))) ?_
     exact jD true hm Conv.eqK
    ·replace hm := if_f h33 hm
     rcases bt (decide (((k1 : Nat) : Int) > 0)) with h34 | h34
     ·replace hm := if_t h34 hm
      obtain ⟨g35, hm⟩ := go1 hm
      rcases bt (decide ((c16e1 p1 k1).group ≤ (p1.getD (Int.toNat (w64 (((k1 : Nat) : Int) - 1))) dProtection).group)) with h36 | h36
      ·replace hm := if_t h36 hm
       refine RD hnt (nn 15 (pT :: pF :: .no :: sk 3 (pT :: .no :: sk 3 (pT :: .no :: sk 3 (pT :: .no :: sk 3 (pT :: [])))))) [5, 6, 8] [(62, pB true)] [1048] [] (an3 h33 (an6 h34 (an g35.1 (an g35.2 (an3 h34 (an h33 (an h34 (an h33 (an4 h36 (an6 tt (an6 tt tv))))))))))) ?_
       exact jD true hm Conv.eqK
      ·replace hm := if_f h36 hm
       rcases bt (decide ((c16e1 p1 k1).min < 0)) with h37 | h37
       ·replace hm := if_t h37 hm
        refine RD hnt (nn 15 (pT :: pF :: nn 4 (pF :: .no :: sk 3 (pT :: .no :: sk 3 (pT :: .no :: sk 3 (pT :: [])))))) [5, 6, 8] [(62, pB true)] [1048] [] (an3 h33 (an6 h34 (an g35.1 (an g35.2 (an3 h34 (an h33 (an h34 (an h33 (an4 h36 (an4 h37 (an2 tt (an6 tt tv)))))))))))) ?_
        exact jD true hm Conv.eqK
       ·replace hm := if_f h37 hm
        rcases bt (decide ((c16e1 p1 k1).min > 4611686018427387904)) with h38 | h38
        ·replace hm := if_t h38 hm
         refine RD hnt (nn 15 (pT :: pF :: nn 4 (pF :: nn 4 (pF :: .no :: sk 3 (pT :: .no :: sk 3 (pT :: [])))))) [5, 6, 8] [(62, pB true)] [1048] [] (an3 h33 (an6 h34 (an g35.1 (an g35.2 (an3 h34 (an h33 (an h34 (an h33 (an4 h36 (an4 h37 (an4 h38 (an4 tt tv)))))))))))) ?_
         exact jD true hm Conv.eqK
        ·replace hm := if_f h38 hm
         rcases bt (decide ((c16e1 p1 k1).low < 0)) with h39 | h39
         ·replace hm := if_t h39 hm
          refine RD hnt (nn 15 (pT :: pF :: nn 4 (pF :: nn 4 (pF :: nn 4 (pF :: .no :: sk 3 (pT :: [])))))) [5, 6, 8] [(62, pB true)] [1048] [] (an3 h33 (an6 h34 (an g35.1 (an g35.2 (an3 h34 (an h33 (an h34 (an h33 (an4 h36 (an4 h37 (an4 h38 (an4 h39 tv)))))))))))) ?_
          exact jD true hm Conv.eqK
         ·replace hm := if_f h39 hm
          refine RD hnt (nn 15 (pT :: pF :: nn 4 (pF :: nn 4 (pF :: nn 4 (pF :: nn 4 (pF :: [])))))) [5, 6, 8] [(62, pB (decide ((c16e1 p1 k1).low > 4611686018427387904)))] [1048] [] (an3 h33 (an6 h34 (an g35.1 (an g35.2 (an3 h34 (an h33 (an h34 (an h33 (an4 h36 (an4 h37 (an4 h38 (an4 h39 tv)))))))))))) ?_
          exact jD (decide ((c16e1 p1 k1).low > 4611686018427387904)) hm Conv.eqK
     ·replace hm := if_f h34 hm
      rcases bt (decide ((c16e1 p1 k1).min < 0)) with h40 | h40
      ·replace hm := if_t h40 hm
       refine RD hnt (nn 6 (sk 9 (pF :: pF :: nn 4 (pF :: .no :: sk 3 (pT :: .no :: sk 3 (pT :: .no :: sk 3 (pT :: []))))))) [5, 6, 8] [(62, pB true)] [1048] [] (an3 h33 (an3 h34 (an6 h34 (an h33 (an h34 (an h33 (an4 ff (an4 h40 (an2 tt (an6 tt tv)))))))))) ?_
       exact jD true hm Conv.eqK
      ·replace hm := if_f h40 hm
       rcases bt (decide ((c16e1 p1 k1).min > 4611686018427387904)) with h41 | h41
       ·replace hm := if_t h41 hm
        refine RD hnt (nn 6 (sk 9 (pF :: pF :: nn 4 (pF :: nn 4 (pF :: .no :: sk 3 (pT :: .no :: sk 3 (pT :: []))))))) [5, 6, 8] [(62, pB true)] [1048] [] (an3 h33 (an3 h34 (an6 h34 (an h33 (an h34 (an h33 (an4 ff (an4 h40 (an4 h41 (an4 tt tv)))))))))) ?_
        exact jD true hm Conv.eqK
       ·replace hm := if_f h41 hm
        rcases bt (decide ((c16e1 p1 k1).low < 0)) with h42 | h42
        ·replace hm := if_t h42 hm
         refine RD hnt (nn 6 (sk 9 (pF :: pF :: nn 4 (pF :: nn 4 (pF :: nn 4 (pF :: .no :: sk 3 (pT :: []))))))) [5, 6, 8] [(62, pB true)] [1048] [] (an3 h33 (an3 h34 (an6 h34 (an h33 (an h34 (an h33 (an4 ff (an4 h40 (an4 h41 (an4 h42 tv)))))))))) ?_
         exact jD true hm Conv.eqK
        ·replace hm := if_f h42 hm
         refine RD hnt (nn 6 (sk 9 (pF :: pF :: nn 4 (pF :: nn 4 (pF :: nn 4 (pF :: nn 4 (pF :: []))))))) [5, 6, 8] [(62, pB (decide ((c16e1 p1 k1).low > 4611686018427387904)))] [1048] [] (an3 h33 (an3 h34 (an6 h34 (an h33 (an h34 (an h33 (an4 ff (an4 h40 (an4 h41 (an4 h42 tv)))))))))) ?_
         exact jD (decide ((c16e1 p1 k1).low > 4611686018427387904)) hm Conv.eqK
  ·intro h31
   have hge1 : ¬ k1 < p1.length := by have := of_decide_eq_false h31; omega
   have hm := he1 hge1
   unfold Valid_protectD1 at hm
   refine DW.exit ?_
   refine joinQ_exit ?_
   refine KQ_exit ?_
   refine blockQ_exit ?_
   show DW _ _ _ _ _
   refine Sq (RK hnt (.no :: []) [(4, pB true)] [] tv ?_)
   obtain rfl := sj hm
   exact DW.ret (retK [] [] (pB true))
abbrev o16 (ks : List Nat) (b : Bool) (RES : Bool) : Orc := .call 34 ks b (pB RES) [] []

abbrev c18e1 (s4 : (IMap Int) × Int) (p0 : Tree) := (w64 ((s4.1.get (p0.nodes.getD (Int.toNat s4.2) dNode).parent) + (s4.1.get (p0.nodes.getD (Int.toNat s4.2) dNode).id)))
abbrev c18e2 (p1 : Counter) (k1 : Nat) := (p1.charges.getD k1 (default : Charge))
abbrev c18e3 (s4 : (IMap Int) × Int) (p0 : Tree) := (s4.1.set (p0.nodes.getD (Int.toNat s4.2) dNode).parent (c18e1 s4 p0))
theorem sums_counterSpec (p0 : Tree) (p1 : Counter) (RES : IMap Int) (hm : sums_counter p0 p1 = some RES) : Spec Try.prog 58 [.p (.agg (encTree p0)), .p (.agg [slCharge p1.charges])] [] (.p (.mp (vi 0) RES.has (fun n => vi (RES.get n)))) [] [] := by
 unfold sums_counter at hm
 refine SO Try.func58 rfl rfl [(0, .p (.agg (encTree p0))), (1, .p (.agg [slCharge p1.charges]))] [] ?_
 intro cx hnt
 refine Sq (RK hnt (nn 3 []) [(2, rr 1016), (3, rr 1024)] [(1016, bx (pm (encTree p0))), (1024, bx [.p (slCharge p1.charges)])] tv ?_)
 refine Sq (RD hnt (nn 2 []) [] [(5, .mref 1072 0)] [] [(1072, ob0 (mapOf vi (vi 0) (IMap.empty 0)))] tv ?_)
 refine Sq (Sq (RD hnt (nn 4 []) [3] [(11, .p (slCharge p1.charges)), (12, pI ((p1.charges.length : Nat) : Int)), (13, pI 0)] [1024] [] tv ?_))
 refine Bk ?_
 obtain ⟨hc1, hm⟩ := go1 hm
 refine DW.rangeO (fun (k1 : Nat) (s1 : IMap Int) => mkSt [(2, rr 1016), (5, .mref 1072 0), (11, .p (slCharge p1.charges)), (12, pI ((p1.charges.length : Nat) : Int)), (13, pI ((k1 : Nat) : Int))] [(1016, bx (pm (encTree p0))), (1072, ob0 (mapOf vi (vi 0) s1))]) dCharge hm Conv.eqK ?_
 intro k1 s1 n1 hk1 hs1 he1
 refine Sq (RD hnt (.no :: []) [] [(14, pB (decide (((k1 : Nat) : Int) < ((p1.charges.length : Nat) : Int))))] [] [] tv ?_)
 refine Sq (condK (decide (((k1 : Nat) : Int) < ((p1.charges.length : Nat) : Int))) ?_ ?_)
 ·intro h17
  have hlt1 : k1 < p1.charges.length := by have := of_decide_eq_true h17; omega
  have hm := hs1 hlt1
  unfold sums_counterL1 at hm
  refine Sk ?_
  refine Sq (Bk ?_)
  refine Sq (RD hnt (nn 4 []) [14] [(7, rr 1056)] [] [(1056, bx (pm (encCharge (c18e2 p1 k1))))] (an (nn0 k1) (an (ltc hlt1) tv)) ?_)
  refine RD hnt (nn 5 (.asM (s1.set (c18e2 p1 k1).group (c18e2 p1 k1).own).has (fun j => vi ((s1.set (c18e2 p1 k1).group (c18e2 p1 k1).own).get j)) :: [])) [7] [] [1056] [(1072, ob0 (mapOf vi (vi 0) (s1.set (c18e2 p1 k1).group (c18e2 p1 k1).own)))] (an (mset_has s1 (c18e2 p1 k1).group (c18e2 p1 k1).own) (an (mset_get vi s1 (c18e2 p1 k1).group (c18e2 p1 k1).own) tv)) ?_
  refine DW.done ?_
  show DW _ _ _ _ _
  refine RD hnt (nn 2 []) [] [(13, pI (w64 (((k1 : Nat) : Int) + 1)))] [] [] tv ?_
  exact jD (s1.set (c18e2 p1 k1).group (c18e2 p1 k1).own) ⟨hlt1, hm⟩ (Conv.tp [(13, pI (w64 (((k1 : Nat) : Int) + 1)))] [] (by kernel_rfl) (.cons rfl (.of_eq (congrArg pI (w64_succ hlt1 hc1))) .nil) .nil)
 ·intro h17
  have hge1 : ¬ k1 < p1.charges.length := by have := of_decide_eq_false h17; omega
  have hm := he1 hge1
  unfold sums_counterD1 at hm
  refine DW.exit ?_
  refine joinQ_exit ?_
  refine KQ_exit ?_
  refine blockQ_exit ?_
  show DW _ _ _ _ _
  refine Sq (Sq (RD hnt (nn 5 []) [11, 12, 13, 14] [(8, pI (w64 (((p0.nodes.length : Nat) : Int) - 1)))] [] [] tv ?_))
  refine Bk ?_
  refine DW.whileO (fun (s4 : (IMap Int) × Int) => mkSt [(2, rr 1016), (5, .mref 1072 0), (8, pI s4.2)] [(1016, bx (pm (encTree p0))), (1072, ob0 (mapOf vi (vi 0) s4.1))]) hm Conv.eqK ?_
  intro s4 n4 hm
  unfold sums_counterL4 at hm
  refine Sq (Sq (RD hnt (nn 2 []) [] [(28, pB (decide (s4.2 > 0)))] [] [] tv ?_))
  refine condM hm ?_ ?_
  ·intro h21 hm
   refine Sk ?_
   refine Sq (Bk ?_)
   obtain ⟨g22, g23, hm⟩ := go2 hm
   refine RD hnt (nn 17 (.asM (c18e3 s4 p0).has (fun j => vi ((c18e3 s4 p0).get j)) :: [])) [28] [] [] [(1072, ob0 (mapOf vi (vi 0) (c18e3 s4 p0)))] (an g22.1 (an g22.2 (an (rfl : vi 0 = vi 0) (an g23.1 (an g23.2 (an (rfl : vi 0 = vi 0) (an (mset_has s4.1 (p0.nodes.getD (Int.toNat s4.2) dNode).parent (c18e1 s4 p0)) (an (mset_get vi s4.1 (p0.nodes.getD (Int.toNat s4.2) dNode).parent (c18e1 s4 p0)) tv)))))))) ?_
   refine DW.done ?_
   show DW _ _ _ _ _
   refine RD hnt (nn 3 []) [] [(8, pI (w64 (s4.2 - 1)))] [] [] tv ?_
   exact jD ((c18e3 s4 p0), (w64 (s4.2 - 1))) hm Conv.eqK
  ·intro h21 hm
   refine DW.exit ?_
   refine joinQ_exit ?_
   refine KQ_exit ?_
   refine blockQ_exit ?_
   show DW _ _ _ _ _
   refine Sq (RD hnt (nn 2 []) [2, 5, 8, 28] [(4, .mref 1072 0)] [1016] [] tv ?_)
   refine DW.cv [] [(4, .p (.mp (vi 0) s4.1.has (fun n => vi (s4.1.get n))))] [1072] [] (Conv.frz [1072]) ?_
   obtain rfl := sj hm
   exact DW.ret (retK [] [] (.p (.mp (vi 0) s4.1.has (fun n => vi (s4.1.get n)))))
abbrev o18 (ks : List Nat) (b : Bool) (RES : IMap Int) : Orc := .call 58 ks b (.p (.mp (vi 0) RES.has (fun n => vi (RES.get n)))) [] []

abbrev c17e1 (p0 : Tree) (k1 : Nat) := (p0.nodes.getD k1 (default : Node))
abbrev c17e2 (p0 : Tree) (k1 : Nat) (r3 : IMap Int) := ({ group := (c17e1 p0 k1).id, own := (r3.get (c17e1 p0 k1).id) } : Charge)
abbrev c17e3 (r3 : IMap Int) : Nat × MV := (7, .p (.mp (vi 0) r3.has (fun n => vi (r3.get n))))
abbrev c17e4 (p0 : Tree) : Nat × MV := (19, pI ((p0.nodes.length : Nat) : Int))
theorem Totals_counterSpec (p0 : Tree) (p1 : Counter) (RES : (List Charge) × Int) (hm : Totals_counter p0 p1 = some RES) : Spec Try.prog 36 [.p (.agg (encTree p0)), .p (.agg [slCharge p1.charges])] [] (.tup [ow 0 RES.1.length, pI RES.2]) [] [roCharge RES.1] := by
 unfold Totals_counter at hm
 refine SO Try.func36 rfl rfl [(0, .p (.agg (encTree p0))), (1, .p (.agg [slCharge p1.charges]))] [] ?_
 intro cx hnt
 refine Sq (RK hnt (nn 4 []) [(2, rr 1016), (3, rr 1024)] [(1016, bx (pm (encTree p0))), (1024, bx [.p (slCharge p1.charges)])] tv ?_)
 obtain ⟨r1, hr1, hm⟩ := bo hm
 refine Sq (Sq (RD hnt (nn 2 (o6 [] true r1 :: .no :: [])) [] [(13, pB (!r1))] [] [] (an (Valid_counterSpec p0 p1 r1 hr1) tv) ?_))
 refine condM hm ?_ ?_
 ·intro h2 hm
  refine Sq (RK hnt (nn 2 []) [(4, .p (.sl .nil 0 0 (fun _ => []))), (5, pI 1)] [] tv ?_)
  refine DW.cv [] [(4, ow 100000 0)] [] [(100000, ob0 (roCharge []))] (Conv.ads [(.s 4, 100000, 2, elems encCharge dCharge [])]) ?_
  obtain rfl := sj hm
  exact DW.ret (retK [roCharge []] [100000] (.tup [ow 0 0, pI 1]))
 ·intro h2 hm
  refine Sk ?_
  refine Sq (RD hnt (.no :: []) [13] [(6, .p (.sl .nil 0 0 (fun _ => [])))] [] [] tv ?_)
  obtain ⟨r3, hr3, hm⟩ := bo hm
  refine Sq (RD hnt (nn 2 (o18 [] true r3 :: .no :: [])) [3] [(c17e3 r3)] [1024] [] (an (sums_counterSpec p0 p1 r3 hr3) tv) ?_)
  refine Sq (Sq (RD hnt (nn 4 []) [2] [(18, .p (slNode p0.nodes)), (c17e4 p0), (20, pI 0)] [1016] [] tv ?_))
  refine Bk ?_
  obtain ⟨hc1, hm⟩ := go1 hm
  refine DW.rangeO (fun (k1 : Nat) (s1 : List Charge) => mkSt [(6, ow 1304 s1.length), (c17e3 r3), (18, .p (slNode p0.nodes)), (c17e4 p0), (20, pI ((k1 : Nat) : Int))] [(1304, ob0 (roCharge s1))]) dNode hm (Conv.ads [(.s 6, 1304, 2, elems encCharge dCharge [])]) ?_
  intro k1 s1 n1 hk1 hs1 he1
  refine Sq (RD hnt (.no :: []) [] [(21, pB (decide (((k1 : Nat) : Int) < ((p0.nodes.length : Nat) : Int))))] [] [] tv ?_)
  refine Sq (condK (decide (((k1 : Nat) : Int) < ((p0.nodes.length : Nat) : Int))) ?_ ?_)
  ·intro h11
   have hlt1 : k1 < p0.nodes.length := by have := of_decide_eq_true h11; omega
   have hm := hs1 hlt1
   unfold Totals_counterL1 at hm
   refine Sk ?_
   refine Sq ?_
   refine Jn (ι := List Charge) (fun (y3 : List Charge) => mkSt [(6, ow 1304 y3.length), (c17e3 r3), (18, .p (slNode p0.nodes)), (c17e4 p0), (20, pI ((k1 : Nat) : Int))] [(1304, ob0 (roCharge y3))]) (fun y3 => (Totals_counterJ3 n1) y3 = some RES) ?_ ?_
   ·intro y3 hm
    unfold Totals_counterJ3 at hm
    refine RD hnt (nn 2 []) [] [(20, pI (w64 (((k1 : Nat) : Int) + 1)))] [] [] tv ?_
    exact jD y3 ⟨hlt1, hm⟩ (Conv.tp [(20, pI (w64 (((k1 : Nat) : Int) + 1)))] [] (by kernel_rfl) (.cons rfl (.of_eq (congrArg pI (w64_succ hlt1 hc1))) .nil) .nil)
   ·refine Bk ?_
    refine Sq (RD hnt (nn 4 []) [21] [(9, rr 1072)] [] [(1072, bx (pm (encNode (c17e1 p0 k1))))] (an (nn0 k1) (an (ltc hlt1) tv)) ?_)
    refine Sq (RD hnt (nn 5 []) [] [(28, pB (decide ((r3.get (c17e1 p0 k1).id) > 0)))] [] [] (an (rfl : vi 0 = vi 0) tv) ?_)
    refine condM hm ?_ ?_
    ·intro h12 hm
     obtain ⟨g13, hm⟩ := go1 hm
     refine RN hnt (nn 11 []) [(6, ow 1304 (s1 ++ [(c17e2 p0 k1 r3)]).length), (c17e3 r3), (18, .p (slNode p0.nodes)), (c17e4 p0), (20, pI ((k1 : Nat) : Int))] [(1304, ob0 (roCharge (s1 ++ [(c17e2 p0 k1 r3)])))] [(6, ow 1304 (s1.length + 1))] [(1304, .row 2 (s1.length + 1) (catF s1.length (elCharge s1) (cut 2 [vi (c17e1 p0 k1).id, vi (r3.get (c17e1 p0 k1).id)])))] (an (rfl : vi 0 = vi 0) (an (by omega : (s1.length + 1) * 16 ≤ 140737488355328) tv)) (by kernel_rfl) (.cons rfl (MLe.ownLen (enc := encCharge) (d := dCharge) (f := (catF s1.length (elCharge s1) (cut 2 [vi (c17e1 p0 k1).id, vi (r3.get (c17e1 p0 k1).id)]))) (RowIs.cat RowIs.elems (RowIs.lit (enc := encCharge) (d := dCharge) (n := 1) (f := (cut 2 [vi (c17e1 p0 k1).id, vi (r3.get (c17e1 p0 k1).id)])) [(c17e2 p0 k1 r3)] rfl (fun | 0, _ => rfl | n + 1, h => absurd h (by omega))))) .nil) (.cons rfl (BLe.typed (RowIs.cat RowIs.elems (RowIs.lit (enc := encCharge) (d := dCharge) (n := 1) (f := (cut 2 [vi (c17e1 p0 k1).id, vi (r3.get (c17e1 p0 k1).id)])) [(c17e2 p0 k1 r3)] rfl (fun | 0, _ => rfl | n + 1, h => absurd h (by omega))))) .nil) ?_
     exact bD (s1 ++ [(c17e2 p0 k1 r3)]) hm .refl
    ·intro h12 hm
     refine Sk ?_
     exact bD s1 hm Conv.t0
  ·intro h11
   have hge1 : ¬ k1 < p0.nodes.length := by have := of_decide_eq_false h11; omega
   have hm := he1 hge1
   unfold Totals_counterD1 at hm
   refine DW.exit ?_
   refine joinQ_exit ?_
   refine KQ_exit ?_
   refine blockQ_exit ?_
   show DW _ _ _ _ _
   refine Sq (RK hnt (nn 3 []) [(4, ow 1304 s1.length), (5, pI 0)] [(1304, ob0 (roCharge s1))] tv ?_)
   obtain rfl := sj hm
   exact DW.ret (retK [roCharge s1] [1304] (.tup [ow 0 s1.length, pI 0]))
abbrev o17 (ks : List Nat) (b : Bool) (RES : (List Charge) × Int) : Orc := .call 36 ks b (.tup [ow 0 RES.1.length, pI RES.2]) [] [roCharge RES.1]

theorem least_protectSpec (p0 : Protection) (RES : Int) (hm : least_protect p0 = some RES) : Spec Try.prog 39 [.p (.agg (encProtection p0))] [] (pI RES) [] [] := by
 unfold least_protect at hm
 refine SO Try.func39 rfl rfl [(0, .p (.agg (encProtection p0)))] [] ?_
 intro cx hnt
 refine Sq (RK hnt (nn 2 []) [(1, rr 1008)] [(1008, bx (pm (encProtection p0)))] tv ?_)
 refine Sq (RK hnt (nn 3 []) [(2, pI p0.min)] [] tv ?_)
 obtain rfl := sj hm
 exact DW.ret (retK [] [] (pI p0.min))
abbrev o20 (ks : List Nat) (b : Bool) (RES : Int) : Orc := .call 39 ks b (pI RES) [] []

abbrev c19e1 (p0 : List Protection) (k1 : Nat) := (p0.getD k1 (default : Protection))
theorem settings_protectQleast_protectSpec (p0 : List Protection) (RES : IMap Int) (hm : settings_protectQleast_protect p0 = some RES) : Spec Try.prog 38 [.p (slProtection p0), .p (.fn 39 [])] [] (.p (.mp (vi 0) RES.has (fun n => vi (RES.get n)))) [] [] := by
 unfold settings_protectQleast_protect at hm
 refine SO Try.func38 rfl rfl [(0, .p (slProtection p0)), (1, .p (.fn 39 []))] [] ?_
 intro cx hnt
 refine Sq (RD hnt (.no :: []) [] [] [] [] tv ?_)
 refine Sq (RD hnt (nn 2 []) [] [(5, .mref 1064 0)] [] [(1064, ob0 (mapOf vi (vi 0) (IMap.empty 0)))] tv ?_)
 refine Sq (Sq (RD hnt (nn 3 []) [0] [(9, .p (slProtection p0)), (10, pI ((p0.length : Nat) : Int)), (11, pI 0)] [] [] tv ?_))
 refine Bk ?_
 obtain ⟨hc1, hm⟩ := go1 hm
 refine DW.rangeO (fun (k1 : Nat) (s1 : IMap Int) => mkSt [(1, .p (.fn 39 [])), (5, .mref 1064 0), (9, .p (slProtection p0)), (10, pI ((p0.length : Nat) : Int)), (11, pI ((k1 : Nat) : Int))] [(1064, ob0 (mapOf vi (vi 0) s1))]) dProtection hm Conv.eqK ?_
 intro k1 s1 n1 hk1 hs1 he1
 refine Sq (RD hnt (.no :: []) [] [(12, pB (decide (((k1 : Nat) : Int) < ((p0.length : Nat) : Int))))] [] [] tv ?_)
 refine Sq (condK (decide (((k1 : Nat) : Int) < ((p0.length : Nat) : Int))) ?_ ?_)
 ·intro h7
  have hlt1 : k1 < p0.length := by have := of_decide_eq_true h7; omega
  have hm := hs1 hlt1
  unfold settings_protectQleast_protectL1 at hm
  refine Sk ?_
  refine Sq (Bk ?_)
  refine Sq (RD hnt (nn 4 []) [12] [(7, rr 1056)] [] [(1056, bx (pm (encProtection (c19e1 p0 k1))))] (an (nn0 k1) (an (ltc hlt1) tv)) ?_)
  obtain ⟨r8, hr8, hm⟩ := bo hm
  refine RD hnt (nn 5 (o20 [] true r8 :: .no :: .asM (s1.set (c19e1 p0 k1).group (minI r8 16777216)).has (fun j => vi ((s1.set (c19e1 p0 k1).group (minI r8 16777216)).get j)) :: [])) [7] [] [1056] [(1064, ob0 (mapOf vi (vi 0) (s1.set (c19e1 p0 k1).group (minI r8 16777216))))] (an (least_protectSpec (c19e1 p0 k1) r8 hr8) (an (mset_has s1 (c19e1 p0 k1).group (minI r8 16777216)) (an (mset_get vi s1 (c19e1 p0 k1).group (minI r8 16777216)) tv))) ?_
  refine DW.done ?_
  show DW _ _ _ _ _
  refine RD hnt (nn 2 []) [] [(11, pI (w64 (((k1 : Nat) : Int) + 1)))] [] [] tv ?_
  exact jD (s1.set (c19e1 p0 k1).group (minI r8 16777216)) ⟨hlt1, hm⟩ (Conv.tp [(11, pI (w64 (((k1 : Nat) : Int) + 1)))] [] (by kernel_rfl) (.cons rfl (.of_eq (congrArg pI (w64_succ hlt1 hc1))) .nil) .nil)
 ·intro h7
  have hge1 : ¬ k1 < p0.length := by have := of_decide_eq_false h7; omega
  have hm := he1 hge1
  unfold settings_protectQleast_protectD1 at hm
  refine DW.exit ?_
  refine joinQ_exit ?_
  refine KQ_exit ?_
  refine blockQ_exit ?_
  show DW _ _ _ _ _
  refine Sq (RK hnt (nn 2 []) [(4, .mref 1064 0)] [(1064, ob0 (mapOf vi (vi 0) s1))] tv ?_)
  refine DW.cv [] [(4, .p (.mp (vi 0) s1.has (fun n => vi (s1.get n))))] [1064] [] (Conv.frz [1064]) ?_
  obtain rfl := sj hm
  exact DW.ret (retK [] [] (.p (.mp (vi 0) s1.has (fun n => vi (s1.get n)))))
abbrev o19 (ks : List Nat) (b : Bool) (RES : IMap Int) : Orc := .call 38 ks b (.p (.mp (vi 0) RES.has (fun n => vi (RES.get n)))) [] []

abbrev c23e1 (p0 : Tree) (k1 : Nat) := (p0.nodes.getD k1 (default : Node))
abbrev c23e2 (p0 : Tree) : Nat × MV := (10, pI ((p0.nodes.length : Nat) : Int))
theorem Children_forestSpec (p0 : Tree) (p1 : Int) (RES : List Int) (hm : Children_forest p0 p1 = some RES) : Spec Try.prog 59 [.p (.agg (encTree p0)), pI p1] [] (ow 0 RES.length) [] [roI RES] := by
 unfold Children_forest at hm
 refine SO Try.func59 rfl rfl [(0, .p (.agg (encTree p0))), (1, pI p1)] [] ?_
 intro cx hnt
 refine Sq (RK hnt (nn 2 []) [(1, pI p1), (2, rr 1016)] [(1016, bx (pm (encTree p0)))] tv ?_)
 refine Sq (RD hnt (.no :: []) [] [(5, .p (.sl .nil 0 0 (fun _ => [])))] [] [] tv ?_)
 refine Sq (Sq (RD hnt (nn 4 []) [2] [(9, .p (slNode p0.nodes)), (c23e2 p0), (11, pI 0)] [1016] [] tv ?_))
 refine Bk ?_
 obtain ⟨hc1, hm⟩ := go1 hm
 refine DW.rangeO (fun (k1 : Nat) (s1 : List Int) => mkSt [(1, pI p1), (5, ow 1184 s1.length), (9, .p (slNode p0.nodes)), (c23e2 p0), (11, pI ((k1 : Nat) : Int))] [(1184, ob0 (roI s1))]) dNode hm (Conv.ads [(.s 5, 1184, 1, elems encI 0 [])]) ?_
 intro k1 s1 n1 hk1 hs1 he1
 refine Sq (RD hnt (.no :: []) [] [(12, pB (decide (((k1 : Nat) : Int) < ((p0.nodes.length : Nat) : Int))))] [] [] tv ?_)
 refine Sq (condK (decide (((k1 : Nat) : Int) < ((p0.nodes.length : Nat) : Int))) ?_ ?_)
 ·intro h8
  have hlt1 : k1 < p0.nodes.length := by have := of_decide_eq_true h8; omega
  have hm := hs1 hlt1
  unfold Children_forestL1 at hm
  refine Sk ?_
  refine Sq ?_
  refine Jn (ι := List Int) (fun (y3 : List Int) => mkSt [(1, pI p1), (5, ow 1184 y3.length), (9, .p (slNode p0.nodes)), (c23e2 p0), (11, pI ((k1 : Nat) : Int))] [(1184, ob0 (roI y3))]) (fun y3 => (Children_forestJ3 n1) y3 = some RES) ?_ ?_
  ·intro y3 hm
   unfold Children_forestJ3 at hm
   refine RD hnt (nn 2 []) [] [(11, pI (w64 (((k1 : Nat) : Int) + 1)))] [] [] tv ?_
   exact jD y3 ⟨hlt1, hm⟩ (Conv.tp [(11, pI (w64 (((k1 : Nat) : Int) + 1)))] [] (by kernel_rfl) (.cons rfl (.of_eq (congrArg pI (w64_succ hlt1 hc1))) .nil) .nil)
  ·refine Bk ?_
   refine Sq (RD hnt (nn 4 []) [12] [(7, rr 1056)] [] [(1056, bx (pm (encNode (c23e1 p0 k1))))] (an (nn0 k1) (an (ltc hlt1) tv)) ?_)
   refine Sq (RD hnt (nn 4 []) [] [(18, pB ((c23e1 p0 k1).parent == p1))] [] [] tv ?_)
   refine condM hm ?_ ?_
   ·intro h9 hm
    obtain ⟨g10, hm⟩ := go1 hm
    refine RN hnt (nn 6 []) [(1, pI p1), (5, ow 1184 (s1 ++ [(c23e1 p0 k1).id]).length), (9, .p (slNode p0.nodes)), (c23e2 p0), (11, pI ((k1 : Nat) : Int))] [(1184, ob0 (roI (s1 ++ [(c23e1 p0 k1).id])))] [(5, ow 1184 (s1.length + 1))] [(1184, .row 1 (s1.length + 1) (catF s1.length (elI s1) (cut 1 [vi (c23e1 p0 k1).id])))] (an (by omega : (s1.length + 1) * 8 ≤ 140737488355328) tv) (by kernel_rfl) (.cons rfl (MLe.ownLen (enc := encI) (d := 0) (f := (catF s1.length (elI s1) (cut 1 [vi (c23e1 p0 k1).id]))) (RowIs.cat RowIs.elems (RowIs.lit (enc := encI) (d := 0) (n := 1) (f := (cut 1 [vi (c23e1 p0 k1).id])) [(c23e1 p0 k1).id] rfl (fun | 0, _ => rfl | n + 1, h => absurd h (by omega))))) .nil) (.cons rfl (BLe.typed (RowIs.cat RowIs.elems (RowIs.lit (enc := encI) (d := 0) (n := 1) (f := (cut 1 [vi (c23e1 p0 k1).id])) [(c23e1 p0 k1).id] rfl (fun | 0, _ => rfl | n + 1, h => absurd h (by omega))))) .nil) ?_
    exact bD (s1 ++ [(c23e1 p0 k1).id]) hm .refl
   ·intro h9 hm
    refine Sk ?_
    exact bD s1 hm Conv.t0
 ·intro h8
  have hge1 : ¬ k1 < p0.nodes.length := by have := of_decide_eq_false h8; omega
  have hm := he1 hge1
  unfold Children_forestD1 at hm
  refine DW.exit ?_
  refine joinQ_exit ?_
  refine KQ_exit ?_
  refine blockQ_exit ?_
  show DW _ _ _ _ _
  refine Sq (RK hnt (nn 2 []) [(4, ow 1184 s1.length)] [(1184, ob0 (roI s1))] tv ?_)
  obtain rfl := sj hm
  exact DW.ret (retK [roI s1] [1184] (ow 0 s1.length))
abbrev o23 (ks : List Nat) (b : Bool) (RES : List Int) : Orc := .call 59 ks b (ow 0 RES.length) [] [roI RES]

abbrev c22e1 (p0 : Tree) : Nat × Obj := (1016, bx (pm (encTree p0)))
abbrev c22e2 : Nat × MV := (5, .p (.sl .nil 0 0 (fun _ => [])))
theorem Subtree_forestSpec (p0 : Tree) (p1 : Int) (RES : List Int) (hm : Subtree_forest p0 p1 = some RES) : Spec Try.prog 41 [.p (.agg (encTree p0)), pI p1] [] (ow 0 RES.length) [] [roI RES] := by
 unfold Subtree_forest at hm
 refine SO Try.func41 rfl rfl [(0, .p (.agg (encTree p0))), (1, pI p1)] [] ?_
 intro cx hnt
 refine Sq (RK hnt (nn 2 []) [(1, pI p1), (2, rr 1016)] [(c22e1 p0)] tv ?_)
 obtain ⟨r1, hr1, hm⟩ := bo hm
 refine Sq (Sq (RD hnt (nn 2 (o13 [] true r1 :: .no :: [])) [] [(10, pB (decide (r1 < 0)))] [] [] (an (At_forestSpec p0 p1 r1 hr1) tv) ?_))
 refine condM hm ?_ ?_
 ·intro h2 hm
  refine Sq (RK hnt (.no :: []) [(4, .p (.sl .nil 0 0 (fun _ => [])))] [] tv ?_)
  refine DW.cv [] [(4, ow 100000 0)] [] [(100000, ob0 (roI []))] (Conv.ads [(.s 4, 100000, 1, elems encI 0 [])]) ?_
  obtain rfl := sj hm
  exact DW.ret (retK [roI []] [100000] (ow 0 0))
 ·intro h2 hm
  refine Sk ?_
  refine Sq (RD hnt (.no :: []) [10] [(c22e2)] [] [] tv ?_)
  refine Sq (Sq (RN hnt (nn 3 []) [(2, rr 1016), (c22e2), (6, ow 1096 [p1].length)] [(c22e1 p0), (1096, ob0 (roI [p1]))] [(6, ow 1096 1)] [(1096, .row 1 1 (cut 1 [vi p1]))] tv (by kernel_rfl) (.cons rfl (MLe.ownLen (enc := encI) (d := 0) (f := (cut 1 [vi p1])) (RowIs.lit (enc := encI) (d := 0) (n := 1) (f := (cut 1 [vi p1])) [p1] rfl (fun | 0, _ => rfl | n + 1, h => absurd h (by omega)))) .nil) (.cons rfl (BLe.typed (RowIs.lit (enc := encI) (d := 0) (n := 1) (f := (cut 1 [vi p1])) [p1] rfl (fun | 0, _ => rfl | n + 1, h => absurd h (by omega)))) .nil) ?_))
  refine Bk ?_
  refine DW.whileO (fun (s1 : (List Int) × (List Int)) => mkSt [(2, rr 1016), (5, ow 1232 s1.1.length), (6, .p (slI s1.2))] [(c22e1 p0), (1232, ob0 (roI s1.1))]) hm (Conv.trans (τ := mkSt [(2, rr 1016), (c22e2), (6, .p (slI [p1]))] [(c22e1 p0)]) (Conv.frz [1096]) (Conv.ads [(.s 5, 1232, 1, elems encI 0 [])])) ?_
  intro s1 n1 hm
  unfold Subtree_forestL1 at hm
  refine Sq (Sq (DW.regJ (sl2 := [(2, rr 1016), (5, ow 1232 s1.1.length), (6, .p (slI s1.2)), (23, pB ((decide (((s1.2.length : Nat) : Int) > 0)) && (decide (((s1.1.length : Nat) : Int) < ((p0.nodes.length : Nat) : Int)))))]) (ob2 := [(c22e1 p0), (1232, ob0 (roI s1.1))]) ?_ ?_))
  ·rcases bt (decide (((s1.2.length : Nat) : Int) > 0)) with h12 | h12
   ·exact RT hnt (nn 10 (pT :: [])) [(23, pB (decide (((s1.1.length : Nat) : Int) < ((p0.nodes.length : Nat) : Int))))] (an h12 (an6 h12 tv)) (by kernel_rfl) (.cons rfl (.of_eq (by rw [h12]; try rfl)) .nil)
   ·exact RT hnt (nn 4 (sk 6 (pF :: []))) [(23, pB false)] (an h12 (an6 h12 tv)) (by kernel_rfl) (.cons rfl (.of_eq (by rw [h12]; try rfl)) .nil)
  ·refine condM hm ?_ ?_
   ·intro h13 hm
    refine Sk ?_
    refine Bk ?_
    obtain ⟨g14, g15, hm⟩ := go2 hm
    refine Sq (RN hnt (nn 7 []) [(2, rr 1016), (5, ow 1232 (s1.1 ++ [(s1.2.getD 0 0)]).length), (6, .p (slI s1.2))] [(c22e1 p0), (1232, ob0 (roI (s1.1 ++ [(s1.2.getD 0 0)])))] [(5, ow 1232 (s1.1.length + 1))] [(1232, .row 1 (s1.1.length + 1) (catF s1.1.length (elI s1.1) (cut 1 [vi (s1.2.getD 0 0)])))] (an (nn0 0) (an (ltc g14) (an (by omega : (s1.1.length + 1) * 8 ≤ 140737488355328) tv))) (by kernel_rfl) (.cons rfl (MLe.ownLen (enc := encI) (d := 0) (f := (catF s1.1.length (elI s1.1) (cut 1 [vi (s1.2.getD 0 0)]))) (RowIs.cat RowIs.elems (RowIs.lit (enc := encI) (d := 0) (n := 1) (f := (cut 1 [vi (s1.2.getD 0 0)])) [(s1.2.getD 0 0)] rfl (fun | 0, _ => rfl | n + 1, h => absurd h (by omega))))) .nil) (.cons rfl (BLe.typed (RowIs.cat RowIs.elems (RowIs.lit (enc := encI) (d := 0) (n := 1) (f := (cut 1 [vi (s1.2.getD 0 0)])) [(s1.2.getD 0 0)] rfl (fun | 0, _ => rfl | n + 1, h => absurd h (by omega))))) .nil) ?_)
    obtain ⟨g16, hm⟩ := go1 hm
    obtain ⟨r17, hr17, hm⟩ := bo hm
    obtain ⟨g18, g19, hm⟩ := go2 hm
    refine RN hnt (nn 4 (o23 [] true r17 :: nn 4 [])) [(2, rr 1016), (5, ow 1232 (s1.1 ++ [(s1.2.getD 0 0)]).length), (6, ow 1272 (r17 ++ (s1.2.drop 1)).length)] [(c22e1 p0), (1232, ob0 (roI (s1.1 ++ [(s1.2.getD 0 0)]))), (1272, ob0 (roI (r17 ++ (s1.2.drop 1))))] [(6, ow 1272 (r17.length + (subN s1.2.length 1)))] [(1272, .row 1 (r17.length + (subN s1.2.length 1)) (catF r17.length (elI r17) (shF 1 (elI s1.2))))] (an (nn0 0) (an (ltc g16) (an (Children_forestSpec p0 (s1.2.getD 0 0) r17 hr17) (an (by omega : (0 : Int) ≤ 1) (an (by omega : 1 ≤ ((s1.2.length : Nat) : Int)) (an (by omega : ((s1.2.length : Nat) : Int) ≤ ((s1.2.length : Nat) : Int)) (an (by omega : (r17.length + (subN s1.2.length 1)) * 8 ≤ 140737488355328) tv))))))) (by kernel_rfl) (.cons rfl (MLe.ownLen (enc := encI) (d := 0) (f := (catF r17.length (elI r17) (shF 1 (elI s1.2)))) (RowIs.cat RowIs.elems (RowIs.elems.drop (subN_eq _ _) (by omega)))) .nil) (.cons rfl (BLe.typed (RowIs.cat RowIs.elems (RowIs.elems.drop (subN_eq _ _) (by omega)))) .nil) ?_
    refine DW.done ?_
    show DW _ _ _ _ _
    exact jD ((s1.1 ++ [(s1.2.getD 0 0)]), (r17 ++ (s1.2.drop 1))) hm (Conv.frz [1272])
   ·intro h13 hm
    refine DW.exit ?_
    refine joinQ_exit ?_
    refine KQ_exit ?_
    refine blockQ_exit ?_
    show DW _ _ _ _ _
    refine Sq (RK hnt (nn 2 []) [(4, ow 1232 s1.1.length)] [(1232, ob0 (roI s1.1))] tv ?_)
    obtain rfl := sj hm
    exact DW.ret (retK [roI s1.1] [1232] (ow 0 s1.1.length))
abbrev o22 (ks : List Nat) (b : Bool) (RES : List Int) : Orc := .call 41 ks b (ow 0 RES.length) [] [roI RES]

abbrev c21e1 (s13 : IMap Int) (r89 : List Int) (k13 : Nat) (p1 : IMap Int) (p2 : IMap Int) := (s13.set (r89.getD k13 0) (minI (p1.get (r89.getD k13 0)) (p2.get (r89.getD k13 0))))
abbrev c21e2 (s13 : IMap Int) (r89 : List Int) (k13 : Nat) (p1 : IMap Int) (p2 : IMap Int) (r1 : List Int) (k1 : Nat) (s10 : Int) := (w64 (Int.tdiv (w64 (((c21e1 s13 r89 k13 p1 p2).get (r89.getD k13 0)) * ((c21e1 s13 r89 k13 p1 p2).get (r1.getD k1 0)))) s10))
abbrev c21e3 (p1 : IMap Int) : Nat × MV := (1, .p (.mp (vi 0) p1.has (fun n => vi (p1.get n))))
abbrev c21e4 (p2 : IMap Int) : Nat × MV := (2, .p (.mp (vi 0) p2.has (fun n => vi (p2.get n))))
abbrev c21e5 (r1 : List Int) : Nat × MV := (22, pI ((r1.length : Nat) : Int))
abbrev c21e6 (p0 : Tree) : Nat × Obj := (1032, bx (pm (encTree p0)))
theorem effective_protectSpec (p0 : Tree) (p1 : IMap Int) (p2 : IMap Int) (p3 : Int) (RES : IMap Int) (hm : effective_protect p0 p1 p2 p3 = some RES) : Spec Try.prog 37 [.p (.agg (encTree p0)), .p (.mp (vi 0) p1.has (fun n => vi (p1.get n))), .p (.mp (vi 0) p2.has (fun n => vi (p2.get n))), pI p3] [] (.p (.mp (vi 0) RES.has (fun n => vi (RES.get n)))) [] [] := by
 unfold effective_protect at hm
 refine SO Try.func37 rfl rfl [(0, .p (.agg (encTree p0))), (c21e3 p1), (c21e4 p2), (3, pI p3)] [] ?_
 intro cx hnt
 refine Sq (RD hnt (nn 2 []) [0] [(4, rr 1032)] [] [(c21e6 p0)] tv ?_)
 refine Sq (RD hnt (nn 2 []) [] [(9, .mref 1144 0)] [] [(1144, ob0 (mapOf vi (vi 0) (IMap.empty 0)))] tv ?_)
 obtain ⟨r1, hr1, hm⟩ := bo hm
 refine Sq (Sq (RD hnt (nn 2 (o22 [] true r1 :: nn 2 [])) [] [(21, ow 1168 r1.length), (c21e5 r1), (23, pI 0)] [] [(1168, ob0 (roI r1))] (an (Subtree_forestSpec p0 p3 r1 hr1) tv) ?_))
 refine Bk ?_
 obtain ⟨hc1, hm⟩ := go1 hm
 refine DW.rangeO (fun (k1 : Nat) (s1 : IMap Int) => mkSt [(c21e3 p1), (c21e4 p2), (3, pI p3), (4, rr 1032), (9, .mref 1144 0), (21, ow 1168 r1.length), (c21e5 r1), (23, pI ((k1 : Nat) : Int))] [(c21e6 p0), (1144, ob0 (mapOf vi (vi 0) s1)), (1168, ob0 (roI r1))]) 0 hm Conv.eqK ?_
 intro k1 s1 n1 hk1 hs1 he1
 refine Sq (RD hnt (.no :: []) [] [(24, pB (decide (((k1 : Nat) : Int) < ((r1.length : Nat) : Int))))] [] [] tv ?_)
 refine Sq (condK (decide (((k1 : Nat) : Int) < ((r1.length : Nat) : Int))) ?_ ?_)
 ·intro h88
  have hlt1 : k1 < r1.length := by have := of_decide_eq_true h88; omega
  have hm := hs1 hlt1
  unfold effective_protectL1 at hm
  refine Sk ?_
  refine Sq (Bk ?_)
  refine Sq (RD hnt (nn 3 []) [24] [(11, pI (r1.getD k1 0))] [] [] (an (nn0 k1) (an (ltc hlt1) (an (by omega : k1 < r1.length) tv))) ?_)
  obtain ⟨r89, hr89, hm⟩ := bo hm
  refine Sq (RD hnt (nn 2 (o23 [] true r89 :: .no :: [])) [] [(12, ow 1232 r89.length)] [] [(1232, ob0 (roI r89))] (an (Children_forestSpec p0 (r1.getD k1 0) r89 hr89) tv) ?_)
  refine Sq (RD hnt (.no :: []) [] [(13, pI 0)] [] [] tv ?_)
  refine Sq (Sq (RD hnt (nn 3 []) [] [(30, ow 1232 r89.length), (31, pI ((r89.length : Nat) : Int)), (32, pI 0)] [] [] tv ?_))
  refine Bk ?_
  obtain ⟨hc10, hm⟩ := go1 hm
  refine DW.rangeO (fun (k10 : Nat) (s10 : Int) => mkSt [(c21e3 p1), (c21e4 p2), (3, pI p3), (4, rr 1032), (9, .mref 1144 0), (11, pI (r1.getD k1 0)), (12, ow 1232 r89.length), (13, pI s10), (21, ow 1168 r1.length), (c21e5 r1), (23, pI ((k1 : Nat) : Int)), (30, ow 1232 r89.length), (31, pI ((r89.length : Nat) : Int)), (32, pI ((k10 : Nat) : Int))] [(c21e6 p0), (1144, ob0 (mapOf vi (vi 0) s1)), (1168, ob0 (roI r1)), (1232, ob0 (roI r89))]) 0 hm Conv.eqK ?_
  intro k10 s10 n10 hk10 hs10 he10
  refine Sq (RD hnt (.no :: []) [] [(33, pB (decide (((k10 : Nat) : Int) < ((r89.length : Nat) : Int))))] [] [] tv ?_)
  refine Sq (condK (decide (((k10 : Nat) : Int) < ((r89.length : Nat) : Int))) ?_ ?_)
  ·intro h112
   have hlt10 : k10 < r89.length := by have := of_decide_eq_true h112; omega
   have hm := hs10 hlt10
   unfold effective_protectL10 at hm
   refine Sk ?_
   refine Sq (Bk ?_)
   refine Sq (RD hnt (nn 3 []) [33] [(15, pI (r89.getD k10 0))] [] [] (an (nn0 k10) (an (ltc hlt10) (an (by omega : k10 < r89.length) tv))) ?_)
   refine RD hnt (nn 10 []) [15] [(13, pI (w64 (s10 + (minI (p1.get (r89.getD k10 0)) (p2.get (r89.getD k10 0))))))] [] [] (an (rfl : vi 0 = vi 0) (an (rfl : vi 0 = vi 0) tv)) ?_
   refine DW.done ?_
   show DW _ _ _ _ _
   refine RD hnt (nn 2 []) [] [(32, pI (w64 (((k10 : Nat) : Int) + 1)))] [] [] tv ?_
   exact jD (w64 (s10 + (minI (p1.get (r89.getD k10 0)) (p2.get (r89.getD k10 0))))) ⟨hlt10, hm⟩ (Conv.tp [(32, pI (w64 (((k10 : Nat) : Int) + 1)))] [] (by kernel_rfl) (.cons rfl (.of_eq (congrArg pI (w64_succ hlt10 hc10))) .nil) .nil)
  ·intro h112
   have hge10 : ¬ k10 < r89.length := by have := of_decide_eq_false h112; omega
   have hm := he10 hge10
   unfold effective_protectD10 at hm
   refine DW.exit ?_
   refine joinQ_exit ?_
   refine KQ_exit ?_
   refine blockQ_exit ?_
   show DW _ _ _ _ _
   refine Sq (RD hnt (nn 3 []) [12, 30, 31, 32, 33] [(46, ow 1232 r89.length), (47, pI ((r89.length : Nat) : Int)), (48, pI 0)] [] [] tv ?_)
   refine Bk ?_
   obtain ⟨hc13, hm⟩ := go1 hm
   refine DW.rangeO (fun (k13 : Nat) (s13 : IMap Int) => mkSt [(c21e3 p1), (c21e4 p2), (3, pI p3), (4, rr 1032), (9, .mref 1144 0), (11, pI (r1.getD k1 0)), (13, pI s10), (21, ow 1168 r1.length), (c21e5 r1), (23, pI ((k1 : Nat) : Int)), (46, ow 1232 r89.length), (47, pI ((r89.length : Nat) : Int)), (48, pI ((k13 : Nat) : Int))] [(c21e6 p0), (1144, ob0 (mapOf vi (vi 0) s13)), (1168, ob0 (roI r1)), (1232, ob0 (roI r89))]) 0 hm Conv.eqK ?_
   intro k13 s13 n13 hk13 hs13 he13
   refine Sq (RD hnt (.no :: []) [] [(49, pB (decide (((k13 : Nat) : Int) < ((r89.length : Nat) : Int))))] [] [] tv ?_)
   refine Sq (condK (decide (((k13 : Nat) : Int) < ((r89.length : Nat) : Int))) ?_ ?_)
   ·intro h125
    have hlt13 : k13 < r89.length := by have := of_decide_eq_true h125; omega
    have hm := hs13 hlt13
    unfold effective_protectL13 at hm
    refine Sk ?_
    refine Sq ?_
    refine Jn (ι := IMap Int) (fun (y18 : IMap Int) => mkSt [(c21e3 p1), (c21e4 p2), (3, pI p3), (4, rr 1032), (9, .mref 1144 0), (11, pI (r1.getD k1 0)), (13, pI s10), (21, ow 1168 r1.length), (c21e5 r1), (23, pI ((k1 : Nat) : Int)), (46, ow 1232 r89.length), (47, pI ((r89.length : Nat) : Int)), (48, pI ((k13 : Nat) : Int))] [(c21e6 p0), (1144, ob0 (mapOf vi (vi 0) y18)), (1168, ob0 (roI r1)), (1232, ob0 (roI r89))]) (fun y18 => (effective_protectJ18 n13) y18 = some RES) ?_ ?_
    ·intro y18 hm
     unfold effective_protectJ18 at hm
     refine RD hnt (nn 2 []) [] [(48, pI (w64 (((k13 : Nat) : Int) + 1)))] [] [] tv ?_
     exact jD y18 ⟨hlt13, hm⟩ (Conv.tp [(48, pI (w64 (((k13 : Nat) : Int) + 1)))] [] (by kernel_rfl) (.cons rfl (.of_eq (congrArg pI (w64_succ hlt13 hc13))) .nil) .nil)
    ·refine Bk ?_
     refine Sq (RD hnt (nn 3 []) [49] [(17, pI (r89.getD k13 0))] [] [] (an (nn0 k13) (an (ltc hlt13) (an (by omega : k13 < r89.length) tv))) ?_)
     refine Sq (RD hnt (nn 9 (.asM (c21e1 s13 r89 k13 p1 p2).has (fun j => vi ((c21e1 s13 r89 k13 p1 p2).get j)) :: [])) [] [] [] [(1144, ob0 (mapOf vi (vi 0) (c21e1 s13 r89 k13 p1 p2)))] (an (rfl : vi 0 = vi 0) (an (rfl : vi 0 = vi 0) (an (mset_has s13 (r89.getD k13 0) (minI (p1.get (r89.getD k13 0)) (p2.get (r89.getD k13 0)))) (an (mset_get vi s13 (r89.getD k13 0) (minI (p1.get (r89.getD k13 0)) (p2.get (r89.getD k13 0)))) tv)))) ?_)
     refine Sq (DW.regJ (sl2 := [(c21e3 p1), (c21e4 p2), (3, pI p3), (4, rr 1032), (9, .mref 1144 0), (11, pI (r1.getD k1 0)), (13, pI s10), (17, pI (r89.getD k13 0)), (21, ow 1168 r1.length), (c21e5 r1), (23, pI ((k1 : Nat) : Int)), (46, ow 1232 r89.length), (47, pI ((r89.length : Nat) : Int)), (48, pI ((k13 : Nat) : Int)), (70, pB (((r1.getD k1 0) != p3) && (decide (s10 > ((c21e1 s13 r89 k13 p1 p2).get (r1.getD k1 0))))))]) (ob2 := [(c21e6 p0), (1144, ob0 (mapOf vi (vi 0) (c21e1 s13 r89 k13 p1 p2))), (1168, ob0 (roI r1)), (1232, ob0 (roI r89))]) ?_ ?_)
     ·rcases bt ((r1.getD k1 0) != p3) with h126 | h126
      ·exact RT hnt (nn 9 (pT :: [])) [(70, pB (decide (s10 > ((c21e1 s13 r89 k13 p1 p2).get (r1.getD k1 0)))))] (an4 h126 (an (rfl : vi 0 = vi 0) (an2 h126 tv))) (by kernel_rfl) (.cons rfl (.of_eq (by rw [h126]; try rfl)) .nil)
      ·exact RT hnt (nn 4 (sk 5 (pF :: []))) [(70, pB false)] (an6 h126 tv) (by kernel_rfl) (.cons rfl (.of_eq (by rw [h126]; try rfl)) .nil)
     ·refine condM hm ?_ ?_
      ·intro h127 hm
       obtain ⟨g128, hm⟩ := go1 hm
       refine RD hnt (nn 11 (.asM ((c21e1 s13 r89 k13 p1 p2).set (r89.getD k13 0) (c21e2 s13 r89 k13 p1 p2 r1 k1 s10)).has (fun j => vi (((c21e1 s13 r89 k13 p1 p2).set (r89.getD k13 0) (c21e2 s13 r89 k13 p1 p2 r1 k1 s10)).get j)) :: [])) [17, 70] [] [] [(1144, ob0 (mapOf vi (vi 0) ((c21e1 s13 r89 k13 p1 p2).set (r89.getD k13 0) (c21e2 s13 r89 k13 p1 p2 r1 k1 s10))))] (an (rfl : vi 0 = vi 0) (an (rfl : vi 0 = vi 0) (an g128 (an (mset_has (c21e1 s13 r89 k13 p1 p2) (r89.getD k13 0) (c21e2 s13 r89 k13 p1 p2 r1 k1 s10)) (an (mset_get vi (c21e1 s13 r89 k13 p1 p2) (r89.getD k13 0) (c21e2 s13 r89 k13 p1 p2 r1 k1 s10)) tv))))) ?_
       exact bD ((c21e1 s13 r89 k13 p1 p2).set (r89.getD k13 0) (c21e2 s13 r89 k13 p1 p2 r1 k1 s10)) hm Conv.eqK
      ·intro h127 hm
       refine Sk ?_
       exact bD (c21e1 s13 r89 k13 p1 p2) hm Conv.t0
   ·intro h125
    have hge13 : ¬ k13 < r89.length := by have := of_decide_eq_false h125; omega
    have hm := he13 hge13
    unfold effective_protectD13 at hm
    refine DW.exit ?_
    refine joinQ_exit ?_
    refine KQ_exit ?_
    refine blockQ_exit ?_
    show DW _ _ _ _ _
    refine DW.done ?_
    show DW _ _ _ _ _
    refine RD hnt (nn 2 []) [11, 13, 46, 47, 48, 49] [(23, pI (w64 (((k1 : Nat) : Int) + 1)))] [1232] [] tv ?_
    exact jD s13 ⟨hlt1, hm⟩ (Conv.tp [(23, pI (w64 (((k1 : Nat) : Int) + 1)))] [] (by kernel_rfl) (.cons rfl (.of_eq (congrArg pI (w64_succ hlt1 hc1))) .nil) .nil)
 ·intro h88
  have hge1 : ¬ k1 < r1.length := by have := of_decide_eq_false h88; omega
  have hm := he1 hge1
  unfold effective_protectD1 at hm
  refine DW.exit ?_
  refine joinQ_exit ?_
  refine KQ_exit ?_
  refine blockQ_exit ?_
  show DW _ _ _ _ _
  refine Sq (RK hnt (nn 2 []) [(8, .mref 1144 0)] [(1144, ob0 (mapOf vi (vi 0) s1))] tv ?_)
  refine DW.cv [] [(8, .p (.mp (vi 0) s1.has (fun n => vi (s1.get n))))] [1144] [] (Conv.frz [1144]) ?_
  obtain rfl := sj hm
  exact DW.ret (retK [] [] (.p (.mp (vi 0) s1.has (fun n => vi (s1.get n)))))
abbrev o21 (ks : List Nat) (b : Bool) (RES : IMap Int) : Orc := .call 37 ks b (.p (.mp (vi 0) RES.has (fun n => vi (RES.get n)))) [] []

theorem low_protectSpec (p0 : Protection) (RES : Int) (hm : low_protect p0 = some RES) : Spec Try.prog 40 [.p (.agg (encProtection p0))] [] (pI RES) [] [] := by
 unfold low_protect at hm
 refine SO Try.func40 rfl rfl [(0, .p (.agg (encProtection p0)))] [] ?_
 intro cx hnt
 refine Sq (RK hnt (nn 2 []) [(1, rr 1008)] [(1008, bx (pm (encProtection p0)))] tv ?_)
 refine Sq (RK hnt (nn 3 []) [(2, pI p0.low)] [] tv ?_)
 obtain rfl := sj hm
 exact DW.ret (retK [] [] (pI p0.low))
abbrev o25 (ks : List Nat) (b : Bool) (RES : Int) : Orc := .call 40 ks b (pI RES) [] []

abbrev c24e1 (p0 : List Protection) (k1 : Nat) := (p0.getD k1 (default : Protection))
theorem settings_protectQlow_protectSpec (p0 : List Protection) (RES : IMap Int) (hm : settings_protectQlow_protect p0 = some RES) : Spec Try.prog 38 [.p (slProtection p0), .p (.fn 40 [])] [] (.p (.mp (vi 0) RES.has (fun n => vi (RES.get n)))) [] [] := by
 unfold settings_protectQlow_protect at hm
 refine SO Try.func38 rfl rfl [(0, .p (slProtection p0)), (1, .p (.fn 40 []))] [] ?_
 intro cx hnt
 refine Sq (RD hnt (.no :: []) [] [] [] [] tv ?_)
 refine Sq (RD hnt (nn 2 []) [] [(5, .mref 1064 0)] [] [(1064, ob0 (mapOf vi (vi 0) (IMap.empty 0)))] tv ?_)
 refine Sq (Sq (RD hnt (nn 3 []) [0] [(9, .p (slProtection p0)), (10, pI ((p0.length : Nat) : Int)), (11, pI 0)] [] [] tv ?_))
 refine Bk ?_
 obtain ⟨hc1, hm⟩ := go1 hm
 refine DW.rangeO (fun (k1 : Nat) (s1 : IMap Int) => mkSt [(1, .p (.fn 40 [])), (5, .mref 1064 0), (9, .p (slProtection p0)), (10, pI ((p0.length : Nat) : Int)), (11, pI ((k1 : Nat) : Int))] [(1064, ob0 (mapOf vi (vi 0) s1))]) dProtection hm Conv.eqK ?_
 intro k1 s1 n1 hk1 hs1 he1
 refine Sq (RD hnt (.no :: []) [] [(12, pB (decide (((k1 : Nat) : Int) < ((p0.length : Nat) : Int))))] [] [] tv ?_)
 refine Sq (condK (decide (((k1 : Nat) : Int) < ((p0.length : Nat) : Int))) ?_ ?_)
 ·intro h7
  have hlt1 : k1 < p0.length := by have := of_decide_eq_true h7; omega
  have hm := hs1 hlt1
  unfold settings_protectQlow_protectL1 at hm
  refine Sk ?_
  refine Sq (Bk ?_)
  refine Sq (RD hnt (nn 4 []) [12] [(7, rr 1056)] [] [(1056, bx (pm (encProtection (c24e1 p0 k1))))] (an (nn0 k1) (an (ltc hlt1) tv)) ?_)
  obtain ⟨r8, hr8, hm⟩ := bo hm
  refine RD hnt (nn 5 (o25 [] true r8 :: .no :: .asM (s1.set (c24e1 p0 k1).group (minI r8 16777216)).has (fun j => vi ((s1.set (c24e1 p0 k1).group (minI r8 16777216)).get j)) :: [])) [7] [] [1056] [(1064, ob0 (mapOf vi (vi 0) (s1.set (c24e1 p0 k1).group (minI r8 16777216))))] (an (low_protectSpec (c24e1 p0 k1) r8 hr8) (an (mset_has s1 (c24e1 p0 k1).group (minI r8 16777216)) (an (mset_get vi s1 (c24e1 p0 k1).group (minI r8 16777216)) tv))) ?_
  refine DW.done ?_
  show DW _ _ _ _ _
  refine RD hnt (nn 2 []) [] [(11, pI (w64 (((k1 : Nat) : Int) + 1)))] [] [] tv ?_
  exact jD (s1.set (c24e1 p0 k1).group (minI r8 16777216)) ⟨hlt1, hm⟩ (Conv.tp [(11, pI (w64 (((k1 : Nat) : Int) + 1)))] [] (by kernel_rfl) (.cons rfl (.of_eq (congrArg pI (w64_succ hlt1 hc1))) .nil) .nil)
 ·intro h7
  have hge1 : ¬ k1 < p0.length := by have := of_decide_eq_false h7; omega
  have hm := he1 hge1
  unfold settings_protectQlow_protectD1 at hm
  refine DW.exit ?_
  refine joinQ_exit ?_
  refine KQ_exit ?_
  refine blockQ_exit ?_
  show DW _ _ _ _ _
  refine Sq (RK hnt (nn 2 []) [(4, .mref 1064 0)] [(1064, ob0 (mapOf vi (vi 0) s1))] tv ?_)
  refine DW.cv [] [(4, .p (.mp (vi 0) s1.has (fun n => vi (s1.get n))))] [1064] [] (Conv.frz [1064]) ?_
  obtain rfl := sj hm
  exact DW.ret (retK [] [] (.p (.mp (vi 0) s1.has (fun n => vi (s1.get n)))))
abbrev o24 (ks : List Nat) (b : Bool) (RES : IMap Int) : Orc := .call 38 ks b (.p (.mp (vi 0) RES.has (fun n => vi (RES.get n)))) [] []

abbrev c28e1 (y3 : Int × Int) := (w64 (y3.2 + (w64 (((byteAt (bs [0, 1, 2, 2, 3, 3, 3, 3, 4, 4, 4, 4, 4, 4, 4, 4, 5, 5, 5, 5, 5, 5, 5, 5, 5, 5, 5, 5, 5, 5, 5, 5, 6, 6, 6, 6, 6, 6, 6, 6, 6, 6, 6, 6, 6, 6, 6, 6, 6, 6, 6, 6, 6, 6, 6, 6, 6, 6, 6, 6, 6, 6, 6, 6, 7, 7, 7, 7, 7, 7, 7, 7, 7, 7, 7, 7, 7, 7, 7, 7, 7, 7, 7, 7, 7, 7, 7, 7, 7, 7, 7, 7, 7, 7, 7, 7, 7, 7, 7, 7, 7, 7, 7, 7, 7, 7, 7, 7, 7, 7, 7, 7, 7, 7, 7, 7, 7, 7, 7, 7, 7, 7, 7, 7, 7, 7, 7, 7, 8, 8, 8, 8, 8, 8, 8, 8, 8, 8, 8, 8, 8, 8, 8, 8, 8, 8, 8, 8, 8, 8, 8, 8, 8, 8, 8, 8, 8, 8, 8, 8, 8, 8, 8, 8, 8, 8, 8, 8, 8, 8, 8, 8, 8, 8, 8, 8, 8, 8, 8, 8, 8, 8, 8, 8, 8, 8, 8, 8, 8, 8, 8, 8, 8, 8, 8, 8, 8, 8, 8, 8, 8, 8, 8, 8, 8, 8, 8, 8, 8, 8, 8, 8, 8, 8, 8, 8, 8, 8, 8, 8, 8, 8, 8, 8, 8, 8, 8, 8, 8, 8, 8, 8, 8, 8, 8, 8, 8, 8, 8, 8, 8, 8, 8, 8, 8, 8, 8, 8, 8, 8, 8, 8, 8, 8, 8, 8]) (Int.toNat (IntKind.u8.wrap y3.1))) : Nat) : Int))))
theorem Len64_bitsSpec (p0 : Int) (RES : Int) (hm : Len64_bits p0 = some RES) : Spec Try.prog 83 [.p (vk .u64 p0)] [] (pI RES) [] [] := by
 unfold Len64_bits at hm
 refine SO Try.func83 rfl rfl [(0, .p (vk .u64 p0))] [] ?_
 intro cx hnt
 refine Sq (RD hnt (.no :: []) [] [(2, pI 0)] [] [] tv ?_)
 refine Sq (Sq (RD hnt (nn 2 []) [] [(4, pB (decide (p0 ≥ 4294967296)))] [] [] tv ?_))
 refine Jn (ι := Int × Int) (fun (y1 : Int × Int) => mkSt [(0, .p (vk .u64 y1.1)), (2, pI y1.2)] []) (fun y1 => Len64_bitsJ1 y1 = some RES) ?_ ?_
 ·intro y1 hm
  unfold Len64_bitsJ1 at hm
  refine Sq (Sq (RD hnt (nn 2 []) [] [(8, pB (decide (y1.1 ≥ 65536)))] [] [] tv ?_))
  refine Jn (ι := Int × Int) (fun (y2 : Int × Int) => mkSt [(0, .p (vk .u64 y2.1)), (2, pI y2.2)] []) (fun y2 => Len64_bitsJ2 y2 = some RES) ?_ ?_
  ·intro y2 hm
   unfold Len64_bitsJ2 at hm
   refine Sq (Sq (RD hnt (nn 2 []) [] [(14, pB (decide (y2.1 ≥ 256)))] [] [] tv ?_))
   refine Jn (ι := Int × Int) (fun (y3 : Int × Int) => mkSt [(0, .p (vk .u64 y3.1)), (2, pI y3.2)] []) (fun y3 => Len64_bitsJ3 y3 = some RES) ?_ ?_
   ·intro y3 hm
    unfold Len64_bitsJ3 at hm
    obtain ⟨g4, hm⟩ := go1 hm
    refine Sq (RK hnt (nn 7 []) [(2, pI (c28e1 y3))] [] (an g4.1 (an g4.2 tv)) ?_)
    obtain rfl := sj hm
    exact DW.ret (retK [] [] (pI (c28e1 y3)))
   ·refine condM hm ?_ ?_
    ·intro h3 hm
     refine Sq (RK hnt (nn 3 []) [(0, .p (vk .u64 (kshr .u64 y2.1 8))), (2, pI y2.2)] [] (an (by decide : (0 : Int) ≤ 8) tv) ?_)
     refine RD hnt (nn 3 []) [] [(2, pI (w64 (y2.2 + 8)))] [] [] tv ?_
     exact jD ((kshr .u64 y2.1 8), (w64 (y2.2 + 8))) hm Conv.eqK
    ·intro h3 hm
     refine Sk ?_
     exact jD (y2.1, y2.2) hm Conv.t0
  ·refine condM hm ?_ ?_
   ·intro h2 hm
    refine Sq (RK hnt (nn 3 []) [(0, .p (vk .u64 (kshr .u64 y1.1 16))), (2, pI y1.2)] [] (an (by decide : (0 : Int) ≤ 16) tv) ?_)
    refine RD hnt (nn 3 []) [] [(2, pI (w64 (y1.2 + 16)))] [] [] tv ?_
    exact jD ((kshr .u64 y1.1 16), (w64 (y1.2 + 16))) hm Conv.eqK
   ·intro h2 hm
    refine Sk ?_
    exact jD (y1.1, y1.2) hm Conv.t0
 ·refine condM hm ?_ ?_
  ·intro h1 hm
   refine Sq (RK hnt (nn 3 []) [(0, .p (vk .u64 (kshr .u64 p0 32)))] [] (an (by decide : (0 : Int) ≤ 32) tv) ?_)
   refine RD hnt (.no :: []) [] [(2, pI 32)] [] [] tv ?_
   exact jD ((kshr .u64 p0 32), 32) hm Conv.eqK
  ·intro h1 hm
   refine Sk ?_
   exact jD (p0, 0) hm Conv.t0
abbrev o28 (ks : List Nat) (b : Bool) (RES : Int) : Orc := .call 83 ks b (pI RES) [] []

theorem Len_bitsSpec (p0 : Int) (RES : Int) (hm : Len_bits p0 = some RES) : Spec Try.prog 61 [.p (vk .u64 p0)] [] (pI RES) [] [] := by
 unfold Len_bits at hm
 refine SO Try.func61 rfl rfl [(0, .p (vk .u64 p0))] [] ?_
 intro cx hnt
 refine Sq (RD hnt (.no :: []) [] [] [] [] tv ?_)
 refine Sq (condF ff ?_)
 refine Sk ?_
 obtain ⟨r1, hr1, hm⟩ := bo hm
 refine Sq (RK hnt (.no :: o28 [] true r1 :: .no :: []) [(2, pI r1)] [] (an (Len64_bitsSpec p0 r1 hr1) tv) ?_)
 obtain rfl := sj hm
 exact DW.ret (retK [] [] (pI r1))
abbrev o27 (ks : List Nat) (b : Bool) (RES : Int) : Orc := .call 61 ks b (pI RES) [] []

theorem isNaN_cmp_intSpec (p0 : Int) (RES : Bool) (hm : isNaN_cmp_int p0 = some RES) : Spec Try.prog 92 [pI p0] [] (pB RES) [] [] := by
 unfold isNaN_cmp_int at hm
 refine SO Try.func92 rfl rfl [(0, pI p0)] [] ?_
 intro cx hnt
 refine Sq (RK hnt (.no :: []) [(0, pI p0)] [] tv ?_)
 refine Sq (RK hnt (nn 4 []) [(2, pB (p0 != p0))] [] tv ?_)
 obtain rfl := sj hm
 exact DW.ret (retK [] [] (pB (p0 != p0)))
abbrev o32 (ks : List Nat) (b : Bool) (RES : Bool) : Orc := .call 92 ks b (pB RES) [] []

theorem Less_cmp_intSpec (p0 : Int) (p1 : Int) (RES : Bool) (hm : Less_cmp_int p0 p1 = some RES) : Spec Try.prog 79 [pI p0, pI p1] [] (pB RES) [] [] := by
 unfold Less_cmp_int at hm
 refine SO Try.func79 rfl rfl [(0, pI p0), (1, pI p1)] [] ?_
 intro cx hnt
 refine Sq (RD hnt (.no :: []) [] [] [] [] tv ?_)
 obtain ⟨r1, hr1, hm⟩ := bo hm
 refine Sq ?_
 refine Jn (ι := Bool) (fun (y1 : Bool) => mkSt [(4, pB y1)] []) (fun y1 => Less_cmp_intJ1 y1 = some RES) ?_ ?_
 ·intro y1 hm
  unfold Less_cmp_intJ1 at hm
  obtain rfl := sj hm
  exact DW.ret (retK [] [] (pB y1))
 ·rcases bt r1 with h2 | h2
  ·replace hm := if_t h2 hm
   obtain ⟨r3, hr3, hm⟩ := bo hm
   rcases bt (!r3) with h4 | h4
   ·replace hm := if_t h4 hm
    refine RK hnt (.no :: o32 [] true r1 :: nn 2 (o32 [] true r3 :: .no :: pT :: .no :: sk 3 (pT :: .no :: []))) [(4, pB true)] [] (an (isNaN_cmp_intSpec p0 r1 hr1) (an2 h2 (an (isNaN_cmp_intSpec p1 r3 hr3) (an2 h2 (an4 h4 tv))))) ?_
    exact jD true hm .refl
   ·replace hm := if_f h4 hm
    refine RK hnt (.no :: o32 [] true r1 :: nn 2 (o32 [] true r3 :: .no :: pT :: nn 4 (pF :: .no :: []))) [(4, pB (decide (p0 < p1)))] [] (an (isNaN_cmp_intSpec p0 r1 hr1) (an2 h2 (an (isNaN_cmp_intSpec p1 r3 hr3) (an2 h2 (an4 h4 tv))))) ?_
    exact jD (decide (p0 < p1)) hm .refl
  ·replace hm := if_f h2 hm
   refine RK hnt (.no :: o32 [] true r1 :: .no :: sk 3 (pF :: nn 4 (pF :: .no :: []))) [(4, pB (decide (p0 < p1)))] [] (an (isNaN_cmp_intSpec p0 r1 hr1) (an4 h2 (an4 ff tv))) ?_
   exact jD (decide (p0 < p1)) hm .refl
abbrev o31 (ks : List Nat) (b : Bool) (RES : Bool) : Orc := .call 79 ks b (pB RES) [] []

abbrev c30e1 (s4 : (List Int) × Int) := (s4.1.getD (Int.toNat (w64 (s4.2 - 1))) 0)
abbrev c30e2 (s4 : (List Int) × Int) := (updF (updF (elI s4.1) (Int.toNat s4.2) [vi (c30e1 s4)]) (Int.toNat (w64 (s4.2 - 1))) (setRange ((updF (elI s4.1) (Int.toNat s4.2) [vi (c30e1 s4)]) (Int.toNat (w64 (s4.2 - 1)))) 0 [vi (s4.1.getD (Int.toNat s4.2) 0)]))
abbrev c30e3 (s4 : (List Int) × Int) := ((s4.1.set (Int.toNat s4.2) (c30e1 s4)).set (Int.toNat (w64 (s4.2 - 1))) (s4.1.getD (Int.toNat s4.2) 0))
theorem insertionSortOrdered_slices_intSpec (p0 : List Int) (p1 : Int) (p2 : Int) (RES : List Int) (hm : insertionSortOrdered_slices_int p0 p1 p2 = some RES) : Spec Try.prog 73 [ow 0 p0.length, pI p1, pI p2] [roI p0] (.p (.tup [])) [roI RES] [] := by
 unfold insertionSortOrdered_slices_int at hm
 refine SO Try.func73 rfl rfl [(0, ow 0 p0.length), (1, pI p1), (2, pI p2)] [(0, ob0 (roI p0))] ?_
 intro cx hnt
 refine Sq (RD hnt (nn 3 []) [] [(6, pI (w64 (p1 + 1)))] [] [] tv ?_)
 refine Bk ?_
 obtain ⟨hc1, hm⟩ := go1 hm
 refine DW.forO (fun (k1 : Int) (s1 : List Int) => mkSt [(0, ow 0 s1.length), (1, pI p1), (2, pI p2), (6, pI k1)] [(0, ob0 (roI s1))]) (lo := (w64 (p1 + 1))) (hi := p2) hm Conv.eqK ?_
 intro k1 s1 n1 hk1 hs1 he1
 refine Sq (Sq (RD hnt (nn 3 []) [] [(12, pB (decide (k1 < p2)))] [] [] tv ?_))
 refine condK (decide (k1 < p2)) ?_ ?_
 ·intro h75
  have hlt1 : k1 < p2 := by have := of_decide_eq_true h75; omega
  have hm := hs1 hlt1
  unfold insertionSortOrdered_slices_intL1 at hm
  refine Sk ?_
  refine Sq (Bk ?_)
  refine Sq (RD hnt (nn 2 []) [12] [(7, pI k1)] [] [] tv ?_)
  refine Bk ?_
  refine DW.whileO (fun (s4 : (List Int) × Int) => mkSt [(0, ow 0 s4.1.length), (1, pI p1), (2, pI p2), (6, pI k1), (7, pI s4.2)] [(0, ob0 (roI s4.1))]) hm Conv.eqK ?_
  intro s4 n4 hm
  unfold insertionSortOrdered_slices_intL4 at hm
  refine Sq (Sq ?_)
  refine Jn (ι := Bool) (fun (y6 : Bool) => mkSt [(0, ow 0 s4.1.length), (1, pI p1), (2, pI p2), (6, pI k1), (7, pI s4.2), (30, pB y6)] [(0, ob0 (roI s4.1))]) (fun y6 => (insertionSortOrdered_slices_intJ6 n1 s4 n4) y6 = some RES) ?_ ?_
  ·intro y6 hm
   unfold insertionSortOrdered_slices_intJ6 at hm
   refine condM hm ?_ ?_
   ·intro h97 hm
    refine Sk ?_
    refine Sq (Bk ?_)
    obtain ⟨g98, g99, g100, g101, hm⟩ := go4 hm
    obtain ⟨g102, g103, g104, g105, hm⟩ := go4 hm
    refine RN hnt (nn 18 []) [(0, ow 0 (c30e3 s4).length), (1, pI p1), (2, pI p2), (6, pI k1), (7, pI s4.2)] [(0, ob0 (roI (c30e3 s4)))] [(0, ow 0 s4.1.length)] [(0, .row 1 s4.1.length (c30e2 s4))] (an g98.1 (an g98.2 (an g99 (an g100.1 (an g100.2 (an g101 (an g102.1 (an g102.2 (an g103 (an g104.1 (an g104.2 (an g105 tv)))))))))))) (by kernel_rfl) (.cons rfl (MLe.ownLen (enc := encI) (d := 0) (f := (c30e2 s4)) (RowIs.updR (RowIs.upd RowIs.elems (c30e1 s4) rfl) (by omega) (s4.1.getD (Int.toNat s4.2) 0) rfl)) .nil) (.cons rfl (BLe.typed (RowIs.updR (RowIs.upd RowIs.elems (c30e1 s4) rfl) (by omega) (s4.1.getD (Int.toNat s4.2) 0) rfl)) .nil) ?_
    refine DW.done ?_
    show DW _ _ _ _ _
    refine RD hnt (nn 3 []) [] [(7, pI (w64 (s4.2 - 1)))] [] [] tv ?_
    exact jD ((c30e3 s4), (w64 (s4.2 - 1))) hm Conv.eqK
   ·intro h97 hm
    refine DW.exit ?_
    refine joinQ_exit ?_
    refine KQ_exit ?_
    refine blockQ_exit ?_
    show DW _ _ _ _ _
    refine DW.done ?_
    show DW _ _ _ _ _
    refine RD hnt (nn 3 []) [7, 30] [(6, pI (w64 (k1 + 1)))] [] [] tv ?_
    exact jD s4.1 ⟨hlt1, hm⟩ (Conv.tp [(6, pI (w64 (k1 + 1)))] [] (by kernel_rfl) (.cons rfl (.of_eq (congrArg pI (w64_for (lo := (w64 (p1 + 1))) (hi := p2) (by omega) hk1 hlt1 (by omega)))) .nil) .nil)
  ·rcases bt (decide (s4.2 > p1)) with h91 | h91
   ·replace hm := if_t h91 hm
    obtain ⟨g92, g93, g94, g95, hm⟩ := go4 hm
    obtain ⟨r96, hr96, hm⟩ := bo hm
    refine RD hnt (nn 13 (o31 [] true r96 :: pT :: [])) [] [(30, pB r96)] [] [] (an3 h91 (an g92.1 (an g92.2 (an h91 (an g93 (an4 h91 (an g94.1 (an g94.2 (an h91 (an g95 (an h91 (an (Less_cmp_intSpec (s4.1.getD (Int.toNat s4.2) 0) (c30e1 s4) r96 hr96) (an h91 tv))))))))))))) ?_
    exact jD r96 hm Conv.eqK
   ·replace hm := if_f h91 hm
    refine RD hnt (nn 4 (sk 10 (pF :: []))) [] [(30, pB false)] [] [] (an5 h91 (an6 h91 tv)) ?_
    exact jD false hm Conv.eqK
 ·intro h75
  have hge1 : ¬ k1 < p2 := by have := of_decide_eq_false h75; omega
  have hm := he1 hge1
  unfold insertionSortOrdered_slices_intD1 at hm
  refine DW.exit ?_
  refine joinQ_exit ?_
  refine KQ_exit ?_
  refine blockQ_exit ?_
  show DW _ _ _ _ _
  refine DW.done ?_
  obtain rfl := sj hm
  exact endK [roI s1] [] (.p (.tup []))
abbrev o30 (ks : List Nat) (b : Bool) (RES : List Int) : Orc := .call 73 ks b (.p (.tup [])) [roI RES] []

abbrev c34e1 (s1 : (List Int) × Int) (p3 : Int) (y4 : Int) := (updF (updF (elI s1.1) (Int.toNat (w64 (p3 + s1.2))) [vi (s1.1.getD (Int.toNat (w64 (p3 + y4))) 0)]) (Int.toNat (w64 (p3 + y4))) (setRange ((updF (elI s1.1) (Int.toNat (w64 (p3 + s1.2))) [vi (s1.1.getD (Int.toNat (w64 (p3 + y4))) 0)]) (Int.toNat (w64 (p3 + y4)))) 0 [vi (s1.1.getD (Int.toNat (w64 (p3 + s1.2))) 0)]))
abbrev c34e2 (s1 : (List Int) × Int) (p3 : Int) (y4 : Int) := ((s1.1.set (Int.toNat (w64 (p3 + s1.2))) (s1.1.getD (Int.toNat (w64 (p3 + y4))) 0)).set (Int.toNat (w64 (p3 + y4))) (s1.1.getD (Int.toNat (w64 (p3 + s1.2))) 0))
abbrev c34e3 (s1 : (List Int) × Int) := (w64 ((w64 (2 * s1.2)) + 1))
theorem siftDownOrdered_slices_intSpec (p0 : List Int) (p1 : Int) (p2 : Int) (p3 : Int) (RES : List Int) (hm : siftDownOrdered_slices_int p0 p1 p2 p3 = some RES) : Spec Try.prog 87 [ow 0 p0.length, pI p1, pI p2, pI p3] [roI p0] (.p (.tup [])) [roI RES] [] := by
 unfold siftDownOrdered_slices_int at hm
 refine SO Try.func87 rfl rfl [(0, ow 0 p0.length), (1, pI p1), (2, pI p2), (3, pI p3)] [(0, ob0 (roI p0))] ?_
 intro cx hnt
 refine Sq (RD hnt (nn 2 []) [1] [(8, pI p1)] [] [] tv ?_)
 refine Bk ?_
 refine DW.whileO (fun (s1 : (List Int) × Int) => mkSt [(0, ow 0 s1.1.length), (2, pI p2), (3, pI p3), (8, pI s1.2)] [(0, ob0 (roI s1.1))]) hm Conv.eqK ?_
 intro s1 n1 hm
 unfold siftDownOrdered_slices_intL1 at hm
 refine Bk ?_
 refine Sq (RD hnt (nn 4 []) [] [(9, pI (c34e3 s1))] [] [] tv ?_)
 refine Sq (Sq (RD hnt (nn 3 []) [] [(16, pB (decide ((c34e3 s1) ≥ p2)))] [] [] tv ?_))
 refine condM hm ?_ ?_
 ·intro h23 hm
  refine DW.exit ?_
  refine blockQ_other (by decide) ?_
  refine KQ_exit ?_
  refine joinQ_exit ?_
  refine KQ_exit ?_
  refine blockQ_exit ?_
  show DW _ _ _ _ _
  refine DW.done ?_
  obtain rfl := sj hm
  exact endK [roI s1.1] [] (.p (.tup []))
 ·intro h23 hm
  refine Sk ?_
  refine Sq (Sq ?_)
  refine Jn (ι := Bool) (fun (y3 : Bool) => mkSt [(0, ow 0 s1.1.length), (2, pI p2), (3, pI p3), (8, pI s1.2), (9, pI (c34e3 s1)), (36, pB y3)] [(0, ob0 (roI s1.1))]) (fun y3 => (siftDownOrdered_slices_intJ3 p3 s1 n1) y3 = some RES) ?_ ?_
  ·intro y3 hm
   unfold siftDownOrdered_slices_intJ3 at hm
   refine Jn (ι := Int) (fun (y4 : Int) => mkSt [(0, ow 0 s1.1.length), (2, pI p2), (3, pI p3), (8, pI s1.2), (9, pI y4)] [(0, ob0 (roI s1.1))]) (fun y4 => (siftDownOrdered_slices_intJ4 p3 s1 n1) y4 = some RES) ?_ ?_
   ·intro y4 hm
    unfold siftDownOrdered_slices_intJ4 at hm
    obtain ⟨g31, g32, g33, g34, hm⟩ := go4 hm
    obtain ⟨r35, hr35, hm⟩ := bo hm
    refine Sq (Sq (RD hnt (nn 12 (o31 [] true r35 :: .no :: [])) [] [(52, pB (!r35))] [] [] (an g31.1 (an g31.2 (an g32 (an g33.1 (an g33.2 (an g34 (an (Less_cmp_intSpec (s1.1.getD (Int.toNat (w64 (p3 + s1.2))) 0) (s1.1.getD (Int.toNat (w64 (p3 + y4))) 0) r35 hr35) tv))))))) ?_))
    refine condM hm ?_ ?_
    ·intro h36 hm
     obtain rfl := sj hm
     exact DW.ret (retK [roI s1.1] [] (.p (.tup [])))
    ·intro h36 hm
     refine Sk ?_
     obtain ⟨g37, g38, g39, g40, hm⟩ := go4 hm
     obtain ⟨g41, g42, g43, g44, hm⟩ := go4 hm
     refine Sq (RN hnt (nn 24 []) [(0, ow 0 (c34e2 s1 p3 y4).length), (2, pI p2), (3, pI p3), (9, pI y4)] [(0, ob0 (roI (c34e2 s1 p3 y4)))] [(0, ow 0 s1.1.length)] [(0, .row 1 s1.1.length (c34e1 s1 p3 y4))] (an g37.1 (an g37.2 (an g38 (an g39.1 (an g39.2 (an g40 (an g41.1 (an g41.2 (an g42 (an g43.1 (an g43.2 (an g44 tv)))))))))))) (by kernel_rfl) (.cons rfl (MLe.ownLen (enc := encI) (d := 0) (f := (c34e1 s1 p3 y4)) (RowIs.updR (RowIs.upd RowIs.elems (s1.1.getD (Int.toNat (w64 (p3 + y4))) 0) rfl) (by omega) (s1.1.getD (Int.toNat (w64 (p3 + s1.2))) 0) rfl)) .nil) (.cons rfl (BLe.typed (RowIs.updR (RowIs.upd RowIs.elems (s1.1.getD (Int.toNat (w64 (p3 + y4))) 0) rfl) (by omega) (s1.1.getD (Int.toNat (w64 (p3 + s1.2))) 0) rfl)) .nil) ?_)
     refine RD hnt (nn 2 []) [9] [(8, pI y4)] [] [] tv ?_
     refine DW.done ?_
     show DW _ _ _ _ _
     exact jD ((c34e2 s1 p3 y4), y4) hm Conv.eqK
   ·refine condM hm ?_ ?_
    ·intro h30 hm
     refine RD hnt (nn 3 []) [36] [(9, pI (w64 ((c34e3 s1) + 1)))] [] [] tv ?_
     exact jD (w64 ((c34e3 s1) + 1)) hm Conv.eqK
    ·intro h30 hm
     refine Sk ?_
     exact jD (c34e3 s1) hm Conv.t0
  ·rcases bt (decide ((w64 ((c34e3 s1) + 1)) < p2)) with h24 | h24
   ·replace hm := if_t h24 hm
    obtain ⟨g25, g26, g27, g28, hm⟩ := go4 hm
    obtain ⟨r29, hr29, hm⟩ := bo hm
    refine RD hnt (nn 18 (o31 [] true r29 :: pT :: [])) [16] [(36, pB r29)] [] [] (an5 h24 (an g25.1 (an g25.2 (an h24 (an g26 (an6 h24 (an g27.1 (an g27.2 (an h24 (an g28 (an h24 (an (Less_cmp_intSpec (s1.1.getD (Int.toNat (w64 (p3 + (c34e3 s1)))) 0) (s1.1.getD (Int.toNat (w64 ((w64 (p3 + (c34e3 s1))) + 1))) 0) r29 hr29) (an h24 tv))))))))))))) ?_
    exact jD r29 hm Conv.eqK
   ·replace hm := if_f h24 hm
    refine RD hnt (nn 5 (sk 14 (pF :: []))) [16] [(36, pB false)] [] [] (an3 h24 (an6 h24 (an6 h24 tv))) ?_
    exact jD false hm Conv.eqK
abbrev o34 (ks : List Nat) (b : Bool) (RES : List Int) : Orc := .call 87 ks b (.p (.tup [])) [roI RES] []

abbrev c33e1 (s3 : (List Int) × Int) (p1 : Int) := ((s3.1.set (Int.toNat p1) (s3.1.getD (Int.toNat (w64 (p1 + s3.2))) 0)).set (Int.toNat (w64 (p1 + s3.2))) (s3.1.getD (Int.toNat p1) 0))
abbrev c33e2 (s3 : (List Int) × Int) (p1 : Int) := (updF (updF (elI s3.1) (Int.toNat p1) [vi (s3.1.getD (Int.toNat (w64 (p1 + s3.2))) 0)]) (Int.toNat (w64 (p1 + s3.2))) (setRange ((updF (elI s3.1) (Int.toNat p1) [vi (s3.1.getD (Int.toNat (w64 (p1 + s3.2))) 0)]) (Int.toNat (w64 (p1 + s3.2)))) 0 [vi (s3.1.getD (Int.toNat p1) 0)]))
theorem heapSortOrdered_slices_intSpec (p0 : List Int) (p1 : Int) (p2 : Int) (RES : List Int) (hm : heapSortOrdered_slices_int p0 p1 p2 = some RES) : Spec Try.prog 74 [ow 0 p0.length, pI p1, pI p2] [roI p0] (.p (.tup [])) [roI RES] [] := by
 unfold heapSortOrdered_slices_int at hm
 refine SO Try.func74 rfl rfl [(0, ow 0 p0.length), (1, pI p1), (2, pI p2)] [(0, ob0 (roI p0))] ?_
 intro cx hnt
 refine Sq (RD hnt (nn 2 []) [] [(6, pI p1)] [] [] tv ?_)
 refine Sq (RD hnt (.no :: []) [] [(7, pI 0)] [] [] tv ?_)
 refine Sq (RD hnt (nn 4 []) [1, 2] [(8, pI (w64 (p2 - p1)))] [] [] tv ?_)
 refine Sq (Sq (RD hnt (nn 4 []) [] [(9, pI (w64 (Int.tdiv (w64 ((w64 (p2 - p1)) - 1)) 2)))] [] [] (an (by decide : (2 : Int) ≠ 0) tv) ?_))
 refine Bk ?_
 refine DW.whileO (fun (s1 : (List Int) × Int) => mkSt [(0, ow 0 s1.1.length), (6, pI p1), (7, pI 0), (8, pI (w64 (p2 - p1))), (9, pI s1.2)] [(0, ob0 (roI s1.1))]) hm Conv.eqK ?_
 intro s1 n1 hm
 unfold heapSortOrdered_slices_intL1 at hm
 refine Sq (Sq (RD hnt (nn 2 []) [] [(19, pB (decide (s1.2 ≥ 0)))] [] [] tv ?_))
 refine condM hm ?_ ?_
 ·intro h26 hm
  refine Sk ?_
  refine Sq (Bk ?_)
  obtain ⟨r27, hr27, hm⟩ := bo hm
  obtain ⟨g28, hm⟩ := go1 hm
  refine RN hnt (nn 4 (o34 [0] true r27 :: [])) [(0, ow 0 r27.length), (6, pI p1), (7, pI 0), (8, pI (w64 (p2 - p1))), (9, pI s1.2)] [(0, ob0 (roI r27))] [(0, ow 0 s1.1.length)] [] (an (siftDownOrdered_slices_intSpec s1.1 s1.2 (w64 (p2 - p1)) p1 r27 hr27) (an (⟨rfl, g28⟩ : Body.same (roI s1.1) (roI r27)) tv)) (by kernel_rfl) (.cons rfl (MLe.of_eq (congrArg (MV.own 0 0 0) g28)) .nil) .nil ?_
  refine DW.done ?_
  show DW _ _ _ _ _
  refine RD hnt (nn 3 []) [] [(9, pI (w64 (s1.2 - 1)))] [] [] tv ?_
  exact jD (r27, (w64 (s1.2 - 1))) hm Conv.eqK
 ·intro h26 hm
  refine DW.exit ?_
  refine joinQ_exit ?_
  refine KQ_exit ?_
  refine blockQ_exit ?_
  show DW _ _ _ _ _
  refine Sq (RD hnt (nn 3 []) [8, 9, 19] [(10, pI (w64 ((w64 (p2 - p1)) - 1)))] [] [] tv ?_)
  refine Bk ?_
  refine DW.whileO (fun (s3 : (List Int) × Int) => mkSt [(0, ow 0 s3.1.length), (6, pI p1), (7, pI 0), (10, pI s3.2)] [(0, ob0 (roI s3.1))]) hm Conv.eqK ?_
  intro s3 n3 hm
  unfold heapSortOrdered_slices_intL3 at hm
  refine Sq (Sq (RD hnt (nn 2 []) [] [(30, pB (decide (s3.2 ≥ 0)))] [] [] tv ?_))
  refine condM hm ?_ ?_
  ·intro h40 hm
   refine Sk ?_
   refine Sq (Bk ?_)
   obtain ⟨g41, g42, g43, g44, hm⟩ := go4 hm
   obtain ⟨g45, g46, g47, g48, hm⟩ := go4 hm
   refine Sq (RN hnt (nn 20 []) [(0, ow 0 (c33e1 s3 p1).length), (6, pI p1), (7, pI 0), (10, pI s3.2)] [(0, ob0 (roI (c33e1 s3 p1)))] [(0, ow 0 s3.1.length)] [(0, .row 1 s3.1.length (c33e2 s3 p1))] (an g41.1 (an g41.2 (an g42 (an g43.1 (an g43.2 (an g44 (an g45.1 (an g45.2 (an g46 (an g47.1 (an g47.2 (an g48 tv)))))))))))) (by kernel_rfl) (.cons rfl (MLe.ownLen (enc := encI) (d := 0) (f := (c33e2 s3 p1)) (RowIs.updR (RowIs.upd RowIs.elems (s3.1.getD (Int.toNat (w64 (p1 + s3.2))) 0) rfl) (by omega) (s3.1.getD (Int.toNat p1) 0) rfl)) .nil) (.cons rfl (BLe.typed (RowIs.updR (RowIs.upd RowIs.elems (s3.1.getD (Int.toNat (w64 (p1 + s3.2))) 0) rfl) (by omega) (s3.1.getD (Int.toNat p1) 0) rfl)) .nil) ?_)
   obtain ⟨r49, hr49, hm⟩ := bo hm
   obtain ⟨g50, hm⟩ := go1 hm
   refine RN hnt (nn 4 (o34 [0] true r49 :: [])) [(0, ow 0 r49.length), (6, pI p1), (7, pI 0), (10, pI s3.2)] [(0, ob0 (roI r49))] [(0, ow 0 (c33e1 s3 p1).length)] [] (an (siftDownOrdered_slices_intSpec (c33e1 s3 p1) 0 s3.2 p1 r49 hr49) (an (⟨rfl, g50⟩ : Body.same (roI (c33e1 s3 p1)) (roI r49)) tv)) (by kernel_rfl) (.cons rfl (MLe.of_eq (congrArg (MV.own 0 0 0) g50)) .nil) .nil ?_
   refine DW.done ?_
   show DW _ _ _ _ _
   refine RD hnt (nn 3 []) [] [(10, pI (w64 (s3.2 - 1)))] [] [] tv ?_
   exact jD (r49, (w64 (s3.2 - 1))) hm Conv.eqK
  ·intro h40 hm
   refine DW.exit ?_
   refine joinQ_exit ?_
   refine KQ_exit ?_
   refine blockQ_exit ?_
   show DW _ _ _ _ _
   refine DW.done ?_
   obtain rfl := sj hm
   exact endK [roI s3.1] [] (.p (.tup []))
abbrev o33 (ks : List Nat) (b : Bool) (RES : List Int) : Orc := .call 74 ks b (.p (.tup [])) [roI RES] []

theorem order2Ordered_slices_intSpec (p0 : List Int) (p1 : Int) (p2 : Int) (p3 : Int) (RES : Int × Int × Int) (hm : order2Ordered_slices_int p0 p1 p2 p3 = some RES) : Spec Try.prog 94 [.p (slI p0), pI p1, pI p2, rr 0] [.box [pI p3]] (.p (.tup [vi RES.1, vi RES.2.1])) [.box [pI RES.2.2]] [] := by
 unfold order2Ordered_slices_int at hm
 refine SO Try.func94 rfl rfl [(0, .p (slI p0)), (1, pI p1), (2, pI p2), (3, rr 0)] [(0, bx [pI p3])] ?_
 intro cx hnt
 refine Sq (RD hnt (nn 2 []) [] [] [] [] tv ?_)
 obtain ⟨g1, g2, hm⟩ := go2 hm
 obtain ⟨r3, hr3, hm⟩ := bo hm
 refine Sq (Sq (RD hnt (nn 8 (o31 [] true r3 :: [])) [0] [(18, pB r3)] [] [] (an g1.1 (an g1.2 (an g2.1 (an g2.2 (an (Less_cmp_intSpec (p0.getD (Int.toNat p2) 0) (p0.getD (Int.toNat p1) 0) r3 hr3) tv))))) ?_))
 refine condM hm ?_ ?_
 ·intro h4 hm
  refine Sq (RD hnt (nn 6 []) [3, 18] [] [] [(0, bx [pI (w64 (p3 + 1))])] tv ?_)
  refine Sq (RD hnt (nn 4 []) [1, 2] [(8, pI p2), (9, pI p1)] [] [] tv ?_)
  obtain rfl := sj hm
  exact DW.ret (retK [.box [pI (w64 (p3 + 1))]] [] (.p (.tup [vi p2, vi p1])))
 ·intro h4 hm
  refine Sk ?_
  refine Sq (RK hnt (nn 4 []) [(8, pI p1), (9, pI p2)] [(0, bx [pI p3])] tv ?_)
  obtain rfl := sj hm
  exact DW.ret (retK [.box [pI p3]] [] (.p (.tup [vi p1, vi p2])))
abbrev o38 (ks : List Nat) (b : Bool) (RES : Int × Int × Int) : Orc := .call 94 ks b (.p (.tup [vi RES.1, vi RES.2.1])) [.box [pI RES.2.2]] []

theorem medianOrdered_slices_intSpec (p0 : List Int) (p1 : Int) (p2 : Int) (p3 : Int) (p4 : Int) (RES : Int × Int) (hm : medianOrdered_slices_int p0 p1 p2 p3 p4 = some RES) : Spec Try.prog 91 [.p (slI p0), pI p1, pI p2, pI p3, rr 0] [.box [pI p4]] (pI RES.1) [.box [pI RES.2]] [] := by
 unfold medianOrdered_slices_int at hm
 refine SO Try.func91 rfl rfl [(0, .p (slI p0)), (1, pI p1), (2, pI p2), (3, pI p3), (4, rr 0)] [(0, bx [pI p4])] ?_
 intro cx hnt
 refine Sq (RD hnt (.no :: []) [] [] [] [] tv ?_)
 obtain ⟨r1, hr1, hm⟩ := bo hm
 refine Sq (RD hnt (nn 4 (o38 [0] true r1 :: nn 5 [])) [] [(1, pI r1.1), (2, pI r1.2.1)] [] [(0, bx [pI r1.2.2])] (an (order2Ordered_slices_intSpec p0 p1 p2 p4 r1 hr1) (an tv tv)) ?_)
 obtain ⟨r2, hr2, hm⟩ := bo hm
 refine Sq (RD hnt (nn 4 (o38 [0] true r2 :: nn 5 [])) [3] [(2, pI r2.1)] [] [(0, bx [pI r2.2.2])] (an (order2Ordered_slices_intSpec p0 r1.2.1 p3 r1.2.2 r2 hr2) (an tv tv)) ?_)
 obtain ⟨r3, hr3, hm⟩ := bo hm
 refine Sq (RK hnt (nn 4 (o38 [0] true r3 :: nn 5 [])) [(2, pI r3.2.1)] [(0, bx [pI r3.2.2])] (an (order2Ordered_slices_intSpec p0 r1.1 r2.1 r2.2.2 r3 hr3) (an tv tv)) ?_)
 refine Sq (RD hnt (nn 2 []) [2] [(10, pI r3.2.1)] [] [] tv ?_)
 obtain rfl := sj hm
 exact DW.ret (retK [.box [pI r3.2.2]] [] (pI r3.2.1))
abbrev o37 (ks : List Nat) (b : Bool) (RES : Int × Int) : Orc := .call 91 ks b (pI RES.1) [.box [pI RES.2]] []

theorem medianAdjacentOrdered_slices_intSpec (p0 : List Int) (p1 : Int) (p2 : Int) (RES : Int × Int) (hm : medianAdjacentOrdered_slices_int p0 p1 p2 = some RES) : Spec Try.prog 90 [.p (slI p0), pI p1, rr 0] [.box [pI p2]] (pI RES.1) [.box [pI RES.2]] [] := by
 unfold medianAdjacentOrdered_slices_int at hm
 refine SO Try.func90 rfl rfl [(0, .p (slI p0)), (1, pI p1), (2, rr 0)] [(0, bx [pI p2])] ?_
 intro cx hnt
 refine Sq (RD hnt (.no :: []) [] [] [] [] tv ?_)
 obtain ⟨r1, hr1, hm⟩ := bo hm
 refine Sq (RK hnt (nn 7 (o37 [0] true r1 :: .no :: [])) [(6, pI r1.1)] [(0, bx [pI r1.2])] (an (medianOrdered_slices_intSpec p0 (w64 (p1 - 1)) p1 (w64 (p1 + 1)) p2 r1 hr1) (an tv tv)) ?_)
 obtain rfl := sj hm
 exact DW.ret (retK [.box [pI r1.2]] [] (pI r1.1))
abbrev o36 (ks : List Nat) (b : Bool) (RES : Int × Int) : Orc := .call 90 ks b (pI RES.1) [.box [pI RES.2]] []

abbrev c35e1 (p2 : Int) (p1 : Int) := (w64 (Int.tdiv (w64 (p2 - p1)) 4))
abbrev c35e2 (p1 : Int) (p2 : Int) := (w64 (p1 + (w64 ((c35e1 p2 p1) * 2))))
theorem choosePivotOrdered_slices_intSpec (p0 : List Int) (p1 : Int) (p2 : Int) (RES : Int × Int) (hm : choosePivotOrdered_slices_int p0 p1 p2 = some RES) : Spec Try.prog 76 [.p (slI p0), pI p1, pI p2] [] (.p (.tup [vi RES.1, vi RES.2])) [] [] := by
 unfold choosePivotOrdered_slices_int at hm
 refine SO Try.func76 rfl rfl [(0, .p (slI p0)), (1, pI p1), (2, pI p2)] [] ?_
 intro cx hnt
 refine Sq (RD hnt (nn 2 []) [] [] [] [] tv ?_)
 refine Sq (RD hnt (nn 4 []) [2] [(8, pI (w64 (p2 - p1)))] [] [] tv ?_)
 refine Sq (RD hnt (.no :: []) [] [(9, rr 1072)] [] [(1072, bx [pI 0])] tv ?_)
 refine Sq (RD hnt (nn 6 []) [] [(10, pI (w64 (p1 + (w64 ((c35e1 p2 p1) * 1)))))] [] [] (an (by decide : (4 : Int) ≠ 0) tv) ?_)
 refine Sq (RD hnt (nn 6 []) [] [(11, pI (c35e2 p1 p2))] [] [] (an (by decide : (4 : Int) ≠ 0) tv) ?_)
 refine Sq (RD hnt (nn 6 []) [1] [(12, pI (w64 (p1 + (w64 ((c35e1 p2 p1) * 3)))))] [] [] (an (by decide : (4 : Int) ≠ 0) tv) ?_)
 refine Sq (Sq (RD hnt (nn 2 []) [] [(32, pB (decide ((w64 (p2 - p1)) ≥ 8)))] [] [] tv ?_))
 refine Jn (ι := Int × Int) (fun (y1 : Int × Int) => mkSt [(9, rr 1072), (11, pI y1.2)] [(1072, bx [pI y1.1])]) (fun y1 => choosePivotOrdered_slices_intJ1 y1 = some RES) ?_ ?_
 ·intro y1 hm
  unfold choosePivotOrdered_slices_intJ1 at hm
  refine Sq (RK hnt (.no :: []) [(11, pI y1.2), (49, pI y1.1)] [] tv ?_)
  refine Bk ?_
  refine Sq (RD hnt (nn 2 []) [] [(51, pB (y1.1 == 0))] [] [] tv ?_)
  refine condM hm ?_ ?_
  ·intro h7 hm
   refine Sq (RK hnt (nn 3 []) [(6, pI y1.2), (7, pI 1)] [] tv ?_)
   obtain rfl := sj hm
   exact DW.ret (retK [] [] (.p (.tup [vi y1.2, vi 1])))
  ·intro h7 hm
   refine Sq (RK hnt (nn 2 []) [(11, pI y1.2), (54, pB (y1.1 == 12))] [] tv ?_)
   refine condM hm ?_ ?_
   ·intro h8 hm
    refine Sq (RK hnt (nn 3 []) [(6, pI y1.2), (7, pI 2)] [] tv ?_)
    obtain rfl := sj hm
    exact DW.ret (retK [] [] (.p (.tup [vi y1.2, vi 2])))
   ·intro h8 hm
    refine Sq (RK hnt (nn 3 []) [(6, pI y1.2), (7, pI 0)] [] tv ?_)
    obtain rfl := sj hm
    exact DW.ret (retK [] [] (.p (.tup [vi y1.2, vi 0])))
 ·refine condM hm ?_ ?_
  ·intro h1 hm
   refine Sq (Sq (RD hnt (nn 2 []) [8, 32] [(34, pB (decide ((w64 (p2 - p1)) ≥ 50)))] [] [] tv ?_))
   refine Jn (ι := Int × Int × Int × Int) (fun (y2 : Int × Int × Int × Int) => mkSt [(0, .p (slI p0)), (9, rr 1072), (10, pI y2.2.1), (11, pI y2.2.2.1), (12, pI y2.2.2.2)] [(1072, bx [pI y2.1])]) (fun y2 => (choosePivotOrdered_slices_intJ2 p0) y2 = some RES) ?_ ?_
   ·intro y2 hm
    unfold choosePivotOrdered_slices_intJ2 at hm
    obtain ⟨r6, hr6, hm⟩ := bo hm
    refine RK hnt (nn 4 (o37 [1072] true r6 :: .no :: [])) [(9, rr 1072), (11, pI r6.1)] [(1072, bx [pI r6.2])] (an (medianOrdered_slices_intSpec p0 y2.2.1 y2.2.2.1 y2.2.2.2 y2.1 r6 hr6) (an tv tv)) ?_
    exact jD (r6.2, r6.1) hm .refl
   ·refine condM hm ?_ ?_
    ·intro h2 hm
     obtain ⟨r3, hr3, hm⟩ := bo hm
     refine Sq (RK hnt (nn 2 (o36 [1072] true r3 :: .no :: [])) [(0, .p (slI p0)), (9, rr 1072), (10, pI r3.1), (11, pI (c35e2 p1 p2)), (12, pI (w64 (p1 + (w64 ((c35e1 p2 p1) * 3)))))] [(1072, bx [pI r3.2])] (an (medianAdjacentOrdered_slices_intSpec p0 (w64 (p1 + (w64 ((c35e1 p2 p1) * 1)))) 0 r3 hr3) (an tv tv)) ?_)
     obtain ⟨r4, hr4, hm⟩ := bo hm
     refine Sq (RD hnt (nn 2 (o36 [1072] true r4 :: .no :: [])) [] [(11, pI r4.1)] [] [(1072, bx [pI r4.2])] (an (medianAdjacentOrdered_slices_intSpec p0 (c35e2 p1 p2) r3.2 r4 hr4) (an tv tv)) ?_)
     obtain ⟨r5, hr5, hm⟩ := bo hm
     refine RD hnt (nn 2 (o36 [1072] true r5 :: .no :: [])) [] [(12, pI r5.1)] [] [(1072, bx [pI r5.2])] (an (medianAdjacentOrdered_slices_intSpec p0 (w64 (p1 + (w64 ((c35e1 p2 p1) * 3)))) r4.2 r5 hr5) (an tv tv)) ?_
     exact jD (r5.2, r3.1, r4.1, r5.1) hm Conv.eqK
    ·intro h2 hm
     refine Sk ?_
     exact jD (0, (w64 (p1 + (w64 ((c35e1 p2 p1) * 1)))), (c35e2 p1 p2), (w64 (p1 + (w64 ((c35e1 p2 p1) * 3))))) hm Conv.t0
  ·intro h1 hm
   refine Sk ?_
   exact jD (0, (c35e2 p1 p2)) hm Conv.t0
abbrev o35 (ks : List Nat) (b : Bool) (RES : Int × Int) : Orc := .call 76 ks b (.p (.tup [vi RES.1, vi RES.2])) [] []
end Go.Dm


/- Go functions compute their models, printed by a program. -/
namespace Go.Dm
open Go.Proofs
set_option linter.unusedVariables false
abbrev c39e1 (s1 : (List Int) × Int × Int) := (updF (updF (elI s1.1) (Int.toNat s1.2.1) [vi (s1.1.getD (Int.toNat s1.2.2) 0)]) (Int.toNat s1.2.2) (setRange ((updF (elI s1.1) (Int.toNat s1.2.1) [vi (s1.1.getD (Int.toNat s1.2.2) 0)]) (Int.toNat s1.2.2)) 0 [vi (s1.1.getD (Int.toNat s1.2.1) 0)]))
abbrev c39e2 (s1 : (List Int) × Int × Int) := ((s1.1.set (Int.toNat s1.2.1) (s1.1.getD (Int.toNat s1.2.2) 0)).set (Int.toNat s1.2.2) (s1.1.getD (Int.toNat s1.2.1) 0))
theorem reverseRangeOrdered_slices_intSpec (p0 : List Int) (p1 : Int) (p2 : Int) (RES : List Int) (hm : reverseRangeOrdered_slices_int p0 p1 p2 = some RES) : Spec Try.prog 77 [ow 0 p0.length, pI p1, pI p2] [roI p0] (.p (.tup [])) [roI RES] [] := by
 unfold reverseRangeOrdered_slices_int at hm
 refine SO Try.func77 rfl rfl [(0, ow 0 p0.length), (1, pI p1), (2, pI p2)] [(0, ob0 (roI p0))] ?_
 intro cx hnt
 refine Sq (RD hnt (nn 2 []) [1] [(6, pI p1)] [] [] tv ?_)
 refine Sq (RD hnt (nn 3 []) [2] [(7, pI (w64 (p2 - 1)))] [] [] tv ?_)
 refine Bk ?_
 refine DW.whileO (fun (s1 : (List Int) × Int × Int) => mkSt [(0, ow 0 s1.1.length), (6, pI s1.2.1), (7, pI s1.2.2)] [(0, ob0 (roI s1.1))]) hm Conv.eqK ?_
 intro s1 n1 hm
 unfold reverseRangeOrdered_slices_intL1 at hm
 refine Sq (Sq (RD hnt (nn 3 []) [] [(13, pB (decide (s1.2.1 < s1.2.2)))] [] [] tv ?_))
 refine condM hm ?_ ?_
 ·intro h10 hm
  refine Sk ?_
  refine Bk ?_
  obtain ⟨g11, g12, g13, g14, hm⟩ := go4 hm
  obtain ⟨g15, g16, g17, g18, hm⟩ := go4 hm
  refine Sq (RN hnt (nn 16 []) [(0, ow 0 (c39e2 s1).length), (6, pI s1.2.1), (7, pI s1.2.2)] [(0, ob0 (roI (c39e2 s1)))] [(0, ow 0 s1.1.length)] [(0, .row 1 s1.1.length (c39e1 s1))] (an g11.1 (an g11.2 (an g12 (an g13.1 (an g13.2 (an g14 (an g15.1 (an g15.2 (an g16 (an g17.1 (an g17.2 (an g18 tv)))))))))))) (by kernel_rfl) (.cons rfl (MLe.ownLen (enc := encI) (d := 0) (f := (c39e1 s1)) (RowIs.updR (RowIs.upd RowIs.elems (s1.1.getD (Int.toNat s1.2.2) 0) rfl) (by omega) (s1.1.getD (Int.toNat s1.2.1) 0) rfl)) .nil) (.cons rfl (BLe.typed (RowIs.updR (RowIs.upd RowIs.elems (s1.1.getD (Int.toNat s1.2.2) 0) rfl) (by omega) (s1.1.getD (Int.toNat s1.2.1) 0) rfl)) .nil) ?_)
  refine Sq (RD hnt (nn 3 []) [] [(6, pI (w64 (s1.2.1 + 1)))] [] [] tv ?_)
  refine RD hnt (nn 3 []) [] [(7, pI (w64 (s1.2.2 - 1)))] [] [] tv ?_
  refine DW.done ?_
  show DW _ _ _ _ _
  exact jD ((c39e2 s1), (w64 (s1.2.1 + 1)), (w64 (s1.2.2 - 1))) hm Conv.eqK
 ·intro h10 hm
  refine DW.exit ?_
  refine joinQ_exit ?_
  refine KQ_exit ?_
  refine blockQ_exit ?_
  show DW _ _ _ _ _
  refine DW.done ?_
  obtain rfl := sj hm
  exact endK [roI s1.1] [] (.p (.tup []))
abbrev o39 (ks : List Nat) (b : Bool) (RES : List Int) : Orc := .call 77 ks b (.p (.tup [])) [roI RES] []

abbrev c40e1 (s15 : (List Int) × Int) := (s15.1.getD (Int.toNat (w64 (s15.2 - 1))) 0)
abbrev c40e2 (s1 : (List Int) × Int) (s12 : Int) := (updF (updF (elI s1.1) (Int.toNat s12) [vi (s1.1.getD (Int.toNat (w64 (s12 - 1))) 0)]) (Int.toNat (w64 (s12 - 1))) (setRange ((updF (elI s1.1) (Int.toNat s12) [vi (s1.1.getD (Int.toNat (w64 (s12 - 1))) 0)]) (Int.toNat (w64 (s12 - 1)))) 0 [vi (s1.1.getD (Int.toNat s12) 0)]))
abbrev c40e3 (s16 : List Int) (k16 : Int) := (updF (updF (elI s16) (Int.toNat k16) [vi (s16.getD (Int.toNat (w64 (k16 - 1))) 0)]) (Int.toNat (w64 (k16 - 1))) (setRange ((updF (elI s16) (Int.toNat k16) [vi (s16.getD (Int.toNat (w64 (k16 - 1))) 0)]) (Int.toNat (w64 (k16 - 1)))) 0 [vi (s16.getD (Int.toNat k16) 0)]))
abbrev c40e4 (s1 : (List Int) × Int) (s12 : Int) := ((s1.1.set (Int.toNat s12) (s1.1.getD (Int.toNat (w64 (s12 - 1))) 0)).set (Int.toNat (w64 (s12 - 1))) (s1.1.getD (Int.toNat s12) 0))
abbrev c40e5 (s16 : List Int) (k16 : Int) := ((s16.set (Int.toNat k16) (s16.getD (Int.toNat (w64 (k16 - 1))) 0)).set (Int.toNat (w64 (k16 - 1))) (s16.getD (Int.toNat k16) 0))
abbrev c40e6 (s15 : (List Int) × Int) := (updF (updF (elI s15.1) (Int.toNat s15.2) [vi (c40e1 s15)]) (Int.toNat (w64 (s15.2 - 1))) (setRange ((updF (elI s15.1) (Int.toNat s15.2) [vi (c40e1 s15)]) (Int.toNat (w64 (s15.2 - 1)))) 0 [vi (s15.1.getD (Int.toNat s15.2) 0)]))
abbrev c40e7 (s15 : (List Int) × Int) := ((s15.1.set (Int.toNat s15.2) (c40e1 s15)).set (Int.toNat (w64 (s15.2 - 1))) (s15.1.getD (Int.toNat s15.2) 0))
theorem partialInsertionSortOrdered_slices_intSpec (p0 : List Int) (p1 : Int) (p2 : Int) (RES : Bool × (List Int)) (hm : partialInsertionSortOrdered_slices_int p0 p1 p2 = some RES) : Spec Try.prog 78 [ow 0 p0.length, pI p1, pI p2] [roI p0] (pB RES.1) [roI RES.2] [] := by
 unfold partialInsertionSortOrdered_slices_int at hm
 refine SO Try.func78 rfl rfl [(0, ow 0 p0.length), (1, pI p1), (2, pI p2)] [(0, ob0 (roI p0))] ?_
 intro cx hnt
 refine Sq (RD hnt (.no :: []) [] [] [] [] tv ?_)
 refine Sq (RD hnt (nn 3 []) [] [(7, pI (w64 (p1 + 1)))] [] [] tv ?_)
 refine Sq (Sq (RD hnt (.no :: []) [] [(8, pI 0)] [] [] tv ?_))
 refine Bk ?_
 refine DW.forO (fun (k1 : Int) (s1 : (List Int) × Int) => mkSt [(0, ow 0 s1.1.length), (1, pI p1), (2, pI p2), (7, pI s1.2), (8, pI k1)] [(0, ob0 (roI s1.1))]) (lo := 0) (hi := 5) hm Conv.eqK ?_
 intro k1 s1 n1 hk1 hs1 he1
 refine Sq (Sq (RD hnt (nn 2 []) [] [(14, pB (decide (k1 < 5)))] [] [] tv ?_))
 refine condK (decide (k1 < 5)) ?_ ?_
 ·intro h391
  have hlt1 : k1 < 5 := by have := of_decide_eq_true h391; omega
  have hm := hs1 hlt1
  unfold partialInsertionSortOrdered_slices_intL1 at hm
  refine Sk ?_
  refine Sq ?_
  refine Jn (ι := (List Int) × Int) (fun (y11 : (List Int) × Int) => mkSt [(0, ow 0 y11.1.length), (1, pI p1), (2, pI p2), (7, pI y11.2), (8, pI k1)] [(0, ob0 (roI y11.1))]) (fun y11 => (partialInsertionSortOrdered_slices_intJ11 n1) y11 = some RES) ?_ ?_
  ·intro y11 hm
   unfold partialInsertionSortOrdered_slices_intJ11 at hm
   refine RD hnt (nn 3 []) [] [(8, pI (w64 (k1 + 1)))] [] [] tv ?_
   exact jD (y11.1, y11.2) ⟨hlt1, hm⟩ (Conv.tp [(8, pI (w64 (k1 + 1)))] [] (by kernel_rfl) (.cons rfl (.of_eq (congrArg pI (w64_for (lo := 0) (hi := 5) (by omega) hk1 hlt1 (by omega)))) .nil) .nil)
  ·refine Bk ?_
   refine Sq (Bk ?_)
   refine DW.whileO (fun (s12 : Int) => mkSt [(0, ow 0 s1.1.length), (1, pI p1), (2, pI p2), (7, pI s12), (8, pI k1)] [(0, ob0 (roI s1.1))]) hm Conv.t0 ?_
   intro s12 n12 hm
   unfold partialInsertionSortOrdered_slices_intL12 at hm
   refine Sq (Sq ?_)
   refine Jn (ι := Bool) (fun (y14 : Bool) => mkSt [(0, ow 0 s1.1.length), (1, pI p1), (2, pI p2), (7, pI s12), (8, pI k1), (32, pB y14)] [(0, ob0 (roI s1.1))]) (fun y14 => (partialInsertionSortOrdered_slices_intJ14 p1 p2 s1 n1 s12 n12) y14 = some RES) ?_ ?_
   ·intro y14 hm
    unfold partialInsertionSortOrdered_slices_intJ14 at hm
    refine condM hm ?_ ?_
    ·intro h492 hm
     refine Sk ?_
     refine Bk ?_
     refine RD hnt (nn 3 []) [32] [(7, pI (w64 (s12 + 1)))] [] [] tv ?_
     refine DW.done ?_
     show DW _ _ _ _ _
     exact jD (w64 (s12 + 1)) hm Conv.eqK
    ·intro h492 hm
     refine DW.exit ?_
     refine joinQ_exit ?_
     refine KQ_exit ?_
     refine blockQ_exit ?_
     show DW _ _ _ _ _
     refine Sq (Sq (RD hnt (nn 3 []) [32] [(37, pB (s12 == p2))] [] [] tv ?_))
     refine condM hm ?_ ?_
     ·intro h493 hm
      refine Sq (RK hnt (.no :: []) [(6, pB true)] [(0, ob0 (roI s1.1))] tv ?_)
      obtain rfl := sj hm
      exact DW.ret (retK [roI s1.1] [] (pB true))
     ·intro h493 hm
      refine Sk ?_
      refine Sq (Sq (RD hnt (nn 4 []) [37] [(41, pB (decide ((w64 (p2 - p1)) < 50)))] [] [] tv ?_))
      refine condM hm ?_ ?_
      ·intro h494 hm
       refine Sq (RK hnt (.no :: []) [(6, pB false)] [(0, ob0 (roI s1.1))] tv ?_)
       obtain rfl := sj hm
       exact DW.ret (retK [roI s1.1] [] (pB false))
      ·intro h494 hm
       refine Sk ?_
       obtain ⟨g495, g496, g497, g498, hm⟩ := go4 hm
       obtain ⟨g499, g500, g501, g502, hm⟩ := go4 hm
       refine Sq (RN hnt (nn 18 []) [(0, ow 0 (c40e4 s1 s12).length), (1, pI p1), (2, pI p2), (7, pI s12), (8, pI k1)] [(0, ob0 (roI (c40e4 s1 s12)))] [(0, ow 0 s1.1.length)] [(0, .row 1 s1.1.length (c40e2 s1 s12))] (an g495.1 (an g495.2 (an g496 (an g497.1 (an g497.2 (an g498 (an g499.1 (an g499.2 (an g500 (an g501.1 (an g501.2 (an g502 tv)))))))))))) (by kernel_rfl) (.cons rfl (MLe.ownLen (enc := encI) (d := 0) (f := (c40e2 s1 s12)) (RowIs.updR (RowIs.upd RowIs.elems (s1.1.getD (Int.toNat (w64 (s12 - 1))) 0) rfl) (by omega) (s1.1.getD (Int.toNat s12) 0) rfl)) .nil) (.cons rfl (BLe.typed (RowIs.updR (RowIs.upd RowIs.elems (s1.1.getD (Int.toNat (w64 (s12 - 1))) 0) rfl) (by omega) (s1.1.getD (Int.toNat s12) 0) rfl)) .nil) ?_)
       refine Sq (Sq (RD hnt (nn 4 []) [] [(61, pB (decide ((w64 (s12 - p1)) ≥ 2)))] [] [] tv ?_))
       refine Jn (ι := List Int) (fun (y15 : List Int) => mkSt [(0, ow 0 y15.length), (1, pI p1), (2, pI p2), (7, pI s12), (8, pI k1)] [(0, ob0 (roI y15))]) (fun y15 => (partialInsertionSortOrdered_slices_intJ15 p2 n1 s12) y15 = some RES) ?_ ?_
       ·intro y15 hm
        unfold partialInsertionSortOrdered_slices_intJ15 at hm
        refine Sq (RD hnt (nn 4 []) [] [(98, pB (decide ((w64 (p2 - s12)) ≥ 2)))] [] [] tv ?_)
        refine condM hm ?_ ?_
        ·intro h534 hm
         refine Sq (RD hnt (nn 3 []) [98] [(10, pI (w64 (s12 + 1)))] [] [] tv ?_)
         refine Bk ?_
         obtain ⟨hc16, hm⟩ := go1 hm
         refine DW.forO (fun (k16 : Int) (s16 : List Int) => mkSt [(0, ow 0 s16.length), (1, pI p1), (2, pI p2), (7, pI s12), (8, pI k1), (10, pI k16)] [(0, ob0 (roI s16))]) (lo := (w64 (s12 + 1))) (hi := p2) hm Conv.eqK ?_
         intro k16 s16 n16 hk16 hs16 he16
         refine Sq (Sq (RD hnt (nn 3 []) [] [(103, pB (decide (k16 < p2)))] [] [] tv ?_))
         refine condK (decide (k16 < p2)) ?_ ?_
         ·intro h565
          have hlt16 : k16 < p2 := by have := of_decide_eq_true h565; omega
          have hm := hs16 hlt16
          unfold partialInsertionSortOrdered_slices_intL16 at hm
          refine Sk ?_
          refine Sq (Bk ?_)
          obtain ⟨g566, g567, g568, g569, hm⟩ := go4 hm
          obtain ⟨r570, hr570, hm⟩ := bo hm
          refine Sq (Sq (RD hnt (nn 9 (o31 [] true r570 :: .no :: [])) [103] [(116, pB (!r570))] [] [] (an g566.1 (an g566.2 (an g567 (an g568.1 (an g568.2 (an g569 (an (Less_cmp_intSpec (s16.getD (Int.toNat k16) 0) (s16.getD (Int.toNat (w64 (k16 - 1))) 0) r570 hr570) tv))))))) ?_))
          refine condM hm ?_ ?_
          ·intro h571 hm
           refine DW.exit ?_
           refine blockQ_other (by decide) ?_
           refine KQ_exit ?_
           refine joinQ_exit ?_
           refine KQ_exit ?_
           refine blockQ_exit ?_
           show DW _ _ _ _ _
           exact bD (s16, s12) hm Conv.t0
          ·intro h571 hm
           refine Sk ?_
           obtain ⟨g572, g573, g574, g575, hm⟩ := go4 hm
           obtain ⟨g576, g577, g578, g579, hm⟩ := go4 hm
           refine RN hnt (nn 18 []) [(0, ow 0 (c40e5 s16 k16).length), (1, pI p1), (2, pI p2), (7, pI s12), (8, pI k1), (10, pI k16)] [(0, ob0 (roI (c40e5 s16 k16)))] [(0, ow 0 s16.length)] [(0, .row 1 s16.length (c40e3 s16 k16))] (an g572.1 (an g572.2 (an g573 (an g574.1 (an g574.2 (an g575 (an g576.1 (an g576.2 (an g577 (an g578.1 (an g578.2 (an g579 tv)))))))))))) (by kernel_rfl) (.cons rfl (MLe.ownLen (enc := encI) (d := 0) (f := (c40e3 s16 k16)) (RowIs.updR (RowIs.upd RowIs.elems (s16.getD (Int.toNat (w64 (k16 - 1))) 0) rfl) (by omega) (s16.getD (Int.toNat k16) 0) rfl)) .nil) (.cons rfl (BLe.typed (RowIs.updR (RowIs.upd RowIs.elems (s16.getD (Int.toNat (w64 (k16 - 1))) 0) rfl) (by omega) (s16.getD (Int.toNat k16) 0) rfl)) .nil) ?_
           refine DW.done ?_
           show DW _ _ _ _ _
           refine RD hnt (nn 3 []) [] [(10, pI (w64 (k16 + 1)))] [] [] tv ?_
           exact jD (c40e5 s16 k16) ⟨hlt16, hm⟩ (Conv.tp [(10, pI (w64 (k16 + 1)))] [] (by kernel_rfl) (.cons rfl (.of_eq (congrArg pI (w64_for (lo := (w64 (s12 + 1))) (hi := p2) (by omega) hk16 hlt16 (by omega)))) .nil) .nil)
         ·intro h565
          have hge16 : ¬ k16 < p2 := by have := of_decide_eq_false h565; omega
          have hm := he16 hge16
          unfold partialInsertionSortOrdered_slices_intD16 at hm
          refine DW.exit ?_
          refine joinQ_exit ?_
          refine KQ_exit ?_
          refine blockQ_exit ?_
          show DW _ _ _ _ _
          exact bD (s16, s12) hm Conv.t0
        ·intro h534 hm
         refine Sk ?_
         exact bD (y15, s12) hm Conv.t0
       ·refine condM hm ?_ ?_
        ·intro h503 hm
         refine Sq (RD hnt (nn 3 []) [61] [(9, pI (w64 (s12 - 1)))] [] [] tv ?_)
         refine Bk ?_
         refine DW.whileO (fun (s15 : (List Int) × Int) => mkSt [(0, ow 0 s15.1.length), (1, pI p1), (2, pI p2), (7, pI s12), (8, pI k1), (9, pI s15.2)] [(0, ob0 (roI s15.1))]) hm Conv.eqK ?_
         intro s15 n15 hm
         unfold partialInsertionSortOrdered_slices_intL15 at hm
         refine Sq (Sq (RD hnt (nn 2 []) [] [(65, pB (decide (s15.2 ≥ 1)))] [] [] tv ?_))
         refine condM hm ?_ ?_
         ·intro h519 hm
          refine Sk ?_
          refine Sq (Bk ?_)
          obtain ⟨g520, g521, g522, g523, hm⟩ := go4 hm
          obtain ⟨r524, hr524, hm⟩ := bo hm
          refine Sq (Sq (RD hnt (nn 9 (o31 [] true r524 :: .no :: [])) [65] [(78, pB (!r524))] [] [] (an g520.1 (an g520.2 (an g521 (an g522.1 (an g522.2 (an g523 (an (Less_cmp_intSpec (s15.1.getD (Int.toNat s15.2) 0) (c40e1 s15) r524 hr524) tv))))))) ?_))
          refine condM hm ?_ ?_
          ·intro h525 hm
           refine DW.exit ?_
           refine blockQ_other (by decide) ?_
           refine KQ_exit ?_
           refine joinQ_exit ?_
           refine KQ_exit ?_
           refine blockQ_exit ?_
           show DW _ _ _ _ _
           exact jD s15.1 hm Conv.t0
          ·intro h525 hm
           refine Sk ?_
           obtain ⟨g526, g527, g528, g529, hm⟩ := go4 hm
           obtain ⟨g530, g531, g532, g533, hm⟩ := go4 hm
           refine RN hnt (nn 18 []) [(0, ow 0 (c40e7 s15).length), (1, pI p1), (2, pI p2), (7, pI s12), (8, pI k1), (9, pI s15.2)] [(0, ob0 (roI (c40e7 s15)))] [(0, ow 0 s15.1.length)] [(0, .row 1 s15.1.length (c40e6 s15))] (an g526.1 (an g526.2 (an g527 (an g528.1 (an g528.2 (an g529 (an g530.1 (an g530.2 (an g531 (an g532.1 (an g532.2 (an g533 tv)))))))))))) (by kernel_rfl) (.cons rfl (MLe.ownLen (enc := encI) (d := 0) (f := (c40e6 s15)) (RowIs.updR (RowIs.upd RowIs.elems (c40e1 s15) rfl) (by omega) (s15.1.getD (Int.toNat s15.2) 0) rfl)) .nil) (.cons rfl (BLe.typed (RowIs.updR (RowIs.upd RowIs.elems (c40e1 s15) rfl) (by omega) (s15.1.getD (Int.toNat s15.2) 0) rfl)) .nil) ?_
           refine DW.done ?_
           show DW _ _ _ _ _
           refine RD hnt (nn 3 []) [] [(9, pI (w64 (s15.2 - 1)))] [] [] tv ?_
           exact jD ((c40e7 s15), (w64 (s15.2 - 1))) hm Conv.eqK
         ·intro h519 hm
          refine DW.exit ?_
          refine joinQ_exit ?_
          refine KQ_exit ?_
          refine blockQ_exit ?_
          show DW _ _ _ _ _
          exact jD s15.1 hm Conv.t0
        ·intro h503 hm
         refine Sk ?_
         exact jD (c40e4 s1 s12) hm Conv.t0
   ·rcases bt (decide (s12 < p2)) with h486 | h486
    ·replace hm := if_t h486 hm
     obtain ⟨g487, g488, g489, g490, hm⟩ := go4 hm
     obtain ⟨r491, hr491, hm⟩ := bo hm
     refine RD hnt (nn 13 (o31 [] true r491 :: .no :: pT :: [])) [] [(32, pB (!r491))] [] [] (an3 h486 (an g487.1 (an g487.2 (an h486 (an g488 (an4 h486 (an g489.1 (an g489.2 (an h486 (an g490 (an h486 (an (Less_cmp_intSpec (s1.1.getD (Int.toNat s12) 0) (s1.1.getD (Int.toNat (w64 (s12 - 1))) 0) r491 hr491) (an2 h486 tv))))))))))))) ?_
     exact jD (!r491) hm Conv.eqK
    ·replace hm := if_f h486 hm
     refine RD hnt (nn 4 (sk 11 (pF :: []))) [] [(32, pB false)] [] [] (an6 h486 (an6 h486 tv)) ?_
     exact jD false hm Conv.eqK
 ·intro h391
  have hge1 : ¬ k1 < 5 := by have := of_decide_eq_false h391; omega
  have hm := he1 hge1
  unfold partialInsertionSortOrdered_slices_intD1 at hm
  refine DW.exit ?_
  refine joinQ_exit ?_
  refine KQ_exit ?_
  refine blockQ_exit ?_
  show DW _ _ _ _ _
  refine Sq (RK hnt (.no :: []) [(6, pB false)] [(0, ob0 (roI s1.1))] tv ?_)
  obtain rfl := sj hm
  exact DW.ret (retK [roI s1.1] [] (pB false))
abbrev o40 (ks : List Nat) (b : Bool) (RES : Bool × (List Int)) : Orc := .call 78 ks b (pB RES.1) [roI RES.2] []

abbrev c41e1 (p0 : List Int) (p1 : Int) (p3 : Int) := (updF (updF (elI p0) (Int.toNat p1) [vi (p0.getD (Int.toNat p3) 0)]) (Int.toNat p3) (setRange ((updF (elI p0) (Int.toNat p1) [vi (p0.getD (Int.toNat p3) 0)]) (Int.toNat p3)) 0 [vi (p0.getD (Int.toNat p1) 0)]))
abbrev c41e2 (s1 : (List Int) × Int × Int) (s5 : Int) (s7 : Int) := (updF (updF (elI s1.1) (Int.toNat s5) [vi (s1.1.getD (Int.toNat s7) 0)]) (Int.toNat s7) (setRange ((updF (elI s1.1) (Int.toNat s5) [vi (s1.1.getD (Int.toNat s7) 0)]) (Int.toNat s7)) 0 [vi (s1.1.getD (Int.toNat s5) 0)]))
abbrev c41e3 (s1 : (List Int) × Int × Int) (s5 : Int) (s7 : Int) := ((s1.1.set (Int.toNat s5) (s1.1.getD (Int.toNat s7) 0)).set (Int.toNat s7) (s1.1.getD (Int.toNat s5) 0))
theorem partitionEqualOrdered_slices_intSpec (p0 : List Int) (p1 : Int) (p2 : Int) (p3 : Int) (RES : Int × (List Int)) (hm : partitionEqualOrdered_slices_int p0 p1 p2 p3 = some RES) : Spec Try.prog 80 [ow 0 p0.length, pI p1, pI p2, pI p3] [roI p0] (pI RES.1) [roI RES.2] [] := by
 unfold partitionEqualOrdered_slices_int at hm
 refine SO Try.func80 rfl rfl [(0, ow 0 p0.length), (1, pI p1), (2, pI p2), (3, pI p3)] [(0, ob0 (roI p0))] ?_
 intro cx hnt
 refine Sq (RD hnt (.no :: []) [] [] [] [] tv ?_)
 obtain ⟨g1, g2, g3, g4, hm⟩ := go4 hm
 obtain ⟨g5, g6, g7, g8, hm⟩ := go4 hm
 refine Sq (RN hnt (nn 16 []) [(0, ow 0 ((p0.set (Int.toNat p1) (p0.getD (Int.toNat p3) 0)).set (Int.toNat p3) (p0.getD (Int.toNat p1) 0)).length), (1, pI p1), (2, pI p2)] [(0, ob0 (roI ((p0.set (Int.toNat p1) (p0.getD (Int.toNat p3) 0)).set (Int.toNat p3) (p0.getD (Int.toNat p1) 0))))] [(0, ow 0 p0.length)] [(0, .row 1 p0.length (c41e1 p0 p1 p3))] (an g1.1 (an g1.2 (an g2 (an g3.1 (an g3.2 (an g4 (an g5.1 (an g5.2 (an g6 (an g7.1 (an g7.2 (an g8 tv)))))))))))) (by kernel_rfl) (.cons rfl (MLe.ownLen (enc := encI) (d := 0) (f := (c41e1 p0 p1 p3)) (RowIs.updR (RowIs.upd RowIs.elems (p0.getD (Int.toNat p3) 0) rfl) (by omega) (p0.getD (Int.toNat p1) 0) rfl)) .nil) (.cons rfl (BLe.typed (RowIs.updR (RowIs.upd RowIs.elems (p0.getD (Int.toNat p3) 0) rfl) (by omega) (p0.getD (Int.toNat p1) 0) rfl)) .nil) ?_)
 refine Sq (RD hnt (nn 6 []) [2] [(9, pI (w64 (p1 + 1))), (10, pI (w64 (p2 - 1)))] [] [] tv ?_)
 refine Sq (Bk ?_)
 refine DW.whileO (fun (s1 : (List Int) × Int × Int) => mkSt [(0, ow 0 s1.1.length), (1, pI p1), (9, pI s1.2.2), (10, pI s1.2.1)] [(0, ob0 (roI s1.1))]) hm Conv.eqK ?_
 intro s1 n1 hm
 unfold partitionEqualOrdered_slices_intL1 at hm
 refine Bk ?_
 refine Sq (Bk ?_)
 refine DW.whileO (fun (s5 : Int) => mkSt [(0, ow 0 s1.1.length), (1, pI p1), (9, pI s5), (10, pI s1.2.1)] [(0, ob0 (roI s1.1))]) hm .refl ?_
 intro s5 n5 hm
 unfold partitionEqualOrdered_slices_intL5 at hm
 refine Sq (Sq ?_)
 refine Jn (ι := Bool) (fun (y10 : Bool) => mkSt [(0, ow 0 s1.1.length), (1, pI p1), (9, pI s5), (10, pI s1.2.1), (43, pB y10)] [(0, ob0 (roI s1.1))]) (fun y10 => (partitionEqualOrdered_slices_intJ10 p1 s1 n1 s5 n5) y10 = some RES) ?_ ?_
 ·intro y10 hm
  unfold partitionEqualOrdered_slices_intJ10 at hm
  refine condM hm ?_ ?_
  ·intro h156 hm
   refine Sk ?_
   refine Bk ?_
   refine RD hnt (nn 3 []) [43] [(9, pI (w64 (s5 + 1)))] [] [] tv ?_
   refine DW.done ?_
   show DW _ _ _ _ _
   exact jD (w64 (s5 + 1)) hm Conv.eqK
  ·intro h156 hm
   refine DW.exit ?_
   refine joinQ_exit ?_
   refine KQ_exit ?_
   refine blockQ_exit ?_
   show DW _ _ _ _ _
   refine Sq (Bk ?_)
   refine DW.whileO (fun (s7 : Int) => mkSt [(0, ow 0 s1.1.length), (1, pI p1), (9, pI s5), (10, pI s7)] [(0, ob0 (roI s1.1))]) hm Conv.t0 ?_
   intro s7 n7 hm
   unfold partitionEqualOrdered_slices_intL7 at hm
   refine Sq (Sq ?_)
   refine Jn (ι := Bool) (fun (y12 : Bool) => mkSt [(0, ow 0 s1.1.length), (1, pI p1), (9, pI s5), (10, pI s7), (59, pB y12)] [(0, ob0 (roI s1.1))]) (fun y12 => (partitionEqualOrdered_slices_intJ12 s1 n1 s5 s7 n7) y12 = some RES) ?_ ?_
   ·intro y12 hm
    unfold partitionEqualOrdered_slices_intJ12 at hm
    refine condM hm ?_ ?_
    ·intro h179 hm
     refine Sk ?_
     refine Bk ?_
     refine RD hnt (nn 3 []) [59] [(10, pI (w64 (s7 - 1)))] [] [] tv ?_
     refine DW.done ?_
     show DW _ _ _ _ _
     exact jD (w64 (s7 - 1)) hm Conv.eqK
    ·intro h179 hm
     refine DW.exit ?_
     refine joinQ_exit ?_
     refine KQ_exit ?_
     refine blockQ_exit ?_
     show DW _ _ _ _ _
     refine Sq (Sq (RD hnt (nn 3 []) [59] [(64, pB (decide (s5 > s7)))] [] [] tv ?_))
     refine condM hm ?_ ?_
     ·intro h180 hm
      refine DW.exit ?_
      refine blockQ_other (by decide) ?_
      refine KQ_exit ?_
      refine joinQ_exit ?_
      refine KQ_exit ?_
      refine blockQ_exit ?_
      show DW _ _ _ _ _
      refine Sq (RK hnt (nn 2 []) [(8, pI s5)] [(0, ob0 (roI s1.1))] tv ?_)
      obtain rfl := sj hm
      exact DW.ret (retK [roI s1.1] [] (pI s5))
     ·intro h180 hm
      refine Sk ?_
      obtain ⟨g181, g182, g183, g184, hm⟩ := go4 hm
      obtain ⟨g185, g186, g187, g188, hm⟩ := go4 hm
      refine Sq (RN hnt (nn 16 []) [(0, ow 0 (c41e3 s1 s5 s7).length), (1, pI p1), (9, pI s5), (10, pI s7)] [(0, ob0 (roI (c41e3 s1 s5 s7)))] [(0, ow 0 s1.1.length)] [(0, .row 1 s1.1.length (c41e2 s1 s5 s7))] (an g181.1 (an g181.2 (an g182 (an g183.1 (an g183.2 (an g184 (an g185.1 (an g185.2 (an g186 (an g187.1 (an g187.2 (an g188 tv)))))))))))) (by kernel_rfl) (.cons rfl (MLe.ownLen (enc := encI) (d := 0) (f := (c41e2 s1 s5 s7)) (RowIs.updR (RowIs.upd RowIs.elems (s1.1.getD (Int.toNat s7) 0) rfl) (by omega) (s1.1.getD (Int.toNat s5) 0) rfl)) .nil) (.cons rfl (BLe.typed (RowIs.updR (RowIs.upd RowIs.elems (s1.1.getD (Int.toNat s7) 0) rfl) (by omega) (s1.1.getD (Int.toNat s5) 0) rfl)) .nil) ?_)
      refine Sq (RD hnt (nn 3 []) [] [(9, pI (w64 (s5 + 1)))] [] [] tv ?_)
      refine RD hnt (nn 3 []) [] [(10, pI (w64 (s7 - 1)))] [] [] tv ?_
      refine DW.done ?_
      show DW _ _ _ _ _
      exact jD ((c41e3 s1 s5 s7), (w64 (s7 - 1)), (w64 (s5 + 1))) hm Conv.eqK
   ·rcases bt (decide (s5 ≤ s7)) with h173 | h173
    ·replace hm := if_t h173 hm
     obtain ⟨g174, g175, g176, g177, hm⟩ := go4 hm
     obtain ⟨r178, hr178, hm⟩ := bo hm
     refine RD hnt (nn 12 (o31 [] true r178 :: pT :: [])) [] [(59, pB r178)] [] [] (an3 h173 (an g174.1 (an g174.2 (an h173 (an g175 (an3 h173 (an g176.1 (an g176.2 (an h173 (an g177 (an h173 (an (Less_cmp_intSpec (s1.1.getD (Int.toNat p1) 0) (s1.1.getD (Int.toNat s7) 0) r178 hr178) (an h173 tv))))))))))))) ?_
     exact jD r178 hm Conv.eqK
    ·replace hm := if_f h173 hm
     refine RD hnt (nn 4 (sk 9 (pF :: []))) [] [(59, pB false)] [] [] (an4 h173 (an6 h173 tv)) ?_
     exact jD false hm Conv.eqK
 ·rcases bt (decide (s5 ≤ s1.2.1)) with h150 | h150
  ·replace hm := if_t h150 hm
   obtain ⟨g151, g152, g153, g154, hm⟩ := go4 hm
   obtain ⟨r155, hr155, hm⟩ := bo hm
   refine RD hnt (nn 12 (o31 [] true r155 :: .no :: pT :: [])) [] [(43, pB (!r155))] [] [] (an3 h150 (an g151.1 (an g151.2 (an h150 (an g152 (an3 h150 (an g153.1 (an g153.2 (an h150 (an g154 (an h150 (an (Less_cmp_intSpec (s1.1.getD (Int.toNat p1) 0) (s1.1.getD (Int.toNat s5) 0) r155 hr155) (an2 h150 tv))))))))))))) ?_
   exact jD (!r155) hm Conv.eqK
  ·replace hm := if_f h150 hm
   refine RD hnt (nn 4 (sk 10 (pF :: []))) [] [(43, pB false)] [] [] (an5 h150 (an6 h150 tv)) ?_
   exact jD false hm Conv.eqK
abbrev o41 (ks : List Nat) (b : Bool) (RES : Int × (List Int)) : Orc := .call 80 ks b (pI RES.1) [roI RES.2] []

abbrev c42e1 (p0 : List Int) (p1 : Int) (p3 : Int) := ((p0.set (Int.toNat p1) (p0.getD (Int.toNat p3) 0)).set (Int.toNat p3) (p0.getD (Int.toNat p1) 0))
abbrev c42e2 (p0 : List Int) (p1 : Int) (p3 : Int) (s1 : Int) (s17 : Int) := (updF (updF (elI (c42e1 p0 p1 p3)) (Int.toNat s1) [vi ((c42e1 p0 p1 p3).getD (Int.toNat s17) 0)]) (Int.toNat s17) (setRange ((updF (elI (c42e1 p0 p1 p3)) (Int.toNat s1) [vi ((c42e1 p0 p1 p3).getD (Int.toNat s17) 0)]) (Int.toNat s17)) 0 [vi ((c42e1 p0 p1 p3).getD (Int.toNat s1) 0)]))
abbrev c42e3 (p0 : List Int) (p1 : Int) (p3 : Int) := (updF (updF (elI p0) (Int.toNat p1) [vi (p0.getD (Int.toNat p3) 0)]) (Int.toNat p3) (setRange ((updF (elI p0) (Int.toNat p1) [vi (p0.getD (Int.toNat p3) 0)]) (Int.toNat p3)) 0 [vi (p0.getD (Int.toNat p1) 0)]))
abbrev c42e4 (s25 : (List Int) × Int × Int) (s29 : Int) (s31 : Int) := (updF (updF (elI s25.1) (Int.toNat s29) [vi (s25.1.getD (Int.toNat s31) 0)]) (Int.toNat s31) (setRange ((updF (elI s25.1) (Int.toNat s29) [vi (s25.1.getD (Int.toNat s31) 0)]) (Int.toNat s31)) 0 [vi (s25.1.getD (Int.toNat s29) 0)]))
abbrev c42e5 (s25 : (List Int) × Int × Int) (s29 : Int) (s31 : Int) := ((s25.1.set (Int.toNat s29) (s25.1.getD (Int.toNat s31) 0)).set (Int.toNat s31) (s25.1.getD (Int.toNat s29) 0))
theorem partitionOrdered_slices_intSpec (p0 : List Int) (p1 : Int) (p2 : Int) (p3 : Int) (RES : Int × Bool × (List Int)) (hm : partitionOrdered_slices_int p0 p1 p2 p3 = some RES) : Spec Try.prog 81 [ow 0 p0.length, pI p1, pI p2, pI p3] [roI p0] (.p (.tup [vi RES.1, vb RES.2.1])) [roI RES.2.2] [] := by
 unfold partitionOrdered_slices_int at hm
 refine SO Try.func81 rfl rfl [(0, ow 0 p0.length), (1, pI p1), (2, pI p2), (3, pI p3)] [(0, ob0 (roI p0))] ?_
 intro cx hnt
 refine Sq (RD hnt (nn 2 []) [] [] [] [] tv ?_)
 obtain ⟨g1, g2, g3, g4, hm⟩ := go4 hm
 obtain ⟨g5, g6, g7, g8, hm⟩ := go4 hm
 refine Sq (RN hnt (nn 16 []) [(0, ow 0 (c42e1 p0 p1 p3).length), (1, pI p1), (2, pI p2)] [(0, ob0 (roI (c42e1 p0 p1 p3)))] [(0, ow 0 p0.length)] [(0, .row 1 p0.length (c42e3 p0 p1 p3))] (an g1.1 (an g1.2 (an g2 (an g3.1 (an g3.2 (an g4 (an g5.1 (an g5.2 (an g6 (an g7.1 (an g7.2 (an g8 tv)))))))))))) (by kernel_rfl) (.cons rfl (MLe.ownLen (enc := encI) (d := 0) (f := (c42e3 p0 p1 p3)) (RowIs.updR (RowIs.upd RowIs.elems (p0.getD (Int.toNat p3) 0) rfl) (by omega) (p0.getD (Int.toNat p1) 0) rfl)) .nil) (.cons rfl (BLe.typed (RowIs.updR (RowIs.upd RowIs.elems (p0.getD (Int.toNat p3) 0) rfl) (by omega) (p0.getD (Int.toNat p1) 0) rfl)) .nil) ?_)
 refine Sq (RD hnt (nn 6 []) [2] [(10, pI (w64 (p1 + 1))), (11, pI (w64 (p2 - 1)))] [] [] tv ?_)
 refine Sq (Bk ?_)
 refine DW.whileO (fun (s1 : Int) => mkSt [(0, ow 0 (c42e1 p0 p1 p3).length), (1, pI p1), (10, pI s1), (11, pI (w64 (p2 - 1)))] [(0, ob0 (roI (c42e1 p0 p1 p3)))]) hm Conv.eqK ?_
 intro s1 n1 hm
 unfold partitionOrdered_slices_intL1 at hm
 refine Sq (Sq ?_)
 refine Jn (ι := Bool) (fun (y28 : Bool) => mkSt [(0, ow 0 (c42e1 p0 p1 p3).length), (1, pI p1), (10, pI s1), (11, pI (w64 (p2 - 1))), (43, pB y28)] [(0, ob0 (roI (c42e1 p0 p1 p3)))]) (fun y28 => (partitionOrdered_slices_intJ28 p0 p1 p2 p3 s1 n1) y28 = some RES) ?_ ?_
 ·intro y28 hm
  unfold partitionOrdered_slices_intJ28 at hm
  refine condM hm ?_ ?_
  ·intro h588 hm
   refine Sk ?_
   refine Bk ?_
   refine RD hnt (nn 3 []) [43] [(10, pI (w64 (s1 + 1)))] [] [] tv ?_
   refine DW.done ?_
   show DW _ _ _ _ _
   exact jD (w64 (s1 + 1)) hm Conv.eqK
  ·intro h588 hm
   refine DW.exit ?_
   refine joinQ_exit ?_
   refine KQ_exit ?_
   refine blockQ_exit ?_
   show DW _ _ _ _ _
   refine Sq (Bk ?_)
   refine DW.whileO (fun (s17 : Int) => mkSt [(0, ow 0 (c42e1 p0 p1 p3).length), (1, pI p1), (10, pI s1), (11, pI s17)] [(0, ob0 (roI (c42e1 p0 p1 p3)))]) hm Conv.t0 ?_
   intro s17 n17 hm
   unfold partitionOrdered_slices_intL17 at hm
   refine Sq (Sq ?_)
   refine Jn (ι := Bool) (fun (y42 : Bool) => mkSt [(0, ow 0 (c42e1 p0 p1 p3).length), (1, pI p1), (10, pI s1), (11, pI s17), (60, pB y42)] [(0, ob0 (roI (c42e1 p0 p1 p3)))]) (fun y42 => (partitionOrdered_slices_intJ42 p0 p1 p3 s1 s17 n17) y42 = some RES) ?_ ?_
   ·intro y42 hm
    unfold partitionOrdered_slices_intJ42 at hm
    refine condM hm ?_ ?_
    ·intro h875 hm
     refine Sk ?_
     refine Bk ?_
     refine RD hnt (nn 3 []) [60] [(11, pI (w64 (s17 - 1)))] [] [] tv ?_
     refine DW.done ?_
     show DW _ _ _ _ _
     exact jD (w64 (s17 - 1)) hm Conv.eqK
    ·intro h875 hm
     refine DW.exit ?_
     refine joinQ_exit ?_
     refine KQ_exit ?_
     refine blockQ_exit ?_
     show DW _ _ _ _ _
     refine Sq (Sq (RD hnt (nn 3 []) [60] [(65, pB (decide (s1 > s17)))] [] [] tv ?_))
     refine condM hm ?_ ?_
     ·intro h876 hm
      obtain ⟨g877, g878, g879, g880, hm⟩ := go4 hm
      obtain ⟨g881, g882, g883, g884, hm⟩ := go4 hm
      refine Sq (RN hnt (nn 16 []) [(11, pI s17)] [(0, ob0 (roI (((c42e1 p0 p1 p3).set (Int.toNat s17) ((c42e1 p0 p1 p3).getD (Int.toNat p1) 0)).set (Int.toNat p1) ((c42e1 p0 p1 p3).getD (Int.toNat s17) 0))))] [] [(0, .row 1 (c42e1 p0 p1 p3).length (updF (updF (elI (c42e1 p0 p1 p3)) (Int.toNat s17) [vi ((c42e1 p0 p1 p3).getD (Int.toNat p1) 0)]) (Int.toNat p1) (setRange ((updF (elI (c42e1 p0 p1 p3)) (Int.toNat s17) [vi ((c42e1 p0 p1 p3).getD (Int.toNat p1) 0)]) (Int.toNat p1)) 0 [vi ((c42e1 p0 p1 p3).getD (Int.toNat s17) 0)])))] (an g877.1 (an g877.2 (an g878 (an g879.1 (an g879.2 (an g880 (an g881.1 (an g881.2 (an g882 (an g883.1 (an g883.2 (an g884 tv)))))))))))) (by kernel_rfl) .nil (.cons rfl (BLe.typed (RowIs.updR (RowIs.upd RowIs.elems ((c42e1 p0 p1 p3).getD (Int.toNat p1) 0) rfl) (by omega) ((c42e1 p0 p1 p3).getD (Int.toNat s17) 0) rfl)) .nil) ?_)
      refine Sq (RD hnt (nn 3 []) [11] [(8, pI s17), (9, pB true)] [] [] tv ?_)
      obtain rfl := sj hm
      exact DW.ret (retK [roI (((c42e1 p0 p1 p3).set (Int.toNat s17) ((c42e1 p0 p1 p3).getD (Int.toNat p1) 0)).set (Int.toNat p1) ((c42e1 p0 p1 p3).getD (Int.toNat s17) 0))] [] (.p (.tup [vi s17, vb true])))
     ·intro h876 hm
      refine Sk ?_
      obtain ⟨g885, g886, g887, g888, hm⟩ := go4 hm
      obtain ⟨g889, g890, g891, g892, hm⟩ := go4 hm
      refine Sq (RN hnt (nn 16 []) [(0, ow 0 (((c42e1 p0 p1 p3).set (Int.toNat s1) ((c42e1 p0 p1 p3).getD (Int.toNat s17) 0)).set (Int.toNat s17) ((c42e1 p0 p1 p3).getD (Int.toNat s1) 0)).length), (1, pI p1), (10, pI s1), (11, pI s17)] [(0, ob0 (roI (((c42e1 p0 p1 p3).set (Int.toNat s1) ((c42e1 p0 p1 p3).getD (Int.toNat s17) 0)).set (Int.toNat s17) ((c42e1 p0 p1 p3).getD (Int.toNat s1) 0))))] [(0, ow 0 (c42e1 p0 p1 p3).length)] [(0, .row 1 (c42e1 p0 p1 p3).length (c42e2 p0 p1 p3 s1 s17))] (an g885.1 (an g885.2 (an g886 (an g887.1 (an g887.2 (an g888 (an g889.1 (an g889.2 (an g890 (an g891.1 (an g891.2 (an g892 tv)))))))))))) (by kernel_rfl) (.cons rfl (MLe.ownLen (enc := encI) (d := 0) (f := (c42e2 p0 p1 p3 s1 s17)) (RowIs.updR (RowIs.upd RowIs.elems ((c42e1 p0 p1 p3).getD (Int.toNat s17) 0) rfl) (by omega) ((c42e1 p0 p1 p3).getD (Int.toNat s1) 0) rfl)) .nil) (.cons rfl (BLe.typed (RowIs.updR (RowIs.upd RowIs.elems ((c42e1 p0 p1 p3).getD (Int.toNat s17) 0) rfl) (by omega) ((c42e1 p0 p1 p3).getD (Int.toNat s1) 0) rfl)) .nil) ?_)
      refine Sq (RD hnt (nn 3 []) [] [(10, pI (w64 (s1 + 1)))] [] [] tv ?_)
      refine Sq (RD hnt (nn 3 []) [] [(11, pI (w64 (s17 - 1)))] [] [] tv ?_)
      refine Sq (Bk ?_)
      refine DW.whileO (fun (s25 : (List Int) × Int × Int) => mkSt [(0, ow 0 s25.1.length), (1, pI p1), (10, pI s25.2.1), (11, pI s25.2.2)] [(0, ob0 (roI s25.1))]) hm Conv.eqK ?_
      intro s25 n25 hm
      unfold partitionOrdered_slices_intL25 at hm
      refine Bk ?_
      refine Sq (Bk ?_)
      refine DW.whileO (fun (s29 : Int) => mkSt [(0, ow 0 s25.1.length), (1, pI p1), (10, pI s29), (11, pI s25.2.2)] [(0, ob0 (roI s25.1))]) hm .refl ?_
      intro s29 n29 hm
      unfold partitionOrdered_slices_intL29 at hm
      refine Sq (Sq ?_)
      refine Jn (ι := Bool) (fun (y52 : Bool) => mkSt [(0, ow 0 s25.1.length), (1, pI p1), (10, pI s29), (11, pI s25.2.2), (112, pB y52)] [(0, ob0 (roI s25.1))]) (fun y52 => (partitionOrdered_slices_intJ52 p1 s25 n25 s29 n29) y52 = some RES) ?_ ?_
      ·intro y52 hm
       unfold partitionOrdered_slices_intJ52 at hm
       refine condM hm ?_ ?_
       ·intro h1088 hm
        refine Sk ?_
        refine Bk ?_
        refine RD hnt (nn 3 []) [112] [(10, pI (w64 (s29 + 1)))] [] [] tv ?_
        refine DW.done ?_
        show DW _ _ _ _ _
        exact jD (w64 (s29 + 1)) hm Conv.eqK
       ·intro h1088 hm
        refine DW.exit ?_
        refine joinQ_exit ?_
        refine KQ_exit ?_
        refine blockQ_exit ?_
        show DW _ _ _ _ _
        refine Sq (Bk ?_)
        refine DW.whileO (fun (s31 : Int) => mkSt [(0, ow 0 s25.1.length), (1, pI p1), (10, pI s29), (11, pI s31)] [(0, ob0 (roI s25.1))]) hm Conv.t0 ?_
        intro s31 n31 hm
        unfold partitionOrdered_slices_intL31 at hm
        refine Sq (Sq ?_)
        refine Jn (ι := Bool) (fun (y54 : Bool) => mkSt [(0, ow 0 s25.1.length), (1, pI p1), (10, pI s29), (11, pI s31), (129, pB y54)] [(0, ob0 (roI s25.1))]) (fun y54 => (partitionOrdered_slices_intJ54 p1 s25 n25 s29 s31 n31) y54 = some RES) ?_ ?_
        ·intro y54 hm
         unfold partitionOrdered_slices_intJ54 at hm
         refine condM hm ?_ ?_
         ·intro h1119 hm
          refine Sk ?_
          refine Bk ?_
          refine RD hnt (nn 3 []) [129] [(11, pI (w64 (s31 - 1)))] [] [] tv ?_
          refine DW.done ?_
          show DW _ _ _ _ _
          exact jD (w64 (s31 - 1)) hm Conv.eqK
         ·intro h1119 hm
          refine DW.exit ?_
          refine joinQ_exit ?_
          refine KQ_exit ?_
          refine blockQ_exit ?_
          show DW _ _ _ _ _
          refine Sq (Sq (RD hnt (nn 3 []) [129] [(134, pB (decide (s29 > s31)))] [] [] tv ?_))
          refine condM hm ?_ ?_
          ·intro h1120 hm
           refine DW.exit ?_
           refine blockQ_other (by decide) ?_
           refine KQ_exit ?_
           refine joinQ_exit ?_
           refine KQ_exit ?_
           refine blockQ_exit ?_
           show DW _ _ _ _ _
           obtain ⟨g1121, g1122, g1123, g1124, hm⟩ := go4 hm
           obtain ⟨g1125, g1126, g1127, g1128, hm⟩ := go4 hm
           refine Sq (RN hnt (nn 16 []) [(11, pI s31)] [(0, ob0 (roI ((s25.1.set (Int.toNat s31) (s25.1.getD (Int.toNat p1) 0)).set (Int.toNat p1) (s25.1.getD (Int.toNat s31) 0))))] [] [(0, .row 1 s25.1.length (updF (updF (elI s25.1) (Int.toNat s31) [vi (s25.1.getD (Int.toNat p1) 0)]) (Int.toNat p1) (setRange ((updF (elI s25.1) (Int.toNat s31) [vi (s25.1.getD (Int.toNat p1) 0)]) (Int.toNat p1)) 0 [vi (s25.1.getD (Int.toNat s31) 0)])))] (an g1121.1 (an g1121.2 (an g1122 (an g1123.1 (an g1123.2 (an g1124 (an g1125.1 (an g1125.2 (an g1126 (an g1127.1 (an g1127.2 (an g1128 tv)))))))))))) (by kernel_rfl) .nil (.cons rfl (BLe.typed (RowIs.updR (RowIs.upd RowIs.elems (s25.1.getD (Int.toNat p1) 0) rfl) (by omega) (s25.1.getD (Int.toNat s31) 0) rfl)) .nil) ?_)
           refine Sq (RD hnt (nn 3 []) [11] [(8, pI s31), (9, pB false)] [] [] tv ?_)
           obtain rfl := sj hm
           exact DW.ret (retK [roI ((s25.1.set (Int.toNat s31) (s25.1.getD (Int.toNat p1) 0)).set (Int.toNat p1) (s25.1.getD (Int.toNat s31) 0))] [] (.p (.tup [vi s31, vb false])))
          ·intro h1120 hm
           refine Sk ?_
           obtain ⟨g1129, g1130, g1131, g1132, hm⟩ := go4 hm
           obtain ⟨g1133, g1134, g1135, g1136, hm⟩ := go4 hm
           refine Sq (RN hnt (nn 16 []) [(0, ow 0 (c42e5 s25 s29 s31).length), (1, pI p1), (10, pI s29), (11, pI s31)] [(0, ob0 (roI (c42e5 s25 s29 s31)))] [(0, ow 0 s25.1.length)] [(0, .row 1 s25.1.length (c42e4 s25 s29 s31))] (an g1129.1 (an g1129.2 (an g1130 (an g1131.1 (an g1131.2 (an g1132 (an g1133.1 (an g1133.2 (an g1134 (an g1135.1 (an g1135.2 (an g1136 tv)))))))))))) (by kernel_rfl) (.cons rfl (MLe.ownLen (enc := encI) (d := 0) (f := (c42e4 s25 s29 s31)) (RowIs.updR (RowIs.upd RowIs.elems (s25.1.getD (Int.toNat s31) 0) rfl) (by omega) (s25.1.getD (Int.toNat s29) 0) rfl)) .nil) (.cons rfl (BLe.typed (RowIs.updR (RowIs.upd RowIs.elems (s25.1.getD (Int.toNat s31) 0) rfl) (by omega) (s25.1.getD (Int.toNat s29) 0) rfl)) .nil) ?_)
           refine Sq (RD hnt (nn 3 []) [] [(10, pI (w64 (s29 + 1)))] [] [] tv ?_)
           refine RD hnt (nn 3 []) [] [(11, pI (w64 (s31 - 1)))] [] [] tv ?_
           refine DW.done ?_
           show DW _ _ _ _ _
           exact jD ((c42e5 s25 s29 s31), (w64 (s29 + 1)), (w64 (s31 - 1))) hm Conv.eqK
        ·rcases bt (decide (s29 ≤ s31)) with h1113 | h1113
         ·replace hm := if_t h1113 hm
          obtain ⟨g1114, g1115, g1116, g1117, hm⟩ := go4 hm
          obtain ⟨r1118, hr1118, hm⟩ := bo hm
          refine RD hnt (nn 12 (o31 [] true r1118 :: .no :: pT :: [])) [] [(129, pB (!r1118))] [] [] (an3 h1113 (an g1114.1 (an g1114.2 (an h1113 (an g1115 (an3 h1113 (an g1116.1 (an g1116.2 (an h1113 (an g1117 (an h1113 (an (Less_cmp_intSpec (s25.1.getD (Int.toNat s31) 0) (s25.1.getD (Int.toNat p1) 0) r1118 hr1118) (an2 h1113 tv))))))))))))) ?_
          exact jD (!r1118) hm Conv.eqK
         ·replace hm := if_f h1113 hm
          refine RD hnt (nn 4 (sk 10 (pF :: []))) [] [(129, pB false)] [] [] (an5 h1113 (an6 h1113 tv)) ?_
          exact jD false hm Conv.eqK
      ·rcases bt (decide (s29 ≤ s25.2.2)) with h1082 | h1082
       ·replace hm := if_t h1082 hm
        obtain ⟨g1083, g1084, g1085, g1086, hm⟩ := go4 hm
        obtain ⟨r1087, hr1087, hm⟩ := bo hm
        refine RD hnt (nn 12 (o31 [] true r1087 :: pT :: [])) [] [(112, pB r1087)] [] [] (an3 h1082 (an g1083.1 (an g1083.2 (an h1082 (an g1084 (an3 h1082 (an g1085.1 (an g1085.2 (an h1082 (an g1086 (an h1082 (an (Less_cmp_intSpec (s25.1.getD (Int.toNat s29) 0) (s25.1.getD (Int.toNat p1) 0) r1087 hr1087) (an h1082 tv))))))))))))) ?_
        exact jD r1087 hm Conv.eqK
       ·replace hm := if_f h1082 hm
        refine RD hnt (nn 4 (sk 9 (pF :: []))) [] [(112, pB false)] [] [] (an4 h1082 (an6 h1082 tv)) ?_
        exact jD false hm Conv.eqK
   ·rcases bt (decide (s1 ≤ s17)) with h869 | h869
    ·replace hm := if_t h869 hm
     obtain ⟨g870, g871, g872, g873, hm⟩ := go4 hm
     obtain ⟨r874, hr874, hm⟩ := bo hm
     refine RD hnt (nn 12 (o31 [] true r874 :: .no :: pT :: [])) [] [(60, pB (!r874))] [] [] (an3 h869 (an g870.1 (an g870.2 (an h869 (an g871 (an3 h869 (an g872.1 (an g872.2 (an h869 (an g873 (an h869 (an (Less_cmp_intSpec ((c42e1 p0 p1 p3).getD (Int.toNat s17) 0) ((c42e1 p0 p1 p3).getD (Int.toNat p1) 0) r874 hr874) (an2 h869 tv))))))))))))) ?_
     exact jD (!r874) hm Conv.eqK
    ·replace hm := if_f h869 hm
     refine RD hnt (nn 4 (sk 10 (pF :: []))) [] [(60, pB false)] [] [] (an5 h869 (an6 h869 tv)) ?_
     exact jD false hm Conv.eqK
 ·rcases bt (decide (s1 ≤ (w64 (p2 - 1)))) with h582 | h582
  ·replace hm := if_t h582 hm
   obtain ⟨g583, g584, g585, g586, hm⟩ := go4 hm
   obtain ⟨r587, hr587, hm⟩ := bo hm
   refine RD hnt (nn 12 (o31 [] true r587 :: pT :: [])) [] [(43, pB r587)] [] [] (an3 h582 (an g583.1 (an g583.2 (an h582 (an g584 (an3 h582 (an g585.1 (an g585.2 (an h582 (an g586 (an h582 (an (Less_cmp_intSpec ((c42e1 p0 p1 p3).getD (Int.toNat s1) 0) ((c42e1 p0 p1 p3).getD (Int.toNat p1) 0) r587 hr587) (an h582 tv))))))))))))) ?_
   exact jD r587 hm Conv.eqK
  ·replace hm := if_f h582 hm
   refine RD hnt (nn 4 (sk 9 (pF :: []))) [] [(43, pB false)] [] [] (an4 h582 (an6 h582 tv)) ?_
   exact jD false hm Conv.eqK
abbrev o42 (ks : List Nat) (b : Bool) (RES : Int × Bool × (List Int)) : Orc := .call 81 ks b (.p (.tup [vi RES.1, vb RES.2.1])) [roI RES.2.2] []

theorem nextPowerOfTwo_slicesSpec (p0 : Int) (RES : Int) (hm : nextPowerOfTwo_slices p0 = some RES) : Spec Try.prog 88 [pI p0] [] (.p (vk .u64 RES)) [] [] := by
 unfold nextPowerOfTwo_slices at hm
 refine SO Try.func88 rfl rfl [(0, pI p0)] [] ?_
 intro cx hnt
 refine Sq (RK hnt (.no :: []) [(0, pI p0)] [] tv ?_)
 obtain ⟨r1, hr1, hm⟩ := bo hm
 obtain ⟨g2, hm⟩ := go1 hm
 refine Sq (RK hnt (nn 2 (o27 [] true r1 :: nn 2 [])) [(2, .p (vk .u64 (kshl .u64 1 r1)))] [] (an (Len_bitsSpec (IntKind.u64.wrap p0) r1 hr1) (an g2 tv)) ?_)
 obtain rfl := sj hm
 exact DW.ret (retK [] [] (.p (vk .u64 (kshl .u64 1 r1))))
abbrev o44 (ks : List Nat) (b : Bool) (RES : Int) : Orc := .call 88 ks b (.p (vk .u64 RES)) [] []

theorem Next_xorshift_slicesSpec (p0 : Int) (RES : Int × Int) (hm : Next_xorshift_slices p0 = some RES) : Spec Try.prog 89 [rr 0] [.box [.p (vk .u64 p0)]] (.p (vk .u64 RES.1)) [.box [.p (vk .u64 RES.2)]] [] := by
 unfold Next_xorshift_slices at hm
 refine SO Try.func89 rfl rfl [(0, rr 0)] [(0, bx [.p (vk .u64 p0)])] ?_
 intro cx hnt
 refine Sq (RD hnt (.no :: []) [] [] [] [] tv ?_)
 refine Sq (RK hnt (nn 10 []) [(0, rr 0)] [(0, bx [.p (vk .u64 (kxor .u64 p0 (kshl .u64 p0 13)))])] (an (by decide : (0 : Int) ≤ 13) tv) ?_)
 refine Sq (RK hnt (nn 10 []) [(0, rr 0)] [(0, bx [.p (vk .u64 (kxor .u64 (kxor .u64 p0 (kshl .u64 p0 13)) (kshr .u64 (kxor .u64 p0 (kshl .u64 p0 13)) 7)))])] (an (by decide : (0 : Int) ≤ 7) tv) ?_)
 refine Sq (RK hnt (nn 10 []) [(0, rr 0)] [(0, bx [.p (vk .u64 (kxor .u64 (kxor .u64 (kxor .u64 p0 (kshl .u64 p0 13)) (kshr .u64 (kxor .u64 p0 (kshl .u64 p0 13)) 7)) (kshl .u64 (kxor .u64 (kxor .u64 p0 (kshl .u64 p0 13)) (kshr .u64 (kxor .u64 p0 (kshl .u64 p0 13)) 7)) 17)))])] (an (by decide : (0 : Int) ≤ 17) tv) ?_)
 refine Sq (RD hnt (nn 4 []) [0] [(2, .p (vk .u64 (kxor .u64 (kxor .u64 (kxor .u64 p0 (kshl .u64 p0 13)) (kshr .u64 (kxor .u64 p0 (kshl .u64 p0 13)) 7)) (kshl .u64 (kxor .u64 (kxor .u64 p0 (kshl .u64 p0 13)) (kshr .u64 (kxor .u64 p0 (kshl .u64 p0 13)) 7)) 17))))] [] [] tv ?_)
 obtain rfl := sj hm
 exact DW.ret (retK [.box [.p (vk .u64 (kxor .u64 (kxor .u64 (kxor .u64 p0 (kshl .u64 p0 13)) (kshr .u64 (kxor .u64 p0 (kshl .u64 p0 13)) 7)) (kshl .u64 (kxor .u64 (kxor .u64 p0 (kshl .u64 p0 13)) (kshr .u64 (kxor .u64 p0 (kshl .u64 p0 13)) 7)) 17)))]] [] (.p (vk .u64 (kxor .u64 (kxor .u64 (kxor .u64 p0 (kshl .u64 p0 13)) (kshr .u64 (kxor .u64 p0 (kshl .u64 p0 13)) 7)) (kshl .u64 (kxor .u64 (kxor .u64 p0 (kshl .u64 p0 13)) (kshr .u64 (kxor .u64 p0 (kshl .u64 p0 13)) 7)) 17)))))
abbrev o45 (ks : List Nat) (b : Bool) (RES : Int × Int) : Orc := .call 89 ks b (.p (vk .u64 RES.1)) [.box [.p (vk .u64 RES.2)]] []

abbrev c43e1 (s1 : (List Int) × Int × Int) (p1 : Int) (y2 : Int) := (updF (updF (elI s1.1) (Int.toNat s1.2.2) [vi (s1.1.getD (Int.toNat (w64 (p1 + y2))) 0)]) (Int.toNat (w64 (p1 + y2))) (setRange ((updF (elI s1.1) (Int.toNat s1.2.2) [vi (s1.1.getD (Int.toNat (w64 (p1 + y2))) 0)]) (Int.toNat (w64 (p1 + y2)))) 0 [vi (s1.1.getD (Int.toNat s1.2.2) 0)]))
abbrev c43e2 (s1 : (List Int) × Int × Int) (p1 : Int) (y2 : Int) := ((s1.1.set (Int.toNat s1.2.2) (s1.1.getD (Int.toNat (w64 (p1 + y2))) 0)).set (Int.toNat (w64 (p1 + y2))) (s1.1.getD (Int.toNat s1.2.2) 0))
abbrev c43e3 (r15 : Int × Int) (r2 : Int) := (w64 (kand .u64 r15.1 (IntKind.u64.wrap (r2 - 1))))
theorem breakPatternsOrdered_slices_intSpec (p0 : List Int) (p1 : Int) (p2 : Int) (RES : List Int) (hm : breakPatternsOrdered_slices_int p0 p1 p2 = some RES) : Spec Try.prog 75 [ow 0 p0.length, pI p1, pI p2] [roI p0] (.p (.tup [])) [roI RES] [] := by
 unfold breakPatternsOrdered_slices_int at hm
 refine SO Try.func75 rfl rfl [(0, ow 0 p0.length), (1, pI p1), (2, pI p2)] [(0, ob0 (roI p0))] ?_
 intro cx hnt
 refine Sq (RD hnt (nn 4 []) [2] [(6, pI (w64 (p2 - p1)))] [] [] tv ?_)
 refine Sq (RD hnt (nn 2 []) [] [(15, pB (decide ((w64 (p2 - p1)) ≥ 8)))] [] [] tv ?_)
 refine condM hm ?_ ?_
 ·intro h1 hm
  refine Sq (RD hnt (nn 4 []) [15] [(7, rr 1056)] [] [(1056, bx [.p (vk .u64 (IntKind.u64.wrap (w64 (p2 - p1))))])] tv ?_)
  obtain ⟨r2, hr2, hm⟩ := bo hm
  refine Sq (RD hnt (.no :: o44 [] true r2 :: .no :: []) [] [(8, .p (vk .u64 r2))] [] [] (an (nextPowerOfTwo_slicesSpec (w64 (p2 - p1)) r2 hr2) tv) ?_)
  refine Sq (RD hnt (nn 7 []) [] [(9, pI (w64 ((w64 (p1 + (w64 ((w64 (Int.tdiv (w64 (p2 - p1)) 4)) * 2)))) - 1)))] [] [] (an (by decide : (4 : Int) ≠ 0) tv) ?_)
  refine Bk ?_
  refine DW.whileO (fun (s1 : (List Int) × Int × Int) => mkSt [(0, ow 0 s1.1.length), (1, pI p1), (6, pI (w64 (p2 - p1))), (7, rr 1056), (8, .p (vk .u64 r2)), (9, pI s1.2.2)] [(0, ob0 (roI s1.1)), (1056, bx [.p (vk .u64 s1.2.1)])]) hm Conv.eqK ?_
  intro s1 n1 hm
  unfold breakPatternsOrdered_slices_intL1 at hm
  refine Sq (Sq (RD hnt (nn 8 []) [] [(33, pB (decide (s1.2.2 ≤ (w64 ((w64 (p1 + (w64 ((w64 (Int.tdiv (w64 (p2 - p1)) 4)) * 2)))) + 1)))))] [] [] (an (by decide : (4 : Int) ≠ 0) tv) ?_))
  refine condM hm ?_ ?_
  ·intro h14 hm
   refine Sk ?_
   refine Sq (Bk ?_)
   obtain ⟨r15, hr15, hm⟩ := bo hm
   refine Sq (RD hnt (o45 [1056] true r15 :: nn 5 []) [33] [(10, pI (c43e3 r15 r2))] [] [(1056, bx [.p (vk .u64 r15.2)])] (an (Next_xorshift_slicesSpec s1.2.1 r15 hr15) (an tv tv)) ?_)
   refine Sq (Sq (RD hnt (nn 3 []) [] [(43, pB (decide ((c43e3 r15 r2) ≥ (w64 (p2 - p1)))))] [] [] tv ?_))
   refine Jn (ι := Int) (fun (y2 : Int) => mkSt [(0, ow 0 s1.1.length), (1, pI p1), (6, pI (w64 (p2 - p1))), (7, rr 1056), (8, .p (vk .u64 r2)), (9, pI s1.2.2), (10, pI y2)] [(0, ob0 (roI s1.1)), (1056, bx [.p (vk .u64 r15.2)])]) (fun y2 => (breakPatternsOrdered_slices_intJ2 p1 s1 n1 r15) y2 = some RES) ?_ ?_
   ·intro y2 hm
    unfold breakPatternsOrdered_slices_intJ2 at hm
    obtain ⟨g17, g18, g19, g20, hm⟩ := go4 hm
    obtain ⟨g21, g22, g23, g24, hm⟩ := go4 hm
    refine RN hnt (nn 20 []) [(0, ow 0 (c43e2 s1 p1 y2).length), (1, pI p1), (6, pI (w64 (p2 - p1))), (7, rr 1056), (8, .p (vk .u64 r2)), (9, pI s1.2.2)] [(0, ob0 (roI (c43e2 s1 p1 y2))), (1056, bx [.p (vk .u64 r15.2)])] [(0, ow 0 s1.1.length)] [(0, .row 1 s1.1.length (c43e1 s1 p1 y2))] (an g17.1 (an g17.2 (an g18 (an g19.1 (an g19.2 (an g20 (an g21.1 (an g21.2 (an g22 (an g23.1 (an g23.2 (an g24 tv)))))))))))) (by kernel_rfl) (.cons rfl (MLe.ownLen (enc := encI) (d := 0) (f := (c43e1 s1 p1 y2)) (RowIs.updR (RowIs.upd RowIs.elems (s1.1.getD (Int.toNat (w64 (p1 + y2))) 0) rfl) (by omega) (s1.1.getD (Int.toNat s1.2.2) 0) rfl)) .nil) (.cons rfl (BLe.typed (RowIs.updR (RowIs.upd RowIs.elems (s1.1.getD (Int.toNat (w64 (p1 + y2))) 0) rfl) (by omega) (s1.1.getD (Int.toNat s1.2.2) 0) rfl)) .nil) ?_
    refine DW.done ?_
    show DW _ _ _ _ _
    refine RD hnt (nn 3 []) [] [(9, pI (w64 (s1.2.2 + 1)))] [] [] tv ?_
    exact jD ((c43e2 s1 p1 y2), r15.2, (w64 (s1.2.2 + 1))) hm Conv.eqK
   ·refine condM hm ?_ ?_
    ·intro h16 hm
     refine RD hnt (nn 4 []) [43] [(10, pI (w64 ((c43e3 r15 r2) - (w64 (p2 - p1)))))] [] [] tv ?_
     exact jD (w64 ((c43e3 r15 r2) - (w64 (p2 - p1)))) hm Conv.eqK
    ·intro h16 hm
     refine Sk ?_
     exact jD (c43e3 r15 r2) hm Conv.t0
  ·intro h14 hm
   refine DW.exit ?_
   refine joinQ_exit ?_
   refine KQ_exit ?_
   refine blockQ_exit ?_
   show DW _ _ _ _ _
   refine DW.done ?_
   obtain rfl := sj hm
   exact endK [roI s1.1] [] (.p (.tup []))
 ·intro h1 hm
  refine Sk ?_
  refine DW.done ?_
  obtain rfl := sj hm
  exact endK [roI p0] [] (.p (.tup []))
abbrev o43 (ks : List Nat) (b : Bool) (RES : List Int) : Orc := .call 75 ks b (.p (.tup [])) [roI RES] []

abbrev c29e1 (s1 : (List Int) × Int × Int × Int × Bool × Bool) : Nat × MV := (10, pI (w64 (s1.2.2.1 - s1.2.1)))
abbrev c29e2 (s1 : (List Int) × Int × Int × Int × Bool × Bool) := (w64 (Int.tdiv (w64 (s1.2.2.1 - s1.2.1)) 8))
theorem pdqsortOrdered_slices_intBSpec (rec : (List Int) → Int → Int → Int → Option (List Int)) (ih : ∀ (p0 : List Int) (p1 : Int) (p2 : Int) (p3 : Int) (RES : List Int), rec p0 p1 p2 p3 = some RES → Spec Try.prog 60 [ow 0 p0.length, pI p1, pI p2, pI p3] [roI p0] (.p (.tup [])) [roI RES] []) (p0 : List Int) (p1 : Int) (p2 : Int) (p3 : Int) (RES : List Int) (hm : pdqsortOrdered_slices_intB rec p0 p1 p2 p3 = some RES) : Spec Try.prog 60 [ow 0 p0.length, pI p1, pI p2, pI p3] [roI p0] (.p (.tup [])) [roI RES] [] := by
 unfold pdqsortOrdered_slices_intB at hm
 refine SO Try.func60 rfl rfl [(0, ow 0 p0.length), (1, pI p1), (2, pI p2), (3, pI p3)] [(0, ob0 (roI p0))] ?_
 intro cx hnt
 refine Sq (RD hnt (.no :: []) [] [(8, pB true)] [] [] tv ?_)
 refine Sq (RD hnt (.no :: []) [] [(9, pB true)] [] [] tv ?_)
 refine Bk ?_
 refine DW.whileO (fun (s1 : (List Int) × Int × Int × Int × Bool × Bool) => mkSt [(0, ow 0 s1.1.length), (1, pI s1.2.1), (2, pI s1.2.2.1), (3, pI s1.2.2.2.1), (8, pB s1.2.2.2.2.1), (9, pB s1.2.2.2.2.2)] [(0, ob0 (roI s1.1))]) hm Conv.eqK ?_
 intro s1 n1 hm
 unfold pdqsortOrdered_slices_intL1 at hm
 refine Bk ?_
 refine Sq (RD hnt (nn 4 []) [] [(c29e1 s1)] [] [] tv ?_)
 refine Sq (Sq (RD hnt (nn 2 []) [] [(23, pB (decide ((w64 (s1.2.2.1 - s1.2.1)) ≤ 12)))] [] [] tv ?_))
 refine condM hm ?_ ?_
 ·intro h66 hm
  obtain ⟨r67, hr67, hm⟩ := bo hm
  obtain ⟨g68, hm⟩ := go1 hm
  refine Sq (RK hnt (nn 3 (o30 [0] true r67 :: [])) [] [(0, ob0 (roI r67))] (an (insertionSortOrdered_slices_intSpec s1.1 s1.2.1 s1.2.2.1 r67 hr67) (an (⟨rfl, g68⟩ : Body.same (roI s1.1) (roI r67)) tv)) ?_)
  obtain rfl := sj hm
  exact DW.ret (retK [roI r67] [] (.p (.tup [])))
 ·intro h66 hm
  refine Sk ?_
  refine Sq (Sq (RD hnt (nn 2 []) [23] [(29, pB (s1.2.2.2.1 == 0))] [] [] tv ?_))
  refine condM hm ?_ ?_
  ·intro h69 hm
   obtain ⟨r70, hr70, hm⟩ := bo hm
   obtain ⟨g71, hm⟩ := go1 hm
   refine Sq (RK hnt (nn 3 (o33 [0] true r70 :: [])) [] [(0, ob0 (roI r70))] (an (heapSortOrdered_slices_intSpec s1.1 s1.2.1 s1.2.2.1 r70 hr70) (an (⟨rfl, g71⟩ : Body.same (roI s1.1) (roI r70)) tv)) ?_)
   obtain rfl := sj hm
   exact DW.ret (retK [roI r70] [] (.p (.tup [])))
  ·intro h69 hm
   refine Sk ?_
   refine Sq (Sq (RD hnt (nn 2 []) [29] [(35, pB (!s1.2.2.2.2.1))] [] [] tv ?_))
   refine Jn (ι := (List Int) × Int) (fun (y8 : (List Int) × Int) => mkSt [(0, ow 0 y8.1.length), (1, pI s1.2.1), (2, pI s1.2.2.1), (3, pI y8.2), (8, pB s1.2.2.2.2.1), (9, pB s1.2.2.2.2.2), (c29e1 s1)] [(0, ob0 (roI y8.1))]) (fun y8 => (pdqsortOrdered_slices_intJ8 rec s1 n1) y8 = some RES) ?_ ?_
   ·intro y8 hm
    unfold pdqsortOrdered_slices_intJ8 at hm
    obtain ⟨r75, hr75, hm⟩ := bo hm
    refine Sq (RD hnt (nn 3 (o35 [] true r75 :: nn 5 [])) [] [(11, pI r75.1), (12, pI r75.2)] [] [] (an (choosePivotOrdered_slices_intSpec y8.1 s1.2.1 s1.2.2.1 r75 hr75) tv) ?_)
    refine Sq (Sq (RD hnt (nn 2 []) [] [(50, pB (r75.2 == 2))] [] [] tv ?_))
    refine Jn (ι := (List Int) × Int × Int) (fun (y9 : (List Int) × Int × Int) => mkSt [(0, ow 0 y9.1.length), (1, pI s1.2.1), (2, pI s1.2.2.1), (3, pI y8.2), (8, pB s1.2.2.2.2.1), (9, pB s1.2.2.2.2.2), (c29e1 s1), (11, pI y9.2.1), (12, pI y9.2.2)] [(0, ob0 (roI y9.1))]) (fun y9 => (pdqsortOrdered_slices_intJ9 rec s1 n1 y8) y9 = some RES) ?_ ?_
    ·intro y9 hm
     unfold pdqsortOrdered_slices_intJ9 at hm
     refine Sq (Sq (DW.regJ (sl2 := [(0, ow 0 y9.1.length), (1, pI s1.2.1), (2, pI s1.2.2.1), (3, pI y8.2), (8, pB s1.2.2.2.2.1), (9, pB s1.2.2.2.2.2), (c29e1 s1), (11, pI y9.2.1), (68, pB ((s1.2.2.2.2.1 && s1.2.2.2.2.2) && (y9.2.2 == 1)))]) (ob2 := [(0, ob0 (roI y9.1))]) ?_ ?_))
     ·rcases bt s1.2.2.2.2.1 with h79 | h79
      ·rcases bt s1.2.2.2.2.2 with h80 | h80
       ·exact RT hnt (nn 3 (pT :: nn 3 (pT :: []))) [(68, pB (y9.2.2 == 1))] (an2 h79 (an3 h80 tv)) (by kernel_rfl) (.cons rfl (.of_eq (by rw [h79, h80]; try rfl)) .nil)
       ·exact RT hnt (nn 3 (pT :: .no :: sk 2 (pF :: []))) [(68, pB false)] (an2 h79 (an3 h80 tv)) (by kernel_rfl) (.cons rfl (.of_eq (by rw [h79, h80]; try rfl)) .nil)
      ·exact RT hnt (nn 2 (.skip :: pF :: .no :: sk 2 (pF :: []))) [(68, pB false)] (an2 h79 (an3 ff tv)) (by kernel_rfl) (.cons rfl (.of_eq (by rw [h79]; try rfl)) .nil)
     ·refine Jn (ι := List Int) (fun (y10 : List Int) => mkSt [(0, ow 0 y10.length), (1, pI s1.2.1), (2, pI s1.2.2.1), (3, pI y8.2), (8, pB s1.2.2.2.2.1), (9, pB s1.2.2.2.2.2), (c29e1 s1), (11, pI y9.2.1)] [(0, ob0 (roI y10))]) (fun y10 => (pdqsortOrdered_slices_intJ10 rec s1 n1 y8 y9) y10 = some RES) ?_ ?_
      ·intro y10 hm
       unfold pdqsortOrdered_slices_intJ10 at hm
       refine Sq (Sq ?_)
       refine Jn (ι := Bool) (fun (y11 : Bool) => mkSt [(0, ow 0 y10.length), (1, pI s1.2.1), (2, pI s1.2.2.1), (3, pI y8.2), (8, pB s1.2.2.2.2.1), (9, pB s1.2.2.2.2.2), (c29e1 s1), (11, pI y9.2.1), (87, pB y11)] [(0, ob0 (roI y10))]) (fun y11 => (pdqsortOrdered_slices_intJ11 rec s1 n1 y8 y9 y10) y11 = some RES) ?_ ?_
       ·intro y11 hm
        unfold pdqsortOrdered_slices_intJ11 at hm
        refine condM hm ?_ ?_
        ·intro h91 hm
         obtain ⟨r92, hr92, hm⟩ := bo hm
         obtain ⟨g93, hm⟩ := go1 hm
         refine Sq (RN hnt (nn 4 (o41 [0] true r92 :: .no :: [])) [(0, ow 0 r92.2.length), (2, pI s1.2.2.1), (3, pI y8.2), (8, pB s1.2.2.2.2.1), (9, pB s1.2.2.2.2.2), (13, pI r92.1)] [(0, ob0 (roI r92.2))] [(0, ow 0 y10.length)] [] (an (partitionEqualOrdered_slices_intSpec y10 s1.2.1 s1.2.2.1 y9.2.1 r92 hr92) (an (⟨rfl, g93⟩ : Body.same (roI y10) (roI r92.2)) tv)) (by kernel_rfl) (.cons rfl (MLe.of_eq (congrArg (MV.own 0 0 0) g93)) .nil) .nil ?_)
         refine Sq (RD hnt (nn 2 []) [13] [(1, pI r92.1)] [] [] tv ?_)
         refine DW.exit ?_
         refine blockQ_exit ?_
         show DW _ _ _ _ _
         exact jD (r92.2, r92.1, s1.2.2.1, y8.2, s1.2.2.2.2.1, s1.2.2.2.2.2) hm Conv.eqK
        ·intro h91 hm
         refine Sk ?_
         obtain ⟨r94, hr94, hm⟩ := bo hm
         obtain ⟨g95, hm⟩ := go1 hm
         refine Sq (RN hnt (nn 4 (o42 [0] true r94 :: nn 5 [])) [(0, ow 0 r94.2.2.length), (1, pI s1.2.1), (2, pI s1.2.2.1), (3, pI y8.2), (c29e1 s1), (14, pI r94.1), (15, pB r94.2.1)] [(0, ob0 (roI r94.2.2))] [(0, ow 0 y10.length)] [] (an (partitionOrdered_slices_intSpec y10 s1.2.1 s1.2.2.1 y9.2.1 r94 hr94) (an (⟨rfl, g95⟩ : Body.same (roI y10) (roI r94.2.2)) tv)) (by kernel_rfl) (.cons rfl (MLe.of_eq (congrArg (MV.own 0 0 0) g95)) .nil) .nil ?_)
         refine Sq (RD hnt (nn 2 []) [15] [(9, pB r94.2.1)] [] [] tv ?_)
         refine Sq (RD hnt (nn 8 []) [] [(16, pI (w64 (r94.1 - s1.2.1))), (17, pI (w64 (s1.2.2.1 - r94.1)))] [] [] tv ?_)
         refine Sq (RD hnt (nn 3 []) [10] [(18, pI (c29e2 s1))] [] [] (an (by decide : (8 : Int) ≠ 0) tv) ?_)
         refine Sq (RD hnt (nn 3 []) [] [(113, pB (decide ((w64 (r94.1 - s1.2.1)) < (w64 (s1.2.2.1 - r94.1)))))] [] [] tv ?_)
         refine condM hm ?_ ?_
         ·intro h96 hm
          refine Sq (RD hnt (nn 4 []) [16, 17, 18, 113] [(8, pB (decide ((w64 (r94.1 - s1.2.1)) ≥ (c29e2 s1))))] [] [] tv ?_)
          obtain ⟨r97, hr97, hm⟩ := bo hm
          obtain ⟨g98, hm⟩ := go1 hm
          refine Sq (RN hnt (nn 4 (.call 60 [0] true (.p (.tup [])) [roI r97] [] :: [])) [(0, ow 0 r97.length), (2, pI s1.2.2.1), (3, pI y8.2), (8, pB (decide ((w64 (r94.1 - s1.2.1)) ≥ (c29e2 s1)))), (9, pB r94.2.1), (14, pI r94.1)] [(0, ob0 (roI r97))] [(0, ow 0 r94.2.2.length)] [] (an (ih r94.2.2 s1.2.1 r94.1 y8.2 r97 hr97) (an (⟨rfl, g98⟩ : Body.same (roI r94.2.2) (roI r97)) tv)) (by kernel_rfl) (.cons rfl (MLe.of_eq (congrArg (MV.own 0 0 0) g98)) .nil) .nil ?_)
          refine RD hnt (nn 3 []) [14] [(1, pI (w64 (r94.1 + 1)))] [] [] tv ?_
          refine DW.done ?_
          show DW _ _ _ _ _
          exact jD (r97, (w64 (r94.1 + 1)), s1.2.2.1, y8.2, (decide ((w64 (r94.1 - s1.2.1)) ≥ (c29e2 s1))), r94.2.1) hm Conv.eqK
         ·intro h96 hm
          refine Sq (RD hnt (nn 4 []) [16, 17, 18, 113] [(8, pB (decide ((w64 (s1.2.2.1 - r94.1)) ≥ (c29e2 s1))))] [] [] tv ?_)
          obtain ⟨r99, hr99, hm⟩ := bo hm
          obtain ⟨g100, hm⟩ := go1 hm
          refine Sq (RN hnt (nn 5 (.call 60 [0] true (.p (.tup [])) [roI r99] [] :: [])) [(0, ow 0 r99.length), (1, pI s1.2.1), (3, pI y8.2), (8, pB (decide ((w64 (s1.2.2.1 - r94.1)) ≥ (c29e2 s1)))), (9, pB r94.2.1), (14, pI r94.1)] [(0, ob0 (roI r99))] [(0, ow 0 r94.2.2.length)] [] (an (ih r94.2.2 (w64 (r94.1 + 1)) s1.2.2.1 y8.2 r99 hr99) (an (⟨rfl, g100⟩ : Body.same (roI r94.2.2) (roI r99)) tv)) (by kernel_rfl) (.cons rfl (MLe.of_eq (congrArg (MV.own 0 0 0) g100)) .nil) .nil ?_)
          refine RD hnt (nn 2 []) [14] [(2, pI r94.1)] [] [] tv ?_
          refine DW.done ?_
          show DW _ _ _ _ _
          exact jD (r99, s1.2.1, r94.1, y8.2, (decide ((w64 (s1.2.2.1 - r94.1)) ≥ (c29e2 s1))), r94.2.1) hm Conv.eqK
       ·rcases bt (decide (s1.2.1 > 0)) with h85 | h85
        ·replace hm := if_t h85 hm
         obtain ⟨g86, g87, g88, g89, hm⟩ := go4 hm
         obtain ⟨r90, hr90, hm⟩ := bo hm
         refine RD hnt (nn 12 (o31 [] true r90 :: .no :: pT :: [])) [] [(87, pB (!r90))] [] [] (an4 h85 (an g86.1 (an g86.2 (an h85 (an g87 (an3 h85 (an g88.1 (an g88.2 (an h85 (an g89 (an h85 (an (Less_cmp_intSpec (y10.getD (Int.toNat (w64 (s1.2.1 - 1))) 0) (y10.getD (Int.toNat y9.2.1) 0) r90 hr90) (an2 h85 tv))))))))))))) ?_
         exact jD (!r90) hm Conv.eqK
        ·replace hm := if_f h85 hm
         refine RD hnt (nn 3 (sk 11 (pF :: []))) [] [(87, pB false)] [] [] (an6 h85 (an6 h85 tv)) ?_
         exact jD false hm Conv.eqK
      ·refine condM hm ?_ ?_
       ·intro h81 hm
        obtain ⟨r82, hr82, hm⟩ := bo hm
        obtain ⟨g83, hm⟩ := go1 hm
        refine Sq (RN hnt (nn 3 (o40 [0] true r82 :: [])) [(0, ow 0 r82.2.length), (1, pI s1.2.1), (2, pI s1.2.2.1), (3, pI y8.2), (8, pB s1.2.2.2.2.1), (9, pB s1.2.2.2.2.2), (c29e1 s1), (11, pI y9.2.1), (72, pB r82.1)] [(0, ob0 (roI r82.2))] [(0, ow 0 y9.1.length)] [] (an (partialInsertionSortOrdered_slices_intSpec y9.1 s1.2.1 s1.2.2.1 r82 hr82) (an (⟨rfl, g83⟩ : Body.same (roI y9.1) (roI r82.2)) tv)) (by kernel_rfl) (.cons rfl (MLe.of_eq (congrArg (MV.own 0 0 0) g83)) .nil) .nil ?_)
        refine condM hm ?_ ?_
        ·intro h84 hm
         obtain rfl := sj hm
         exact DW.ret (retK [roI r82.2] [] (.p (.tup [])))
        ·intro h84 hm
         refine Sk ?_
         exact jD r82.2 hm Conv.t0
       ·intro h81 hm
        refine Sk ?_
        exact jD y9.1 hm Conv.t0
    ·refine condM hm ?_ ?_
     ·intro h76 hm
      obtain ⟨r77, hr77, hm⟩ := bo hm
      obtain ⟨g78, hm⟩ := go1 hm
      refine Sq (RN hnt (nn 3 (o39 [0] true r77 :: [])) [(0, ow 0 r77.length), (1, pI s1.2.1), (2, pI s1.2.2.1), (3, pI y8.2), (8, pB s1.2.2.2.2.1), (9, pB s1.2.2.2.2.2), (c29e1 s1), (11, pI r75.1)] [(0, ob0 (roI r77))] [(0, ow 0 y8.1.length)] [] (an (reverseRangeOrdered_slices_intSpec y8.1 s1.2.1 s1.2.2.1 r77 hr77) (an (⟨rfl, g78⟩ : Body.same (roI y8.1) (roI r77)) tv)) (by kernel_rfl) (.cons rfl (MLe.of_eq (congrArg (MV.own 0 0 0) g78)) .nil) .nil ?_)
      refine Sq (RD hnt (nn 7 []) [] [(11, pI (w64 ((w64 (s1.2.2.1 - 1)) - (w64 (r75.1 - s1.2.1)))))] [] [] tv ?_)
      refine RD hnt (.no :: []) [] [(12, pI 1)] [] [] tv ?_
      exact jD (r77, (w64 ((w64 (s1.2.2.1 - 1)) - (w64 (r75.1 - s1.2.1)))), 1) hm Conv.eqK
     ·intro h76 hm
      refine Sk ?_
      exact jD (y8.1, r75.1, r75.2) hm Conv.t0
   ·refine condM hm ?_ ?_
    ·intro h72 hm
     obtain ⟨r73, hr73, hm⟩ := bo hm
     obtain ⟨g74, hm⟩ := go1 hm
     refine Sq (RN hnt (nn 3 (o43 [0] true r73 :: [])) [(0, ow 0 r73.length), (1, pI s1.2.1), (2, pI s1.2.2.1), (3, pI s1.2.2.2.1), (8, pB s1.2.2.2.2.1), (9, pB s1.2.2.2.2.2), (c29e1 s1)] [(0, ob0 (roI r73))] [(0, ow 0 s1.1.length)] [] (an (breakPatternsOrdered_slices_intSpec s1.1 s1.2.1 s1.2.2.1 r73 hr73) (an (⟨rfl, g74⟩ : Body.same (roI s1.1) (roI r73)) tv)) (by kernel_rfl) (.cons rfl (MLe.of_eq (congrArg (MV.own 0 0 0) g74)) .nil) .nil ?_)
     refine RD hnt (nn 3 []) [] [(3, pI (w64 (s1.2.2.2.1 - 1)))] [] [] tv ?_
     exact jD (r73, (w64 (s1.2.2.2.1 - 1))) hm Conv.eqK
    ·intro h72 hm
     refine Sk ?_
     exact jD (s1.1, s1.2.2.2.1) hm Conv.t0
theorem pdqsortOrdered_slices_intFSpec : ∀ (n : Nat) (p0 : List Int) (p1 : Int) (p2 : Int) (p3 : Int) (RES : List Int), pdqsortOrdered_slices_intF n p0 p1 p2 p3 = some RES → Spec Try.prog 60 [ow 0 p0.length, pI p1, pI p2, pI p3] [roI p0] (.p (.tup [])) [roI RES] []
  | 0, p0, p1, p2, p3, RES, hm => by simp [pdqsortOrdered_slices_intF] at hm
  | n + 1, p0, p1, p2, p3, RES, hm => pdqsortOrdered_slices_intBSpec (pdqsortOrdered_slices_intF n) (pdqsortOrdered_slices_intFSpec n) p0 p1 p2 p3 RES hm
theorem pdqsortOrdered_slices_intSpec (p0 : List Int) (p1 : Int) (p2 : Int) (p3 : Int) (RES : List Int) (hm : pdqsortOrdered_slices_int p0 p1 p2 p3 = some RES) : Spec Try.prog 60 [ow 0 p0.length, pI p1, pI p2, pI p3] [roI p0] (.p (.tup [])) [roI RES] [] := pdqsortOrdered_slices_intFSpec FUEL p0 p1 p2 p3 RES hm
abbrev o29 (ks : List Nat) (b : Bool) (RES : List Int) : Orc := .call 60 ks b (.p (.tup [])) [roI RES] []

theorem Sort_slices_intSpec (p0 : List Int) (RES : List Int) (hm : Sort_slices_int p0 = some RES) : Spec Try.prog 42 [ow 0 p0.length] [roI p0] (.p (.tup [])) [roI RES] [] := by
 unfold Sort_slices_int at hm
 refine SO Try.func42 rfl rfl [(0, ow 0 p0.length)] [(0, ob0 (roI p0))] ?_
 intro cx hnt
 refine Sq (RD hnt (nn 3 []) [] [(2, pI ((p0.length : Nat) : Int))] [] [] tv ?_)
 obtain ⟨r1, hr1, hm⟩ := bo hm
 obtain ⟨r2, hr2, hm⟩ := bo hm
 obtain ⟨g3, hm⟩ := go1 hm
 refine RK hnt (nn 4 (o27 [] true r1 :: o29 [0] true r2 :: [])) [] [(0, ob0 (roI r2))] (an (Len_bitsSpec (IntKind.u64.wrap ((p0.length : Nat) : Int)) r1 hr1) (an (pdqsortOrdered_slices_intSpec p0 0 ((p0.length : Nat) : Int) r1 r2 hr2) (an (⟨rfl, g3⟩ : Body.same (roI p0) (roI r2)) tv))) ?_
 refine DW.done ?_
 obtain rfl := sj hm
 exact endK [roI r2] [] (.p (.tup []))
abbrev o26 (ks : List Nat) (b : Bool) (RES : List Int) : Orc := .call 42 ks b (.p (.tup [])) [roI RES] []

abbrev c5e1 (r55 : List Int) (k4 : Nat) (r51 : IMap Int) (r53 : IMap Int) := ({ group := (r55.getD k4 0), min := (r51.get (r55.getD k4 0)), low := (r53.get (r55.getD k4 0)) } : Protection)
abbrev c5e2 (r7 : (List Charge) × Int) (k1 : Nat) := (r7.1.getD k1 (default : Charge))
abbrev c5e3 (r51 : IMap Int) : Nat × MV := (17, .p (.mp (vi 0) r51.has (fun n => vi (r51.get n))))
abbrev c5e4 (r53 : IMap Int) : Nat × MV := (18, .p (.mp (vi 0) r53.has (fun n => vi (r53.get n))))
theorem Effective_protectSpec (p0 : Tree) (p1 : Counter) (p2 : List Protection) (p3 : Int) (RES : (List Protection) × Int) (hm : Effective_protect p0 p1 p2 p3 = some RES) : Spec Try.prog 15 [.p (.agg (encTree p0)), .p (.agg [slCharge p1.charges]), .p (slProtection p2), pI p3] [] (.tup [ow 0 RES.1.length, pI RES.2]) [] [roProtection RES.1] := by
 unfold Effective_protect at hm
 refine SO Try.func15 rfl rfl [(0, .p (.agg (encTree p0))), (1, .p (.agg [slCharge p1.charges])), (2, .p (slProtection p2)), (3, pI p3)] [] ?_
 intro cx hnt
 refine Sq (RD hnt (nn 4 []) [0, 1] [(4, rr 1032), (5, rr 1040)] [] [(1032, bx (pm (encTree p0))), (1040, bx [.p (slCharge p1.charges)])] tv ?_)
 obtain ⟨r1, hr1, hm⟩ := bo hm
 refine Sq (Sq ?_)
 refine Jn (ι := Bool) (fun (y1 : Bool) => mkSt [(2, .p (slProtection p2)), (3, pI p3), (4, rr 1032), (5, rr 1040), (32, pB y1)] [(1032, bx (pm (encTree p0))), (1040, bx [.p (slCharge p1.charges)])]) (fun y1 => (Effective_protectJ1 p0 p1 p2 p3) y1 = some RES) ?_ ?_
 ·intro y1 hm
  unfold Effective_protectJ1 at hm
  refine condM hm ?_ ?_
  ·intro h4 hm
   refine Sq (RK hnt (nn 2 []) [(8, .p (.sl .nil 0 0 (fun _ => []))), (9, pI 1)] [] tv ?_)
   refine DW.cv [] [(8, ow 100000 0)] [] [(100000, ob0 (roProtection []))] (Conv.ads [(.s 8, 100000, 3, elems encProtection dProtection [])]) ?_
   obtain rfl := sj hm
   exact DW.ret (retK [roProtection []] [100000] (.tup [ow 0 0, pI 1]))
  ·intro h4 hm
   refine Sk ?_
   obtain ⟨r5, hr5, hm⟩ := bo hm
   refine Sq (Sq (RD hnt (nn 2 (o12 [] true r5 :: nn 6 [])) [32] [(11, pB r5.2)] [] [] (an (Find_forestSpec p0 p3 r5 hr5) tv) ?_))
   refine Sq (RD hnt (nn 2 []) [11] [(40, pB (!r5.2))] [] [] tv ?_)
   refine condM hm ?_ ?_
   ·intro h6 hm
    refine Sq (RK hnt (nn 2 []) [(8, .p (.sl .nil 0 0 (fun _ => []))), (9, pI 4)] [] tv ?_)
    refine DW.cv [] [(8, ow 100000 0)] [] [(100000, ob0 (roProtection []))] (Conv.ads [(.s 8, 100000, 3, elems encProtection dProtection [])]) ?_
    obtain rfl := sj hm
    exact DW.ret (retK [roProtection []] [100000] (.tup [ow 0 0, pI 4]))
   ·intro h6 hm
    refine Sk ?_
    refine Sq (RD hnt (nn 2 []) [40] [(12, .mref 1328 0)] [] [(1328, ob0 (mapOf vi (vi 0) (IMap.empty 0)))] tv ?_)
    obtain ⟨r7, hr7, hm⟩ := bo hm
    refine Sq (RD hnt (nn 2 (o17 [] true r7 :: nn 5 [])) [5] [(13, ow 1360 r7.1.length)] [1040] [(1360, ob0 (roCharge r7.1))] (an (Totals_counterSpec p0 p1 r7 hr7) tv) ?_)
    refine Sq (Sq (RD hnt (nn 3 []) [13] [(48, ow 1360 r7.1.length), (49, pI ((r7.1.length : Nat) : Int)), (50, pI 0)] [] [] tv ?_))
    refine Bk ?_
    obtain ⟨hc1, hm⟩ := go1 hm
    refine DW.rangeO (fun (k1 : Nat) (s1 : IMap Int) => mkSt [(2, .p (slProtection p2)), (3, pI p3), (4, rr 1032), (12, .mref 1328 0), (48, ow 1360 r7.1.length), (49, pI ((r7.1.length : Nat) : Int)), (50, pI ((k1 : Nat) : Int))] [(1032, bx (pm (encTree p0))), (1328, ob0 (mapOf vi (vi 0) s1)), (1360, ob0 (roCharge r7.1))]) dCharge hm Conv.eqK ?_
    intro k1 s1 n1 hk1 hs1 he1
    refine Sq (RD hnt (.no :: []) [] [(51, pB (decide (((k1 : Nat) : Int) < ((r7.1.length : Nat) : Int))))] [] [] tv ?_)
    refine Sq (condK (decide (((k1 : Nat) : Int) < ((r7.1.length : Nat) : Int))) ?_ ?_)
    ·intro h48
     have hlt1 : k1 < r7.1.length := by have := of_decide_eq_true h48; omega
     have hm := hs1 hlt1
     unfold Effective_protectL1 at hm
     refine Sk ?_
     refine Sq (Bk ?_)
     refine Sq (RD hnt (nn 4 []) [51] [(16, rr 1128)] [] [(1128, bx (pm (encCharge (c5e2 r7 k1))))] (an (nn0 k1) (an (ltc hlt1) (an (by omega : k1 < r7.1.length) tv))) ?_)
     refine RD hnt (nn 5 (.asM (s1.set (c5e2 r7 k1).group (c5e2 r7 k1).own).has (fun j => vi ((s1.set (c5e2 r7 k1).group (c5e2 r7 k1).own).get j)) :: [])) [16] [] [1128] [(1328, ob0 (mapOf vi (vi 0) (s1.set (c5e2 r7 k1).group (c5e2 r7 k1).own)))] (an (mset_has s1 (c5e2 r7 k1).group (c5e2 r7 k1).own) (an (mset_get vi s1 (c5e2 r7 k1).group (c5e2 r7 k1).own) tv)) ?_
     refine DW.done ?_
     show DW _ _ _ _ _
     refine RD hnt (nn 2 []) [] [(50, pI (w64 (((k1 : Nat) : Int) + 1)))] [] [] tv ?_
     exact jD (s1.set (c5e2 r7 k1).group (c5e2 r7 k1).own) ⟨hlt1, hm⟩ (Conv.tp [(50, pI (w64 (((k1 : Nat) : Int) + 1)))] [] (by kernel_rfl) (.cons rfl (.of_eq (congrArg pI (w64_succ hlt1 hc1))) .nil) .nil)
    ·intro h48
     have hge1 : ¬ k1 < r7.1.length := by have := of_decide_eq_false h48; omega
     have hm := he1 hge1
     unfold Effective_protectD1 at hm
     refine DW.exit ?_
     refine joinQ_exit ?_
     refine KQ_exit ?_
     refine blockQ_exit ?_
     show DW _ _ _ _ _
     refine Sq (DW.cv [] [(12, .p (.mp (vi 0) s1.has (fun n => vi (s1.get n))))] [1328] [] (Conv.frz [1328]) ?_)
     obtain ⟨r50, hr50, hm⟩ := bo hm
     obtain ⟨r51, hr51, hm⟩ := bo hm
     obtain ⟨r52, hr52, hm⟩ := bo hm
     obtain ⟨r53, hr53, hm⟩ := bo hm
     refine RD hnt (nn 3 (o19 [] true r50 :: .no :: o21 [] true r51 :: nn 3 (o24 [] true r52 :: .no :: o21 [] true r53 :: nn 2 []))) [2, 12, 48, 49, 50, 51] [(c5e3 r51), (c5e4 r53)] [1360] [] (an (settings_protectQleast_protectSpec p2 r50 hr50) (an (effective_protectSpec p0 s1 r50 p3 r51 hr51) (an (settings_protectQlow_protectSpec p2 r52 hr52) (an (effective_protectSpec p0 s1 r52 p3 r53 hr53) tv)))) ?_
     obtain ⟨r54, hr54, hm⟩ := bo hm
     refine Sq (RD hnt (nn 2 (o22 [] true r54 :: .no :: [])) [3, 4] [(19, ow 1592 r54.length)] [1032] [(1592, ob0 (roI r54))] (an (Subtree_forestSpec p0 p3 r54 hr54) tv) ?_)
     obtain ⟨r55, hr55, hm⟩ := bo hm
     obtain ⟨g56, hm⟩ := go1 hm
     refine Sq (RN hnt (.no :: o26 [1592] true r55 :: []) [(c5e3 r51), (c5e4 r53), (19, ow 1592 r55.length)] [(1592, ob0 (roI r55))] [(19, ow 1592 r54.length)] [] (an (Sort_slices_intSpec r54 r55 hr55) (an (⟨rfl, g56⟩ : Body.same (roI r54) (roI r55)) tv)) (by kernel_rfl) (.cons rfl (MLe.of_eq (congrArg (MV.own 1592 0 0) g56)) .nil) .nil ?_)
     refine Sq (RD hnt (.no :: []) [] [(20, .p (.sl .nil 0 0 (fun _ => [])))] [] [] tv ?_)
     refine Sq (Sq (RD hnt (nn 3 []) [19] [(77, ow 1592 r55.length), (78, pI ((r55.length : Nat) : Int)), (79, pI 0)] [] [] tv ?_))
     refine Bk ?_
     obtain ⟨hc4, hm⟩ := go1 hm
     refine DW.rangeO (fun (k4 : Nat) (s4 : List Protection) => mkSt [(c5e3 r51), (c5e4 r53), (20, ow 1744 s4.length), (77, ow 1592 r55.length), (78, pI ((r55.length : Nat) : Int)), (79, pI ((k4 : Nat) : Int))] [(1592, ob0 (roI r55)), (1744, ob0 (roProtection s4))]) 0 hm (Conv.ads [(.s 20, 1744, 3, elems encProtection dProtection [])]) ?_
     intro k4 s4 n4 hk4 hs4 he4
     refine Sq (RD hnt (.no :: []) [] [(80, pB (decide (((k4 : Nat) : Int) < ((r55.length : Nat) : Int))))] [] [] tv ?_)
     refine Sq (condK (decide (((k4 : Nat) : Int) < ((r55.length : Nat) : Int))) ?_ ?_)
     ·intro h64
      have hlt4 : k4 < r55.length := by have := of_decide_eq_true h64; omega
      have hm := hs4 hlt4
      unfold Effective_protectL4 at hm
      refine Sk ?_
      refine Sq (Bk ?_)
      refine Sq (RD hnt (nn 3 []) [80] [(22, pI (r55.getD k4 0))] [] [] (an (nn0 k4) (an (ltc hlt4) (an (by omega : k4 < r55.length) tv))) ?_)
      obtain ⟨g65, hm⟩ := go1 hm
      refine RN hnt (nn 12 []) [(c5e3 r51), (c5e4 r53), (20, ow 1744 (s4 ++ [(c5e1 r55 k4 r51 r53)]).length), (77, ow 1592 r55.length), (78, pI ((r55.length : Nat) : Int)), (79, pI ((k4 : Nat) : Int))] [(1592, ob0 (roI r55)), (1744, ob0 (roProtection (s4 ++ [(c5e1 r55 k4 r51 r53)])))] [(20, ow 1744 (s4.length + 1))] [(1744, .row 3 (s4.length + 1) (catF s4.length (elProtection s4) (cut 3 [vi (r55.getD k4 0), vi (r51.get (r55.getD k4 0)), vi (r53.get (r55.getD k4 0))])))] (an (rfl : vi 0 = vi 0) (an (rfl : vi 0 = vi 0) (an (by omega : (s4.length + 1) * 24 ≤ 140737488355328) tv))) (by kernel_rfl) (.cons rfl (MLe.ownLen (enc := encProtection) (d := dProtection) (f := (catF s4.length (elProtection s4) (cut 3 [vi (r55.getD k4 0), vi (r51.get (r55.getD k4 0)), vi (r53.get (r55.getD k4 0))]))) (RowIs.cat RowIs.elems (RowIs.lit (enc := encProtection) (d := dProtection) (n := 1) (f := (cut 3 [vi (r55.getD k4 0), vi (r51.get (r55.getD k4 0)), vi (r53.get (r55.getD k4 0))])) [(c5e1 r55 k4 r51 r53)] rfl (fun | 0, _ => rfl | n + 1, h => absurd h (by omega))))) .nil) (.cons rfl (BLe.typed (RowIs.cat RowIs.elems (RowIs.lit (enc := encProtection) (d := dProtection) (n := 1) (f := (cut 3 [vi (r55.getD k4 0), vi (r51.get (r55.getD k4 0)), vi (r53.get (r55.getD k4 0))])) [(c5e1 r55 k4 r51 r53)] rfl (fun | 0, _ => rfl | n + 1, h => absurd h (by omega))))) .nil) ?_
      refine DW.done ?_
      show DW _ _ _ _ _
      refine RD hnt (nn 2 []) [] [(79, pI (w64 (((k4 : Nat) : Int) + 1)))] [] [] tv ?_
      exact jD (s4 ++ [(c5e1 r55 k4 r51 r53)]) ⟨hlt4, hm⟩ (Conv.tp [(79, pI (w64 (((k4 : Nat) : Int) + 1)))] [] (by kernel_rfl) (.cons rfl (.of_eq (congrArg pI (w64_succ hlt4 hc4))) .nil) .nil)
     ·intro h64
      have hge4 : ¬ k4 < r55.length := by have := of_decide_eq_false h64; omega
      have hm := he4 hge4
      unfold Effective_protectD4 at hm
      refine DW.exit ?_
      refine joinQ_exit ?_
      refine KQ_exit ?_
      refine blockQ_exit ?_
      show DW _ _ _ _ _
      refine Sq (RK hnt (nn 3 []) [(8, ow 1744 s4.length), (9, pI 0)] [(1744, ob0 (roProtection s4))] tv ?_)
      obtain rfl := sj hm
      exact DW.ret (retK [roProtection s4] [1744] (.tup [ow 0 s4.length, pI 0]))
 ·rcases bt (!r1) with h2 | h2
  ·replace hm := if_t h2 hm
   refine RD hnt (nn 2 (o6 [] true r1 :: nn 2 (sk 4 (pT :: [])))) [] [(32, pB true)] [] [] (an (Valid_counterSpec p0 p1 r1 hr1) (an5 h2 tv)) ?_
   exact jD true hm Conv.eqK
  ·replace hm := if_f h2 hm
   obtain ⟨r3, hr3, hm⟩ := bo hm
   refine RD hnt (nn 2 (o6 [] true r1 :: nn 4 (o16 [] true r3 :: .no :: pF :: []))) [] [(32, pB (!r3))] [] [] (an (Valid_counterSpec p0 p1 r1 hr1) (an3 h2 (an (Valid_protectSpec p0 p2 r3 hr3) (an2 h2 tv)))) ?_
   exact jD (!r3) hm Conv.eqK
abbrev o5 (ks : List Nat) (b : Bool) (RES : (List Protection) × Int) : Orc := .call 15 ks b (.tup [ow 0 RES.1.length, pI RES.2]) [] [roProtection RES.1]

theorem Ancestors_forestSpec (p0 : Tree) (p1 : Int) (RES : List Int) (hm : Ancestors_forest p0 p1 = some RES) : Spec Try.prog 62 [.p (.agg (encTree p0)), pI p1] [] (ow 0 RES.length) [] [roI RES] := by
 unfold Ancestors_forest at hm
 refine SO Try.func62 rfl rfl [(0, .p (.agg (encTree p0))), (1, pI p1)] [] ?_
 intro cx hnt
 refine Sq (RK hnt (nn 2 []) [(1, pI p1), (2, rr 1016)] [(1016, bx (pm (encTree p0)))] tv ?_)
 refine Sq (RD hnt (.no :: []) [] [(5, .p (.sl .nil 0 0 (fun _ => [])))] [] [] tv ?_)
 refine Sq (Sq (RD hnt (nn 4 []) [] [(10, pI ((p0.nodes.length : Nat) : Int)), (11, pI 0)] [] [] tv ?_))
 refine Jn (ι := List Int) (fun (y1 : List Int) => mkSt [(5, ow 1192 y1.length)] [(1192, ob0 (roI y1))]) (fun y1 => Ancestors_forestJ1 y1 = some RES) ?_ ?_
 ·intro y1 hm
  unfold Ancestors_forestJ1 at hm
  refine Sq (RD hnt (nn 2 []) [5] [(4, ow 1192 y1.length)] [] [] tv ?_)
  obtain rfl := sj hm
  exact DW.ret (retK [roI y1] [1192] (ow 0 y1.length))
 ·refine Bk ?_
  obtain ⟨hc1, hm⟩ := go1 hm
  refine DW.rangeO (fun (k1 : Nat) (s1 : (List Int) × Int) => mkSt [(1, pI s1.2), (2, rr 1016), (5, ow 1192 s1.1.length), (10, pI ((p0.nodes.length : Nat) : Int)), (11, pI ((k1 : Nat) : Int))] [(1016, bx (pm (encTree p0))), (1192, ob0 (roI s1.1))]) dNode hm (Conv.ads [(.s 5, 1192, 1, elems encI 0 [])]) ?_
  intro k1 s1 n1 hk1 hs1 he1
  refine Sq (RD hnt (.no :: []) [] [(12, pB (decide (((k1 : Nat) : Int) < ((p0.nodes.length : Nat) : Int))))] [] [] tv ?_)
  refine Sq (condK (decide (((k1 : Nat) : Int) < ((p0.nodes.length : Nat) : Int))) ?_ ?_)
  ·intro h8
   have hlt1 : k1 < p0.nodes.length := by have := of_decide_eq_true h8; omega
   have hm := hs1 hlt1
   unfold Ancestors_forestL1 at hm
   refine Sk ?_
   refine Sq (Bk ?_)
   obtain ⟨r9, hr9, hm⟩ := bo hm
   refine Sq (RD hnt (nn 2 (o12 [] true r9 :: nn 6 [])) [12] [(6, rr 1048), (7, pB r9.2)] [] [(1048, bx (pm (encNode r9.1)))] (an (Find_forestSpec p0 s1.2 r9 hr9) tv) ?_)
   refine Sq (Sq (RD hnt (nn 2 []) [7] [(20, pB (!r9.2))] [] [] tv ?_))
   refine condM hm ?_ ?_
   ·intro h10 hm
    refine DW.exit ?_
    refine blockQ_other (by decide) ?_
    refine KQ_exit ?_
    refine joinQ_exit ?_
    refine KQ_exit ?_
    exact blockQ_exit (joinKQ s1.1 hm Conv.t0)
   ·intro h10 hm
    refine Sk ?_
    obtain ⟨g11, hm⟩ := go1 hm
    refine Sq (RN hnt (nn 5 []) [(2, rr 1016), (5, ow 1192 (s1.1 ++ [s1.2]).length), (6, rr 1048), (10, pI ((p0.nodes.length : Nat) : Int)), (11, pI ((k1 : Nat) : Int))] [(1016, bx (pm (encTree p0))), (1048, bx (pm (encNode r9.1))), (1192, ob0 (roI (s1.1 ++ [s1.2])))] [(5, ow 1192 (s1.1.length + 1))] [(1192, .row 1 (s1.1.length + 1) (catF s1.1.length (elI s1.1) (cut 1 [vi s1.2])))] (an (by omega : (s1.1.length + 1) * 8 ≤ 140737488355328) tv) (by kernel_rfl) (.cons rfl (MLe.ownLen (enc := encI) (d := 0) (f := (catF s1.1.length (elI s1.1) (cut 1 [vi s1.2]))) (RowIs.cat RowIs.elems (RowIs.lit (enc := encI) (d := 0) (n := 1) (f := (cut 1 [vi s1.2])) [s1.2] rfl (fun | 0, _ => rfl | n + 1, h => absurd h (by omega))))) .nil) (.cons rfl (BLe.typed (RowIs.cat RowIs.elems (RowIs.lit (enc := encI) (d := 0) (n := 1) (f := (cut 1 [vi s1.2])) [s1.2] rfl (fun | 0, _ => rfl | n + 1, h => absurd h (by omega))))) .nil) ?_)
    refine RD hnt (nn 3 []) [6] [(1, pI r9.1.parent)] [1048] [] tv ?_
    refine DW.done ?_
    show DW _ _ _ _ _
    refine RD hnt (nn 2 []) [] [(11, pI (w64 (((k1 : Nat) : Int) + 1)))] [] [] tv ?_
    exact jD ((s1.1 ++ [s1.2]), r9.1.parent) ⟨hlt1, hm⟩ (Conv.tp [(11, pI (w64 (((k1 : Nat) : Int) + 1)))] [] (by kernel_rfl) (.cons rfl (.of_eq (congrArg pI (w64_succ hlt1 hc1))) .nil) .nil)
  ·intro h8
   have hge1 : ¬ k1 < p0.nodes.length := by have := of_decide_eq_false h8; omega
   have hm := he1 hge1
   unfold Ancestors_forestD1 at hm
   refine DW.exit ?_
   refine joinQ_exit ?_
   refine KQ_exit ?_
   exact blockQ_exit (joinKQ s1.1 hm Conv.t0)
abbrev o48 (ks : List Nat) (b : Bool) (RES : List Int) : Orc := .call 62 ks b (ow 0 RES.length) [] [roI RES]

abbrev c47e1 (p1 : IMap Int) : Nat × MV := (1, .p (.mp (vi 0) p1.has (fun n => vi (p1.get n))))
abbrev c47e2 (r1 : List Int) : Nat × MV := (26, pI ((r1.length : Nat) : Int))
abbrev c47e3 (p0 : Tree) : Nat × Obj := (1032, bx (pm (encTree p0)))
theorem floor_protectSpec (p0 : Tree) (p1 : IMap Int) (p2 : Int) (p3 : Int) (RES : Int) (hm : floor_protect p0 p1 p2 p3 = some RES) : Spec Try.prog 43 [.p (.agg (encTree p0)), .p (.mp (vi 0) p1.has (fun n => vi (p1.get n))), pI p2, pI p3] [] (pI RES) [] [] := by
 unfold floor_protect at hm
 refine SO Try.func43 rfl rfl [(0, .p (.agg (encTree p0))), (c47e1 p1), (2, pI p2), (3, pI p3)] [] ?_
 intro cx hnt
 refine Sq (RD hnt (nn 2 []) [0] [(4, rr 1032)] [] [(c47e3 p0)] tv ?_)
 refine Sq (RD hnt (nn 6 []) [3] [(9, pI (minI p3 (p1.get p2)))] [] [] (an (rfl : vi 0 = vi 0) tv) ?_)
 obtain ⟨r1, hr1, hm⟩ := bo hm
 refine Sq (Sq (RD hnt (nn 2 (o48 [] true r1 :: nn 2 [])) [2] [(25, ow 1200 r1.length), (c47e2 r1), (27, pI 0)] [] [(1200, ob0 (roI r1))] (an (Ancestors_forestSpec p0 p2 r1 hr1) tv) ?_))
 refine Bk ?_
 obtain ⟨hc1, hm⟩ := go1 hm
 refine DW.rangeO (fun (k1 : Nat) (s1 : Int) => mkSt [(c47e1 p1), (4, rr 1032), (9, pI s1), (25, ow 1200 r1.length), (c47e2 r1), (27, pI ((k1 : Nat) : Int))] [(c47e3 p0), (1200, ob0 (roI r1))]) 0 hm Conv.eqK ?_
 intro k1 s1 n1 hk1 hs1 he1
 refine Sq (RD hnt (.no :: []) [] [(28, pB (decide (((k1 : Nat) : Int) < ((r1.length : Nat) : Int))))] [] [] tv ?_)
 refine Sq (condK (decide (((k1 : Nat) : Int) < ((r1.length : Nat) : Int))) ?_ ?_)
 ·intro h40
  have hlt1 : k1 < r1.length := by have := of_decide_eq_true h40; omega
  have hm := hs1 hlt1
  unfold floor_protectL1 at hm
  refine Sk ?_
  refine Sq ?_
  refine Jn (ι := Int) (fun (y3 : Int) => mkSt [(c47e1 p1), (4, rr 1032), (9, pI y3), (25, ow 1200 r1.length), (c47e2 r1), (27, pI ((k1 : Nat) : Int))] [(c47e3 p0), (1200, ob0 (roI r1))]) (fun y3 => (floor_protectJ3 n1) y3 = some RES) ?_ ?_
  ·intro y3 hm
   unfold floor_protectJ3 at hm
   refine RD hnt (nn 2 []) [] [(27, pI (w64 (((k1 : Nat) : Int) + 1)))] [] [] tv ?_
   exact jD y3 ⟨hlt1, hm⟩ (Conv.tp [(27, pI (w64 (((k1 : Nat) : Int) + 1)))] [] (by kernel_rfl) (.cons rfl (.of_eq (congrArg pI (w64_succ hlt1 hc1))) .nil) .nil)
  ·refine Bk ?_
   refine Sq (RD hnt (nn 3 []) [28] [(11, pI (r1.getD k1 0))] [] [] (an (nn0 k1) (an (ltc hlt1) (an (by omega : k1 < r1.length) tv))) ?_)
   obtain ⟨r41, hr41, hm⟩ := bo hm
   refine Sq (RD hnt (nn 2 (o12 [] true r41 :: nn 6 [])) [11] [(12, rr 1096)] [] [(1096, bx (pm (encNode r41.1)))] (an (Find_forestSpec p0 (r1.getD k1 0) r41 hr41) tv) ?_)
   refine Sq (Sq (DW.regJ (sl2 := [(c47e1 p1), (4, rr 1032), (9, pI s1), (12, rr 1096), (25, ow 1200 r1.length), (c47e2 r1), (27, pI ((k1 : Nat) : Int)), (44, pB ((r41.1.parent == 0) || (r41.1.parent == 1)))]) (ob2 := [(c47e3 p0), (1096, bx (pm (encNode r41.1))), (1200, ob0 (roI r1))]) ?_ ?_))
   ·rcases bt (r41.1.parent == 0) with h42 | h42
    ·exact RT hnt (nn 4 (sk 3 (pT :: []))) [(44, pB true)] (an4 h42 tv) (by kernel_rfl) (.cons rfl (.of_eq (by rw [h42]; try rfl)) .nil)
    ·exact RT hnt (nn 7 (pF :: [])) [(44, pB (r41.1.parent == 1))] (an4 h42 tv) (by kernel_rfl) (.cons rfl (.of_eq (by rw [h42]; try rfl)) .nil)
   ·refine condM hm ?_ ?_
    ·intro h43 hm
     refine DW.exit ?_
     exact blockQ_exit (joinKQ s1 hm Conv.t0)
    ·intro h43 hm
     refine Sk ?_
     refine Sq (RD hnt (.no :: []) [44] [(14, pI 0)] [] [] tv ?_)
     obtain ⟨r44, hr44, hm⟩ := bo hm
     refine Sq (Sq (RD hnt (nn 3 (o23 [] true r44 :: nn 2 [])) [] [(48, ow 1384 r44.length), (49, pI ((r44.length : Nat) : Int)), (50, pI 0)] [] [(1384, ob0 (roI r44))] (an (Children_forestSpec p0 r41.1.parent r44 hr44) tv) ?_))
     refine Bk ?_
     obtain ⟨hc4, hm⟩ := go1 hm
     refine DW.rangeO (fun (k4 : Nat) (s4 : Int) => mkSt [(c47e1 p1), (4, rr 1032), (9, pI s1), (12, rr 1096), (14, pI s4), (25, ow 1200 r1.length), (c47e2 r1), (27, pI ((k1 : Nat) : Int)), (48, ow 1384 r44.length), (49, pI ((r44.length : Nat) : Int)), (50, pI ((k4 : Nat) : Int))] [(c47e3 p0), (1096, bx (pm (encNode r41.1))), (1200, ob0 (roI r1)), (1384, ob0 (roI r44))]) 0 hm Conv.eqK ?_
     intro k4 s4 n4 hk4 hs4 he4
     refine Sq (RD hnt (.no :: []) [] [(51, pB (decide (((k4 : Nat) : Int) < ((r44.length : Nat) : Int))))] [] [] tv ?_)
     refine Sq (condK (decide (((k4 : Nat) : Int) < ((r44.length : Nat) : Int))) ?_ ?_)
     ·intro h54
      have hlt4 : k4 < r44.length := by have := of_decide_eq_true h54; omega
      have hm := hs4 hlt4
      unfold floor_protectL4 at hm
      refine Sk ?_
      refine Sq (Bk ?_)
      refine Sq (RD hnt (nn 3 []) [51] [(16, pI (r44.getD k4 0))] [] [] (an (nn0 k4) (an (ltc hlt4) (an (by omega : k4 < r44.length) tv))) ?_)
      refine RD hnt (nn 6 []) [16] [(14, pI (w64 (s4 + (p1.get (r44.getD k4 0)))))] [] [] (an (rfl : vi 0 = vi 0) tv) ?_
      refine DW.done ?_
      show DW _ _ _ _ _
      refine RD hnt (nn 2 []) [] [(50, pI (w64 (((k4 : Nat) : Int) + 1)))] [] [] tv ?_
      exact jD (w64 (s4 + (p1.get (r44.getD k4 0)))) ⟨hlt4, hm⟩ (Conv.tp [(50, pI (w64 (((k4 : Nat) : Int) + 1)))] [] (by kernel_rfl) (.cons rfl (.of_eq (congrArg pI (w64_succ hlt4 hc4))) .nil) .nil)
     ·intro h54
      have hge4 : ¬ k4 < r44.length := by have := of_decide_eq_false h54; omega
      have hm := he4 hge4
      unfold floor_protectD4 at hm
      refine DW.exit ?_
      refine joinQ_exit ?_
      refine KQ_exit ?_
      refine blockQ_exit ?_
      show DW _ _ _ _ _
      refine Sq (RD hnt (nn 5 []) [12, 48, 49, 50, 51] [(17, pI (p1.get r41.1.parent))] [1096, 1384] [] (an (rfl : vi 0 = vi 0) tv) ?_)
      refine Sq (RD hnt (nn 3 []) [] [(66, pB (decide (s4 > (p1.get r41.1.parent))))] [] [] tv ?_)
      refine condM hm ?_ ?_
      ·intro h55 hm
       obtain ⟨g56, hm⟩ := go1 hm
       refine RD hnt (nn 6 []) [14, 17, 66] [(9, pI (w64 (Int.tdiv (w64 (s1 * (p1.get r41.1.parent))) s4)))] [] [] (an g56 tv) ?_
       exact bD (w64 (Int.tdiv (w64 (s1 * (p1.get r41.1.parent))) s4)) hm Conv.eqK
      ·intro h55 hm
       refine Sk ?_
       exact bD s1 hm Conv.t0
 ·intro h40
  have hge1 : ¬ k1 < r1.length := by have := of_decide_eq_false h40; omega
  have hm := he1 hge1
  unfold floor_protectD1 at hm
  refine DW.exit ?_
  refine joinQ_exit ?_
  refine KQ_exit ?_
  refine blockQ_exit ?_
  show DW _ _ _ _ _
  refine Sq (RK hnt (nn 2 []) [(8, pI s1)] [] tv ?_)
  obtain rfl := sj hm
  exact DW.ret (retK [] [] (pI s1))
abbrev o47 (ks : List Nat) (b : Bool) (RES : Int) : Orc := .call 43 ks b (pI RES) [] []

theorem Floor_protectSpec (p0 : Tree) (p1 : List Protection) (p2 : Int) (p3 : Int) (RES : Int × Int × Int) (hm : Floor_protect p0 p1 p2 p3 = some RES) : Spec Try.prog 16 [.p (.agg (encTree p0)), .p (slProtection p1), pI p2, pI p3] [] (.p (.tup [vi RES.1, vi RES.2.1, vi RES.2.2])) [] [] := by
 unfold Floor_protect at hm
 refine SO Try.func16 rfl rfl [(0, .p (.agg (encTree p0))), (1, .p (slProtection p1)), (2, pI p2), (3, pI p3)] [] ?_
 intro cx hnt
 refine Sq (RD hnt (nn 4 []) [0] [(4, rr 1032)] [] [(1032, bx (pm (encTree p0)))] tv ?_)
 obtain ⟨r1, hr1, hm⟩ := bo hm
 refine Sq (Sq (RD hnt (nn 2 (o16 [] true r1 :: .no :: [])) [] [(16, pB (!r1))] [] [] (an (Valid_protectSpec p0 p1 r1 hr1) tv) ?_))
 refine condM hm ?_ ?_
 ·intro h2 hm
  refine Sq (RK hnt (nn 3 []) [(8, pI 0), (9, pI 0), (10, pI 1)] [] tv ?_)
  obtain rfl := sj hm
  exact DW.ret (retK [] [] (.p (.tup [vi 0, vi 0, vi 1])))
 ·intro h2 hm
  refine Sk ?_
  obtain ⟨r3, hr3, hm⟩ := bo hm
  refine Sq (Sq (RD hnt (nn 2 (o12 [] true r3 :: nn 6 [])) [16] [(12, pB r3.2)] [] [] (an (Find_forestSpec p0 p2 r3 hr3) tv) ?_))
  refine Sq (RD hnt (nn 2 []) [12] [(24, pB (!r3.2))] [] [] tv ?_)
  refine condM hm ?_ ?_
  ·intro h4 hm
   refine Sq (RK hnt (nn 3 []) [(8, pI 0), (9, pI 0), (10, pI 4)] [] tv ?_)
   obtain rfl := sj hm
   exact DW.ret (retK [] [] (.p (.tup [vi 0, vi 0, vi 4])))
  ·intro h4 hm
   refine Sk ?_
   refine Sq (Sq (DW.regJ (sl2 := [(1, .p (slProtection p1)), (2, pI p2), (3, pI p3), (4, rr 1032), (30, pB ((decide (p3 < 0)) || (decide (p3 > 16777216))))]) (ob2 := [(1032, bx (pm (encTree p0)))]) ?_ ?_))
   ·rcases bt (decide (p3 < 0)) with h5 | h5
    ·exact RT hnt (nn 3 (sk 2 (pT :: []))) [(30, pB true)] (an3 h5 tv) (by kernel_rfl) (.cons rfl (.of_eq (by rw [h5]; try rfl)) .nil)
    ·exact RT hnt (nn 5 (pF :: [])) [(30, pB (decide (p3 > 16777216)))] (an3 h5 tv) (by kernel_rfl) (.cons rfl (.of_eq (by rw [h5]; try rfl)) .nil)
   ·refine condM hm ?_ ?_
    ·intro h6 hm
     refine Sq (RK hnt (nn 3 []) [(8, pI 0), (9, pI 0), (10, pI 3)] [] tv ?_)
     obtain rfl := sj hm
     exact DW.ret (retK [] [] (.p (.tup [vi 0, vi 0, vi 3])))
    ·intro h6 hm
     refine Sk ?_
     obtain ⟨r7, hr7, hm⟩ := bo hm
     obtain ⟨r8, hr8, hm⟩ := bo hm
     obtain ⟨r9, hr9, hm⟩ := bo hm
     obtain ⟨r10, hr10, hm⟩ := bo hm
     refine Sq (RK hnt (nn 2 (o19 [] true r7 :: nn 2 (o47 [] true r8 :: nn 2 (o24 [] true r9 :: nn 2 (o47 [] true r10 :: nn 3 []))))) [(8, pI r8), (9, pI r10), (10, pI 0)] [] (an (settings_protectQleast_protectSpec p1 r7 hr7) (an (floor_protectSpec p0 r7 p2 p3 r8 hr8) (an (settings_protectQlow_protectSpec p1 r9 hr9) (an (floor_protectSpec p0 r9 p2 p3 r10 hr10) tv)))) ?_)
     obtain rfl := sj hm
     exact DW.ret (retK [] [] (.p (.tup [vi r8, vi r10, vi 0])))
abbrev o46 (ks : List Nat) (b : Bool) (RES : Int × Int × Int) : Orc := .call 16 ks b (.p (.tup [vi RES.1, vi RES.2.1, vi RES.2.2])) [] []

abbrev c3e1 := ({ group := 2, min := 100, low := 0 } : Protection)
abbrev c3e2 := ({ group := 3, min := 100, low := 0 } : Protection)
abbrev c3e3 := ({ group := 4, min := 100, low := 0 } : Protection)
abbrev c3e4 := ({ group := 4, own := 100 } : Charge)
theorem sane_law23Spec (RES : Bool) (hm : sane_law23 = some RES) : Spec Try.prog 10 [] [] (pB RES) [] [] := by
 unfold sane_law23 at hm
 refine SO Try.func10 rfl rfl [] [] ?_
 intro cx hnt
 refine Sq (RK hnt (.no :: []) [] [] tv ?_)
 obtain ⟨r1, hr1, hm⟩ := bo hm
 refine Sq (RK hnt (o4 [] true r1 :: nn 2 []) [(1, rr 1008)] [(1008, bx [ow 1080 r1.nodes.length, pI r1.next]), (1080, ob0 (roNode r1.nodes))] (an (pair_law23Spec r1 hr1) tv) ?_)
 refine Sq (RN hnt (nn 5 []) [(1, rr 1008), (2, ow 1112 [(c3e1), (c3e2), (c3e3)].length)] [(1008, bx [ow 1080 r1.nodes.length, pI r1.next]), (1080, ob0 (roNode r1.nodes)), (1112, ob0 (roProtection [(c3e1), (c3e2), (c3e3)]))] [(2, ow 1112 3)] [(1112, .row 3 3 (cut 3 [vi 2, vi 100, vi 0, vi 3, vi 100, vi 0, vi 4, vi 100, vi 0]))] tv (by kernel_rfl) (.cons rfl (MLe.ownLen (enc := encProtection) (d := dProtection) (f := (cut 3 [vi 2, vi 100, vi 0, vi 3, vi 100, vi 0, vi 4, vi 100, vi 0])) (RowIs.lit (enc := encProtection) (d := dProtection) (n := 3) (f := (cut 3 [vi 2, vi 100, vi 0, vi 3, vi 100, vi 0, vi 4, vi 100, vi 0])) [(c3e1), (c3e2), (c3e3)] rfl (fun | 0, _ => rfl | 1, _ => rfl | 2, _ => rfl | n + 3, h => absurd h (by omega)))) .nil) (.cons rfl (BLe.typed (RowIs.lit (enc := encProtection) (d := dProtection) (n := 3) (f := (cut 3 [vi 2, vi 100, vi 0, vi 3, vi 100, vi 0, vi 4, vi 100, vi 0])) [(c3e1), (c3e2), (c3e3)] rfl (fun | 0, _ => rfl | 1, _ => rfl | 2, _ => rfl | n + 3, h => absurd h (by omega)))) .nil) ?_)
 refine Sq (DW.cv [] [] [1080] [(1008, bx (pm (encTree r1)))] (Conv.frz [1080]) ?_)
 refine DW.cv [] [(2, .p (slProtection [(c3e1), (c3e2), (c3e3)]))] [1112] [] (Conv.frz [1112]) ?_
 obtain ⟨r4, hr4, hm⟩ := bo hm
 refine RD hnt (nn 6 (o5 [] false r4 :: nn 5 [])) [] [(3, ow 1176 r4.1.length), (4, pI r4.2)] [] [(1176, ob0 (roProtection r4.1))] (an (Spec.args (xs := [.p (.agg (encTree r1)), .p (.agg [.sl .unk 2 2 (cut 2 [vi 3, vi 200, vi 4, vi 100])]), .p (slProtection [(c3e1), (c3e2), (c3e3)]), pI 1]) (Effective_protectSpec r1 ({ charges := [({ group := 3, own := 200 } : Charge), (c3e4)] } : Counter) [(c3e1), (c3e2), (c3e3)] 1 r4 hr4) (.cons .rfl (.cons (.p (.agg (.cons (PLe.typed (RowIs.lit (enc := encCharge) (d := dCharge) (n := 2) (f := (cut 2 [vi 3, vi 200, vi 4, vi 100])) [({ group := 3, own := 200 } : Charge), (c3e4)] rfl (fun | 0, _ => rfl | 1, _ => rfl | n + 2, h => absurd h (by omega)))) .nil))) (.cons .rfl (.cons .rfl .nil))))) tv) ?_
 obtain ⟨r5, hr5, hm⟩ := bo hm
 refine Sq (RD hnt (nn 6 (o5 [] false r5 :: nn 5 [])) [] [(5, ow 1256 r5.1.length), (6, pI r5.2)] [] [(1256, ob0 (roProtection r5.1))] (an (Spec.args (xs := [.p (.agg (encTree r1)), .p (.agg [.sl .unk 2 2 (cut 2 [vi 3, vi 50, vi 4, vi 100])]), .p (slProtection [(c3e1), (c3e2), (c3e3)]), pI 1]) (Effective_protectSpec r1 ({ charges := [({ group := 3, own := 50 } : Charge), (c3e4)] } : Counter) [(c3e1), (c3e2), (c3e3)] 1 r5 hr5) (.cons .rfl (.cons (.p (.agg (.cons (PLe.typed (RowIs.lit (enc := encCharge) (d := dCharge) (n := 2) (f := (cut 2 [vi 3, vi 50, vi 4, vi 100])) [({ group := 3, own := 50 } : Charge), (c3e4)] rfl (fun | 0, _ => rfl | 1, _ => rfl | n + 2, h => absurd h (by omega)))) .nil))) (.cons .rfl (.cons .rfl .nil))))) tv) ?_)
 obtain ⟨r6, hr6, hm⟩ := bo hm
 refine Sq (RD hnt (nn 2 (o46 [] true r6 :: nn 7 [])) [1, 2] [(7, pI r6.1), (8, pI r6.2.1), (9, pI r6.2.2)] [1008] [] (an (Floor_protectSpec r1 [(c3e1), (c3e2), (c3e3)] 3 50 r6 hr6) tv) ?_)
 refine Sq ?_
 refine Jn (ι := Bool) (fun (y1 : Bool) => mkSt [(0, pB y1)] []) (fun y1 => sane_law23J1 y1 = some RES) ?_ ?_
 ·intro y1 hm
  unfold sane_law23J1 at hm
  obtain rfl := sj hm
  exact DW.ret (retK [] [] (pB y1))
 ·rcases bt (r4.2 == 0) with h7 | h7
  ·replace hm := if_t h7 hm
   rcases bt (r5.2 == 0) with h8 | h8
   ·replace hm := if_t h8 hm
    rcases bt (r6.2.2 == 0) with h9 | h9
    ·replace hm := if_t h9 hm
     rcases bt (r6.1 == 25) with h10 | h10
     ·replace hm := if_t h10 hm
      rcases bt (r6.2.1 == 0) with h11 | h11
      ·replace hm := if_t h11 hm
       rcases bt (((r4.1.length : Nat) : Int) == 4) with h12 | h12
       ·replace hm := if_t h12 hm
        obtain ⟨g13, g14, hm⟩ := go2 hm
        rcases bt ((r4.1.getD 1 dProtection).min == 100) with h15 | h15
        ·replace hm := if_t h15 hm
         obtain ⟨g16, g17, hm⟩ := go2 hm
         rcases bt ((r4.1.getD 2 dProtection).min == 50) with h18 | h18
         ·replace hm := if_t h18 hm
          obtain ⟨g19, g20, hm⟩ := go2 hm
          rcases bt ((r4.1.getD 3 dProtection).min == 50) with h21 | h21
          ·replace hm := if_t h21 hm
           rcases bt (((r5.1.length : Nat) : Int) == 4) with h22 | h22
           ·replace hm := if_t h22 hm
            obtain ⟨g23, g24, hm⟩ := go2 hm
            rcases bt ((r5.1.getD 2 dProtection).min == 33) with h25 | h25
            ·replace hm := if_t h25 hm
             obtain ⟨g26, g27, hm⟩ := go2 hm
             refine RK hnt (nn 5 (pT :: nn 3 (pT :: nn 3 (pT :: nn 3 (pT :: nn 4 (pT :: nn 6 (pT :: nn 6 (pT :: nn 6 (pT :: nn 4 (pT :: nn 6 (pT :: nn 6 (pT :: .no :: [])))))))))))) [(0, pB ((r5.1.getD 3 dProtection).min == 66))] [] (an3 h7 (an3 h8 (an3 h9 (an3 h10 (an4 h11 (an2 h12 (an (nn0 1) (an (ltc g13) (an2 h12 (an g14 (an2 h12 (an2 h15 (an (nn0 2) (an (ltc g16) (an2 h15 (an g17 (an2 h15 (an2 h18 (an (nn0 3) (an (ltc g19) (an2 h18 (an g20 (an2 h18 (an4 h21 (an2 h22 (an (nn0 2) (an (ltc g23) (an2 h22 (an g24 (an2 h22 (an2 h25 (an (nn0 3) (an (ltc g26) (an2 h25 (an g27 (an2 h25 tv)))))))))))))))))))))))))))))))))))) ?_
             exact jD ((r5.1.getD 3 dProtection).min == 66) hm .refl
            ·replace hm := if_f h25 hm
             refine RK hnt (nn 5 (pT :: nn 3 (pT :: nn 3 (pT :: nn 3 (pT :: nn 4 (pT :: nn 6 (pT :: nn 6 (pT :: nn 6 (pT :: nn 4 (pT :: nn 6 (pT :: .no :: sk 5 (pF :: .no :: [])))))))))))) [(0, pB false)] [] (an3 h7 (an3 h8 (an3 h9 (an3 h10 (an4 h11 (an2 h12 (an (nn0 1) (an (ltc g13) (an2 h12 (an g14 (an2 h12 (an2 h15 (an (nn0 2) (an (ltc g16) (an2 h15 (an g17 (an2 h15 (an2 h18 (an (nn0 3) (an (ltc g19) (an2 h18 (an g20 (an2 h18 (an4 h21 (an2 h22 (an (nn0 2) (an (ltc g23) (an2 h22 (an g24 (an2 h22 (an6 h25 tv))))))))))))))))))))))))))))))) ?_
             exact jD false hm .refl
           ·replace hm := if_f h22 hm
            refine RK hnt (nn 5 (pT :: nn 3 (pT :: nn 3 (pT :: nn 3 (pT :: nn 4 (pT :: nn 6 (pT :: nn 6 (pT :: nn 6 (pT :: nn 4 (pT :: .no :: sk 5 (pF :: .no :: sk 5 (pF :: .no :: [])))))))))))) [(0, pB false)] [] (an3 h7 (an3 h8 (an3 h9 (an3 h10 (an4 h11 (an2 h12 (an (nn0 1) (an (ltc g13) (an2 h12 (an g14 (an2 h12 (an2 h15 (an (nn0 2) (an (ltc g16) (an2 h15 (an g17 (an2 h15 (an2 h18 (an (nn0 3) (an (ltc g19) (an2 h18 (an g20 (an2 h18 (an4 h21 (an6 h22 (an6 ff tv)))))))))))))))))))))))))) ?_
            exact jD false hm .refl
          ·replace hm := if_f h21 hm
           refine RK hnt (nn 5 (pT :: nn 3 (pT :: nn 3 (pT :: nn 3 (pT :: nn 4 (pT :: nn 6 (pT :: nn 6 (pT :: nn 6 (pT :: .no :: sk 3 (pF :: .no :: sk 5 (pF :: .no :: sk 5 (pF :: .no :: [])))))))))))) [(0, pB false)] [] (an3 h7 (an3 h8 (an3 h9 (an3 h10 (an4 h11 (an2 h12 (an (nn0 1) (an (ltc g13) (an2 h12 (an g14 (an2 h12 (an2 h15 (an (nn0 2) (an (ltc g16) (an2 h15 (an g17 (an2 h15 (an2 h18 (an (nn0 3) (an (ltc g19) (an2 h18 (an g20 (an2 h18 (an4 h21 (an6 ff (an6 ff tv)))))))))))))))))))))))))) ?_
           exact jD false hm .refl
         ·replace hm := if_f h18 hm
          refine RK hnt (nn 5 (pT :: nn 3 (pT :: nn 3 (pT :: nn 3 (pT :: nn 4 (pT :: nn 6 (pT :: nn 6 (pT :: .no :: sk 5 (pF :: .no :: sk 3 (pF :: .no :: sk 5 (pF :: .no :: sk 5 (pF :: .no :: [])))))))))))) [(0, pB false)] [] (an3 h7 (an3 h8 (an3 h9 (an3 h10 (an4 h11 (an2 h12 (an (nn0 1) (an (ltc g13) (an2 h12 (an g14 (an2 h12 (an2 h15 (an (nn0 2) (an (ltc g16) (an2 h15 (an g17 (an2 h15 (an6 h18 (an4 ff (an6 ff (an6 ff tv))))))))))))))))))))) ?_
          exact jD false hm .refl
        ·replace hm := if_f h15 hm
         refine RK hnt (nn 5 (pT :: nn 3 (pT :: nn 3 (pT :: nn 3 (pT :: nn 4 (pT :: nn 6 (pT :: .no :: sk 5 (pF :: .no :: sk 5 (pF :: .no :: sk 3 (pF :: .no :: sk 5 (pF :: .no :: sk 5 (pF :: .no :: [])))))))))))) [(0, pB false)] [] (an3 h7 (an3 h8 (an3 h9 (an3 h10 (an4 h11 (an2 h12 (an (nn0 1) (an (ltc g13) (an2 h12 (an g14 (an2 h12 (an6 h15 (an4 ff (an6 ff (an6 ff (an6 ff tv)))))))))))))))) ?_
         exact jD false hm .refl
       ·replace hm := if_f h12 hm
        refine RK hnt (nn 5 (pT :: nn 3 (pT :: nn 3 (pT :: nn 3 (pT :: nn 4 (pT :: .no :: sk 5 (pF :: .no :: sk 5 (pF :: .no :: sk 5 (pF :: .no :: sk 3 (pF :: .no :: sk 5 (pF :: .no :: sk 5 (pF :: .no :: [])))))))))))) [(0, pB false)] [] (an3 h7 (an3 h8 (an3 h9 (an3 h10 (an4 h11 (an6 h12 (an4 ff (an6 ff (an6 ff (an6 ff (an6 ff tv))))))))))) ?_
        exact jD false hm .refl
      ·replace hm := if_f h11 hm
       refine RK hnt (nn 5 (pT :: nn 3 (pT :: nn 3 (pT :: nn 3 (pT :: .no :: sk 3 (pF :: .no :: sk 5 (pF :: .no :: sk 5 (pF :: .no :: sk 5 (pF :: .no :: sk 3 (pF :: .no :: sk 5 (pF :: .no :: sk 5 (pF :: .no :: [])))))))))))) [(0, pB false)] [] (an3 h7 (an3 h8 (an3 h9 (an3 h10 (an4 h11 (an4 ff (an6 ff (an6 ff (an6 ff (an6 ff (an6 ff tv))))))))))) ?_
       exact jD false hm .refl
     ·replace hm := if_f h10 hm
      refine RK hnt (nn 5 (pT :: nn 3 (pT :: nn 3 (pT :: .no :: sk 2 (pF :: .no :: sk 3 (pF :: .no :: sk 5 (pF :: .no :: sk 5 (pF :: .no :: sk 5 (pF :: .no :: sk 3 (pF :: .no :: sk 5 (pF :: .no :: sk 5 (pF :: .no :: [])))))))))))) [(0, pB false)] [] (an3 h7 (an3 h8 (an3 h9 (an3 h10 (an2 ff (an6 ff (an6 ff (an6 ff (an6 ff (an6 ff (an6 ff tv))))))))))) ?_
      exact jD false hm .refl
    ·replace hm := if_f h9 hm
     refine RK hnt (nn 5 (pT :: nn 3 (pT :: .no :: sk 2 (pF :: .no :: sk 2 (pF :: .no :: sk 3 (pF :: .no :: sk 5 (pF :: .no :: sk 5 (pF :: .no :: sk 5 (pF :: .no :: sk 3 (pF :: .no :: sk 5 (pF :: .no :: sk 5 (pF :: .no :: [])))))))))))) [(0, pB false)] [] (an3 h7 (an3 h8 (an3 h9 (an5 ff (an6 ff (an6 ff (an6 ff (an6 ff (an6 ff (an6 ff tv)))))))))) ?_
     exact jD false hm .refl
   ·replace hm := if_f h8 hm
    refine RK hnt (nn 5 (pT :: .no :: sk 2 (pF :: .no :: sk 2 (pF :: .no :: sk 2 (pF :: .no :: sk 3 (pF :: .no :: sk 5 (pF :: .no :: sk 5 (pF :: .no :: sk 5 (pF :: .no :: sk 3 (pF :: .no :: sk 5 (pF :: .no :: sk 5 (pF :: .no :: [])))))))))))) [(0, pB false)] [] (an3 h7 (an3 h8 (an2 ff (an6 ff (an6 ff (an6 ff (an6 ff (an6 ff (an6 ff (an6 ff tv)))))))))) ?_
    exact jD false hm .refl
  ·replace hm := if_f h7 hm
   refine RK hnt (nn 3 (sk 2 (pF :: .no :: sk 2 (pF :: .no :: sk 2 (pF :: .no :: sk 2 (pF :: .no :: sk 3 (pF :: .no :: sk 5 (pF :: .no :: sk 5 (pF :: .no :: sk 5 (pF :: .no :: sk 3 (pF :: .no :: sk 5 (pF :: .no :: sk 5 (pF :: .no :: []))))))))))))) [(0, pB false)] [] (an3 h7 (an5 ff (an6 ff (an6 ff (an6 ff (an6 ff (an6 ff (an6 ff (an6 ff tv))))))))) ?_
   exact jD false hm .refl
abbrev o3 (ks : List Nat) (b : Bool) (RES : Bool) : Orc := .call 10 ks b (pB RES) [] []

theorem Roll_madeSpec (p0 : List Int) (RES : Dice) (hm : Roll_made p0 = some RES) : Spec Try.prog 11 [.p (slI p0)] [] (rr 0) [] [.box (pm (encDice RES))] := by
 unfold Roll_made at hm
 refine SO Try.func11 rfl rfl [(0, .p (slI p0))] [] ?_
 intro cx hnt
 refine Sq (RK hnt (.no :: []) [(0, .p (slI p0))] [] tv ?_)
 refine Sq (RK hnt (nn 4 []) [(2, rr 1040)] [(1040, bx [.p (slI p0), pI 0])] tv ?_)
 obtain rfl := sj hm
 exact DW.ret (retK [.box [.p (slI p0), pI 0]] [1040] (rr 0))
abbrev o49 (ks : List Nat) (b : Bool) (RES : Dice) : Orc := .call 11 ks b (rr 0) [] [.box (pm (encDice RES))]

abbrev c51e1 := ({ id := 1, parent := 0, name := ByteArray.empty, control := 0, kind := 0, owner := 0 } : Node)
theorem New_ref5Spec (RES : Tree) (hm : New_ref5 = some RES) : Spec Try.prog 27 [] [] (.agg [ow 0 RES.nodes.length, pI RES.next]) [] [roNode RES.nodes] := by
 unfold New_ref5 at hm
 refine SO Try.func27 rfl rfl [] [] ?_
 intro cx hnt
 refine Sq (RK hnt (.no :: []) [(0, rr 1000)] [(1000, bx [.p (.sl .nil 0 0 (fun _ => [])), pI 0])] tv ?_)
 refine Sq (RN hnt (nn 4 []) [(0, rr 1000)] [(1000, bx [ow 1016 [(c51e1)].length, pI 2]), (1016, ob0 (roNode [(c51e1)]))] [] [(1000, .box [ow 1016 1, pI 2]), (1016, .row 6 1 (cut 6 [vi 1, vi 0, vs ByteArray.empty, vi 0, vi 0, vi 0]))] tv (by kernel_rfl) .nil (.cons rfl (.box (.cons (MLe.ownLen (enc := encNode) (d := dNode) (f := (cut 6 [vi 1, vi 0, vs ByteArray.empty, vi 0, vi 0, vi 0])) (RowIs.lit (enc := encNode) (d := dNode) (n := 1) (f := (cut 6 [vi 1, vi 0, vs ByteArray.empty, vi 0, vi 0, vi 0])) [(c51e1)] rfl (fun | 0, _ => rfl | n + 1, h => absurd h (by omega)))) (.cons .rfl .nil))) (.cons rfl (BLe.typed (RowIs.lit (enc := encNode) (d := dNode) (n := 1) (f := (cut 6 [vi 1, vi 0, vs ByteArray.empty, vi 0, vi 0, vi 0])) [(c51e1)] rfl (fun | 0, _ => rfl | n + 1, h => absurd h (by omega)))) .nil)) ?_)
 obtain rfl := sj hm
 exact DW.ret (retK [roNode [(c51e1)]] [1016] (.agg [ow 0 [(c51e1)].length, pI 2]))
abbrev o51 (ks : List Nat) (b : Bool) (RES : Tree) : Orc := .call 27 ks b (.agg [ow 0 RES.nodes.length, pI RES.next]) [] [roNode RES.nodes]

abbrev c52e1 (p0 : Dice) := (p0.l.getD (Int.toNat (w64 ((w64 (p0.atF + 1)) - 1))) 0)
theorem Next_Dice_madeSpec (p0 : Dice) (p1 : Int) (RES : Int × Dice) (hm : Next_Dice_made p0 p1 = some RES) : Spec Try.prog 18 [rr 0, pI p1] [.box (pm (encDice p0))] (pI RES.1) [.box (pm (encDice RES.2))] [] := by
 unfold Next_Dice_made at hm
 refine SO Try.func18 rfl rfl [(0, rr 0), (1, pI p1)] [(0, bx (pm (encDice p0)))] ?_
 intro cx hnt
 refine Sq (RD hnt (.no :: []) [] [] [] [] tv ?_)
 refine Sq (Sq (DW.regJ (sl2 := [(0, rr 0), (1, pI p1), (19, pB ((decide (p0.atF ≥ ((p0.l.length : Nat) : Int))) || (decide (p1 < 1))))]) (ob2 := [(0, bx (pm (encDice p0)))]) ?_ ?_))
 ·rcases bt (decide (p0.atF ≥ ((p0.l.length : Nat) : Int))) with h1 | h1
  ·exact RT hnt (nn 11 (sk 2 (pT :: []))) [(19, pB true)] (an3 h1 tv) (by kernel_rfl) (.cons rfl (.of_eq (by rw [h1]; try rfl)) .nil)
  ·exact RT hnt (nn 13 (pF :: [])) [(19, pB (decide (p1 < 1)))] (an3 h1 tv) (by kernel_rfl) (.cons rfl (.of_eq (by rw [h1]; try rfl)) .nil)
 ·refine condM hm ?_ ?_
  ·intro h2 hm
   refine Sq (RD hnt (.no :: []) [0, 1, 19] [(4, pI 0)] [] [] tv ?_)
   obtain rfl := sj hm
   exact DW.ret (retK [.box (pm (encDice p0))] [] (pI 0))
  ·intro h2 hm
   refine Sk ?_
   refine Sq (RD hnt (nn 8 []) [19] [] [] [(0, bx [.p (slI p0.l), pI (w64 (p0.atF + 1))])] tv ?_)
   obtain ⟨g3, g4, hm⟩ := go2 hm
   refine Sq (RD hnt (nn 14 []) [0] [(5, pI (Int.tmod (c52e1 p0) p1))] [] [] (an g3.1 (an g3.2 (an g4 tv))) ?_)
   refine Sq (Sq (RD hnt (nn 2 []) [] [(41, pB (decide ((Int.tmod (c52e1 p0) p1) < 0)))] [] [] tv ?_))
   refine Jn (ι := Int) (fun (y1 : Int) => mkSt [(5, pI y1)] [(0, bx [.p (slI p0.l), pI (w64 (p0.atF + 1))])]) (fun y1 => (Next_Dice_madeJ1 p0) y1 = some RES) ?_ ?_
   ·intro y1 hm
    unfold Next_Dice_madeJ1 at hm
    refine Sq (RD hnt (nn 2 []) [5] [(4, pI y1)] [] [] tv ?_)
    obtain rfl := sj hm
    exact DW.ret (retK [.box [.p (slI p0.l), pI (w64 (p0.atF + 1))]] [] (pI y1))
   ·refine condM hm ?_ ?_
    ·intro h5 hm
     refine RD hnt (nn 4 []) [1, 41] [(5, pI (w64 ((Int.tmod (c52e1 p0) p1) + p1)))] [] [] tv ?_
     exact jD (w64 ((Int.tmod (c52e1 p0) p1) + p1)) hm Conv.eqK
    ·intro h5 hm
     refine Sk ?_
     exact jD (Int.tmod (c52e1 p0) p1) hm Conv.t0
abbrev o52 (ks : List Nat) (b : Bool) (RES : Int × Dice) : Orc := .call 18 ks b (pI RES.1) [.box (pm (encDice RES.2))] []

theorem Name_Dice_madeSpec (p0 : Dice) (RES : ByteArray × Dice) (hm : Name_Dice_made p0 = some RES) : Spec Try.prog 29 [rr 0] [.box (pm (encDice p0))] (pS RES.1) [.box (pm (encDice RES.2))] [] := by
 unfold Name_Dice_made at hm
 refine SO Try.func29 rfl rfl [(0, rr 0)] [(0, bx (pm (encDice p0)))] ?_
 intro cx hnt
 refine Sq (RD hnt (.no :: []) [] [] [] [] tv ?_)
 obtain ⟨r3, hr3, hm⟩ := bo hm
 obtain ⟨g4, g5, hm⟩ := go2 hm
 refine Sq (RK hnt (.asR (ow 1024 [(bs [97]), (bs [98]), (bs [99]), (bs [119, 101, 98]), (bs [100, 98, 45, 49]), (bs [88, 95, 57])].length) [(bs [97]), (bs [98]), (bs [99]), (bs [119, 101, 98]), (bs [100, 98, 45, 49]), (bs [88, 95, 57])].length (elems encS ByteArray.empty [(bs [97]), (bs [98]), (bs [99]), (bs [119, 101, 98]), (bs [100, 98, 45, 49]), (bs [88, 95, 57])]) :: .no :: o52 [0] true r3 :: nn 3 []) [(2, pS ([(bs [97]), (bs [98]), (bs [99]), (bs [119, 101, 98]), (bs [100, 98, 45, 49]), (bs [88, 95, 57])].getD (Int.toNat r3.1) ByteArray.empty))] [(0, bx (pm (encDice r3.2)))] (an (congrArg (MV.own 1024 0 0) (RowIs.asP (enc := encS) (d := ByteArray.empty) (L := [(bs [97]), (bs [98]), (bs [99]), (bs [119, 101, 98]), (bs [100, 98, 45, 49]), (bs [88, 95, 57])]) (RowIs.lit (enc := encS) (d := ByteArray.empty) (n := 6) (f := (cut 1 [vs (bs [97]), vs (bs [98]), vs (bs [99]), vs (bs [119, 101, 98]), vs (bs [100, 98, 45, 49]), vs (bs [88, 95, 57])])) [(bs [97]), (bs [98]), (bs [99]), (bs [119, 101, 98]), (bs [100, 98, 45, 49]), (bs [88, 95, 57])] rfl (fun | 0, _ => rfl | 1, _ => rfl | 2, _ => rfl | 3, _ => rfl | 4, _ => rfl | 5, _ => rfl | n + 6, h => absurd h (by omega)))).1) (an (RowIs.asP (enc := encS) (d := ByteArray.empty) (L := [(bs [97]), (bs [98]), (bs [99]), (bs [119, 101, 98]), (bs [100, 98, 45, 49]), (bs [88, 95, 57])]) (RowIs.lit (enc := encS) (d := ByteArray.empty) (n := 6) (f := (cut 1 [vs (bs [97]), vs (bs [98]), vs (bs [99]), vs (bs [119, 101, 98]), vs (bs [100, 98, 45, 49]), vs (bs [88, 95, 57])])) [(bs [97]), (bs [98]), (bs [99]), (bs [119, 101, 98]), (bs [100, 98, 45, 49]), (bs [88, 95, 57])] rfl (fun | 0, _ => rfl | 1, _ => rfl | 2, _ => rfl | 3, _ => rfl | 4, _ => rfl | 5, _ => rfl | n + 6, h => absurd h (by omega)))) (an (Next_Dice_madeSpec p0 6 r3 hr3) (an tv (an g4.1 (an g4.2 (an g5 tv))))))) ?_)
 obtain rfl := sj hm
 exact DW.ret (retK [.box (pm (encDice r3.2))] [] (pS ([(bs [97]), (bs [98]), (bs [99]), (bs [119, 101, 98]), (bs [100, 98, 45, 49]), (bs [88, 95, 57])].getD (Int.toNat r3.1) ByteArray.empty)))
abbrev o53 (ks : List Nat) (b : Bool) (RES : ByteArray × Dice) : Orc := .call 29 ks b (pS RES.1) [.box (pm (encDice RES.2))] []

abbrev c57e1 (p0 : ByteArray) (k1 : Int) : Nat × MV := (57, pB (!((((byteAt p0 (Int.toNat k1)) : Nat) : Int) == 45)))
theorem Valid_ref1Spec (p0 : ByteArray) (RES : Bool) (hm : Valid_ref1 p0 = some RES) : Spec Try.prog 52 [pS p0] [] (pB RES) [] [] := by
 unfold Valid_ref1 at hm
 refine SO Try.func52 rfl rfl [(0, pS p0)] [] ?_
 intro cx hnt
 refine Sq (RK hnt (.no :: []) [(0, pS p0)] [] tv ?_)
 refine Sq (Sq ?_)
 refine Jn (ι := Bool) (fun (y1 : Bool) => mkSt [(0, pS p0), (17, pB y1)] []) (fun y1 => (Valid_ref1J1 p0) y1 = some RES) ?_ ?_
 ·intro y1 hm
  unfold Valid_ref1J1 at hm
  refine condM hm ?_ ?_
  ·intro h4 hm
   refine Sq (RK hnt (.no :: []) [(2, pB false)] [] tv ?_)
   obtain rfl := sj hm
   exact DW.ret (retK [] [] (pB false))
  ·intro h4 hm
   refine Sk ?_
   refine Sq (Sq (RK hnt (.no :: []) [(0, pS p0), (3, pI 0)] [] tv ?_))
   refine Bk ?_
   obtain ⟨hc1, hm⟩ := go1 hm
   refine DW.forO (fun (k1 : Int) (s1 : Unit) => mkSt [(0, pS p0), (3, pI k1)] []) (lo := 0) (hi := ((p0.size : Nat) : Int)) hm .refl ?_
   intro k1 s1 n1 hk1 hs1 he1
   refine Sq (Sq (RD hnt (nn 4 []) [] [(21, pB (decide (k1 < ((p0.size : Nat) : Int))))] [] [] tv ?_))
   refine condK (decide (k1 < ((p0.size : Nat) : Int))) ?_ ?_
   ·intro h55
    have hlt1 : k1 < ((p0.size : Nat) : Int) := by have := of_decide_eq_true h55; omega
    have hm := hs1 hlt1
    unfold Valid_ref1L1 at hm
    refine Sk ?_
    refine Sq (Bk ?_)
    obtain ⟨g56, hm⟩ := go1 hm
    refine Sq (RD hnt (nn 4 []) [21] [(4, .p (vk .u8 (((byteAt p0 (Int.toNat k1)) : Nat) : Int)))] [] [] (an g56.1 (an g56.2 tv)) ?_)
    refine Sq (DW.regJ (sl2 := [(0, pS p0), (3, pI k1), (57, pB (!((((((decide ((((byteAt p0 (Int.toNat k1)) : Nat) : Int) ≥ 97)) && (decide ((((byteAt p0 (Int.toNat k1)) : Nat) : Int) ≤ 122))) || ((decide ((((byteAt p0 (Int.toNat k1)) : Nat) : Int) ≥ 65)) && (decide ((((byteAt p0 (Int.toNat k1)) : Nat) : Int) ≤ 90)))) || ((decide ((((byteAt p0 (Int.toNat k1)) : Nat) : Int) ≥ 48)) && (decide ((((byteAt p0 (Int.toNat k1)) : Nat) : Int) ≤ 57)))) || ((((byteAt p0 (Int.toNat k1)) : Nat) : Int) == 95)) || ((((byteAt p0 (Int.toNat k1)) : Nat) : Int) == 45))))]) (ob2 := []) ?_ ?_)
    ·rcases bt (decide ((((byteAt p0 (Int.toNat k1)) : Nat) : Int) ≥ 97)) with h57 | h57
     ·rcases bt (decide ((((byteAt p0 (Int.toNat k1)) : Nat) : Int) ≤ 122)) with h58 | h58
      ·exact RT hnt (nn 5 (pT :: .no :: sk 6 (pT :: .no :: sk 6 (pT :: .no :: sk 2 (pT :: .no :: sk 2 (pT :: .no :: [])))))) [(57, pB false)] (an3 h57 (an5 h58 (an5 tt (an6 tt tv)))) (by kernel_rfl) (.cons rfl (.of_eq (by rw [h57, h58]; try rfl)) .nil)
      ·rcases bt (decide ((((byteAt p0 (Int.toNat k1)) : Nat) : Int) ≥ 65)) with h59 | h59
       ·rcases bt (decide ((((byteAt p0 (Int.toNat k1)) : Nat) : Int) ≤ 90)) with h60 | h60
        ·exact RT hnt (nn 5 (pT :: nn 6 (pT :: pF :: .no :: sk 6 (pT :: .no :: sk 2 (pT :: .no :: sk 2 (pT :: .no :: [])))))) [(57, pB false)] (an3 h57 (an3 h58 (an2 h59 (an h58 (an h59 (an h58 (an5 h60 (an6 tt tv)))))))) (by kernel_rfl) (.cons rfl (.of_eq (by rw [h57, h58, h59, h60]; try rfl)) .nil)
        ·rcases bt (decide ((((byteAt p0 (Int.toNat k1)) : Nat) : Int) ≥ 48)) with h61 | h61
         ·rcases bt (decide ((((byteAt p0 (Int.toNat k1)) : Nat) : Int) ≤ 57)) with h62 | h62
          ·exact RT hnt (nn 5 (pT :: nn 6 (pT :: pF :: nn 6 (pT :: pF :: .no :: sk 2 (pT :: .no :: sk 2 (pT :: .no :: [])))))) [(57, pB false)] (an3 h57 (an3 h58 (an2 h59 (an h58 (an h59 (an h58 (an3 h60 (an2 h61 (an h60 (an h61 (an h60 (an3 h62 (an3 tt tv))))))))))))) (by kernel_rfl) (.cons rfl (.of_eq (by rw [h57, h58, h59, h60, h61, h62]; try rfl)) .nil)
          ·rcases bt ((((byteAt p0 (Int.toNat k1)) : Nat) : Int) == 95) with h63 | h63
           ·exact RT hnt (nn 5 (pT :: nn 6 (pT :: pF :: nn 6 (pT :: pF :: nn 3 (pF :: .no :: sk 2 (pT :: .no :: [])))))) [(57, pB false)] (an3 h57 (an3 h58 (an2 h59 (an h58 (an h59 (an h58 (an3 h60 (an2 h61 (an h60 (an h61 (an h60 (an3 h62 (an3 h63 tv))))))))))))) (by kernel_rfl) (.cons rfl (.of_eq (by rw [h57, h58, h59, h60, h61, h62, h63]; try rfl)) .nil)
           ·exact RT hnt (nn 5 (pT :: nn 6 (pT :: pF :: nn 6 (pT :: pF :: nn 3 (pF :: nn 3 (pF :: .no :: [])))))) [(c57e1 p0 k1)] (an3 h57 (an3 h58 (an2 h59 (an h58 (an h59 (an h58 (an3 h60 (an2 h61 (an h60 (an h61 (an h60 (an3 h62 (an3 h63 tv))))))))))))) (by kernel_rfl) (.cons rfl (.of_eq (by rw [h57, h58, h59, h60, h61, h62, h63]; try rfl)) .nil)
         ·rcases bt ((((byteAt p0 (Int.toNat k1)) : Nat) : Int) == 95) with h64 | h64
          ·exact RT hnt (nn 5 (pT :: nn 6 (pT :: pF :: nn 4 (sk 2 (pF :: pF :: nn 3 (pF :: .no :: sk 2 (pT :: .no :: []))))))) [(57, pB false)] (an3 h57 (an3 h58 (an2 h59 (an h58 (an h59 (an h58 (an3 h60 (an2 h61 (an h60 (an h61 (an h60 (an3 ff (an3 h64 tv))))))))))))) (by kernel_rfl) (.cons rfl (.of_eq (by rw [h57, h58, h59, h60, h61, h64]; try rfl)) .nil)
          ·exact RT hnt (nn 5 (pT :: nn 6 (pT :: pF :: nn 4 (sk 2 (pF :: pF :: nn 3 (pF :: nn 3 (pF :: .no :: []))))))) [(c57e1 p0 k1)] (an3 h57 (an3 h58 (an2 h59 (an h58 (an h59 (an h58 (an3 h60 (an2 h61 (an h60 (an h61 (an h60 (an3 ff (an3 h64 tv))))))))))))) (by kernel_rfl) (.cons rfl (.of_eq (by rw [h57, h58, h59, h60, h61, h64]; try rfl)) .nil)
       ·rcases bt (decide ((((byteAt p0 (Int.toNat k1)) : Nat) : Int) ≥ 48)) with h65 | h65
        ·rcases bt (decide ((((byteAt p0 (Int.toNat k1)) : Nat) : Int) ≤ 57)) with h66 | h66
         ·exact RT hnt (nn 5 (pT :: nn 4 (sk 2 (pF :: pF :: nn 6 (pT :: pF :: .no :: sk 2 (pT :: .no :: sk 2 (pT :: .no :: []))))))) [(57, pB false)] (an3 h57 (an3 h58 (an2 h59 (an h58 (an h59 (an h58 (an3 ff (an2 h65 (an ff (an h65 (an ff (an3 h66 (an3 tt tv))))))))))))) (by kernel_rfl) (.cons rfl (.of_eq (by rw [h57, h58, h59, h65, h66]; try rfl)) .nil)
         ·rcases bt ((((byteAt p0 (Int.toNat k1)) : Nat) : Int) == 95) with h67 | h67
          ·exact RT hnt (nn 5 (pT :: nn 4 (sk 2 (pF :: pF :: nn 6 (pT :: pF :: nn 3 (pF :: .no :: sk 2 (pT :: .no :: []))))))) [(57, pB false)] (an3 h57 (an3 h58 (an2 h59 (an h58 (an h59 (an h58 (an3 ff (an2 h65 (an ff (an h65 (an ff (an3 h66 (an3 h67 tv))))))))))))) (by kernel_rfl) (.cons rfl (.of_eq (by rw [h57, h58, h59, h65, h66, h67]; try rfl)) .nil)
          ·exact RT hnt (nn 5 (pT :: nn 4 (sk 2 (pF :: pF :: nn 6 (pT :: pF :: nn 3 (pF :: nn 3 (pF :: .no :: []))))))) [(c57e1 p0 k1)] (an3 h57 (an3 h58 (an2 h59 (an h58 (an h59 (an h58 (an3 ff (an2 h65 (an ff (an h65 (an ff (an3 h66 (an3 h67 tv))))))))))))) (by kernel_rfl) (.cons rfl (.of_eq (by rw [h57, h58, h59, h65, h66, h67]; try rfl)) .nil)
        ·rcases bt ((((byteAt p0 (Int.toNat k1)) : Nat) : Int) == 95) with h68 | h68
         ·exact RT hnt (nn 5 (pT :: nn 4 (sk 2 (pF :: pF :: nn 4 (sk 2 (pF :: pF :: nn 3 (pF :: .no :: sk 2 (pT :: .no :: [])))))))) [(57, pB false)] (an3 h57 (an3 h58 (an2 h59 (an h58 (an h59 (an h58 (an3 ff (an2 h65 (an ff (an h65 (an4 ff (an3 h68 tv)))))))))))) (by kernel_rfl) (.cons rfl (.of_eq (by rw [h57, h58, h59, h65, h68]; try rfl)) .nil)
         ·exact RT hnt (nn 5 (pT :: nn 4 (sk 2 (pF :: pF :: nn 4 (sk 2 (pF :: pF :: nn 3 (pF :: nn 3 (pF :: .no :: [])))))))) [(c57e1 p0 k1)] (an3 h57 (an3 h58 (an2 h59 (an h58 (an h59 (an h58 (an3 ff (an2 h65 (an ff (an h65 (an4 ff (an3 h68 tv)))))))))))) (by kernel_rfl) (.cons rfl (.of_eq (by rw [h57, h58, h59, h65, h68]; try rfl)) .nil)
     ·rcases bt (decide ((((byteAt p0 (Int.toNat k1)) : Nat) : Int) ≥ 65)) with h69 | h69
      ·rcases bt (decide ((((byteAt p0 (Int.toNat k1)) : Nat) : Int) ≤ 90)) with h70 | h70
       ·exact RT hnt (nn 3 (sk 2 (pF :: nn 6 (pT :: pF :: .no :: sk 6 (pT :: .no :: sk 2 (pT :: .no :: sk 2 (pT :: .no :: []))))))) [(57, pB false)] (an3 h57 (an3 ff (an2 h69 (an ff (an h69 (an ff (an5 h70 (an6 tt tv)))))))) (by kernel_rfl) (.cons rfl (.of_eq (by rw [h57, h69, h70]; try rfl)) .nil)
       ·rcases bt (decide ((((byteAt p0 (Int.toNat k1)) : Nat) : Int) ≥ 48)) with h71 | h71
        ·rcases bt (decide ((((byteAt p0 (Int.toNat k1)) : Nat) : Int) ≤ 57)) with h72 | h72
         ·exact RT hnt (nn 3 (sk 2 (pF :: nn 6 (pT :: pF :: nn 6 (pT :: pF :: .no :: sk 2 (pT :: .no :: sk 2 (pT :: .no :: []))))))) [(57, pB false)] (an3 h57 (an3 ff (an2 h69 (an ff (an h69 (an ff (an3 h70 (an2 h71 (an h70 (an h71 (an h70 (an3 h72 (an3 tt tv))))))))))))) (by kernel_rfl) (.cons rfl (.of_eq (by rw [h57, h69, h70, h71, h72]; try rfl)) .nil)
         ·rcases bt ((((byteAt p0 (Int.toNat k1)) : Nat) : Int) == 95) with h73 | h73
          ·exact RT hnt (nn 3 (sk 2 (pF :: nn 6 (pT :: pF :: nn 6 (pT :: pF :: nn 3 (pF :: .no :: sk 2 (pT :: .no :: []))))))) [(57, pB false)] (an3 h57 (an3 ff (an2 h69 (an ff (an h69 (an ff (an3 h70 (an2 h71 (an h70 (an h71 (an h70 (an3 h72 (an3 h73 tv))))))))))))) (by kernel_rfl) (.cons rfl (.of_eq (by rw [h57, h69, h70, h71, h72, h73]; try rfl)) .nil)
          ·exact RT hnt (nn 3 (sk 2 (pF :: nn 6 (pT :: pF :: nn 6 (pT :: pF :: nn 3 (pF :: nn 3 (pF :: .no :: []))))))) [(c57e1 p0 k1)] (an3 h57 (an3 ff (an2 h69 (an ff (an h69 (an ff (an3 h70 (an2 h71 (an h70 (an h71 (an h70 (an3 h72 (an3 h73 tv))))))))))))) (by kernel_rfl) (.cons rfl (.of_eq (by rw [h57, h69, h70, h71, h72, h73]; try rfl)) .nil)
        ·rcases bt ((((byteAt p0 (Int.toNat k1)) : Nat) : Int) == 95) with h74 | h74
         ·exact RT hnt (nn 3 (sk 2 (pF :: nn 6 (pT :: pF :: nn 4 (sk 2 (pF :: pF :: nn 3 (pF :: .no :: sk 2 (pT :: .no :: [])))))))) [(57, pB false)] (an3 h57 (an3 ff (an2 h69 (an ff (an h69 (an ff (an3 h70 (an2 h71 (an h70 (an h71 (an h70 (an3 ff (an3 h74 tv))))))))))))) (by kernel_rfl) (.cons rfl (.of_eq (by rw [h57, h69, h70, h71, h74]; try rfl)) .nil)
         ·exact RT hnt (nn 3 (sk 2 (pF :: nn 6 (pT :: pF :: nn 4 (sk 2 (pF :: pF :: nn 3 (pF :: nn 3 (pF :: .no :: [])))))))) [(c57e1 p0 k1)] (an3 h57 (an3 ff (an2 h69 (an ff (an h69 (an ff (an3 h70 (an2 h71 (an h70 (an h71 (an h70 (an3 ff (an3 h74 tv))))))))))))) (by kernel_rfl) (.cons rfl (.of_eq (by rw [h57, h69, h70, h71, h74]; try rfl)) .nil)
      ·rcases bt (decide ((((byteAt p0 (Int.toNat k1)) : Nat) : Int) ≥ 48)) with h75 | h75
       ·rcases bt (decide ((((byteAt p0 (Int.toNat k1)) : Nat) : Int) ≤ 57)) with h76 | h76
        ·exact RT hnt (nn 3 (sk 2 (pF :: nn 4 (sk 2 (pF :: pF :: nn 6 (pT :: pF :: .no :: sk 2 (pT :: .no :: sk 2 (pT :: .no :: [])))))))) [(57, pB false)] (an3 h57 (an3 ff (an2 h69 (an ff (an h69 (an4 ff (an2 h75 (an ff (an h75 (an ff (an3 h76 (an3 tt tv)))))))))))) (by kernel_rfl) (.cons rfl (.of_eq (by rw [h57, h69, h75, h76]; try rfl)) .nil)
        ·rcases bt ((((byteAt p0 (Int.toNat k1)) : Nat) : Int) == 95) with h77 | h77
         ·exact RT hnt (nn 3 (sk 2 (pF :: nn 4 (sk 2 (pF :: pF :: nn 6 (pT :: pF :: nn 3 (pF :: .no :: sk 2 (pT :: .no :: [])))))))) [(57, pB false)] (an3 h57 (an3 ff (an2 h69 (an ff (an h69 (an4 ff (an2 h75 (an ff (an h75 (an ff (an3 h76 (an3 h77 tv)))))))))))) (by kernel_rfl) (.cons rfl (.of_eq (by rw [h57, h69, h75, h76, h77]; try rfl)) .nil)
         ·exact RT hnt (nn 3 (sk 2 (pF :: nn 4 (sk 2 (pF :: pF :: nn 6 (pT :: pF :: nn 3 (pF :: nn 3 (pF :: .no :: [])))))))) [(c57e1 p0 k1)] (an3 h57 (an3 ff (an2 h69 (an ff (an h69 (an4 ff (an2 h75 (an ff (an h75 (an ff (an3 h76 (an3 h77 tv)))))))))))) (by kernel_rfl) (.cons rfl (.of_eq (by rw [h57, h69, h75, h76, h77]; try rfl)) .nil)
       ·rcases bt ((((byteAt p0 (Int.toNat k1)) : Nat) : Int) == 95) with h78 | h78
        ·exact RT hnt (nn 3 (sk 2 (pF :: nn 4 (sk 2 (pF :: pF :: nn 4 (sk 2 (pF :: pF :: nn 3 (pF :: .no :: sk 2 (pT :: .no :: []))))))))) [(57, pB false)] (an3 h57 (an3 ff (an2 h69 (an ff (an h69 (an4 ff (an2 h75 (an ff (an h75 (an4 ff (an3 h78 tv))))))))))) (by kernel_rfl) (.cons rfl (.of_eq (by rw [h57, h69, h75, h78]; try rfl)) .nil)
        ·exact RT hnt (nn 3 (sk 2 (pF :: nn 4 (sk 2 (pF :: pF :: nn 4 (sk 2 (pF :: pF :: nn 3 (pF :: nn 3 (pF :: .no :: []))))))))) [(c57e1 p0 k1)] (an3 h57 (an3 ff (an2 h69 (an ff (an h69 (an4 ff (an2 h75 (an ff (an h75 (an4 ff (an3 h78 tv))))))))))) (by kernel_rfl) (.cons rfl (.of_eq (by rw [h57, h69, h75, h78]; try rfl)) .nil)
    ·refine condM hm ?_ ?_
     ·intro h79 hm
      refine Sq (RK hnt (.no :: []) [(2, pB false)] [] tv ?_)
      obtain rfl := sj hm
      exact DW.ret (retK [] [] (pB false))
     ·intro h79 hm
      refine Sk ?_
      refine DW.done ?_
      show DW _ _ _ _ _
      refine RK hnt (nn 3 []) [(0, pS p0), (3, pI (w64 (k1 + 1)))] [] tv ?_
      exact jD () ⟨hlt1, hm⟩ (Conv.tp [(3, pI (w64 (k1 + 1)))] [] (by kernel_rfl) (.cons rfl (.of_eq (congrArg pI (w64_for (lo := 0) (hi := ((p0.size : Nat) : Int)) (by omega) hk1 hlt1 (by omega)))) .nil) .nil)
   ·intro h55
    have hge1 : ¬ k1 < ((p0.size : Nat) : Int) := by have := of_decide_eq_false h55; omega
    have hm := he1 hge1
    unfold Valid_ref1D1 at hm
    refine DW.exit ?_
    refine joinQ_exit ?_
    refine KQ_exit ?_
    refine blockQ_exit ?_
    show DW _ _ _ _ _
    refine Sq (RK hnt (.no :: []) [(2, pB true)] [] tv ?_)
    obtain rfl := sj hm
    exact DW.ret (retK [] [] (pB true))
 ·rcases bt (((p0.size : Nat) : Int) == 0) with h1 | h1
  ·replace hm := if_t h1 hm
   refine RK hnt (nn 4 (sk 3 (pT :: .no :: sk 3 (pT :: [])))) [(0, pS p0), (17, pB true)] [] (an4 h1 (an4 tt tv)) ?_
   exact jD true hm .refl
  ·replace hm := if_f h1 hm
   rcases bt (decide (((p0.size : Nat) : Int) > 32)) with h2 | h2
   ·replace hm := if_t h2 hm
    refine RK hnt (nn 7 (pF :: .no :: sk 3 (pT :: []))) [(0, pS p0), (17, pB true)] [] (an4 h1 (an4 h2 tv)) ?_
    exact jD true hm .refl
   ·replace hm := if_f h2 hm
    obtain ⟨g3, hm⟩ := go1 hm
    refine RK hnt (nn 7 (pF :: nn 4 (pF :: []))) [(0, pS p0), (17, pB ((((byteAt p0 0) : Nat) : Int) == 45))] [] (an4 h1 (an2 h2 (an (nn0 0) (an (ltc g3) (an2 h2 tv))))) ?_
    exact jD ((((byteAt p0 0) : Nat) : Int) == 45) hm .refl
abbrev o57 (ks : List Nat) (b : Bool) (RES : Bool) : Orc := .call 52 ks b (pB RES) [] []
end Go.Dm

