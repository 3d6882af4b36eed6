/- Texts of the proof of PidsPeaks: the data machine, the models of the Go functions, their contracts. -/
import Derived.Test.YtdckdjkjjmadeaaGreatPidsPeaksA2
import Derived.Test.YtdckdjkjjmadeaaGreatProg
set_option linter.unusedVariables false
set_option linter.unusedSimpArgs false
/- The law PidsPeaks, on the model. -/
namespace Go.Dm

theorem roomC_lt {h : Hierarchy} (w : WfH h) {l : List Count} (k : CntOk h l) (g : Int) : 0 ≤ roomC l (upT h.tree g) ∧ ∀ n, 1 ≤ n → n ≤ 128 → (roomC l (upT h.tree g) < n ↔ ∃ a ∈ upT h.tree g, fullC l n a = true) := by
  obtain ⟨r, h1, h2⟩ := least_pids_ok w k g
  rw [least_pids_t w k.ids g] at h1
  obtain rfl := Option.some.inj h1
  exact h2

theorem pidsPeaks_ok (l : List Int) (p : Int) (p0 : 0 ≤ p) (p1 : p ≤ 255) : Ok (PidsPeaks_law10 l p) (· = true) := by
  have sane : ∀ {f : Bool → Option Bool}, f true = some true → Ok (Option.bind sane_law10 f) (· = true) := fun h => Ok.step sane_law10_t (Ok.of_eq h rfl)
  unfold PidsPeaks_law10 Light_made
  refine Ok.step rfl ?_
  refine Ok.ite (fun _ => sane rfl) fun c => ?_
  have hl : l.length ≤ 600 := by
    have : ((l.length : Nat) : Int) ≤ 600 := by simpa using c
    omega
  refine Ok.step (a := { l := l, atF := 0 }) rfl ?_
  refine Ok.bind (Hierarchy_ok (dice_roll hl) 6 8 (by omega) (by omega) (by omega) (by omega)) fun r ⟨w, hd⟩ => ?_
  refine Ok.bind (counts_ok hd w) fun s ⟨m, hd2⟩ => ?_
  have h1 := w.len
  have h2 := w.tree.len2
  have h3 := w.tree.len1
  have hlen := m.ok.len
  refine Ok.bind (NextPos_ok hd2 _ (by omega) (by omega)) fun a ⟨ha1, ha2, ha3⟩ => Ok.guard ⟨ha2, ha3⟩ ?_
  have hgm : r.1.tree.nodes.getD a.1.toNat default ∈ r.1.tree.nodes := getD_mem (by omega)
  have hL1 : PidsPeaks_law10L1 p r a = fun q j x u n => PidsPeaks_law10L1 p r a q j x u n := rfl
  generalize hkk : w64 (Int.tmod p 6) = kk
  have k0 : 0 ≤ kk ∧ kk ≤ 5 := by
    have h1 := Int.tmod_nonneg 6 p0
    have h2 := Int.tmod_lt_of_pos p (show (0 : Int) < 6 by omega)
    rw [← hkk, w64_id (by omega) (by omega)]
    omega
  refine Ok.step (Room_pids_t w m.ok _) ?_
  refine Ok.step (Charge_pids_t w m.ok _ kk) ?_
  rw [if_pos (has_of hgm)]
  unfold chargeR
  have c1 : (decide (kk < 0) || decide (kk > 128)) = false := by
    have a1 : ¬ kk < 0 := by omega
    have a2 : ¬ kk > 128 := by omega
    simp [a1, a2]
  rw [c1, has_of hgm]
  simp only [Bool.not_true, Bool.false_eq_true, if_false]
  obtain ⟨q0, hq⟩ := roomC_lt w m.ok (r.1.tree.nodes.getD a.1.toNat default).id
  generalize hR : roomC s.1 (upT r.1.tree (r.1.tree.nodes.getD a.1.toNat default).id) = R at *
  by_cases hr : R < kk
  · have hr2 : ¬ kk ≤ R := by omega
    rw [if_pos (c := decide (R < kk) = true) (by simpa using hr)]
    refine Ok.ite (fun c => by simp [hr2] at c) fun _ => ?_
    exact sane rfl
  · have hr2 : kk ≤ R := by omega
    rw [if_neg (c := decide (R < kk) = true) (by simpa using hr)]
    refine Ok.ite (fun c => by simp [hr2] at c) fun _ => ?_
    refine Ok.ite (fun c => by simp at c) fun _ => ?_
    refine Ok.guard (by omega) ?_
    refine Ok.range (fun _ _ => True) trivial ?_ fun _ _ => sane rfl
    intro pre x post _ n he _ hn
    have hx : x ∈ s.1 := by rw [he]; simp
    have hpl : pre.length < s.1.length := by rw [he]; simp
    have v := m.ok.val x hx
    unfold PidsPeaks_law10L1
    refine Ok.step (Ancestors_ref5_t w.tree _) ?_
    have e2 : ancN r.1.tree (r.1.tree.nodes.getD a.1.toNat default).id = upT r.1.tree (r.1.tree.nodes.getD a.1.toNat default).id := by rw [ancN, if_pos (has_of hgm)]
    have hu := upT_len w.tree (r.1.tree.nodes.getD a.1.toNat default).id
    rw [e2]
    refine Ok.guard (by omega) ?_
    generalize upT r.1.tree (r.1.tree.nodes.getD a.1.toNat default).id = U at *
    refine Ok.range (fun pre v => v = if pre.contains x.group then kk else 0) rfl ?_ ?_
    · intro pre b post v nx he hv hnx
      unfold PidsPeaks_law10L4 PidsPeaks_law10J18
      rw [hkk]
      refine Ok.ite (fun c => hnx _ ?_) fun c => hnx _ ?_
      · have : b = x.group := by simpa using c
        rw [if_pos (by simp [this])]
      · have : ¬ x.group = b := fun e => by simp [e] at c
        rw [hv]
        congr 1
        simp [this]
    · intro v hv
      unfold PidsPeaks_law10D4 PidsPeaks_law10J19
      simp only
      have hll : pre.length < (s.1.map (chargeC U kk)).length := by rw [List.length_map]; exact hpl
      have hxi : (s.1.map (chargeC U kk)).getD pre.length default = chargeC U kk x := by
        rw [getD_lt hll, List.getElem_map]
        congr 1
        simp [he]
      rw [hxi]
      have hnow := v
      have hc := v
      have hcn := (m.ok.val x hx).now
      have hle := countN_le r.1 x.group
      have p1' := (m.ok.val x hx).p1
      have g1 : (chargeC U kk x).now = w64 (x.now + v) := by
        rw [hv]
        unfold chargeC
        cases U.contains x.group
        · show x.now = w64 (x.now + 0)
          rw [w64_id (by omega) (by omega)]
          omega
        · rfl
      have g2 : (chargeC U kk x).peak = maxI x.peak (chargeC U kk x).now := by
        unfold chargeC
        cases U.contains x.group
        · show x.peak = maxI x.peak x.now
          unfold maxI
          split <;> omega
        · rfl
      have g3 : (chargeC U kk x).limit = x.limit := by
        unfold chargeC
        cases U.contains x.group <;> rfl
      refine Ok.guard hll (Ok.guard hll ?_)
      refine Ok.ite (fun c => by simp [g1] at c) fun _ => ?_
      refine Ok.guard hll (Ok.guard hll (Ok.guard hll (Ok.guard hll ?_)))
      refine Ok.ite (fun c => by rw [← g2] at c; simp at c) fun _ => ?_
      refine Ok.guard hll (Ok.guard hll ?_)
      refine Ok.ite (fun c => by simp [g3] at c) fun _ => ?_
      refine Ok.ite (fun c => ?_) fun _ => hn () trivial
      have hv0 : v > 0 := of_decide_eq_true c
      refine Ok.guard hll (Ok.guard hll (Ok.guard hll (Ok.guard hll ?_)))
      have hin : U.contains x.group = true := by
        cases hh : U.contains x.group with
        | true => rfl
        | false => rw [hh] at hv; simp at hv; omega
      rw [hin, if_pos rfl] at hv
      have hnot : ¬ (chargeC U kk x).now > (chargeC U kk x).limit := by
        rw [g1, g3, hv, w64_id (by omega) (by omega)]
        have hq := hq kk (by omega) (by omega)
        intro hgt
        refine hr (hq.mpr ⟨x.group, by simpa using hin, ?_⟩)
        unfold fullC
        rw [CIds.get w m.ok.ids hx]
        simp only [Option.getD_some, decide_eq_true_eq]
        omega
      have : decide ((chargeC U kk x).now > (chargeC U kk x).limit) = false := by simpa using hnot
      rw [this]
      exact hn () trivial

theorem pidsPeaks_true (l : List Int) (p : Int) (_ : ∀ n ∈ l, -9223372036854775808 ≤ n ∧ n ≤ 9223372036854775807) (p0 : IntKind.u8.min ≤ p) (p1 : p ≤ IntKind.u8.max) : PidsPeaks_law10 l p = some true := (pidsPeaks_ok l p p0 p1).eq
end Go.Dm


/- Models of Go types and functions, printed by a program. -/
namespace Go.Dm
set_option linter.unusedVariables false

end Go.Dm


/- Types of the program. -/
namespace Go.Dm
open Go.Proofs
set_option linter.unusedVariables false
def Tt : Ty := [(3, ⟨.int .i64, 1, 8, [.int .i64 0], false⟩),
  (4, ⟨.bool, 1, 1, [.bool false], false⟩),
  (5, ⟨.int .u8, 1, 1, [.int .u8 0], false⟩),
  (9, ⟨.str, 1, 16, [.string ByteArray.empty], false⟩),
  (22, ⟨.slice 3, 1, 24, [.slice none 0 0], false⟩),
  (27, ⟨.slice 37, 1, 24, [.slice none 0 0], false⟩),
  (29, ⟨.struct [(0, 27), (1, 3)], 2, 32, [.slice none 0 0, .int .i64 0], false⟩),
  (30, ⟨.slice 61, 1, 24, [.slice none 0 0], false⟩),
  (32, ⟨.struct [(0, 29), (2, 30), (3, 3)], 4, 64, [.slice none 0 0, .int .i64 0, .slice none 0 0, .int .i64 0], false⟩),
  (34, ⟨.slice 43, 1, 24, [.slice none 0 0], false⟩),
  (37, ⟨.struct [(0, 3), (1, 3), (2, 9), (3, 3), (4, 3), (5, 3)], 6, 56, [.int .i64 0, .int .i64 0, .string ByteArray.empty, .int .i64 0, .int .i64 0, .int .i64 0], false⟩),
  (43, ⟨.struct [(0, 3), (1, 3), (2, 3), (3, 3), (4, 3)], 5, 40, [.int .i64 0, .int .i64 0, .int .i64 0, .int .i64 0, .int .i64 0], false⟩),
  (50, ⟨.int .i64, 1, 8, [.int .i64 0], false⟩),
  (61, ⟨.struct [(0, 3), (1, 3), (2, 3), (3, 3)], 4, 32, [.int .i64 0, .int .i64 0, .int .i64 0, .int .i64 0], false⟩),
  (88, ⟨.struct [(0, 22), (1, 3)], 2, 32, [.slice none 0 0, .int .i64 0], false⟩),
  (134, ⟨.slice 9, 1, 24, [.slice none 0 0], false⟩),
  (135, ⟨.map 3 3, 1, 8, [(.map none)], false⟩),
  (145, ⟨.slice 5, 1, 24, [.slice none 0 0], false⟩)]
theorem Tgood : TyGood Tryz.prog Tt := tyGood_of ⟨⟨⟨by kernel_rfl, by kernel_rfl⟩, trivial⟩, ⟨⟨by kernel_rfl, by kernel_rfl⟩, trivial⟩, ⟨⟨by kernel_rfl, by kernel_rfl⟩, trivial⟩, ⟨⟨by kernel_rfl, by kernel_rfl⟩, trivial⟩, ⟨⟨by kernel_rfl, by kernel_rfl⟩, trivial⟩, ⟨⟨by kernel_rfl, by kernel_rfl⟩, trivial⟩, ⟨⟨by kernel_rfl, by kernel_rfl⟩, trivial⟩, ⟨⟨by kernel_rfl, by kernel_rfl⟩, trivial⟩, ⟨⟨by kernel_rfl, by kernel_rfl⟩, trivial⟩, ⟨⟨by kernel_rfl, by kernel_rfl⟩, trivial⟩, ⟨⟨by kernel_rfl, by kernel_rfl⟩, trivial⟩, ⟨⟨by kernel_rfl, by kernel_rfl⟩, trivial⟩, ⟨⟨by kernel_rfl, by kernel_rfl⟩, trivial⟩, ⟨⟨by kernel_rfl, by kernel_rfl⟩, trivial⟩, ⟨⟨by kernel_rfl, by kernel_rfl⟩, trivial⟩, ⟨⟨by kernel_rfl, by kernel_rfl⟩, trivial⟩, ⟨⟨by kernel_rfl, by kernel_rfl⟩, trivial⟩, ⟨⟨by kernel_rfl, by kernel_rfl⟩, trivial⟩, trivial⟩ (by kernel_rfl) (by kernel_rfl)
theorem mixed : Tryz.prog.follows .mixedOrders = true := by kernel_rfl
theorem RK {cx : Cx} {σ : St} {Q : Exit → St → Prop} {nt : Nat} (hnt : cx.nt = nt) {ops : Array Oper} {id : Nat} {draw : Bool} {r : List Code} (xs : List Orc) (sl : List (Nat × MV)) (ob : List (Nat × Obj))
    {q : Prop} (hq : q) (h : dregQ Tryz.prog Tt nt ops xs (keysW sl) (keysW ob) draw σ = some ((sl, ob), q)) (hQ : DW Tryz.prog cx r (mkSt sl ob) Q) : DW Tryz.prog cx (.region id ops draw :: r) σ Q := DW.rk Tgood mixed hnt xs sl ob hq h hQ
theorem RN {cx : Cx} {σ : St} {Q : Exit → St → Prop} {nt : Nat} (hnt : cx.nt = nt) {ops : Array Oper} {id : Nat} {draw : Bool} {r : List Code} (xs : List Orc) (sl : List (Nat × MV)) (ob : List (Nat × Obj))
    (ps : List (Nat × MV)) (qs : List (Nat × Body)) {q : Prop} (hq : q) (h : dregQ Tryz.prog Tt nt ops xs (keysW sl) (keysW ob) draw σ = some ((patchS ps sl, patchO qs ob), q)) (hs : SP sl ps) (ho : OP ob qs)
    (hQ : DW Tryz.prog cx r (mkSt sl ob) Q) : DW Tryz.prog cx (.region id ops draw :: r) σ Q := DW.rn Tgood mixed hnt xs sl ob ps qs hq h hs ho hQ
theorem RT {cx : Cx} {σ : St} {nt : Nat} (hnt : cx.nt = nt) {ops : Array Oper} {draw : Bool} {sl : List (Nat × MV)} {ob : List (Nat × Obj)} (xs : List Orc)
    (ps : List (Nat × MV)) {q : Prop} (hq : q) (h : dregQ Tryz.prog Tt nt ops xs (keysW sl) (keysW ob) draw σ = some ((patchS ps sl, ob), q)) (hs : SP sl ps) : RegTo Tryz.prog cx ops draw σ sl ob := RegTo.rn Tgood mixed hnt xs ps hq h hs
end Go.Dm


/- Go functions compute their models, printed by a program. -/
namespace Go.Dm
open Go.Proofs
set_option linter.unusedVariables false
theorem Light_madeSpec (p0 : List Int) (RES : Bool) (hm : Light_made p0 = some RES) : Spec Tryz.prog 14 [.p (slI p0)] [] (pB RES) [] [] := by
 unfold Light_made at hm
 refine spec_of Tgood (T := Tt) Tryz.func14 (by decide) (c := _) rfl rfl (sl := [(0, .p (slI p0))]) (ob := []) (Nat.le_of_ble_eq_true rfl) (Nat.le_of_ble_eq_true rfl) (by kernel_rfl) (by kernel_rfl) ?_
 intro cx hnt
 refine DW.start ?_
 refine DW.seq (RK hnt (.no :: []) [(0, .p (slI p0))] [] trivial (by kernel_rfl) ?_)
 refine DW.seq (RK hnt (nn 4 []) [(2, pB (decide (((p0.length : Nat) : Int) ≤ 600)))] [] trivial (by kernel_rfl) ?_)
 refine DW.ret ?_
 obtain rfl := Option.some.inj hm
 refine retOK (bs' := []) [] (pB (decide (((p0.length : Nat) : Int) ≤ 600))) (by kernel_rfl) ?_ ?_
 · rfl
 · rfl

abbrev c120e1 := ({ id := 1, parent := 0, name := ByteArray.empty, control := 0, kind := 0, owner := 0 } : Node)
theorem New_ref5Spec (RES : Tree) (hm : New_ref5 = some RES) : Spec Tryz.prog 120 [] [] (.agg [ow 0 RES.nodes.length, pI RES.next]) [] [roNode RES.nodes] := by
 unfold New_ref5 at hm
 refine spec_of Tgood (T := Tt) Tryz.func120 (by decide) (c := _) rfl rfl (sl := []) (ob := []) (Nat.le_of_ble_eq_true rfl) (Nat.le_of_ble_eq_true rfl) (by kernel_rfl) (by kernel_rfl) ?_
 intro cx hnt
 refine DW.start ?_
 refine DW.seq (RK hnt (.no :: []) [(0, rr 1000)] [(1000, bx [.p (.sl .nil 0 0 (fun _ => [])), pI 0])] trivial (by kernel_rfl) ?_)
 refine DW.seq (RN hnt (nn 4 []) [(0, rr 1000)] [(1000, bx [ow 1016 [(c120e1)].length, pI 2]), (1016, ob0 (roNode [(c120e1)]))] [] [(1000, .box [ow 1016 1, pI 2]), (1016, .row 6 1 (cut 6 [vi 1, vi 0, vs ByteArray.empty, vi 0, vi 0, vi 0]))] trivial (by kernel_rfl) .nil (.cons rfl (.box (.cons (MLe.ownLen (enc := encNode) (d := dNode) (f := (cut 6 [vi 1, vi 0, vs ByteArray.empty, vi 0, vi 0, vi 0])) (RowIs.lit (enc := encNode) (d := dNode) (n := 1) (f := (cut 6 [vi 1, vi 0, vs ByteArray.empty, vi 0, vi 0, vi 0])) [(c120e1)] rfl (fun | 0, _ => rfl | n + 1, h => absurd h (by omega)))) (.cons .rfl .nil))) (.cons rfl (BLe.typed (RowIs.lit (enc := encNode) (d := dNode) (n := 1) (f := (cut 6 [vi 1, vi 0, vs ByteArray.empty, vi 0, vi 0, vi 0])) [(c120e1)] rfl (fun | 0, _ => rfl | n + 1, h => absurd h (by omega)))) .nil)) ?_)
 refine DW.ret ?_
 obtain rfl := Option.some.inj hm
 refine retOK (bs' := [roNode [(c120e1)]]) [1016] (.agg [ow 0 [(c120e1)].length, pI 2]) (by kernel_rfl) ?_ ?_
 · rfl
 · rfl

abbrev c64e1 (r1 : Tree) : Nat × Obj := (1000, bx [ow 1008 r1.nodes.length, pI r1.next, ow 100000 0, pI 1])
theorem New_ref6Spec (RES : Hierarchy) (hm : New_ref6 = some RES) : Spec Tryz.prog 64 [] [] (.agg [ow 0 RES.tree.nodes.length, pI RES.tree.next, ow 1 RES.tasks.length, pI RES.next]) [] [roNode RES.tree.nodes, roTask RES.tasks] := by
 unfold New_ref6 at hm
 refine spec_of Tgood (T := Tt) Tryz.func64 (by decide) (c := _) rfl rfl (sl := []) (ob := []) (Nat.le_of_ble_eq_true rfl) (Nat.le_of_ble_eq_true rfl) (by kernel_rfl) (by kernel_rfl) ?_
 intro cx hnt
 refine DW.start ?_
 refine DW.seq (RK hnt (.no :: []) [(0, rr 1000)] [(1000, bx [.p (.sl .nil 0 0 (fun _ => [])), pI 0, .p (.sl .nil 0 0 (fun _ => [])), pI 0])] trivial (by kernel_rfl) ?_)
 obtain ⟨r1, hr1, hm⟩ := bind_open hm
 refine DW.seq (RK hnt (.call 120 [] true (.agg [ow 0 r1.nodes.length, pI r1.next]) [] [roNode r1.nodes] :: nn 2 []) [(0, rr 1000)] [(1000, bx [ow 1008 r1.nodes.length, pI r1.next, .p (.sl .nil 0 0 (fun _ => [])), pI 1]), (1008, ob0 (roNode r1.nodes))] (an (New_ref5Spec r1 hr1) trivial) (by kernel_rfl) ?_)
 refine DW.conv (τ := mkSt [(0, rr 1000)] [(c64e1 r1), (1008, ob0 (roNode r1.nodes)), (100000, ob0 (roTask []))]) (Conv.trans (τ := mkSt [(0, rr 1000)] ((100000, ⟨0, .row 4 0 (elems encTask dTask [])⟩) :: [(c64e1 r1), (1008, ob0 (roNode r1.nodes))])) (Conv.adopt 100000 4 (elems encTask dTask []) rfl rfl (.rfl _) (.box (.cons (.rfl _) (.cons (.rfl _) (.cons (.nil _ _) (.cons (.rfl _) (.rfl _))))) (.keep (.rfl _)))) (Conv.trans (τ := mkSt [(0, rr 1000)] [(c64e1 r1), (1008, ob0 (roNode r1.nodes)), (100000, ob0 (roTask []))]) (Conv.tp [] [] (by kernel_rfl) .nil .nil) .refl)) ?_
 refine DW.ret ?_
 obtain rfl := Option.some.inj hm
 refine retOK (bs' := [roNode r1.nodes, roTask []]) [1008, 100000] (.agg [ow 0 r1.nodes.length, pI r1.next, ow 1 0, pI 1]) (by kernel_rfl) ?_ ?_
 · rfl
 · rfl

abbrev c163e1 (p0 : ByteArray) (k1 : Int) : Nat × MV := (57, pB (!((((byteAt p0 (Int.toNat k1)) : Nat) : Int) == 45)))
theorem Valid_ref1Spec (p0 : ByteArray) (RES : Bool) (hm : Valid_ref1 p0 = some RES) : Spec Tryz.prog 163 [pS p0] [] (pB RES) [] [] := by
 unfold Valid_ref1 at hm
 refine spec_of Tgood (T := Tt) Tryz.func163 (by decide) (c := _) rfl rfl (sl := [(0, pS p0)]) (ob := []) (Nat.le_of_ble_eq_true rfl) (Nat.le_of_ble_eq_true rfl) (by kernel_rfl) (by kernel_rfl) ?_
 intro cx hnt
 refine DW.start ?_
 refine DW.seq (RK hnt (.no :: []) [(0, pS p0)] [] trivial (by kernel_rfl) ?_)
 refine DW.seq (DW.seq ?_)
 refine DW.join (ι := Bool) (fun (y1 : Bool) => mkSt [(0, pS p0), (17, pB y1)] []) (fun y1 => (Valid_ref1J1 p0) y1 = some RES) ?_ ?_
 ·
  intro y1 hm
  unfold Valid_ref1J1 at hm
  refine DW.cond y1 rfl rfl ?_ ?_
  ·
   intro h4
   replace hm := if_t h4 hm
   refine DW.seq (RK hnt (.no :: []) [(2, pB false)] [] trivial (by kernel_rfl) ?_)
   refine DW.ret ?_
   obtain rfl := Option.some.inj hm
   refine retOK (bs' := []) [] (pB false) (by kernel_rfl) ?_ ?_
   · rfl
   · rfl
  ·
   intro h4
   replace hm := if_f h4 hm
   refine DW.skip ?_
   refine DW.seq (DW.seq (RK hnt (.no :: []) [(0, pS p0), (3, pI 0)] [] trivial (by kernel_rfl) ?_))
   refine DW.block ?_
   obtain ⟨hc1, hm⟩ := guard_open hm
   refine DW.forO (fun (k1 : Int) (s1 : Unit) => mkSt [(0, pS p0), (3, pI k1)] []) (lo := 0) (hi := ((p0.size : Nat) : Int)) hm .refl ?_
   intro k1 s1 n1 hk1 hs1 he1
   refine DW.seq (DW.seq (RK hnt (nn 4 []) [(0, pS p0), (3, pI k1), (21, pB (decide (k1 < ((p0.size : Nat) : Int))))] [] trivial (by kernel_rfl) ?_))
   refine DW.cond (decide (k1 < ((p0.size : Nat) : Int))) rfl rfl ?_ ?_
   ·
    intro h55
    have hlt1 : k1 < ((p0.size : Nat) : Int) := by have := of_decide_eq_true h55; omega
    have hm := hs1 hlt1
    unfold Valid_ref1L1 at hm
    refine DW.skip ?_
    refine DW.seq (DW.block ?_)
    obtain ⟨g56, hm⟩ := guard_open hm
    refine DW.seq (RK hnt (nn 4 []) [(0, pS p0), (3, pI k1), (4, .p (vk .u8 (((byteAt p0 (Int.toNat k1)) : Nat) : Int)))] [] (an g56.1 (an g56.2 trivial)) (by kernel_rfl) ?_)
    refine DW.seq (DW.regJ (sl2 := [(0, pS p0), (3, pI k1), (57, pB (!((((((decide ((((byteAt p0 (Int.toNat k1)) : Nat) : Int) ≥ 97)) && (decide ((((byteAt p0 (Int.toNat k1)) : Nat) : Int) ≤ 122))) || ((decide ((((byteAt p0 (Int.toNat k1)) : Nat) : Int) ≥ 65)) && (decide ((((byteAt p0 (Int.toNat k1)) : Nat) : Int) ≤ 90)))) || ((decide ((((byteAt p0 (Int.toNat k1)) : Nat) : Int) ≥ 48)) && (decide ((((byteAt p0 (Int.toNat k1)) : Nat) : Int) ≤ 57)))) || ((((byteAt p0 (Int.toNat k1)) : Nat) : Int) == 95)) || ((((byteAt p0 (Int.toNat k1)) : Nat) : Int) == 45))))]) (ob2 := []) ?_ ?_)
    ·
     rcases bt (decide ((((byteAt p0 (Int.toNat k1)) : Nat) : Int) ≥ 97)) with h57 | h57
     ·
      rcases bt (decide ((((byteAt p0 (Int.toNat k1)) : Nat) : Int) ≤ 122)) with h58 | h58
      ·
       exact RT hnt (nn 5 (pT :: .no :: sk 6 (pT :: .no :: sk 6 (pT :: .no :: sk 2 (pT :: .no :: sk 2 (pT :: .no :: [])))))) [(57, pB false)] (an3 h57 (an5 h58 (an5 tt (an6 tt trivial)))) (by kernel_rfl) (.cons rfl (.of_eq (by rw [h57, h58]; try rfl)) .nil)
      ·
       rcases bt (decide ((((byteAt p0 (Int.toNat k1)) : Nat) : Int) ≥ 65)) with h59 | h59
       ·
        rcases bt (decide ((((byteAt p0 (Int.toNat k1)) : Nat) : Int) ≤ 90)) with h60 | h60
        ·
         exact RT hnt (nn 5 (pT :: nn 6 (pT :: pF :: .no :: sk 6 (pT :: .no :: sk 2 (pT :: .no :: sk 2 (pT :: .no :: [])))))) [(57, pB false)] (an3 h57 (an3 h58 (an2 h59 (an h58 (an h59 (an h58 (an5 h60 (an6 tt trivial)))))))) (by kernel_rfl) (.cons rfl (.of_eq (by rw [h57, h58, h59, h60]; try rfl)) .nil)
        ·
         rcases bt (decide ((((byteAt p0 (Int.toNat k1)) : Nat) : Int) ≥ 48)) with h61 | h61
         ·
          rcases bt (decide ((((byteAt p0 (Int.toNat k1)) : Nat) : Int) ≤ 57)) with h62 | h62
          ·
           exact RT hnt (nn 5 (pT :: nn 6 (pT :: pF :: nn 6 (pT :: pF :: .no :: sk 2 (pT :: .no :: sk 2 (pT :: .no :: [])))))) [(57, pB false)] (an3 h57 (an3 h58 (an2 h59 (an h58 (an h59 (an h58 (an3 h60 (an2 h61 (an h60 (an h61 (an h60 (an3 h62 (an3 tt trivial))))))))))))) (by kernel_rfl) (.cons rfl (.of_eq (by rw [h57, h58, h59, h60, h61, h62]; try rfl)) .nil)
          ·
           rcases bt ((((byteAt p0 (Int.toNat k1)) : Nat) : Int) == 95) with h63 | h63
           ·
            exact RT hnt (nn 5 (pT :: nn 6 (pT :: pF :: nn 6 (pT :: pF :: nn 3 (pF :: .no :: sk 2 (pT :: .no :: [])))))) [(57, pB false)] (an3 h57 (an3 h58 (an2 h59 (an h58 (an h59 (an h58 (an3 h60 (an2 h61 (an h60 (an h61 (an h60 (an3 h62 (an3 h63 trivial))))))))))))) (by kernel_rfl) (.cons rfl (.of_eq (by rw [h57, h58, h59, h60, h61, h62, h63]; try rfl)) .nil)
           ·
            exact RT hnt (nn 5 (pT :: nn 6 (pT :: pF :: nn 6 (pT :: pF :: nn 3 (pF :: nn 3 (pF :: .no :: [])))))) [(c163e1 p0 k1)] (an3 h57 (an3 h58 (an2 h59 (an h58 (an h59 (an h58 (an3 h60 (an2 h61 (an h60 (an h61 (an h60 (an3 h62 (an3 h63 trivial))))))))))))) (by kernel_rfl) (.cons rfl (.of_eq (by rw [h57, h58, h59, h60, h61, h62, h63]; try rfl)) .nil)
         ·
          rcases bt ((((byteAt p0 (Int.toNat k1)) : Nat) : Int) == 95) with h64 | h64
          ·
           exact RT hnt (nn 5 (pT :: nn 6 (pT :: pF :: nn 4 (sk 2 (pF :: pF :: nn 3 (pF :: .no :: sk 2 (pT :: .no :: []))))))) [(57, pB false)] (an3 h57 (an3 h58 (an2 h59 (an h58 (an h59 (an h58 (an3 h60 (an2 h61 (an h60 (an h61 (an h60 (an3 ff (an3 h64 trivial))))))))))))) (by kernel_rfl) (.cons rfl (.of_eq (by rw [h57, h58, h59, h60, h61, h64]; try rfl)) .nil)
          ·
           exact RT hnt (nn 5 (pT :: nn 6 (pT :: pF :: nn 4 (sk 2 (pF :: pF :: nn 3 (pF :: nn 3 (pF :: .no :: []))))))) [(c163e1 p0 k1)] (an3 h57 (an3 h58 (an2 h59 (an h58 (an h59 (an h58 (an3 h60 (an2 h61 (an h60 (an h61 (an h60 (an3 ff (an3 h64 trivial))))))))))))) (by kernel_rfl) (.cons rfl (.of_eq (by rw [h57, h58, h59, h60, h61, h64]; try rfl)) .nil)
       ·
        rcases bt (decide ((((byteAt p0 (Int.toNat k1)) : Nat) : Int) ≥ 48)) with h65 | h65
        ·
         rcases bt (decide ((((byteAt p0 (Int.toNat k1)) : Nat) : Int) ≤ 57)) with h66 | h66
         ·
          exact RT hnt (nn 5 (pT :: nn 4 (sk 2 (pF :: pF :: nn 6 (pT :: pF :: .no :: sk 2 (pT :: .no :: sk 2 (pT :: .no :: []))))))) [(57, pB false)] (an3 h57 (an3 h58 (an2 h59 (an h58 (an h59 (an h58 (an3 ff (an2 h65 (an ff (an h65 (an ff (an3 h66 (an3 tt trivial))))))))))))) (by kernel_rfl) (.cons rfl (.of_eq (by rw [h57, h58, h59, h65, h66]; try rfl)) .nil)
         ·
          rcases bt ((((byteAt p0 (Int.toNat k1)) : Nat) : Int) == 95) with h67 | h67
          ·
           exact RT hnt (nn 5 (pT :: nn 4 (sk 2 (pF :: pF :: nn 6 (pT :: pF :: nn 3 (pF :: .no :: sk 2 (pT :: .no :: []))))))) [(57, pB false)] (an3 h57 (an3 h58 (an2 h59 (an h58 (an h59 (an h58 (an3 ff (an2 h65 (an ff (an h65 (an ff (an3 h66 (an3 h67 trivial))))))))))))) (by kernel_rfl) (.cons rfl (.of_eq (by rw [h57, h58, h59, h65, h66, h67]; try rfl)) .nil)
          ·
           exact RT hnt (nn 5 (pT :: nn 4 (sk 2 (pF :: pF :: nn 6 (pT :: pF :: nn 3 (pF :: nn 3 (pF :: .no :: []))))))) [(c163e1 p0 k1)] (an3 h57 (an3 h58 (an2 h59 (an h58 (an h59 (an h58 (an3 ff (an2 h65 (an ff (an h65 (an ff (an3 h66 (an3 h67 trivial))))))))))))) (by kernel_rfl) (.cons rfl (.of_eq (by rw [h57, h58, h59, h65, h66, h67]; try rfl)) .nil)
        ·
         rcases bt ((((byteAt p0 (Int.toNat k1)) : Nat) : Int) == 95) with h68 | h68
         ·
          exact RT hnt (nn 5 (pT :: nn 4 (sk 2 (pF :: pF :: nn 4 (sk 2 (pF :: pF :: nn 3 (pF :: .no :: sk 2 (pT :: .no :: [])))))))) [(57, pB false)] (an3 h57 (an3 h58 (an2 h59 (an h58 (an h59 (an h58 (an3 ff (an2 h65 (an ff (an h65 (an4 ff (an3 h68 trivial)))))))))))) (by kernel_rfl) (.cons rfl (.of_eq (by rw [h57, h58, h59, h65, h68]; try rfl)) .nil)
         ·
          exact RT hnt (nn 5 (pT :: nn 4 (sk 2 (pF :: pF :: nn 4 (sk 2 (pF :: pF :: nn 3 (pF :: nn 3 (pF :: .no :: [])))))))) [(c163e1 p0 k1)] (an3 h57 (an3 h58 (an2 h59 (an h58 (an h59 (an h58 (an3 ff (an2 h65 (an ff (an h65 (an4 ff (an3 h68 trivial)))))))))))) (by kernel_rfl) (.cons rfl (.of_eq (by rw [h57, h58, h59, h65, h68]; try rfl)) .nil)
     ·
      rcases bt (decide ((((byteAt p0 (Int.toNat k1)) : Nat) : Int) ≥ 65)) with h69 | h69
      ·
       rcases bt (decide ((((byteAt p0 (Int.toNat k1)) : Nat) : Int) ≤ 90)) with h70 | h70
       ·
        exact RT hnt (nn 3 (sk 2 (pF :: nn 6 (pT :: pF :: .no :: sk 6 (pT :: .no :: sk 2 (pT :: .no :: sk 2 (pT :: .no :: []))))))) [(57, pB false)] (an3 h57 (an3 ff (an2 h69 (an ff (an h69 (an ff (an5 h70 (an6 tt trivial)))))))) (by kernel_rfl) (.cons rfl (.of_eq (by rw [h57, h69, h70]; try rfl)) .nil)
       ·
        rcases bt (decide ((((byteAt p0 (Int.toNat k1)) : Nat) : Int) ≥ 48)) with h71 | h71
        ·
         rcases bt (decide ((((byteAt p0 (Int.toNat k1)) : Nat) : Int) ≤ 57)) with h72 | h72
         ·
          exact RT hnt (nn 3 (sk 2 (pF :: nn 6 (pT :: pF :: nn 6 (pT :: pF :: .no :: sk 2 (pT :: .no :: sk 2 (pT :: .no :: []))))))) [(57, pB false)] (an3 h57 (an3 ff (an2 h69 (an ff (an h69 (an ff (an3 h70 (an2 h71 (an h70 (an h71 (an h70 (an3 h72 (an3 tt trivial))))))))))))) (by kernel_rfl) (.cons rfl (.of_eq (by rw [h57, h69, h70, h71, h72]; try rfl)) .nil)
         ·
          rcases bt ((((byteAt p0 (Int.toNat k1)) : Nat) : Int) == 95) with h73 | h73
          ·
           exact RT hnt (nn 3 (sk 2 (pF :: nn 6 (pT :: pF :: nn 6 (pT :: pF :: nn 3 (pF :: .no :: sk 2 (pT :: .no :: []))))))) [(57, pB false)] (an3 h57 (an3 ff (an2 h69 (an ff (an h69 (an ff (an3 h70 (an2 h71 (an h70 (an h71 (an h70 (an3 h72 (an3 h73 trivial))))))))))))) (by kernel_rfl) (.cons rfl (.of_eq (by rw [h57, h69, h70, h71, h72, h73]; try rfl)) .nil)
          ·
           exact RT hnt (nn 3 (sk 2 (pF :: nn 6 (pT :: pF :: nn 6 (pT :: pF :: nn 3 (pF :: nn 3 (pF :: .no :: []))))))) [(c163e1 p0 k1)] (an3 h57 (an3 ff (an2 h69 (an ff (an h69 (an ff (an3 h70 (an2 h71 (an h70 (an h71 (an h70 (an3 h72 (an3 h73 trivial))))))))))))) (by kernel_rfl) (.cons rfl (.of_eq (by rw [h57, h69, h70, h71, h72, h73]; try rfl)) .nil)
        ·
         rcases bt ((((byteAt p0 (Int.toNat k1)) : Nat) : Int) == 95) with h74 | h74
         ·
          exact RT hnt (nn 3 (sk 2 (pF :: nn 6 (pT :: pF :: nn 4 (sk 2 (pF :: pF :: nn 3 (pF :: .no :: sk 2 (pT :: .no :: [])))))))) [(57, pB false)] (an3 h57 (an3 ff (an2 h69 (an ff (an h69 (an ff (an3 h70 (an2 h71 (an h70 (an h71 (an h70 (an3 ff (an3 h74 trivial))))))))))))) (by kernel_rfl) (.cons rfl (.of_eq (by rw [h57, h69, h70, h71, h74]; try rfl)) .nil)
         ·
          exact RT hnt (nn 3 (sk 2 (pF :: nn 6 (pT :: pF :: nn 4 (sk 2 (pF :: pF :: nn 3 (pF :: nn 3 (pF :: .no :: [])))))))) [(c163e1 p0 k1)] (an3 h57 (an3 ff (an2 h69 (an ff (an h69 (an ff (an3 h70 (an2 h71 (an h70 (an h71 (an h70 (an3 ff (an3 h74 trivial))))))))))))) (by kernel_rfl) (.cons rfl (.of_eq (by rw [h57, h69, h70, h71, h74]; try rfl)) .nil)
      ·
       rcases bt (decide ((((byteAt p0 (Int.toNat k1)) : Nat) : Int) ≥ 48)) with h75 | h75
       ·
        rcases bt (decide ((((byteAt p0 (Int.toNat k1)) : Nat) : Int) ≤ 57)) with h76 | h76
        ·
         exact RT hnt (nn 3 (sk 2 (pF :: nn 4 (sk 2 (pF :: pF :: nn 6 (pT :: pF :: .no :: sk 2 (pT :: .no :: sk 2 (pT :: .no :: [])))))))) [(57, pB false)] (an3 h57 (an3 ff (an2 h69 (an ff (an h69 (an4 ff (an2 h75 (an ff (an h75 (an ff (an3 h76 (an3 tt trivial)))))))))))) (by kernel_rfl) (.cons rfl (.of_eq (by rw [h57, h69, h75, h76]; try rfl)) .nil)
        ·
         rcases bt ((((byteAt p0 (Int.toNat k1)) : Nat) : Int) == 95) with h77 | h77
         ·
          exact RT hnt (nn 3 (sk 2 (pF :: nn 4 (sk 2 (pF :: pF :: nn 6 (pT :: pF :: nn 3 (pF :: .no :: sk 2 (pT :: .no :: [])))))))) [(57, pB false)] (an3 h57 (an3 ff (an2 h69 (an ff (an h69 (an4 ff (an2 h75 (an ff (an h75 (an ff (an3 h76 (an3 h77 trivial)))))))))))) (by kernel_rfl) (.cons rfl (.of_eq (by rw [h57, h69, h75, h76, h77]; try rfl)) .nil)
         ·
          exact RT hnt (nn 3 (sk 2 (pF :: nn 4 (sk 2 (pF :: pF :: nn 6 (pT :: pF :: nn 3 (pF :: nn 3 (pF :: .no :: [])))))))) [(c163e1 p0 k1)] (an3 h57 (an3 ff (an2 h69 (an ff (an h69 (an4 ff (an2 h75 (an ff (an h75 (an ff (an3 h76 (an3 h77 trivial)))))))))))) (by kernel_rfl) (.cons rfl (.of_eq (by rw [h57, h69, h75, h76, h77]; try rfl)) .nil)
       ·
        rcases bt ((((byteAt p0 (Int.toNat k1)) : Nat) : Int) == 95) with h78 | h78
        ·
         exact RT hnt (nn 3 (sk 2 (pF :: nn 4 (sk 2 (pF :: pF :: nn 4 (sk 2 (pF :: pF :: nn 3 (pF :: .no :: sk 2 (pT :: .no :: []))))))))) [(57, pB false)] (an3 h57 (an3 ff (an2 h69 (an ff (an h69 (an4 ff (an2 h75 (an ff (an h75 (an4 ff (an3 h78 trivial))))))))))) (by kernel_rfl) (.cons rfl (.of_eq (by rw [h57, h69, h75, h78]; try rfl)) .nil)
        ·
         exact RT hnt (nn 3 (sk 2 (pF :: nn 4 (sk 2 (pF :: pF :: nn 4 (sk 2 (pF :: pF :: nn 3 (pF :: nn 3 (pF :: .no :: []))))))))) [(c163e1 p0 k1)] (an3 h57 (an3 ff (an2 h69 (an ff (an h69 (an4 ff (an2 h75 (an ff (an h75 (an4 ff (an3 h78 trivial))))))))))) (by kernel_rfl) (.cons rfl (.of_eq (by rw [h57, h69, h75, h78]; try rfl)) .nil)
    ·
     refine DW.cond (!((((((decide ((((byteAt p0 (Int.toNat k1)) : Nat) : Int) ≥ 97)) && (decide ((((byteAt p0 (Int.toNat k1)) : Nat) : Int) ≤ 122))) || ((decide ((((byteAt p0 (Int.toNat k1)) : Nat) : Int) ≥ 65)) && (decide ((((byteAt p0 (Int.toNat k1)) : Nat) : Int) ≤ 90)))) || ((decide ((((byteAt p0 (Int.toNat k1)) : Nat) : Int) ≥ 48)) && (decide ((((byteAt p0 (Int.toNat k1)) : Nat) : Int) ≤ 57)))) || ((((byteAt p0 (Int.toNat k1)) : Nat) : Int) == 95)) || ((((byteAt p0 (Int.toNat k1)) : Nat) : Int) == 45))) rfl rfl ?_ ?_
     ·
      intro h79
      replace hm := if_t h79 hm
      refine DW.seq (RK hnt (.no :: []) [(2, pB false)] [] trivial (by kernel_rfl) ?_)
      refine DW.ret ?_
      obtain rfl := Option.some.inj hm
      refine retOK (bs' := []) [] (pB false) (by kernel_rfl) ?_ ?_
      · rfl
      · rfl
     ·
      intro h79
      replace hm := if_f h79 hm
      refine DW.skip ?_
      refine DW.done ?_
      show DW _ _ _ _ _
      refine RK hnt (nn 3 []) [(0, pS p0), (3, pI (w64 (k1 + 1)))] [] trivial (by kernel_rfl) ?_
      exact joinDone () ⟨hlt1, hm⟩ (Conv.tp [(3, pI (w64 (k1 + 1)))] [] (by kernel_rfl) (.cons rfl (.of_eq (congrArg pI (w64_for (lo := 0) (hi := ((p0.size : Nat) : Int)) (by omega) hk1 hlt1 (by omega)))) .nil) .nil)
   ·
    intro h55
    have hge1 : ¬ k1 < ((p0.size : Nat) : Int) := by have := of_decide_eq_false h55; omega
    have hm := he1 hge1
    unfold Valid_ref1D1 at hm
    refine DW.exit ?_
    refine joinQ_exit ?_
    refine KQ_exit ?_
    refine blockQ_exit ?_
    show DW _ _ _ _ _
    refine DW.seq (RK hnt (.no :: []) [(2, pB true)] [] trivial (by kernel_rfl) ?_)
    refine DW.ret ?_
    obtain rfl := Option.some.inj hm
    refine retOK (bs' := []) [] (pB true) (by kernel_rfl) ?_ ?_
    · rfl
    · rfl
 ·
  rcases bt (((p0.size : Nat) : Int) == 0) with h1 | h1
  ·
   replace hm := if_t h1 hm
   refine RK hnt (nn 4 (sk 3 (pT :: .no :: sk 3 (pT :: [])))) [(0, pS p0), (17, pB true)] [] (an4 h1 (an4 tt trivial)) (by kernel_rfl) ?_
   exact joinDone true hm .refl
  ·
   replace hm := if_f h1 hm
   rcases bt (decide (((p0.size : Nat) : Int) > 32)) with h2 | h2
   ·
    replace hm := if_t h2 hm
    refine RK hnt (nn 7 (pF :: .no :: sk 3 (pT :: []))) [(0, pS p0), (17, pB true)] [] (an4 h1 (an4 h2 trivial)) (by kernel_rfl) ?_
    exact joinDone true hm .refl
   ·
    replace hm := if_f h2 hm
    obtain ⟨g3, hm⟩ := guard_open hm
    refine RK hnt (nn 7 (pF :: nn 4 (pF :: []))) [(0, pS p0), (17, pB ((((byteAt p0 0) : Nat) : Int) == 45))] [] (an4 h1 (an2 h2 (an (nn0 0) (an (ltc g3) (an2 h2 trivial))))) (by kernel_rfl) ?_
    exact joinDone ((((byteAt p0 0) : Nat) : Int) == 45) hm .refl

abbrev c154e1 (p0 : Tree) (p1 : Int) := (p0.nodes.getD (Int.toNat p1) dNode)
abbrev c154e2 (p0 : Tree) (p1 : Int) : Nat × Obj := (1040, bx (pm (encNode (c154e1 p0 p1))))
abbrev c154e3 (p0 : Tree) : Nat × Obj := (1016, bx (pm (encTree p0)))
abbrev c154e4 (p0 : Tree) (k1 : Int) := (p0.nodes.getD (Int.toNat k1) dNode)
theorem node_ref5Spec (p0 : Tree) (p1 : Int) (RES : Bool) (hm : node_ref5 p0 p1 = some RES) : Spec Tryz.prog 154 [.p (.agg (encTree p0)), pI p1] [] (pB RES) [] [] := by
 unfold node_ref5 at hm
 refine spec_of Tgood (T := Tt) Tryz.func154 (by decide) (c := _) rfl rfl (sl := [(0, .p (.agg (encTree p0))), (1, pI p1)]) (ob := []) (Nat.le_of_ble_eq_true rfl) (Nat.le_of_ble_eq_true rfl) (by kernel_rfl) (by kernel_rfl) ?_
 intro cx hnt
 refine DW.start ?_
 refine DW.seq (RK hnt (nn 2 []) [(1, pI p1), (2, rr 1016)] [(c154e3 p0)] trivial (by kernel_rfl) ?_)
 obtain ⟨g1, hm⟩ := guard_open hm
 refine DW.seq (RK hnt (nn 7 []) [(1, pI p1), (2, rr 1016), (5, rr 1040)] [(c154e3 p0), (c154e2 p0 p1)] (an g1.1 (an g1.2 trivial)) (by kernel_rfl) ?_)
 refine DW.seq (DW.seq (DW.regJ (sl2 := [(1, pI p1), (2, rr 1016), (5, rr 1040), (40, pB (((((((c154e1 p0 p1).kind != 0) && ((c154e1 p0 p1).kind != 1)) || (decide ((c154e1 p0 p1).control < 0))) || (decide ((c154e1 p0 p1).control > 31))) || (decide ((c154e1 p0 p1).owner < 0))) || (decide ((c154e1 p0 p1).owner > 1048576))))]) (ob2 := [(c154e3 p0), (c154e2 p0 p1)]) ?_ ?_))
 ·
  rcases bt ((c154e1 p0 p1).kind != 0) with h2 | h2
  ·
   rcases bt ((c154e1 p0 p1).kind != 1) with h3 | h3
   ·
    exact RT hnt (nn 7 (pT :: .no :: sk 3 (pT :: .no :: sk 3 (pT :: .no :: sk 3 (pT :: .no :: sk 3 (pT :: [])))))) [(40, pB true)] (an4 h2 (an4 h3 (an6 tt (an6 tt trivial)))) (by kernel_rfl) (.cons rfl (.of_eq (by rw [h2, h3]; try rfl)) .nil)
   ·
    rcases bt (decide ((c154e1 p0 p1).control < 0)) with h4 | h4
    ·
     exact RT hnt (nn 7 (pT :: nn 4 (pF :: .no :: sk 3 (pT :: .no :: sk 3 (pT :: .no :: sk 3 (pT :: [])))))) [(40, pB true)] (an4 h2 (an4 h3 (an4 h4 (an2 tt (an6 tt trivial))))) (by kernel_rfl) (.cons rfl (.of_eq (by rw [h2, h3, h4]; try rfl)) .nil)
    ·
     rcases bt (decide ((c154e1 p0 p1).control > 31)) with h5 | h5
     ·
      exact RT hnt (nn 7 (pT :: nn 4 (pF :: nn 4 (pF :: .no :: sk 3 (pT :: .no :: sk 3 (pT :: [])))))) [(40, pB true)] (an4 h2 (an4 h3 (an4 h4 (an4 h5 (an4 tt trivial))))) (by kernel_rfl) (.cons rfl (.of_eq (by rw [h2, h3, h4, h5]; try rfl)) .nil)
     ·
      rcases bt (decide ((c154e1 p0 p1).owner < 0)) with h6 | h6
      ·
       exact RT hnt (nn 7 (pT :: nn 4 (pF :: nn 4 (pF :: nn 4 (pF :: .no :: sk 3 (pT :: [])))))) [(40, pB true)] (an4 h2 (an4 h3 (an4 h4 (an4 h5 (an4 h6 trivial))))) (by kernel_rfl) (.cons rfl (.of_eq (by rw [h2, h3, h4, h5, h6]; try rfl)) .nil)
      ·
       exact RT hnt (nn 7 (pT :: nn 4 (pF :: nn 4 (pF :: nn 4 (pF :: nn 4 (pF :: [])))))) [(40, pB (decide ((c154e1 p0 p1).owner > 1048576)))] (an4 h2 (an4 h3 (an4 h4 (an4 h5 (an4 h6 trivial))))) (by kernel_rfl) (.cons rfl (.of_eq (by rw [h2, h3, h4, h5, h6]; try rfl)) .nil)
  ·
   rcases bt (decide ((c154e1 p0 p1).control < 0)) with h7 | h7
   ·
    exact RT hnt (nn 4 (sk 3 (pF :: nn 4 (pF :: .no :: sk 3 (pT :: .no :: sk 3 (pT :: .no :: sk 3 (pT :: []))))))) [(40, pB true)] (an4 h2 (an4 ff (an4 h7 (an2 tt (an6 tt trivial))))) (by kernel_rfl) (.cons rfl (.of_eq (by rw [h2, h7]; try rfl)) .nil)
   ·
    rcases bt (decide ((c154e1 p0 p1).control > 31)) with h8 | h8
    ·
     exact RT hnt (nn 4 (sk 3 (pF :: nn 4 (pF :: nn 4 (pF :: .no :: sk 3 (pT :: .no :: sk 3 (pT :: []))))))) [(40, pB true)] (an4 h2 (an4 ff (an4 h7 (an4 h8 (an4 tt trivial))))) (by kernel_rfl) (.cons rfl (.of_eq (by rw [h2, h7, h8]; try rfl)) .nil)
    ·
     rcases bt (decide ((c154e1 p0 p1).owner < 0)) with h9 | h9
     ·
      exact RT hnt (nn 4 (sk 3 (pF :: nn 4 (pF :: nn 4 (pF :: nn 4 (pF :: .no :: sk 3 (pT :: []))))))) [(40, pB true)] (an4 h2 (an4 ff (an4 h7 (an4 h8 (an4 h9 trivial))))) (by kernel_rfl) (.cons rfl (.of_eq (by rw [h2, h7, h8, h9]; try rfl)) .nil)
     ·
      exact RT hnt (nn 4 (sk 3 (pF :: nn 4 (pF :: nn 4 (pF :: nn 4 (pF :: nn 4 (pF :: []))))))) [(40, pB (decide ((c154e1 p0 p1).owner > 1048576)))] (an4 h2 (an4 ff (an4 h7 (an4 h8 (an4 h9 trivial))))) (by kernel_rfl) (.cons rfl (.of_eq (by rw [h2, h7, h8, h9]; try rfl)) .nil)
 ·
  refine DW.cond (((((((c154e1 p0 p1).kind != 0) && ((c154e1 p0 p1).kind != 1)) || (decide ((c154e1 p0 p1).control < 0))) || (decide ((c154e1 p0 p1).control > 31))) || (decide ((c154e1 p0 p1).owner < 0))) || (decide ((c154e1 p0 p1).owner > 1048576))) rfl rfl ?_ ?_
  ·
   intro h10
   replace hm := if_t h10 hm
   refine DW.seq (RK hnt (.no :: []) [(4, pB false)] [] trivial (by kernel_rfl) ?_)
   refine DW.ret ?_
   obtain rfl := Option.some.inj hm
   refine retOK (bs' := []) [] (pB false) (by kernel_rfl) ?_ ?_
   · rfl
   · rfl
  ·
   intro h10
   replace hm := if_f h10 hm
   refine DW.skip ?_
   refine DW.seq (DW.seq (RK hnt (nn 2 []) [(1, pI p1), (2, rr 1016), (5, rr 1040), (42, pB (p1 == 0))] [(c154e3 p0), (c154e2 p0 p1)] trivial (by kernel_rfl) ?_))
   refine DW.cond (p1 == 0) rfl rfl ?_ ?_
   ·
    intro h11
    replace hm := if_t h11 hm
    refine DW.seq (DW.regJ (sl2 := [(4, pB (((((c154e1 p0 p1).id == 1) && ((c154e1 p0 p1).parent == 0)) && (beqS (c154e1 p0 p1).name ByteArray.empty)) && ((c154e1 p0 p1).kind == 0)))]) (ob2 := []) ?_ ?_)
    ·
     rcases bt ((c154e1 p0 p1).id == 1) with h12 | h12
     ·
      rcases bt ((c154e1 p0 p1).parent == 0) with h13 | h13
      ·
       rcases bt (beqS (c154e1 p0 p1).name ByteArray.empty) with h14 | h14
       ·
        exact RT hnt (nn 7 (pT :: nn 4 (pT :: nn 4 (pT :: .no :: [])))) [(4, pB ((c154e1 p0 p1).kind == 0))] (an4 h12 (an4 h13 (an4 h14 trivial))) (by kernel_rfl) (.cons rfl (.of_eq (by rw [h12, h13, h14]; try rfl)) .nil)
       ·
        exact RT hnt (nn 7 (pT :: nn 4 (pT :: .no :: sk 3 (pF :: .no :: [])))) [(4, pB false)] (an4 h12 (an4 h13 (an4 h14 trivial))) (by kernel_rfl) (.cons rfl (.of_eq (by rw [h12, h13, h14]; try rfl)) .nil)
      ·
       exact RT hnt (nn 7 (pT :: .no :: sk 3 (pF :: .no :: sk 3 (pF :: .no :: [])))) [(4, pB false)] (an4 h12 (an4 h13 (an4 ff trivial))) (by kernel_rfl) (.cons rfl (.of_eq (by rw [h12, h13]; try rfl)) .nil)
     ·
      exact RT hnt (nn 4 (sk 3 (pF :: .no :: sk 3 (pF :: .no :: sk 3 (pF :: .no :: []))))) [(4, pB false)] (an4 h12 (an2 ff (an6 ff trivial))) (by kernel_rfl) (.cons rfl (.of_eq (by rw [h12]; try rfl)) .nil)
    ·
     refine DW.ret ?_
     obtain rfl := Option.some.inj hm
     refine retOK (bs' := []) [] (pB (((((c154e1 p0 p1).id == 1) && ((c154e1 p0 p1).parent == 0)) && (beqS (c154e1 p0 p1).name ByteArray.empty)) && ((c154e1 p0 p1).kind == 0))) (by kernel_rfl) ?_ ?_
     · rfl
     · rfl
   ·
    intro h11
    replace hm := if_f h11 hm
    refine DW.skip ?_
    obtain ⟨g15, hm⟩ := guard_open hm
    refine DW.seq (DW.seq ?_)
    refine DW.join (ι := Bool) (fun (y1 : Bool) => mkSt [(1, pI p1), (2, rr 1016), (5, rr 1040), (76, pB y1)] [(c154e3 p0), (c154e2 p0 p1)]) (fun y1 => (node_ref5J1 p0 p1) y1 = some RES) ?_ ?_
    ·
     intro y1 hm
     unfold node_ref5J1 at hm
     refine DW.cond y1 rfl rfl ?_ ?_
     ·
      intro h18
      replace hm := if_t h18 hm
      refine DW.seq (RK hnt (.no :: []) [(4, pB false)] [] trivial (by kernel_rfl) ?_)
      refine DW.ret ?_
      obtain rfl := Option.some.inj hm
      refine retOK (bs' := []) [] (pB false) (by kernel_rfl) ?_ ?_
      · rfl
      · rfl
     ·
      intro h18
      replace hm := if_f h18 hm
      refine DW.skip ?_
      refine DW.seq (RK hnt (.no :: []) [(1, pI p1), (2, rr 1016), (5, rr 1040), (6, pB false)] [(c154e3 p0), (c154e2 p0 p1)] trivial (by kernel_rfl) ?_)
      refine DW.seq (DW.seq (RK hnt (.no :: []) [(1, pI p1), (2, rr 1016), (5, rr 1040), (6, pB false), (7, pI 0)] [(c154e3 p0), (c154e2 p0 p1)] trivial (by kernel_rfl) ?_))
      refine DW.block ?_
      obtain ⟨hc1, hm⟩ := guard_open hm
      refine DW.forO (fun (k1 : Int) (s1 : Bool) => mkSt [(1, pI p1), (2, rr 1016), (5, rr 1040), (6, pB s1), (7, pI k1)] [(c154e3 p0), (c154e2 p0 p1)]) (lo := 0) (hi := p1) hm .refl ?_
      intro k1 s1 n1 hk1 hs1 he1
      refine DW.seq (DW.seq (RK hnt (nn 3 []) [(1, pI p1), (2, rr 1016), (5, rr 1040), (6, pB s1), (7, pI k1), (79, pB (decide (k1 < p1)))] [(c154e3 p0), (c154e2 p0 p1)] trivial (by kernel_rfl) ?_))
      refine DW.cond (decide (k1 < p1)) rfl rfl ?_ ?_
      ·
       intro h32
       have hlt1 : k1 < p1 := by have := of_decide_eq_true h32; omega
       have hm := hs1 hlt1
       unfold node_ref5L1 at hm
       refine DW.skip ?_
       refine DW.seq (DW.block ?_)
       refine DW.seq ?_
       refine DW.join (ι := Bool) (fun (y5 : Bool) => mkSt [(1, pI p1), (2, rr 1016), (5, rr 1040), (6, pB y5), (7, pI k1)] [(c154e3 p0), (c154e2 p0 p1)]) (fun y5 => (node_ref5J5 p0 p1 k1 n1) y5 = some RES) ?_ ?_
       ·
        intro y5 hm
        unfold node_ref5J5 at hm
        obtain ⟨g35, hm⟩ := guard_open hm
        refine DW.seq ?_
        refine DW.join (ι := Bool) (fun (y6 : Bool) => mkSt [(1, pI p1), (2, rr 1016), (5, rr 1040), (6, pB y5), (7, pI k1), (113, pB y6)] [(c154e3 p0), (c154e2 p0 p1)]) (fun y6 => (node_ref5J6 n1 y5) y6 = some RES) ?_ ?_
        ·
         intro y6 hm
         unfold node_ref5J6 at hm
         refine DW.cond y6 rfl rfl ?_ ?_
         ·
          intro h38
          replace hm := if_t h38 hm
          refine DW.seq (RK hnt (.no :: []) [(4, pB false)] [] trivial (by kernel_rfl) ?_)
          refine DW.ret ?_
          obtain rfl := Option.some.inj hm
          refine retOK (bs' := []) [] (pB false) (by kernel_rfl) ?_ ?_
          · rfl
          · rfl
         ·
          intro h38
          replace hm := if_f h38 hm
          refine DW.skip ?_
          refine DW.done ?_
          show DW _ _ _ _ _
          refine RK hnt (nn 3 []) [(1, pI p1), (2, rr 1016), (5, rr 1040), (6, pB y5), (7, pI (w64 (k1 + 1)))] [(c154e3 p0), (c154e2 p0 p1)] trivial (by kernel_rfl) ?_
          exact joinDone y5 ⟨hlt1, hm⟩ (Conv.tp [(7, pI (w64 (k1 + 1)))] [] (by kernel_rfl) (.cons rfl (.of_eq (congrArg pI (w64_for (lo := 0) (hi := p1) (by omega) hk1 hlt1 (by omega)))) .nil) .nil)
        ·
         rcases bt ((c154e4 p0 k1).parent == (c154e1 p0 p1).parent) with h36 | h36
         ·
          replace hm := if_t h36 hm
          obtain ⟨g37, hm⟩ := guard_open hm
          refine RK hnt (nn 19 (pT :: [])) [(1, pI p1), (2, rr 1016), (5, rr 1040), (6, pB y5), (7, pI k1), (113, pB (beqS (c154e4 p0 k1).name (c154e1 p0 p1).name))] [(c154e3 p0), (c154e2 p0 p1)] (an g35.1 (an g35.2 (an4 h36 (an g37.1 (an g37.2 (an6 h36 trivial)))))) (by kernel_rfl) ?_
          exact joinDone (beqS (c154e4 p0 k1).name (c154e1 p0 p1).name) hm .refl
         ·
          replace hm := if_f h36 hm
          refine RK hnt (nn 10 (sk 9 (pF :: []))) [(1, pI p1), (2, rr 1016), (5, rr 1040), (6, pB y5), (7, pI k1), (113, pB false)] [(c154e3 p0), (c154e2 p0 p1)] (an g35.1 (an g35.2 (an4 h36 (an6 h36 trivial)))) (by kernel_rfl) ?_
          exact joinDone false hm .refl
       ·
        rcases bt s1 with h33 | h33
        ·
         replace hm := if_t h33 hm
         refine RK hnt (nn 2 (sk 9 (pT :: .no :: []))) [(1, pI p1), (2, rr 1016), (5, rr 1040), (6, pB true), (7, pI k1)] [(c154e3 p0), (c154e2 p0 p1)] (an4 h33 (an6 h33 trivial)) (by kernel_rfl) ?_
         exact joinDone true hm .refl
        ·
         replace hm := if_f h33 hm
         obtain ⟨g34, hm⟩ := guard_open hm
         refine RK hnt (nn 11 (pF :: .no :: [])) [(1, pI p1), (2, rr 1016), (5, rr 1040), (6, pB ((c154e4 p0 k1).id == (c154e1 p0 p1).parent)), (7, pI k1)] [(c154e3 p0), (c154e2 p0 p1)] (an4 h33 (an g34.1 (an g34.2 (an6 h33 trivial)))) (by kernel_rfl) ?_
         exact joinDone ((c154e4 p0 k1).id == (c154e1 p0 p1).parent) hm .refl
      ·
       intro h32
       have hge1 : ¬ k1 < p1 := by have := of_decide_eq_false h32; omega
       have hm := he1 hge1
       unfold node_ref5D1 at hm
       refine DW.exit ?_
       refine joinQ_exit ?_
       refine KQ_exit ?_
       refine blockQ_exit ?_
       show DW _ _ _ _ _
       refine DW.seq (RK hnt (nn 2 []) [(4, pB s1)] [] trivial (by kernel_rfl) ?_)
       refine DW.ret ?_
       obtain rfl := Option.some.inj hm
       refine retOK (bs' := []) [] (pB s1) (by kernel_rfl) ?_ ?_
       · rfl
       · rfl
    ·
     rcases bt (decide ((c154e1 p0 p1).id ≤ (p0.nodes.getD (Int.toNat (w64 (p1 - 1))) dNode).id)) with h16 | h16
     ·
      replace hm := if_t h16 hm
      refine RK hnt (nn 11 (sk 4 (pT :: []))) [(1, pI p1), (2, rr 1016), (5, rr 1040), (76, pB true)] [(c154e3 p0), (c154e2 p0 p1)] (an g15.1 (an g15.2 (an5 h16 trivial))) (by kernel_rfl) ?_
      exact joinDone true hm .refl
     ·
      replace hm := if_f h16 hm
      obtain ⟨r17, hr17, hm⟩ := bind_open hm
      refine RK hnt (nn 13 (.call 163 [] true (pB r17) [] [] :: .no :: pF :: [])) [(1, pI p1), (2, rr 1016), (5, rr 1040), (76, pB (!r17))] [(c154e3 p0), (c154e2 p0 p1)] (an g15.1 (an g15.2 (an3 h16 (an (Valid_ref1Spec (c154e1 p0 p1).name r17 hr17) (an2 h16 trivial))))) (by kernel_rfl) ?_
      exact joinDone (!r17) hm .refl

abbrev c89e1 (p0 : Tree) : Nat × Obj := (1016, bx (pm (encTree p0)))
theorem up_ref5Spec (p0 : Tree) (p1 : Int) (RES : List Int) (hm : up_ref5 p0 p1 = some RES) : Spec Tryz.prog 89 [.p (.agg (encTree p0)), pI p1] [] (ow 0 RES.length) [] [roI RES] := by
 unfold up_ref5 at hm
 refine spec_of Tgood (T := Tt) Tryz.func89 (by decide) (c := _) rfl rfl (sl := [(0, .p (.agg (encTree p0))), (1, pI p1)]) (ob := []) (Nat.le_of_ble_eq_true rfl) (Nat.le_of_ble_eq_true rfl) (by kernel_rfl) (by kernel_rfl) ?_
 intro cx hnt
 refine DW.start ?_
 refine DW.seq (RK hnt (nn 2 []) [(1, pI p1), (2, rr 1016)] [(c89e1 p0)] trivial (by kernel_rfl) ?_)
 refine DW.seq (RK hnt (.no :: []) [(1, pI p1), (2, rr 1016), (5, .p (.sl .nil 0 0 (fun _ => [])))] [(c89e1 p0)] trivial (by kernel_rfl) ?_)
 refine DW.seq (DW.seq (RK hnt (nn 5 []) [(1, pI p1), (2, rr 1016), (5, .p (.sl .nil 0 0 (fun _ => []))), (6, pI (w64 (((p0.nodes.length : Nat) : Int) - 1)))] [(c89e1 p0)] trivial (by kernel_rfl) ?_))
 refine DW.block ?_
 refine DW.whileO (fun (s1 : (List Int) × Int × Int) => mkSt [(1, pI s1.2.1), (2, rr 1016), (5, ow 1208 s1.1.length), (6, pI s1.2.2)] [(c89e1 p0), (1208, ob0 (roI s1.1))]) hm (Conv.trans (τ := mkSt [(1, pI p1), (2, rr 1016), (5, ow 1208 0), (6, pI (w64 (((p0.nodes.length : Nat) : Int) - 1)))] ((1208, ⟨0, .row 1 0 (elems encI 0 [])⟩) :: [(c89e1 p0)])) (Conv.adopt 1208 1 (elems encI 0 []) rfl rfl (.cons (.one (.rfl _)) (.cons (.one (.rfl _)) (.cons (.one (.nil _ _)) (.cons (.one (.rfl _)) (.rfl _))))) (.rfl _)) (Conv.trans (τ := mkSt [(1, pI p1), (2, rr 1016), (5, ow 1208 0), (6, pI (w64 (((p0.nodes.length : Nat) : Int) - 1)))] [(c89e1 p0), (1208, ob0 (roI []))]) (Conv.tp [] [] (by kernel_rfl) .nil .nil) .refl)) ?_
 intro s1 n1 hm
 unfold up_ref5L1 at hm
 refine DW.seq (DW.seq (RK hnt (nn 2 []) [(1, pI s1.2.1), (2, rr 1016), (5, ow 1208 s1.1.length), (6, pI s1.2.2), (12, pB (decide (s1.2.2 ≥ 0)))] [(c89e1 p0), (1208, ob0 (roI s1.1))] trivial (by kernel_rfl) ?_))
 refine DW.cond (decide (s1.2.2 ≥ 0)) rfl rfl ?_ ?_
 ·
  intro h5
  replace hm := if_t h5 hm
  refine DW.skip ?_
  refine DW.seq ?_
  refine DW.join (ι := (List Int) × Int) (fun (y2 : (List Int) × Int) => mkSt [(1, pI y2.2), (2, rr 1016), (5, ow 1208 y2.1.length), (6, pI s1.2.2)] [(c89e1 p0), (1208, ob0 (roI y2.1))]) (fun y2 => (up_ref5J2 s1 n1) y2 = some RES) ?_ ?_
  ·
   intro y2 hm
   unfold up_ref5J2 at hm
   refine RK hnt (nn 3 []) [(1, pI y2.2), (2, rr 1016), (5, ow 1208 y2.1.length), (6, pI (w64 (s1.2.2 - 1)))] [(c89e1 p0), (1208, ob0 (roI y2.1))] trivial (by kernel_rfl) ?_
   exact joinDone (y2.1, y2.2, (w64 (s1.2.2 - 1))) hm .refl
  ·
   refine DW.block ?_
   obtain ⟨g6, hm⟩ := guard_open hm
   refine DW.seq (RK hnt (nn 8 []) [(1, pI s1.2.1), (2, rr 1016), (5, ow 1208 s1.1.length), (6, pI s1.2.2), (22, pB ((p0.nodes.getD (Int.toNat s1.2.2) dNode).id == s1.2.1))] [(c89e1 p0), (1208, ob0 (roI s1.1))] (an g6.1 (an g6.2 trivial)) (by kernel_rfl) ?_)
   refine DW.cond ((p0.nodes.getD (Int.toNat s1.2.2) dNode).id == s1.2.1) rfl rfl ?_ ?_
   ·
    intro h7
    replace hm := if_t h7 hm
    obtain ⟨g8, hm⟩ := guard_open hm
    refine DW.seq (RN hnt (nn 5 []) [(2, rr 1016), (5, ow 1208 (s1.1 ++ [s1.2.1]).length), (6, pI s1.2.2)] [(c89e1 p0), (1208, ob0 (roI (s1.1 ++ [s1.2.1])))] [(5, ow 1208 (s1.1.length + 1))] [(1208, .row 1 (s1.1.length + 1) (catF s1.1.length (elI s1.1) (cut 1 [vi s1.2.1])))] (an (by omega : (s1.1.length + 1) * 8 ≤ 140737488355328) trivial) (by kernel_rfl) (.cons rfl (MLe.ownLen (enc := encI) (d := 0) (f := (catF s1.1.length (elI s1.1) (cut 1 [vi s1.2.1]))) (RowIs.cat RowIs.elems (RowIs.lit (enc := encI) (d := 0) (n := 1) (f := (cut 1 [vi s1.2.1])) [s1.2.1] rfl (fun | 0, _ => rfl | n + 1, h => absurd h (by omega))))) .nil) (.cons rfl (BLe.typed (RowIs.cat RowIs.elems (RowIs.lit (enc := encI) (d := 0) (n := 1) (f := (cut 1 [vi s1.2.1])) [s1.2.1] rfl (fun | 0, _ => rfl | n + 1, h => absurd h (by omega))))) .nil) ?_)
    obtain ⟨g9, hm⟩ := guard_open hm
    refine RK hnt (nn 7 []) [(1, pI (p0.nodes.getD (Int.toNat s1.2.2) dNode).parent), (2, rr 1016), (5, ow 1208 (s1.1 ++ [s1.2.1]).length), (6, pI s1.2.2)] [(c89e1 p0), (1208, ob0 (roI (s1.1 ++ [s1.2.1])))] (an g9.1 (an g9.2 trivial)) (by kernel_rfl) ?_
    exact blockDone ((s1.1 ++ [s1.2.1]), (p0.nodes.getD (Int.toNat s1.2.2) dNode).parent) hm .refl
   ·
    intro h7
    replace hm := if_f h7 hm
    refine DW.skip ?_
    exact blockDone (s1.1, s1.2.1) hm (Conv.tp [] [] (by kernel_rfl) .nil .nil)
 ·
  intro h5
  replace hm := if_f h5 hm
  refine DW.exit ?_
  refine joinQ_exit ?_
  refine KQ_exit ?_
  refine blockQ_exit ?_
  show DW _ _ _ _ _
  refine DW.seq (RK hnt (nn 2 []) [(4, ow 1208 s1.1.length)] [(1208, ob0 (roI s1.1))] trivial (by kernel_rfl) ?_)
  refine DW.ret ?_
  obtain rfl := Option.some.inj hm
  refine retOK (bs' := [roI s1.1]) [1208] (ow 0 s1.1.length) (by kernel_rfl) ?_ ?_
  · rfl
  · rfl

abbrev c110e1 (p0 : Tree) : Nat × MV := (3, pI ((p0.nodes.length : Nat) : Int))
abbrev c110e2 (p0 : Tree) : Nat × Obj := (1008, bx (pm (encTree p0)))
theorem Check_ref5Spec (p0 : Tree) (RES : Bool) (hm : Check_ref5 p0 = some RES) : Spec Tryz.prog 110 [.p (.agg (encTree p0))] [] (pB RES) [] [] := by
 unfold Check_ref5 at hm
 refine spec_of Tgood (T := Tt) Tryz.func110 (by decide) (c := _) rfl rfl (sl := [(0, .p (.agg (encTree p0)))]) (ob := []) (Nat.le_of_ble_eq_true rfl) (Nat.le_of_ble_eq_true rfl) (by kernel_rfl) (by kernel_rfl) ?_
 intro cx hnt
 refine DW.start ?_
 refine DW.seq (RK hnt (nn 2 []) [(1, rr 1008)] [(c110e2 p0)] trivial (by kernel_rfl) ?_)
 refine DW.seq (RK hnt (nn 4 []) [(1, rr 1008), (c110e1 p0)] [(c110e2 p0)] trivial (by kernel_rfl) ?_)
 refine DW.seq (DW.seq (DW.regJ (sl2 := [(1, rr 1008), (c110e1 p0), (14, pB ((decide (((p0.nodes.length : Nat) : Int) < 1)) || (decide (((p0.nodes.length : Nat) : Int) > 64))))]) (ob2 := [(c110e2 p0)]) ?_ ?_))
 ·
  rcases bt (decide (((p0.nodes.length : Nat) : Int) < 1)) with h1 | h1
  ·
   exact RT hnt (nn 3 (sk 2 (pT :: []))) [(14, pB true)] (an3 h1 trivial) (by kernel_rfl) (.cons rfl (.of_eq (by rw [h1]; try rfl)) .nil)
  ·
   exact RT hnt (nn 5 (pF :: [])) [(14, pB (decide (((p0.nodes.length : Nat) : Int) > 64)))] (an3 h1 trivial) (by kernel_rfl) (.cons rfl (.of_eq (by rw [h1]; try rfl)) .nil)
 ·
  refine DW.cond ((decide (((p0.nodes.length : Nat) : Int) < 1)) || (decide (((p0.nodes.length : Nat) : Int) > 64))) rfl rfl ?_ ?_
  ·
   intro h2
   replace hm := if_t h2 hm
   refine DW.seq (RK hnt (.no :: []) [(2, pB false)] [] trivial (by kernel_rfl) ?_)
   refine DW.ret ?_
   obtain rfl := Option.some.inj hm
   refine retOK (bs' := []) [] (pB false) (by kernel_rfl) ?_ ?_
   · rfl
   · rfl
  ·
   intro h2
   replace hm := if_f h2 hm
   refine DW.skip ?_
   refine DW.seq (DW.seq (RK hnt (.no :: []) [(1, rr 1008), (c110e1 p0), (4, pI 0)] [(c110e2 p0)] trivial (by kernel_rfl) ?_))
   refine DW.block ?_
   obtain ⟨hc1, hm⟩ := guard_open hm
   refine DW.rangeO (fun (k1 : Nat) (s1 : Unit) => mkSt [(1, rr 1008), (c110e1 p0), (4, pI ((k1 : Nat) : Int))] [(c110e2 p0)]) dNode hm .refl ?_
   intro k1 s1 n1 hk1 hs1 he1
   refine DW.seq (DW.seq (RK hnt (nn 3 []) [(1, rr 1008), (c110e1 p0), (4, pI ((k1 : Nat) : Int)), (17, pB (decide (((k1 : Nat) : Int) < ((p0.nodes.length : Nat) : Int))))] [(c110e2 p0)] trivial (by kernel_rfl) ?_))
   refine DW.cond (decide (((k1 : Nat) : Int) < ((p0.nodes.length : Nat) : Int))) rfl rfl ?_ ?_
   ·
    intro h32
    have hlt1 : k1 < p0.nodes.length := by have := of_decide_eq_true h32; omega
    have hm := hs1 hlt1
    unfold Check_ref5L1 at hm
    refine DW.skip ?_
    refine DW.seq (DW.block ?_)
    obtain ⟨r33, hr33, hm⟩ := bind_open hm
    refine DW.seq (RK hnt (nn 2 (.call 154 [] true (pB r33) [] [] :: .no :: [])) [(1, rr 1008), (c110e1 p0), (4, pI ((k1 : Nat) : Int)), (23, pB (!r33))] [(c110e2 p0)] (an (node_ref5Spec p0 ((k1 : Nat) : Int) r33 hr33) trivial) (by kernel_rfl) ?_)
    refine DW.cond (!r33) rfl rfl ?_ ?_
    ·
     intro h34
     replace hm := if_t h34 hm
     refine DW.seq (RK hnt (.no :: []) [(2, pB false)] [] trivial (by kernel_rfl) ?_)
     refine DW.ret ?_
     obtain rfl := Option.some.inj hm
     refine retOK (bs' := []) [] (pB false) (by kernel_rfl) ?_ ?_
     · rfl
     · rfl
    ·
     intro h34
     replace hm := if_f h34 hm
     refine DW.skip ?_
     refine DW.done ?_
     show DW _ _ _ _ _
     refine RK hnt (nn 3 []) [(1, rr 1008), (c110e1 p0), (4, pI (w64 (((k1 : Nat) : Int) + 1)))] [(c110e2 p0)] trivial (by kernel_rfl) ?_
     exact joinDone () ⟨hlt1, hm⟩ (Conv.tp [(4, pI (w64 (((k1 : Nat) : Int) + 1)))] [] (by kernel_rfl) (.cons rfl (.of_eq (congrArg pI (w64_succ hlt1 hc1))) .nil) .nil)
   ·
    intro h32
    have hge1 : ¬ k1 < p0.nodes.length := by have := of_decide_eq_false h32; omega
    have hm := he1 hge1
    unfold Check_ref5D1 at hm
    refine DW.exit ?_
    refine joinQ_exit ?_
    refine KQ_exit ?_
    refine blockQ_exit ?_
    show DW _ _ _ _ _
    refine DW.seq (DW.seq (RK hnt (.no :: []) [(1, rr 1008), (c110e1 p0), (5, pI 0)] [(c110e2 p0)] trivial (by kernel_rfl) ?_))
    refine DW.block ?_
    obtain ⟨hc4, hm⟩ := guard_open hm
    refine DW.rangeO (fun (k4 : Nat) (s4 : Unit) => mkSt [(1, rr 1008), (c110e1 p0), (5, pI ((k4 : Nat) : Int))] [(c110e2 p0)]) dNode hm .refl ?_
    intro k4 s4 n4 hk4 hs4 he4
    refine DW.seq (DW.seq (RK hnt (nn 3 []) [(1, rr 1008), (c110e1 p0), (5, pI ((k4 : Nat) : Int)), (26, pB (decide (((k4 : Nat) : Int) < ((p0.nodes.length : Nat) : Int))))] [(c110e2 p0)] trivial (by kernel_rfl) ?_))
    refine DW.cond (decide (((k4 : Nat) : Int) < ((p0.nodes.length : Nat) : Int))) rfl rfl ?_ ?_
    ·
     intro h49
     have hlt4 : k4 < p0.nodes.length := by have := of_decide_eq_true h49; omega
     have hm := hs4 hlt4
     unfold Check_ref5L4 at hm
     refine DW.skip ?_
     refine DW.seq (DW.block ?_)
     obtain ⟨r50, hr50, hm⟩ := bind_open hm
     refine DW.seq (RK hnt (nn 7 (.call 89 [] true (ow 0 r50.length) [] [roI r50] :: nn 2 [])) [(1, rr 1008), (c110e1 p0), (5, pI ((k4 : Nat) : Int)), (38, pB (decide (((r50.length : Nat) : Int) > 9)))] [(c110e2 p0)] (an (nn0 k4) (an (ltc hlt4) (an (up_ref5Spec p0 (p0.nodes.getD k4 (default : Node)).id r50 hr50) trivial))) (by kernel_rfl) ?_)
     refine DW.cond (decide (((r50.length : Nat) : Int) > 9)) rfl rfl ?_ ?_
     ·
      intro h51
      replace hm := if_t h51 hm
      refine DW.seq (RK hnt (.no :: []) [(2, pB false)] [] trivial (by kernel_rfl) ?_)
      refine DW.ret ?_
      obtain rfl := Option.some.inj hm
      refine retOK (bs' := []) [] (pB false) (by kernel_rfl) ?_ ?_
      · rfl
      · rfl
     ·
      intro h51
      replace hm := if_f h51 hm
      refine DW.skip ?_
      refine DW.done ?_
      show DW _ _ _ _ _
      refine RK hnt (nn 3 []) [(1, rr 1008), (c110e1 p0), (5, pI (w64 (((k4 : Nat) : Int) + 1)))] [(c110e2 p0)] trivial (by kernel_rfl) ?_
      exact joinDone () ⟨hlt4, hm⟩ (Conv.tp [(5, pI (w64 (((k4 : Nat) : Int) + 1)))] [] (by kernel_rfl) (.cons rfl (.of_eq (congrArg pI (w64_succ hlt4 hc4))) .nil) .nil)
    ·
     intro h49
     have hge4 : ¬ k4 < p0.nodes.length := by have := of_decide_eq_false h49; omega
     have hm := he4 hge4
     unfold Check_ref5D4 at hm
     refine DW.exit ?_
     refine joinQ_exit ?_
     refine KQ_exit ?_
     refine blockQ_exit ?_
     show DW _ _ _ _ _
     obtain ⟨g52, hm⟩ := guard_open hm
     refine DW.seq ?_
     refine DW.join (ι := Bool) (fun (y7 : Bool) => mkSt [(2, pB y7)] []) (fun y7 => Check_ref5J7 y7 = some RES) ?_ ?_
     ·
      intro y7 hm
      unfold Check_ref5J7 at hm
      refine DW.ret ?_
      obtain rfl := Option.some.inj hm
      refine retOK (bs' := []) [] (pB y7) (by kernel_rfl) ?_ ?_
      · rfl
      · rfl
     ·
      rcases bt (decide (p0.next > (p0.nodes.getD (Int.toNat (w64 (((p0.nodes.length : Nat) : Int) - 1))) dNode).id)) with h53 | h53
      ·
       replace hm := if_t h53 hm
       refine RK hnt (nn 14 (pT :: .no :: [])) [(2, pB (decide (p0.next ≤ 2147483648)))] [] (an g52.1 (an g52.2 (an4 h53 trivial))) (by kernel_rfl) ?_
       exact joinDone (decide (p0.next ≤ 2147483648)) hm .refl
      ·
       replace hm := if_f h53 hm
       refine RK hnt (nn 11 (sk 3 (pF :: .no :: []))) [(2, pB false)] [] (an g52.1 (an g52.2 (an4 h53 trivial))) (by kernel_rfl) ?_
       exact joinDone false hm .refl

abbrev c111e1 : Nat × Obj := (1032, bx [pI 0, pI 0, pI 0, pI 0])
theorem leader_ref6Spec (p0 : List Task) (p1 : Int) (RES : Task × Bool) (hm : leader_ref6 p0 p1 = some RES) : Spec Tryz.prog 111 [.p (slTask p0), pI p1] [] (.p (.tup [.agg (encTask RES.1), vb RES.2])) [] [] := by
 unfold leader_ref6 at hm
 refine spec_of Tgood (T := Tt) Tryz.func111 (by decide) (c := _) rfl rfl (sl := [(0, .p (slTask p0)), (1, pI p1)]) (ob := []) (Nat.le_of_ble_eq_true rfl) (Nat.le_of_ble_eq_true rfl) (by kernel_rfl) (by kernel_rfl) ?_
 intro cx hnt
 refine DW.start ?_
 refine DW.seq (RK hnt (nn 2 []) [(0, .p (slTask p0)), (1, pI p1), (4, rr 1032)] [(c111e1)] trivial (by kernel_rfl) ?_)
 refine DW.seq (DW.seq (RK hnt (.no :: []) [(0, .p (slTask p0)), (1, pI p1), (4, rr 1032), (6, pI 0)] [(c111e1)] trivial (by kernel_rfl) ?_))
 refine DW.block ?_
 obtain ⟨hc1, hm⟩ := guard_open hm
 refine DW.rangeO (fun (k1 : Nat) (s1 : Unit) => mkSt [(0, .p (slTask p0)), (1, pI p1), (4, rr 1032), (6, pI ((k1 : Nat) : Int))] [(c111e1)]) dTask hm .refl ?_
 intro k1 s1 n1 hk1 hs1 he1
 refine DW.seq (DW.seq (RK hnt (nn 4 []) [(0, .p (slTask p0)), (1, pI p1), (4, rr 1032), (6, pI ((k1 : Nat) : Int)), (10, pB (decide (((k1 : Nat) : Int) < ((p0.length : Nat) : Int))))] [(c111e1)] trivial (by kernel_rfl) ?_))
 refine DW.cond (decide (((k1 : Nat) : Int) < ((p0.length : Nat) : Int))) rfl rfl ?_ ?_
 ·
  intro h11
  have hlt1 : k1 < p0.length := by have := of_decide_eq_true h11; omega
  have hm := hs1 hlt1
  unfold leader_ref6L1 at hm
  refine DW.skip ?_
  refine DW.seq (DW.block ?_)
  refine DW.seq (RK hnt (nn 7 []) [(0, .p (slTask p0)), (1, pI p1), (4, rr 1032), (6, pI ((k1 : Nat) : Int)), (19, pB ((p0.getD k1 (default : Task)).id == p1))] [(c111e1)] (an (nn0 k1) (an (ltc hlt1) trivial)) (by kernel_rfl) ?_)
  refine DW.cond ((p0.getD k1 (default : Task)).id == p1) rfl rfl ?_ ?_
  ·
   intro h12
   replace hm := if_t h12 hm
   refine DW.seq (RK hnt (nn 13 []) [(4, rr 1032), (5, pB ((p0.getD k1 (default : Task)).process == p1))] [(1032, bx (pm (encTask (p0.getD k1 (default : Task)))))] (an (nn0 k1) (an (ltc hlt1) (an (nn0 k1) (an (ltc hlt1) trivial)))) (by kernel_rfl) ?_)
   refine DW.ret ?_
   obtain rfl := Option.some.inj hm
   refine retOK (bs' := []) [] (.p (.tup [.agg (encTask (p0.getD k1 (default : Task))), vb ((p0.getD k1 (default : Task)).process == p1)])) (by kernel_rfl) ?_ ?_
   · rfl
   · rfl
  ·
   intro h12
   replace hm := if_f h12 hm
   refine DW.skip ?_
   refine DW.done ?_
   show DW _ _ _ _ _
   refine RK hnt (nn 3 []) [(0, .p (slTask p0)), (1, pI p1), (4, rr 1032), (6, pI (w64 (((k1 : Nat) : Int) + 1)))] [(c111e1)] trivial (by kernel_rfl) ?_
   exact joinDone () ⟨hlt1, hm⟩ (Conv.tp [(6, pI (w64 (((k1 : Nat) : Int) + 1)))] [] (by kernel_rfl) (.cons rfl (.of_eq (congrArg pI (w64_succ hlt1 hc1))) .nil) .nil)
 ·
  intro h11
  have hge1 : ¬ k1 < p0.length := by have := of_decide_eq_false h11; omega
  have hm := he1 hge1
  unfold leader_ref6D1 at hm
  refine DW.exit ?_
  refine joinQ_exit ?_
  refine KQ_exit ?_
  refine blockQ_exit ?_
  show DW _ _ _ _ _
  refine DW.seq (RK hnt (nn 3 []) [(4, rr 1032), (5, pB false)] [(c111e1)] trivial (by kernel_rfl) ?_)
  refine DW.ret ?_
  obtain rfl := Option.some.inj hm
  refine retOK (bs' := []) [] (.p (.tup [.agg [vi 0, vi 0, vi 0, vi 0], vb false])) (by kernel_rfl) ?_ ?_
  · rfl
  · rfl

abbrev c135e1 : Nat × Obj := (1032, bx [pI 0, pI 0, pS ByteArray.empty, pI 0, pI 0, pI 0])
abbrev c135e2 (p0 : Tree) : Nat × Obj := (1016, bx (pm (encTree p0)))
theorem Find_ref5Spec (p0 : Tree) (p1 : Int) (RES : Node × Bool) (hm : Find_ref5 p0 p1 = some RES) : Spec Tryz.prog 135 [.p (.agg (encTree p0)), pI p1] [] (.p (.tup [.agg (encNode RES.1), vb RES.2])) [] [] := by
 unfold Find_ref5 at hm
 refine spec_of Tgood (T := Tt) Tryz.func135 (by decide) (c := _) rfl rfl (sl := [(0, .p (.agg (encTree p0))), (1, pI p1)]) (ob := []) (Nat.le_of_ble_eq_true rfl) (Nat.le_of_ble_eq_true rfl) (by kernel_rfl) (by kernel_rfl) ?_
 intro cx hnt
 refine DW.start ?_
 refine DW.seq (RK hnt (nn 3 []) [(1, pI p1), (2, rr 1016), (4, rr 1032)] [(c135e2 p0), (c135e1)] trivial (by kernel_rfl) ?_)
 obtain ⟨r1, hr1, hm⟩ := bind_open hm
 refine DW.seq (DW.seq (RK hnt (.no :: .call 110 [] true (pB r1) [] [] :: .no :: []) [(1, pI p1), (2, rr 1016), (4, rr 1032), (9, pB (!r1))] [(c135e2 p0), (c135e1)] (an (Check_ref5Spec p0 r1 hr1) trivial) (by kernel_rfl) ?_))
 refine DW.cond (!r1) rfl rfl ?_ ?_
 ·
  intro h2
  replace hm := if_t h2 hm
  refine DW.seq (RK hnt (nn 3 []) [(4, rr 1032), (5, pB false)] [(c135e1)] trivial (by kernel_rfl) ?_)
  refine DW.ret ?_
  obtain rfl := Option.some.inj hm
  refine retOK (bs' := []) [] (.p (.tup [.agg [vi 0, vi 0, vs ByteArray.empty, vi 0, vi 0, vi 0], vb false])) (by kernel_rfl) ?_ ?_
  · rfl
  · rfl
 ·
  intro h2
  replace hm := if_f h2 hm
  refine DW.skip ?_
  refine DW.seq (DW.seq (RK hnt (.no :: []) [(1, pI p1), (2, rr 1016), (4, rr 1032), (6, pI 0)] [(c135e2 p0), (c135e1)] trivial (by kernel_rfl) ?_))
  refine DW.block ?_
  obtain ⟨hc1, hm⟩ := guard_open hm
  refine DW.rangeO (fun (k1 : Nat) (s1 : Unit) => mkSt [(1, pI p1), (2, rr 1016), (4, rr 1032), (6, pI ((k1 : Nat) : Int))] [(c135e2 p0), (c135e1)]) dNode hm .refl ?_
  intro k1 s1 n1 hk1 hs1 he1
  refine DW.seq (DW.seq (RK hnt (nn 5 []) [(1, pI p1), (2, rr 1016), (4, rr 1032), (6, pI ((k1 : Nat) : Int)), (15, pB (decide (((k1 : Nat) : Int) < ((p0.nodes.length : Nat) : Int))))] [(c135e2 p0), (c135e1)] trivial (by kernel_rfl) ?_))
  refine DW.cond (decide (((k1 : Nat) : Int) < ((p0.nodes.length : Nat) : Int))) rfl rfl ?_ ?_
  ·
   intro h11
   have hlt1 : k1 < p0.nodes.length := by have := of_decide_eq_true h11; omega
   have hm := hs1 hlt1
   unfold Find_ref5L1 at hm
   refine DW.skip ?_
   refine DW.seq (DW.block ?_)
   refine DW.seq (RK hnt (nn 8 []) [(1, pI p1), (2, rr 1016), (4, rr 1032), (6, pI ((k1 : Nat) : Int)), (25, pB ((p0.nodes.getD k1 (default : Node)).id == p1))] [(c135e2 p0), (c135e1)] (an (nn0 k1) (an (ltc hlt1) trivial)) (by kernel_rfl) ?_)
   refine DW.cond ((p0.nodes.getD k1 (default : Node)).id == p1) rfl rfl ?_ ?_
   ·
    intro h12
    replace hm := if_t h12 hm
    refine DW.seq (RK hnt (nn 7 []) [(4, rr 1032), (5, pB true)] [(1032, bx (pm (encNode (p0.nodes.getD k1 (default : Node)))))] (an (nn0 k1) (an (ltc hlt1) trivial)) (by kernel_rfl) ?_)
    refine DW.ret ?_
    obtain rfl := Option.some.inj hm
    refine retOK (bs' := []) [] (.p (.tup [.agg (encNode (p0.nodes.getD k1 (default : Node))), vb true])) (by kernel_rfl) ?_ ?_
    · rfl
    · rfl
   ·
    intro h12
    replace hm := if_f h12 hm
    refine DW.skip ?_
    refine DW.done ?_
    show DW _ _ _ _ _
    refine RK hnt (nn 3 []) [(1, pI p1), (2, rr 1016), (4, rr 1032), (6, pI (w64 (((k1 : Nat) : Int) + 1)))] [(c135e2 p0), (c135e1)] trivial (by kernel_rfl) ?_
    exact joinDone () ⟨hlt1, hm⟩ (Conv.tp [(6, pI (w64 (((k1 : Nat) : Int) + 1)))] [] (by kernel_rfl) (.cons rfl (.of_eq (congrArg pI (w64_succ hlt1 hc1))) .nil) .nil)
  ·
   intro h11
   have hge1 : ¬ k1 < p0.nodes.length := by have := of_decide_eq_false h11; omega
   have hm := he1 hge1
   unfold Find_ref5D1 at hm
   refine DW.exit ?_
   refine joinQ_exit ?_
   refine KQ_exit ?_
   refine blockQ_exit ?_
   show DW _ _ _ _ _
   refine DW.seq (RK hnt (nn 3 []) [(4, rr 1032), (5, pB false)] [(c135e1)] trivial (by kernel_rfl) ?_)
   refine DW.ret ?_
   obtain rfl := Option.some.inj hm
   refine retOK (bs' := []) [] (.p (.tup [.agg [vi 0, vi 0, vs ByteArray.empty, vi 0, vi 0, vi 0], vb false])) (by kernel_rfl) ?_ ?_
   · rfl
   · rfl

theorem Has_ref5Spec (p0 : Tree) (p1 : Int) (RES : Bool) (hm : Has_ref5 p0 p1 = some RES) : Spec Tryz.prog 88 [.p (.agg (encTree p0)), pI p1] [] (pB RES) [] [] := by
 unfold Has_ref5 at hm
 refine spec_of Tgood (T := Tt) Tryz.func88 (by decide) (c := _) rfl rfl (sl := [(0, .p (.agg (encTree p0))), (1, pI p1)]) (ob := []) (Nat.le_of_ble_eq_true rfl) (Nat.le_of_ble_eq_true rfl) (by kernel_rfl) (by kernel_rfl) ?_
 intro cx hnt
 refine DW.start ?_
 refine DW.seq (RK hnt (nn 2 []) [(1, pI p1), (2, rr 1016)] [(1016, bx (pm (encTree p0)))] trivial (by kernel_rfl) ?_)
 obtain ⟨r1, hr1, hm⟩ := bind_open hm
 refine DW.seq (RK hnt (nn 2 (.call 135 [] true (.p (.tup [.agg (encNode r1.1), vb r1.2])) [] [] :: nn 6 [])) [(6, pB r1.2)] [] (an (Find_ref5Spec p0 p1 r1 hr1) trivial) (by kernel_rfl) ?_)
 refine DW.seq (RK hnt (nn 2 []) [(4, pB r1.2)] [] trivial (by kernel_rfl) ?_)
 refine DW.ret ?_
 obtain rfl := Option.some.inj hm
 refine retOK (bs' := []) [] (pB r1.2) (by kernel_rfl) ?_ ?_
 · rfl
 · rfl

abbrev c52e1 (p0 : Hierarchy) : Nat × MV := (3, pI ((p0.tasks.length : Nat) : Int))
abbrev c52e2 (p0 : Hierarchy) : Nat × Obj := (1008, bx (pm (encHierarchy p0)))
abbrev c52e3 (p0 : Hierarchy) (k1 : Nat) := (p0.tasks.getD k1 (default : Task))
abbrev c52e4 (k1 : Nat) : Nat × MV := (4, pI ((k1 : Nat) : Int))
theorem Check_ref6Spec (p0 : Hierarchy) (RES : Bool) (hm : Check_ref6 p0 = some RES) : Spec Tryz.prog 52 [.p (.agg (encHierarchy p0))] [] (pB RES) [] [] := by
 unfold Check_ref6 at hm
 refine spec_of Tgood (T := Tt) Tryz.func52 (by decide) (c := _) rfl rfl (sl := [(0, .p (.agg (encHierarchy p0)))]) (ob := []) (Nat.le_of_ble_eq_true rfl) (Nat.le_of_ble_eq_true rfl) (by kernel_rfl) (by kernel_rfl) ?_
 intro cx hnt
 refine DW.start ?_
 refine DW.seq (RK hnt (nn 2 []) [(1, rr 1008)] [(c52e2 p0)] trivial (by kernel_rfl) ?_)
 refine DW.seq (RK hnt (nn 4 []) [(1, rr 1008), (c52e1 p0)] [(c52e2 p0)] trivial (by kernel_rfl) ?_)
 obtain ⟨r1, hr1, hm⟩ := bind_open hm
 refine DW.seq (DW.seq ?_)
 refine DW.join (ι := Bool) (fun (y1 : Bool) => mkSt [(1, rr 1008), (c52e1 p0), (44, pB y1)] [(c52e2 p0)]) (fun y1 => (Check_ref6J1 p0) y1 = some RES) ?_ ?_
 ·
  intro y1 hm
  unfold Check_ref6J1 at hm
  refine DW.cond y1 rfl rfl ?_ ?_
  ·
   intro h8
   replace hm := if_t h8 hm
   refine DW.seq (RK hnt (.no :: []) [(2, pB false)] [] trivial (by kernel_rfl) ?_)
   refine DW.ret ?_
   obtain rfl := Option.some.inj hm
   refine retOK (bs' := []) [] (pB false) (by kernel_rfl) ?_ ?_
   · rfl
   · rfl
  ·
   intro h8
   replace hm := if_f h8 hm
   refine DW.skip ?_
   refine DW.seq (DW.seq (RK hnt (.no :: []) [(1, rr 1008), (c52e1 p0), (4, pI 0)] [(c52e2 p0)] trivial (by kernel_rfl) ?_))
   refine DW.block ?_
   obtain ⟨hc1, hm⟩ := guard_open hm
   refine DW.rangeO (fun (k1 : Nat) (s1 : Unit) => mkSt [(1, rr 1008), (c52e1 p0), (c52e4 k1)] [(c52e2 p0)]) dTask hm .refl ?_
   intro k1 s1 n1 hk1 hs1 he1
   refine DW.seq (DW.seq (RK hnt (nn 3 []) [(1, rr 1008), (c52e1 p0), (c52e4 k1), (47, pB (decide (((k1 : Nat) : Int) < ((p0.tasks.length : Nat) : Int))))] [(c52e2 p0)] trivial (by kernel_rfl) ?_))
   refine DW.cond (decide (((k1 : Nat) : Int) < ((p0.tasks.length : Nat) : Int))) rfl rfl ?_ ?_
   ·
    intro h45
    have hlt1 : k1 < p0.tasks.length := by have := of_decide_eq_true h45; omega
    have hm := hs1 hlt1
    unfold Check_ref6L1 at hm
    refine DW.skip ?_
    refine DW.seq (DW.block ?_)
    refine DW.seq (RK hnt (nn 7 []) [(1, rr 1008), (c52e1 p0), (c52e4 k1), (5, rr 1040)] [(c52e2 p0), (1040, bx (pm (encTask (c52e3 p0 k1))))] (an (nn0 k1) (an (ltc hlt1) trivial)) (by kernel_rfl) ?_)
    obtain ⟨r46, hr46, hm⟩ := bind_open hm
    refine DW.seq (RK hnt (nn 4 (.call 111 [] true (.p (.tup [.agg (encTask r46.1), vb r46.2])) [] [] :: nn 6 [])) [(1, rr 1008), (c52e1 p0), (c52e4 k1), (5, rr 1040), (6, rr 1048), (7, pB r46.2)] [(c52e2 p0), (1040, bx (pm (encTask (c52e3 p0 k1)))), (1048, bx (pm (encTask r46.1)))] (an (leader_ref6Spec p0.tasks (c52e3 p0 k1).process r46 hr46) trivial) (by kernel_rfl) ?_)
    refine DW.seq ?_
    refine DW.join (ι := Bool) (fun (y4 : Bool) => mkSt [(1, rr 1008), (c52e1 p0), (c52e4 k1), (110, pB y4)] [(c52e2 p0)]) (fun y4 => (Check_ref6J4 n1) y4 = some RES) ?_ ?_
    ·
     intro y4 hm
     unfold Check_ref6J4 at hm
     refine DW.cond y4 rfl rfl ?_ ?_
     ·
      intro h61
      replace hm := if_t h61 hm
      refine DW.seq (RK hnt (.no :: []) [(2, pB false)] [] trivial (by kernel_rfl) ?_)
      refine DW.ret ?_
      obtain rfl := Option.some.inj hm
      refine retOK (bs' := []) [] (pB false) (by kernel_rfl) ?_ ?_
      · rfl
      · rfl
     ·
      intro h61
      replace hm := if_f h61 hm
      refine DW.skip ?_
      refine DW.done ?_
      show DW _ _ _ _ _
      refine RK hnt (nn 3 []) [(1, rr 1008), (c52e1 p0), (4, pI (w64 (((k1 : Nat) : Int) + 1)))] [(c52e2 p0)] trivial (by kernel_rfl) ?_
      exact joinDone () ⟨hlt1, hm⟩ (Conv.tp [(4, pI (w64 (((k1 : Nat) : Int) + 1)))] [] (by kernel_rfl) (.cons rfl (.of_eq (congrArg pI (w64_succ hlt1 hc1))) .nil) .nil)
    ·
     rcases bt (decide ((c52e3 p0 k1).id < 1)) with h47 | h47
     ·
      replace hm := if_t h47 hm
      refine RK hnt (nn 4 (sk 14 (pT :: .no :: sk 6 (pT :: .no :: sk 3 (pT :: .no :: sk 3 (pT :: .no :: sk 2 (pT :: .no :: sk 5 (pT :: [])))))))) [(1, rr 1008), (c52e1 p0), (c52e4 k1), (110, pB true)] [(c52e2 p0)] (an5 h47 (an6 tt (an6 tt (an6 tt (an6 tt trivial))))) (by kernel_rfl) ?_
      exact joinDone true hm .refl
     ·
      replace hm := if_f h47 hm
      rcases bt (decide (((k1 : Nat) : Int) > 0)) with h48 | h48
      ·
       replace hm := if_t h48 hm
       obtain ⟨g49, hm⟩ := guard_open hm
       rcases bt (decide ((p0.tasks.getD (Int.toNat (w64 (((k1 : Nat) : Int) - 1))) dTask).id ≥ (c52e3 p0 k1).id)) with h50 | h50
       ·
        replace hm := if_t h50 hm
        refine RK hnt (nn 17 (pT :: pF :: .no :: sk 6 (pT :: .no :: sk 3 (pT :: .no :: sk 3 (pT :: .no :: sk 2 (pT :: .no :: sk 5 (pT :: []))))))) [(1, rr 1008), (c52e1 p0), (c52e4 k1), (110, pB true)] [(c52e2 p0)] (an3 h47 (an5 h48 (an g49.1 (an g49.2 (an5 h48 (an h47 (an h48 (an h47 (an h50 (an6 h50 (an5 tt (an6 tt (an6 tt trivial))))))))))))) (by kernel_rfl) ?_
        exact joinDone true hm .refl
       ·
        replace hm := if_f h50 hm
        obtain ⟨r51, hr51, hm⟩ := bind_open hm
        rcases bt (!r51) with h52 | h52
        ·
         replace hm := if_t h52 hm
         refine RK hnt (nn 17 (pT :: pF :: nn 5 (.call 88 [] true (pB r51) [] [] :: .no :: pF :: .no :: sk 3 (pT :: .no :: sk 3 (pT :: .no :: sk 2 (pT :: .no :: sk 5 (pT :: []))))))) [(1, rr 1008), (c52e1 p0), (c52e4 k1), (110, pB true)] [(c52e2 p0)] (an3 h47 (an5 h48 (an g49.1 (an g49.2 (an5 h48 (an h47 (an h48 (an h47 (an5 h50 (an (Has_ref5Spec p0.tree (c52e3 p0 k1).group r51 hr51) (an2 h50 (an4 h52 (an tt (an6 tt (an6 tt trivial))))))))))))))) (by kernel_rfl) ?_
         exact joinDone true hm .refl
        ·
         replace hm := if_f h52 hm
         rcases bt (decide ((c52e3 p0 k1).user < 0)) with h53 | h53
         ·
          replace hm := if_t h53 hm
          refine RK hnt (nn 17 (pT :: pF :: nn 5 (.call 88 [] true (pB r51) [] [] :: .no :: pF :: nn 4 (pF :: .no :: sk 3 (pT :: .no :: sk 2 (pT :: .no :: sk 5 (pT :: []))))))) [(1, rr 1008), (c52e1 p0), (c52e4 k1), (110, pB true)] [(c52e2 p0)] (an3 h47 (an5 h48 (an g49.1 (an g49.2 (an5 h48 (an h47 (an h48 (an h47 (an5 h50 (an (Has_ref5Spec p0.tree (c52e3 p0 k1).group r51 hr51) (an2 h50 (an4 h52 (an4 h53 (an3 tt (an6 tt trivial))))))))))))))) (by kernel_rfl) ?_
          exact joinDone true hm .refl
         ·
          replace hm := if_f h53 hm
          rcases bt (decide ((c52e3 p0 k1).user > 1048576)) with h54 | h54
          ·
           replace hm := if_t h54 hm
           refine RK hnt (nn 17 (pT :: pF :: nn 5 (.call 88 [] true (pB r51) [] [] :: .no :: pF :: nn 4 (pF :: nn 4 (pF :: .no :: sk 2 (pT :: .no :: sk 5 (pT :: []))))))) [(1, rr 1008), (c52e1 p0), (c52e4 k1), (110, pB true)] [(c52e2 p0)] (an3 h47 (an5 h48 (an g49.1 (an g49.2 (an5 h48 (an h47 (an h48 (an h47 (an5 h50 (an (Has_ref5Spec p0.tree (c52e3 p0 k1).group r51 hr51) (an2 h50 (an4 h52 (an4 h53 (an3 h54 (an6 tt trivial))))))))))))))) (by kernel_rfl) ?_
           exact joinDone true hm .refl
          ·
           replace hm := if_f h54 hm
           rcases bt (!r46.2) with h55 | h55
           ·
            replace hm := if_t h55 hm
            refine RK hnt (nn 17 (pT :: pF :: nn 5 (.call 88 [] true (pB r51) [] [] :: .no :: pF :: nn 4 (pF :: nn 4 (pF :: nn 3 (pF :: .no :: sk 5 (pT :: []))))))) [(1, rr 1008), (c52e1 p0), (c52e4 k1), (110, pB true)] [(c52e2 p0)] (an3 h47 (an5 h48 (an g49.1 (an g49.2 (an5 h48 (an h47 (an h48 (an h47 (an5 h50 (an (Has_ref5Spec p0.tree (c52e3 p0 k1).group r51 hr51) (an2 h50 (an4 h52 (an4 h53 (an3 h54 (an6 h55 trivial))))))))))))))) (by kernel_rfl) ?_
            exact joinDone true hm .refl
           ·
            replace hm := if_f h55 hm
            refine RK hnt (nn 17 (pT :: pF :: nn 5 (.call 88 [] true (pB r51) [] [] :: .no :: pF :: nn 4 (pF :: nn 4 (pF :: nn 3 (pF :: nn 6 (pF :: []))))))) [(1, rr 1008), (c52e1 p0), (c52e4 k1), (110, pB (r46.1.user != (c52e3 p0 k1).user))] [(c52e2 p0)] (an3 h47 (an5 h48 (an g49.1 (an g49.2 (an5 h48 (an h47 (an h48 (an h47 (an5 h50 (an (Has_ref5Spec p0.tree (c52e3 p0 k1).group r51 hr51) (an2 h50 (an4 h52 (an4 h53 (an3 h54 (an6 h55 trivial))))))))))))))) (by kernel_rfl) ?_
            exact joinDone (r46.1.user != (c52e3 p0 k1).user) hm .refl
      ·
       replace hm := if_f h48 hm
       obtain ⟨r56, hr56, hm⟩ := bind_open hm
       rcases bt (!r56) with h57 | h57
       ·
        replace hm := if_t h57 hm
        refine RK hnt (nn 7 (sk 10 (pF :: pF :: nn 5 (.call 88 [] true (pB r56) [] [] :: .no :: pF :: .no :: sk 3 (pT :: .no :: sk 3 (pT :: .no :: sk 2 (pT :: .no :: sk 5 (pT :: [])))))))) [(1, rr 1008), (c52e1 p0), (c52e4 k1), (110, pB true)] [(c52e2 p0)] (an3 h47 (an4 h48 (an6 h48 (an h47 (an h48 (an h47 (an5 ff (an (Has_ref5Spec p0.tree (c52e3 p0 k1).group r56 hr56) (an2 ff (an4 h57 (an tt (an6 tt (an6 tt trivial))))))))))))) (by kernel_rfl) ?_
        exact joinDone true hm .refl
       ·
        replace hm := if_f h57 hm
        rcases bt (decide ((c52e3 p0 k1).user < 0)) with h58 | h58
        ·
         replace hm := if_t h58 hm
         refine RK hnt (nn 7 (sk 10 (pF :: pF :: nn 5 (.call 88 [] true (pB r56) [] [] :: .no :: pF :: nn 4 (pF :: .no :: sk 3 (pT :: .no :: sk 2 (pT :: .no :: sk 5 (pT :: [])))))))) [(1, rr 1008), (c52e1 p0), (c52e4 k1), (110, pB true)] [(c52e2 p0)] (an3 h47 (an4 h48 (an6 h48 (an h47 (an h48 (an h47 (an5 ff (an (Has_ref5Spec p0.tree (c52e3 p0 k1).group r56 hr56) (an2 ff (an4 h57 (an4 h58 (an3 tt (an6 tt trivial))))))))))))) (by kernel_rfl) ?_
         exact joinDone true hm .refl
        ·
         replace hm := if_f h58 hm
         rcases bt (decide ((c52e3 p0 k1).user > 1048576)) with h59 | h59
         ·
          replace hm := if_t h59 hm
          refine RK hnt (nn 7 (sk 10 (pF :: pF :: nn 5 (.call 88 [] true (pB r56) [] [] :: .no :: pF :: nn 4 (pF :: nn 4 (pF :: .no :: sk 2 (pT :: .no :: sk 5 (pT :: [])))))))) [(1, rr 1008), (c52e1 p0), (c52e4 k1), (110, pB true)] [(c52e2 p0)] (an3 h47 (an4 h48 (an6 h48 (an h47 (an h48 (an h47 (an5 ff (an (Has_ref5Spec p0.tree (c52e3 p0 k1).group r56 hr56) (an2 ff (an4 h57 (an4 h58 (an3 h59 (an6 tt trivial))))))))))))) (by kernel_rfl) ?_
          exact joinDone true hm .refl
         ·
          replace hm := if_f h59 hm
          rcases bt (!r46.2) with h60 | h60
          ·
           replace hm := if_t h60 hm
           refine RK hnt (nn 7 (sk 10 (pF :: pF :: nn 5 (.call 88 [] true (pB r56) [] [] :: .no :: pF :: nn 4 (pF :: nn 4 (pF :: nn 3 (pF :: .no :: sk 5 (pT :: [])))))))) [(1, rr 1008), (c52e1 p0), (c52e4 k1), (110, pB true)] [(c52e2 p0)] (an3 h47 (an4 h48 (an6 h48 (an h47 (an h48 (an h47 (an5 ff (an (Has_ref5Spec p0.tree (c52e3 p0 k1).group r56 hr56) (an2 ff (an4 h57 (an4 h58 (an3 h59 (an6 h60 trivial))))))))))))) (by kernel_rfl) ?_
           exact joinDone true hm .refl
          ·
           replace hm := if_f h60 hm
           refine RK hnt (nn 7 (sk 10 (pF :: pF :: nn 5 (.call 88 [] true (pB r56) [] [] :: .no :: pF :: nn 4 (pF :: nn 4 (pF :: nn 3 (pF :: nn 6 (pF :: [])))))))) [(1, rr 1008), (c52e1 p0), (c52e4 k1), (110, pB (r46.1.user != (c52e3 p0 k1).user))] [(c52e2 p0)] (an3 h47 (an4 h48 (an6 h48 (an h47 (an h48 (an h47 (an5 ff (an (Has_ref5Spec p0.tree (c52e3 p0 k1).group r56 hr56) (an2 ff (an4 h57 (an4 h58 (an3 h59 (an6 h60 trivial))))))))))))) (by kernel_rfl) ?_
           exact joinDone (r46.1.user != (c52e3 p0 k1).user) hm .refl
   ·
    intro h45
    have hge1 : ¬ k1 < p0.tasks.length := by have := of_decide_eq_false h45; omega
    have hm := he1 hge1
    unfold Check_ref6D1 at hm
    refine DW.exit ?_
    refine joinQ_exit ?_
    refine KQ_exit ?_
    refine blockQ_exit ?_
    show DW _ _ _ _ _
    refine DW.seq (RK hnt (.no :: []) [(2, pB true)] [] trivial (by kernel_rfl) ?_)
    refine DW.ret ?_
    obtain rfl := Option.some.inj hm
    refine retOK (bs' := []) [] (pB true) (by kernel_rfl) ?_ ?_
    · rfl
    · rfl
 ·
  rcases bt (!r1) with h2 | h2
  ·
   replace hm := if_t h2 hm
   refine RK hnt (nn 2 (.call 110 [] true (pB r1) [] [] :: nn 2 (sk 2 (pT :: .no :: sk 3 (pT :: .no :: sk 3 (pT :: .no :: sk 14 (pT :: []))))))) [(1, rr 1008), (c52e1 p0), (44, pB true)] [(c52e2 p0)] (an (Check_ref5Spec p0.tree r1 hr1) (an3 h2 (an tt (an6 tt (an6 tt trivial))))) (by kernel_rfl) ?_
   exact joinDone true hm .refl
  ·
   replace hm := if_f h2 hm
   rcases bt (decide (((p0.tasks.length : Nat) : Int) > 128)) with h3 | h3
   ·
    replace hm := if_t h3 hm
    refine RK hnt (nn 2 (.call 110 [] true (pB r1) [] [] :: nn 4 (pF :: .no :: sk 3 (pT :: .no :: sk 3 (pT :: .no :: sk 14 (pT :: [])))))) [(1, rr 1008), (c52e1 p0), (44, pB true)] [(c52e2 p0)] (an (Check_ref5Spec p0.tree r1 hr1) (an3 h2 (an4 h3 (an3 tt (an6 tt trivial))))) (by kernel_rfl) ?_
    exact joinDone true hm .refl
   ·
    replace hm := if_f h3 hm
    rcases bt (decide (p0.next < 1)) with h4 | h4
    ·
     replace hm := if_t h4 hm
     refine RK hnt (nn 2 (.call 110 [] true (pB r1) [] [] :: nn 4 (pF :: nn 4 (pF :: .no :: sk 3 (pT :: .no :: sk 14 (pT :: [])))))) [(1, rr 1008), (c52e1 p0), (44, pB true)] [(c52e2 p0)] (an (Check_ref5Spec p0.tree r1 hr1) (an3 h2 (an4 h3 (an4 h4 (an5 tt trivial))))) (by kernel_rfl) ?_
     exact joinDone true hm .refl
    ·
     replace hm := if_f h4 hm
     rcases bt (decide (p0.next > 2147483648)) with h5 | h5
     ·
      replace hm := if_t h5 hm
      refine RK hnt (nn 2 (.call 110 [] true (pB r1) [] [] :: nn 4 (pF :: nn 4 (pF :: nn 4 (pF :: .no :: sk 14 (pT :: [])))))) [(1, rr 1008), (c52e1 p0), (44, pB true)] [(c52e2 p0)] (an (Check_ref5Spec p0.tree r1 hr1) (an3 h2 (an4 h3 (an4 h4 (an5 h5 trivial))))) (by kernel_rfl) ?_
      exact joinDone true hm .refl
     ·
      replace hm := if_f h5 hm
      rcases bt (decide (((p0.tasks.length : Nat) : Int) > 0)) with h6 | h6
      ·
       replace hm := if_t h6 hm
       obtain ⟨g7, hm⟩ := guard_open hm
       refine RK hnt (nn 2 (.call 110 [] true (pB r1) [] [] :: nn 4 (pF :: nn 4 (pF :: nn 4 (pF :: nn 14 (pT :: pF :: [])))))) [(1, rr 1008), (c52e1 p0), (44, pB (decide (p0.next ≤ (p0.tasks.getD (Int.toNat (w64 (((p0.tasks.length : Nat) : Int) - 1))) dTask).id)))] [(c52e2 p0)] (an (Check_ref5Spec p0.tree r1 hr1) (an3 h2 (an4 h3 (an4 h4 (an3 h5 (an h6 (an6 h6 (an g7.1 (an g7.2 (an3 h6 (an h5 (an h6 (an h5 trivial))))))))))))) (by kernel_rfl) ?_
       exact joinDone (decide (p0.next ≤ (p0.tasks.getD (Int.toNat (w64 (((p0.tasks.length : Nat) : Int) - 1))) dTask).id)) hm .refl
      ·
       replace hm := if_f h6 hm
       refine RK hnt (nn 2 (.call 110 [] true (pB r1) [] [] :: nn 4 (pF :: nn 4 (pF :: nn 4 (pF :: nn 4 (sk 10 (pF :: pF :: []))))))) [(1, rr 1008), (c52e1 p0), (44, pB false)] [(c52e2 p0)] (an (Check_ref5Spec p0.tree r1 hr1) (an3 h2 (an4 h3 (an4 h4 (an3 h5 (an4 h6 (an6 h6 (an h5 (an h6 (an h5 trivial)))))))))) (by kernel_rfl) ?_
       exact joinDone false hm .refl

theorem Acting_ref7Spec (p0 : Tree) (p1 : Int) (RES : Int) (hm : Acting_ref7 p0 p1 = some RES) : Spec Tryz.prog 189 [.p (.agg (encTree p0)), pI p1] [] (pI RES) [] [] := by
 unfold Acting_ref7 at hm
 refine spec_of Tgood (T := Tt) Tryz.func189 (by decide) (c := _) rfl rfl (sl := [(0, .p (.agg (encTree p0))), (1, pI p1)]) (ob := []) (Nat.le_of_ble_eq_true rfl) (Nat.le_of_ble_eq_true rfl) (by kernel_rfl) (by kernel_rfl) ?_
 intro cx hnt
 refine DW.start ?_
 refine DW.seq (RK hnt (nn 2 []) [(1, pI p1), (2, rr 1016)] [(1016, bx (pm (encTree p0)))] trivial (by kernel_rfl) ?_)
 obtain ⟨r1, hr1, hm⟩ := bind_open hm
 refine DW.seq (RK hnt (nn 2 (.call 135 [] true (.p (.tup [.agg (encNode r1.1), vb r1.2])) [] [] :: nn 6 [])) [(1, pI p1), (2, rr 1016), (5, rr 1040), (6, pB r1.2)] [(1016, bx (pm (encTree p0))), (1040, bx (pm (encNode r1.1)))] (an (Find_ref5Spec p0 p1 r1 hr1) trivial) (by kernel_rfl) ?_)
 refine DW.seq (DW.seq (DW.regJ (sl2 := [(2, rr 1016), (5, rr 1040), (20, pB ((!r1.2) || (p1 == 1)))]) (ob2 := [(1016, bx (pm (encTree p0))), (1040, bx (pm (encNode r1.1)))]) ?_ ?_))
 ·
  rcases bt (!r1.2) with h2 | h2
  ·
   exact RT hnt (nn 3 (sk 2 (pT :: []))) [(20, pB true)] (an3 h2 trivial) (by kernel_rfl) (.cons rfl (.of_eq (by rw [h2]; try rfl)) .nil)
  ·
   exact RT hnt (nn 5 (pF :: [])) [(20, pB (p1 == 1))] (an3 h2 trivial) (by kernel_rfl) (.cons rfl (.of_eq (by rw [h2]; try rfl)) .nil)
 ·
  refine DW.cond ((!r1.2) || (p1 == 1)) rfl rfl ?_ ?_
  ·
   intro h3
   replace hm := if_t h3 hm
   refine DW.seq (RK hnt (.no :: []) [(4, pI 0)] [] trivial (by kernel_rfl) ?_)
   refine DW.ret ?_
   obtain rfl := Option.some.inj hm
   refine retOK (bs' := []) [] (pI 0) (by kernel_rfl) ?_ ?_
   · rfl
   · rfl
  ·
   intro h3
   replace hm := if_f h3 hm
   refine DW.skip ?_
   obtain ⟨r4, hr4, hm⟩ := bind_open hm
   refine DW.seq (RK hnt (nn 3 (.call 135 [] true (.p (.tup [.agg (encNode r4.1), vb r4.2])) [] [] :: nn 6 [])) [(5, rr 1040), (7, rr 1056)] [(1040, bx (pm (encNode r1.1))), (1056, bx (pm (encNode r4.1)))] (an (Find_ref5Spec p0 r1.1.parent r4 hr4) trivial) (by kernel_rfl) ?_)
   refine DW.seq (DW.seq (RK hnt (nn 3 []) [(7, rr 1056), (30, pB (r1.1.kind == 1))] [(1056, bx (pm (encNode r4.1)))] trivial (by kernel_rfl) ?_))
   refine DW.cond (r1.1.kind == 1) rfl rfl ?_ ?_
   ·
    intro h5
    replace hm := if_t h5 hm
    refine DW.seq (RK hnt (nn 4 []) [(4, pI (kandNot .i64 r4.1.control 6))] [] trivial (by kernel_rfl) ?_)
    refine DW.ret ?_
    obtain rfl := Option.some.inj hm
    refine retOK (bs' := []) [] (pI (kandNot .i64 r4.1.control 6)) (by kernel_rfl) ?_ ?_
    · rfl
    · rfl
   ·
    intro h5
    replace hm := if_f h5 hm
    refine DW.skip ?_
    refine DW.seq (RK hnt (nn 3 []) [(4, pI r4.1.control)] [] trivial (by kernel_rfl) ?_)
    refine DW.ret ?_
    obtain rfl := Option.some.inj hm
    refine retOK (bs' := []) [] (pI r4.1.control) (by kernel_rfl) ?_ ?_
    · rfl
    · rfl

abbrev c174e1 (r1 : Node × Bool) : Nat × Obj := (1040, bx (pm (encNode r1.1)))
theorem Available_ref7Spec (p0 : Tree) (p1 : Int) (RES : Int) (hm : Available_ref7 p0 p1 = some RES) : Spec Tryz.prog 174 [.p (.agg (encTree p0)), pI p1] [] (pI RES) [] [] := by
 unfold Available_ref7 at hm
 refine spec_of Tgood (T := Tt) Tryz.func174 (by decide) (c := _) rfl rfl (sl := [(0, .p (.agg (encTree p0))), (1, pI p1)]) (ob := []) (Nat.le_of_ble_eq_true rfl) (Nat.le_of_ble_eq_true rfl) (by kernel_rfl) (by kernel_rfl) ?_
 intro cx hnt
 refine DW.start ?_
 refine DW.seq (RK hnt (nn 2 []) [(1, pI p1), (2, rr 1016)] [(1016, bx (pm (encTree p0)))] trivial (by kernel_rfl) ?_)
 obtain ⟨r1, hr1, hm⟩ := bind_open hm
 refine DW.seq (RK hnt (nn 2 (.call 135 [] true (.p (.tup [.agg (encNode r1.1), vb r1.2])) [] [] :: nn 6 [])) [(1, pI p1), (2, rr 1016), (5, rr 1040), (6, pB r1.2)] [(1016, bx (pm (encTree p0))), (c174e1 r1)] (an (Find_ref5Spec p0 p1 r1 hr1) trivial) (by kernel_rfl) ?_)
 refine DW.seq (DW.seq (RK hnt (nn 2 []) [(1, pI p1), (2, rr 1016), (5, rr 1040), (15, pB (!r1.2))] [(1016, bx (pm (encTree p0))), (c174e1 r1)] trivial (by kernel_rfl) ?_))
 refine DW.cond (!r1.2) rfl rfl ?_ ?_
 ·
  intro h2
  replace hm := if_t h2 hm
  refine DW.seq (RK hnt (.no :: []) [(4, pI 0)] [] trivial (by kernel_rfl) ?_)
  refine DW.ret ?_
  obtain rfl := Option.some.inj hm
  refine retOK (bs' := []) [] (pI 0) (by kernel_rfl) ?_ ?_
  · rfl
  · rfl
 ·
  intro h2
  replace hm := if_f h2 hm
  refine DW.skip ?_
  refine DW.seq (RK hnt (.no :: []) [(1, pI p1), (2, rr 1016), (5, rr 1040), (7, pI 31)] [(1016, bx (pm (encTree p0))), (c174e1 r1)] trivial (by kernel_rfl) ?_)
  refine DW.seq (DW.seq (RK hnt (nn 2 []) [(1, pI p1), (2, rr 1016), (5, rr 1040), (7, pI 31), (17, pB (p1 != 1))] [(1016, bx (pm (encTree p0))), (c174e1 r1)] trivial (by kernel_rfl) ?_))
  refine DW.join (ι := Int) (fun (y1 : Int) => mkSt [(5, rr 1040), (7, pI y1)] [(c174e1 r1)]) (fun y1 => (Available_ref7J1 r1) y1 = some RES) ?_ ?_
  ·
   intro y1 hm
   unfold Available_ref7J1 at hm
   refine DW.seq (DW.seq (RK hnt (nn 3 []) [(7, pI y1), (23, pB (r1.1.kind == 1))] [] trivial (by kernel_rfl) ?_))
   refine DW.join (ι := Int) (fun (y2 : Int) => mkSt [(7, pI y2)] []) (fun y2 => Available_ref7J2 y2 = some RES) ?_ ?_
   ·
    intro y2 hm
    unfold Available_ref7J2 at hm
    refine DW.seq (RK hnt (nn 2 []) [(4, pI y2)] [] trivial (by kernel_rfl) ?_)
    refine DW.ret ?_
    obtain rfl := Option.some.inj hm
    refine retOK (bs' := []) [] (pI y2) (by kernel_rfl) ?_ ?_
    · rfl
    · rfl
   ·
    refine DW.cond (r1.1.kind == 1) rfl rfl ?_ ?_
    ·
     intro h5
     replace hm := if_t h5 hm
     refine RK hnt (nn 3 []) [(7, pI (kandNot .i64 y1 6))] [] trivial (by kernel_rfl) ?_
     exact joinDone (kandNot .i64 y1 6) hm .refl
    ·
     intro h5
     replace hm := if_f h5 hm
     refine DW.skip ?_
     exact joinDone y1 hm (Conv.tp [] [] (by kernel_rfl) .nil .nil)
  ·
   refine DW.cond (p1 != 1) rfl rfl ?_ ?_
   ·
    intro h3
    replace hm := if_t h3 hm
    obtain ⟨r4, hr4, hm⟩ := bind_open hm
    refine RK hnt (nn 2 (.call 189 [] true (pI r4) [] [] :: .no :: [])) [(5, rr 1040), (7, pI r4)] [(c174e1 r1)] (an (Acting_ref7Spec p0 p1 r4 hr4) trivial) (by kernel_rfl) ?_
    exact joinDone r4 hm .refl
   ·
    intro h3
    replace hm := if_f h3 hm
    refine DW.skip ?_
    exact joinDone 31 hm (Conv.tp [] [] (by kernel_rfl) .nil .nil)

abbrev c26e1 (p0 : Hierarchy) : Nat × Obj := (1016, bx (pm (encHierarchy p0)))
abbrev c26e2 (p0 : Hierarchy) (k1 : Nat) := (p0.tasks.getD k1 (default : Task))
theorem Tasks_ref6Spec (p0 : Hierarchy) (p1 : Int) (RES : List Int) (hm : Tasks_ref6 p0 p1 = some RES) : Spec Tryz.prog 26 [.p (.agg (encHierarchy p0)), pI p1] [] (ow 0 RES.length) [] [roI RES] := by
 unfold Tasks_ref6 at hm
 refine spec_of Tgood (T := Tt) Tryz.func26 (by decide) (c := _) rfl rfl (sl := [(0, .p (.agg (encHierarchy p0))), (1, pI p1)]) (ob := []) (Nat.le_of_ble_eq_true rfl) (Nat.le_of_ble_eq_true rfl) (by kernel_rfl) (by kernel_rfl) ?_
 intro cx hnt
 refine DW.start ?_
 refine DW.seq (RK hnt (nn 2 []) [(1, pI p1), (2, rr 1016)] [(c26e1 p0)] trivial (by kernel_rfl) ?_)
 obtain ⟨r1, hr1, hm⟩ := bind_open hm
 refine DW.seq (DW.seq (RK hnt (.no :: .call 52 [] true (pB r1) [] [] :: .no :: []) [(1, pI p1), (2, rr 1016), (9, pB (!r1))] [(c26e1 p0)] (an (Check_ref6Spec p0 r1 hr1) trivial) (by kernel_rfl) ?_))
 refine DW.cond (!r1) rfl rfl ?_ ?_
 ·
  intro h2
  replace hm := if_t h2 hm
  refine DW.seq (RK hnt (.no :: []) [(4, .p (.sl .nil 0 0 (fun _ => [])))] [] trivial (by kernel_rfl) ?_)
  refine DW.conv (τ := mkSt [(4, ow 100000 0)] [(100000, ob0 (roI []))]) (Conv.trans (τ := mkSt [(4, ow 100000 0)] ((100000, ⟨0, .row 1 0 (elems encI 0 [])⟩) :: [])) (Conv.adopt 100000 1 (elems encI 0 []) rfl rfl (.cons (.one (.nil _ _)) (.rfl _)) (.rfl _)) (Conv.trans (τ := mkSt [(4, ow 100000 0)] [(100000, ob0 (roI []))]) (Conv.tp [] [] (by kernel_rfl) .nil .nil) .refl)) ?_
  refine DW.ret ?_
  obtain rfl := Option.some.inj hm
  refine retOK (bs' := [roI []]) [100000] (ow 0 0) (by kernel_rfl) ?_ ?_
  · rfl
  · rfl
 ·
  intro h2
  replace hm := if_f h2 hm
  refine DW.skip ?_
  refine DW.seq (RK hnt (.no :: []) [(1, pI p1), (2, rr 1016), (5, .p (.sl .nil 0 0 (fun _ => [])))] [(c26e1 p0)] trivial (by kernel_rfl) ?_)
  refine DW.seq (DW.seq (RK hnt (.no :: []) [(1, pI p1), (2, rr 1016), (5, .p (.sl .nil 0 0 (fun _ => []))), (6, pI 0)] [(c26e1 p0)] trivial (by kernel_rfl) ?_))
  refine DW.block ?_
  obtain ⟨hc1, hm⟩ := guard_open hm
  refine DW.rangeO (fun (k1 : Nat) (s1 : List Int) => mkSt [(1, pI p1), (2, rr 1016), (5, ow 1264 s1.length), (6, pI ((k1 : Nat) : Int))] [(c26e1 p0), (1264, ob0 (roI s1))]) dTask hm (Conv.trans (τ := mkSt [(1, pI p1), (2, rr 1016), (5, ow 1264 0), (6, pI 0)] ((1264, ⟨0, .row 1 0 (elems encI 0 [])⟩) :: [(c26e1 p0)])) (Conv.adopt 1264 1 (elems encI 0 []) rfl rfl (.cons (.one (.rfl _)) (.cons (.one (.rfl _)) (.cons (.one (.nil _ _)) (.cons (.one (.rfl _)) (.rfl _))))) (.rfl _)) (Conv.trans (τ := mkSt [(1, pI p1), (2, rr 1016), (5, ow 1264 0), (6, pI 0)] [(c26e1 p0), (1264, ob0 (roI []))]) (Conv.tp [] [] (by kernel_rfl) .nil .nil) .refl)) ?_
  intro k1 s1 n1 hk1 hs1 he1
  refine DW.seq (DW.seq (RK hnt (nn 5 []) [(1, pI p1), (2, rr 1016), (5, ow 1264 s1.length), (6, pI ((k1 : Nat) : Int)), (14, pB (decide (((k1 : Nat) : Int) < ((p0.tasks.length : Nat) : Int))))] [(c26e1 p0), (1264, ob0 (roI s1))] trivial (by kernel_rfl) ?_))
  refine DW.cond (decide (((k1 : Nat) : Int) < ((p0.tasks.length : Nat) : Int))) rfl rfl ?_ ?_
  ·
   intro h12
   have hlt1 : k1 < p0.tasks.length := by have := of_decide_eq_true h12; omega
   have hm := hs1 hlt1
   unfold Tasks_ref6L1 at hm
   refine DW.skip ?_
   refine DW.seq ?_
   refine DW.join (ι := List Int) (fun (y3 : List Int) => mkSt [(1, pI p1), (2, rr 1016), (5, ow 1264 y3.length), (6, pI ((k1 : Nat) : Int))] [(c26e1 p0), (1264, ob0 (roI y3))]) (fun y3 => (Tasks_ref6J3 n1) y3 = some RES) ?_ ?_
   ·
    intro y3 hm
    unfold Tasks_ref6J3 at hm
    refine RK hnt (nn 3 []) [(1, pI p1), (2, rr 1016), (5, ow 1264 y3.length), (6, pI (w64 (((k1 : Nat) : Int) + 1)))] [(c26e1 p0), (1264, ob0 (roI y3))] trivial (by kernel_rfl) ?_
    exact joinDone y3 ⟨hlt1, hm⟩ (Conv.tp [(6, pI (w64 (((k1 : Nat) : Int) + 1)))] [] (by kernel_rfl) (.cons rfl (.of_eq (congrArg pI (w64_succ hlt1 hc1))) .nil) .nil)
   ·
    refine DW.block ?_
    refine DW.seq (RK hnt (nn 8 []) [(1, pI p1), (2, rr 1016), (5, ow 1264 s1.length), (6, pI ((k1 : Nat) : Int)), (24, pB ((c26e2 p0 k1).group == p1))] [(c26e1 p0), (1264, ob0 (roI s1))] (an (nn0 k1) (an (ltc hlt1) trivial)) (by kernel_rfl) ?_)
    refine DW.cond ((c26e2 p0 k1).group == p1) rfl rfl ?_ ?_
    ·
     intro h13
     replace hm := if_t h13 hm
     obtain ⟨g14, hm⟩ := guard_open hm
     refine RN hnt (nn 10 []) [(1, pI p1), (2, rr 1016), (5, ow 1264 (s1 ++ [(c26e2 p0 k1).id]).length), (6, pI ((k1 : Nat) : Int))] [(c26e1 p0), (1264, ob0 (roI (s1 ++ [(c26e2 p0 k1).id])))] [(5, ow 1264 (s1.length + 1))] [(1264, .row 1 (s1.length + 1) (catF s1.length (elI s1) (cut 1 [vi (c26e2 p0 k1).id])))] (an (nn0 k1) (an (ltc hlt1) (an (by omega : (s1.length + 1) * 8 ≤ 140737488355328) trivial))) (by kernel_rfl) (.cons rfl (MLe.ownLen (enc := encI) (d := 0) (f := (catF s1.length (elI s1) (cut 1 [vi (c26e2 p0 k1).id]))) (RowIs.cat RowIs.elems (RowIs.lit (enc := encI) (d := 0) (n := 1) (f := (cut 1 [vi (c26e2 p0 k1).id])) [(c26e2 p0 k1).id] rfl (fun | 0, _ => rfl | n + 1, h => absurd h (by omega))))) .nil) (.cons rfl (BLe.typed (RowIs.cat RowIs.elems (RowIs.lit (enc := encI) (d := 0) (n := 1) (f := (cut 1 [vi (c26e2 p0 k1).id])) [(c26e2 p0 k1).id] rfl (fun | 0, _ => rfl | n + 1, h => absurd h (by omega))))) .nil) ?_
     exact blockDone (s1 ++ [(c26e2 p0 k1).id]) hm .refl
    ·
     intro h13
     replace hm := if_f h13 hm
     refine DW.skip ?_
     exact blockDone s1 hm (Conv.tp [] [] (by kernel_rfl) .nil .nil)
  ·
   intro h12
   have hge1 : ¬ k1 < p0.tasks.length := by have := of_decide_eq_false h12; omega
   have hm := he1 hge1
   unfold Tasks_ref6D1 at hm
   refine DW.exit ?_
   refine joinQ_exit ?_
   refine KQ_exit ?_
   refine blockQ_exit ?_
   show DW _ _ _ _ _
   refine DW.seq (RK hnt (nn 2 []) [(4, ow 1264 s1.length)] [(1264, ob0 (roI s1))] trivial (by kernel_rfl) ?_)
   refine DW.ret ?_
   obtain rfl := Option.some.inj hm
   refine retOK (bs' := [roI s1]) [1264] (ow 0 s1.length) (by kernel_rfl) ?_ ?_
   · rfl
   · rfl

abbrev c162e1 (p0 : Hierarchy) : Nat × Obj := (1008, bx (pm (encHierarchy p0)))
abbrev c162e2 (p0 : Hierarchy) (k1 : Nat) := (p0.tree.nodes.getD k1 (default : Node))
abbrev c162e3 (k1 : Nat) : Nat × MV := (3, pI ((k1 : Nat) : Int))
theorem Sound_ref7Spec (p0 : Hierarchy) (RES : Bool) (hm : Sound_ref7 p0 = some RES) : Spec Tryz.prog 162 [.p (.agg (encHierarchy p0))] [] (pB RES) [] [] := by
 unfold Sound_ref7 at hm
 refine spec_of Tgood (T := Tt) Tryz.func162 (by decide) (c := _) rfl rfl (sl := [(0, .p (.agg (encHierarchy p0)))]) (ob := []) (Nat.le_of_ble_eq_true rfl) (Nat.le_of_ble_eq_true rfl) (by kernel_rfl) (by kernel_rfl) ?_
 intro cx hnt
 refine DW.start ?_
 refine DW.seq (RK hnt (nn 2 []) [(1, rr 1008)] [(c162e1 p0)] trivial (by kernel_rfl) ?_)
 obtain ⟨r1, hr1, hm⟩ := bind_open hm
 refine DW.seq (DW.seq (RK hnt (.no :: .call 52 [] true (pB r1) [] [] :: .no :: []) [(1, rr 1008), (7, pB (!r1))] [(c162e1 p0)] (an (Check_ref6Spec p0 r1 hr1) trivial) (by kernel_rfl) ?_))
 refine DW.cond (!r1) rfl rfl ?_ ?_
 ·
  intro h2
  replace hm := if_t h2 hm
  refine DW.seq (RK hnt (.no :: []) [(2, pB false)] [] trivial (by kernel_rfl) ?_)
  refine DW.ret ?_
  obtain rfl := Option.some.inj hm
  refine retOK (bs' := []) [] (pB false) (by kernel_rfl) ?_ ?_
  · rfl
  · rfl
 ·
  intro h2
  replace hm := if_f h2 hm
  refine DW.skip ?_
  refine DW.seq (DW.seq (RK hnt (.no :: []) [(1, rr 1008), (3, pI 0)] [(c162e1 p0)] trivial (by kernel_rfl) ?_))
  refine DW.block ?_
  obtain ⟨hc1, hm⟩ := guard_open hm
  refine DW.rangeO (fun (k1 : Nat) (s1 : Unit) => mkSt [(1, rr 1008), (c162e3 k1)] [(c162e1 p0)]) dNode hm .refl ?_
  intro k1 s1 n1 hk1 hs1 he1
  refine DW.seq (DW.seq (RK hnt (nn 6 []) [(1, rr 1008), (c162e3 k1), (13, pB (decide (((k1 : Nat) : Int) < ((p0.tree.nodes.length : Nat) : Int))))] [(c162e1 p0)] trivial (by kernel_rfl) ?_))
  refine DW.cond (decide (((k1 : Nat) : Int) < ((p0.tree.nodes.length : Nat) : Int))) rfl rfl ?_ ?_
  ·
   intro h19
   have hlt1 : k1 < p0.tree.nodes.length := by have := of_decide_eq_true h19; omega
   have hm := hs1 hlt1
   unfold Sound_ref7L1 at hm
   refine DW.skip ?_
   refine DW.seq (DW.block ?_)
   refine DW.seq (RK hnt (nn 8 []) [(1, rr 1008), (c162e3 k1), (4, rr 1032)] [(c162e1 p0), (1032, bx (pm (encNode (c162e2 p0 k1))))] (an (nn0 k1) (an (ltc hlt1) trivial)) (by kernel_rfl) ?_)
   obtain ⟨r20, hr20, hm⟩ := bind_open hm
   refine DW.seq ?_
   refine DW.join (ι := Bool) (fun (y3 : Bool) => mkSt [(1, rr 1008), (c162e3 k1), (49, pB y3)] [(c162e1 p0)]) (fun y3 => (Sound_ref7J3 n1) y3 = some RES) ?_ ?_
   ·
    intro y3 hm
    unfold Sound_ref7J3 at hm
    refine DW.cond y3 rfl rfl ?_ ?_
    ·
     intro h25
     replace hm := if_t h25 hm
     refine DW.seq (RK hnt (.no :: []) [(2, pB false)] [] trivial (by kernel_rfl) ?_)
     refine DW.ret ?_
     obtain rfl := Option.some.inj hm
     refine retOK (bs' := []) [] (pB false) (by kernel_rfl) ?_ ?_
     · rfl
     · rfl
    ·
     intro h25
     replace hm := if_f h25 hm
     refine DW.skip ?_
     refine DW.done ?_
     show DW _ _ _ _ _
     refine RK hnt (nn 3 []) [(1, rr 1008), (3, pI (w64 (((k1 : Nat) : Int) + 1)))] [(c162e1 p0)] trivial (by kernel_rfl) ?_
     exact joinDone () ⟨hlt1, hm⟩ (Conv.tp [(3, pI (w64 (((k1 : Nat) : Int) + 1)))] [] (by kernel_rfl) (.cons rfl (.of_eq (congrArg pI (w64_succ hlt1 hc1))) .nil) .nil)
   ·
    rcases bt ((kandNot .i64 (c162e2 p0 k1).control r20) != 0) with h21 | h21
    ·
     replace hm := if_t h21 hm
     refine RK hnt (nn 6 (.call 174 [] true (pI r20) [] [] :: nn 3 (sk 17 (pT :: [])))) [(1, rr 1008), (c162e3 k1), (49, pB true)] [(c162e1 p0)] (an (Available_ref7Spec p0.tree (c162e2 p0 k1).id r20 hr20) (an2 h21 (an6 h21 trivial))) (by kernel_rfl) ?_
     exact joinDone true hm .refl
    ·
     replace hm := if_f h21 hm
     rcases bt ((c162e2 p0 k1).id != 1) with h22 | h22
     ·
      replace hm := if_t h22 hm
      rcases bt ((kand .i64 (c162e2 p0 k1).control 6) != 0) with h23 | h23
      ·
       replace hm := if_t h23 hm
       obtain ⟨r24, hr24, hm⟩ := bind_open hm
       refine RK hnt (nn 6 (.call 174 [] true (pI r20) [] [] :: nn 11 (pT :: nn 4 (.call 26 [] true (ow 0 r24.length) [] [roI r24] :: nn 2 (pT :: pF :: []))))) [(1, rr 1008), (c162e3 k1), (49, pB (decide (((r24.length : Nat) : Int) > 0)))] [(c162e1 p0)] (an (Available_ref7Spec p0.tree (c162e2 p0 k1).id r20 hr20) (an4 h21 (an4 h22 (an h21 (an h22 (an h21 (an4 h23 (an (Tasks_ref6Spec p0 (c162e2 p0 k1).id r24 hr24) (an2 h23 (an h21 (an h23 (an h21 trivial)))))))))))) (by kernel_rfl) ?_
       exact joinDone (decide (((r24.length : Nat) : Int) > 0)) hm .refl
      ·
       replace hm := if_f h23 hm
       refine RK hnt (nn 6 (.call 174 [] true (pI r20) [] [] :: nn 11 (pT :: .no :: sk 6 (pF :: pF :: [])))) [(1, rr 1008), (c162e3 k1), (49, pB false)] [(c162e1 p0)] (an (Available_ref7Spec p0.tree (c162e2 p0 k1).id r20 hr20) (an4 h21 (an4 h22 (an h21 (an h22 (an h21 (an6 h23 (an h21 (an h23 (an h21 trivial)))))))))) (by kernel_rfl) ?_
       exact joinDone false hm .refl
     ·
      replace hm := if_f h22 hm
      refine RK hnt (nn 6 (.call 174 [] true (pI r20) [] [] :: nn 7 (sk 4 (pF :: .no :: sk 6 (pF :: pF :: []))))) [(1, rr 1008), (c162e3 k1), (49, pB false)] [(c162e1 p0)] (an (Available_ref7Spec p0.tree (c162e2 p0 k1).id r20 hr20) (an4 h21 (an4 h22 (an h21 (an h22 (an h21 (an6 ff (an h21 (an ff (an h21 trivial)))))))))) (by kernel_rfl) ?_
      exact joinDone false hm .refl
  ·
   intro h19
   have hge1 : ¬ k1 < p0.tree.nodes.length := by have := of_decide_eq_false h19; omega
   have hm := he1 hge1
   unfold Sound_ref7D1 at hm
   refine DW.exit ?_
   refine joinQ_exit ?_
   refine KQ_exit ?_
   refine blockQ_exit ?_
   show DW _ _ _ _ _
   refine DW.seq (RK hnt (.no :: []) [(2, pB true)] [] trivial (by kernel_rfl) ?_)
   refine DW.ret ?_
   obtain rfl := Option.some.inj hm
   refine retOK (bs' := []) [] (pB true) (by kernel_rfl) ?_ ?_
   · rfl
   · rfl

abbrev c53e1 : Nat × Obj := (1032, bx [pI 0, pI 0, pI 0, pI 0])
abbrev c53e2 (p0 : Hierarchy) : Nat × Obj := (1016, bx (pm (encHierarchy p0)))
theorem Find_ref6Spec (p0 : Hierarchy) (p1 : Int) (RES : Task × Bool) (hm : Find_ref6 p0 p1 = some RES) : Spec Tryz.prog 53 [.p (.agg (encHierarchy p0)), pI p1] [] (.p (.tup [.agg (encTask RES.1), vb RES.2])) [] [] := by
 unfold Find_ref6 at hm
 refine spec_of Tgood (T := Tt) Tryz.func53 (by decide) (c := _) rfl rfl (sl := [(0, .p (.agg (encHierarchy p0))), (1, pI p1)]) (ob := []) (Nat.le_of_ble_eq_true rfl) (Nat.le_of_ble_eq_true rfl) (by kernel_rfl) (by kernel_rfl) ?_
 intro cx hnt
 refine DW.start ?_
 refine DW.seq (RK hnt (nn 3 []) [(1, pI p1), (2, rr 1016), (4, rr 1032)] [(c53e2 p0), (c53e1)] trivial (by kernel_rfl) ?_)
 obtain ⟨r1, hr1, hm⟩ := bind_open hm
 refine DW.seq (DW.seq (RK hnt (.no :: .call 52 [] true (pB r1) [] [] :: .no :: []) [(1, pI p1), (2, rr 1016), (4, rr 1032), (9, pB (!r1))] [(c53e2 p0), (c53e1)] (an (Check_ref6Spec p0 r1 hr1) trivial) (by kernel_rfl) ?_))
 refine DW.cond (!r1) rfl rfl ?_ ?_
 ·
  intro h2
  replace hm := if_t h2 hm
  refine DW.seq (RK hnt (nn 3 []) [(4, rr 1032), (5, pB false)] [(c53e1)] trivial (by kernel_rfl) ?_)
  refine DW.ret ?_
  obtain rfl := Option.some.inj hm
  refine retOK (bs' := []) [] (.p (.tup [.agg [vi 0, vi 0, vi 0, vi 0], vb false])) (by kernel_rfl) ?_ ?_
  · rfl
  · rfl
 ·
  intro h2
  replace hm := if_f h2 hm
  refine DW.skip ?_
  refine DW.seq (DW.seq (RK hnt (.no :: []) [(1, pI p1), (2, rr 1016), (4, rr 1032), (6, pI 0)] [(c53e2 p0), (c53e1)] trivial (by kernel_rfl) ?_))
  refine DW.block ?_
  obtain ⟨hc1, hm⟩ := guard_open hm
  refine DW.rangeO (fun (k1 : Nat) (s1 : Unit) => mkSt [(1, pI p1), (2, rr 1016), (4, rr 1032), (6, pI ((k1 : Nat) : Int))] [(c53e2 p0), (c53e1)]) dTask hm .refl ?_
  intro k1 s1 n1 hk1 hs1 he1
  refine DW.seq (DW.seq (RK hnt (nn 5 []) [(1, pI p1), (2, rr 1016), (4, rr 1032), (6, pI ((k1 : Nat) : Int)), (15, pB (decide (((k1 : Nat) : Int) < ((p0.tasks.length : Nat) : Int))))] [(c53e2 p0), (c53e1)] trivial (by kernel_rfl) ?_))
  refine DW.cond (decide (((k1 : Nat) : Int) < ((p0.tasks.length : Nat) : Int))) rfl rfl ?_ ?_
  ·
   intro h11
   have hlt1 : k1 < p0.tasks.length := by have := of_decide_eq_true h11; omega
   have hm := hs1 hlt1
   unfold Find_ref6L1 at hm
   refine DW.skip ?_
   refine DW.seq (DW.block ?_)
   refine DW.seq (RK hnt (nn 8 []) [(1, pI p1), (2, rr 1016), (4, rr 1032), (6, pI ((k1 : Nat) : Int)), (25, pB ((p0.tasks.getD k1 (default : Task)).id == p1))] [(c53e2 p0), (c53e1)] (an (nn0 k1) (an (ltc hlt1) trivial)) (by kernel_rfl) ?_)
   refine DW.cond ((p0.tasks.getD k1 (default : Task)).id == p1) rfl rfl ?_ ?_
   ·
    intro h12
    replace hm := if_t h12 hm
    refine DW.seq (RK hnt (nn 7 []) [(4, rr 1032), (5, pB true)] [(1032, bx (pm (encTask (p0.tasks.getD k1 (default : Task)))))] (an (nn0 k1) (an (ltc hlt1) trivial)) (by kernel_rfl) ?_)
    refine DW.ret ?_
    obtain rfl := Option.some.inj hm
    refine retOK (bs' := []) [] (.p (.tup [.agg (encTask (p0.tasks.getD k1 (default : Task))), vb true])) (by kernel_rfl) ?_ ?_
    · rfl
    · rfl
   ·
    intro h12
    replace hm := if_f h12 hm
    refine DW.skip ?_
    refine DW.done ?_
    show DW _ _ _ _ _
    refine RK hnt (nn 3 []) [(1, pI p1), (2, rr 1016), (4, rr 1032), (6, pI (w64 (((k1 : Nat) : Int) + 1)))] [(c53e2 p0), (c53e1)] trivial (by kernel_rfl) ?_
    exact joinDone () ⟨hlt1, hm⟩ (Conv.tp [(6, pI (w64 (((k1 : Nat) : Int) + 1)))] [] (by kernel_rfl) (.cons rfl (.of_eq (congrArg pI (w64_succ hlt1 hc1))) .nil) .nil)
  ·
   intro h11
   have hge1 : ¬ k1 < p0.tasks.length := by have := of_decide_eq_false h11; omega
   have hm := he1 hge1
   unfold Find_ref6D1 at hm
   refine DW.exit ?_
   refine joinQ_exit ?_
   refine KQ_exit ?_
   refine blockQ_exit ?_
   show DW _ _ _ _ _
   refine DW.seq (RK hnt (nn 3 []) [(4, rr 1032), (5, pB false)] [(c53e1)] trivial (by kernel_rfl) ?_)
   refine DW.ret ?_
   obtain rfl := Option.some.inj hm
   refine retOK (bs' := []) [] (.p (.tup [.agg [vi 0, vi 0, vi 0, vi 0], vb false])) (by kernel_rfl) ?_ ?_
   · rfl
   · rfl

theorem Ancestors_ref5Spec (p0 : Tree) (p1 : Int) (RES : List Int) (hm : Ancestors_ref5 p0 p1 = some RES) : Spec Tryz.prog 21 [.p (.agg (encTree p0)), pI p1] [] (ow 0 RES.length) [] [roI RES] := by
 unfold Ancestors_ref5 at hm
 refine spec_of Tgood (T := Tt) Tryz.func21 (by decide) (c := _) rfl rfl (sl := [(0, .p (.agg (encTree p0))), (1, pI p1)]) (ob := []) (Nat.le_of_ble_eq_true rfl) (Nat.le_of_ble_eq_true rfl) (by kernel_rfl) (by kernel_rfl) ?_
 intro cx hnt
 refine DW.start ?_
 refine DW.seq (RK hnt (nn 2 []) [(1, pI p1), (2, rr 1016)] [(1016, bx (pm (encTree p0)))] trivial (by kernel_rfl) ?_)
 obtain ⟨r1, hr1, hm⟩ := bind_open hm
 refine DW.seq (DW.seq (RK hnt (nn 2 (.call 88 [] true (pB r1) [] [] :: .no :: [])) [(1, pI p1), (2, rr 1016), (8, pB (!r1))] [(1016, bx (pm (encTree p0)))] (an (Has_ref5Spec p0 p1 r1 hr1) trivial) (by kernel_rfl) ?_))
 refine DW.cond (!r1) rfl rfl ?_ ?_
 ·
  intro h2
  replace hm := if_t h2 hm
  refine DW.seq (RK hnt (.no :: []) [(4, .p (.sl .nil 0 0 (fun _ => [])))] [] trivial (by kernel_rfl) ?_)
  refine DW.conv (τ := mkSt [(4, ow 100000 0)] [(100000, ob0 (roI []))]) (Conv.trans (τ := mkSt [(4, ow 100000 0)] ((100000, ⟨0, .row 1 0 (elems encI 0 [])⟩) :: [])) (Conv.adopt 100000 1 (elems encI 0 []) rfl rfl (.cons (.one (.nil _ _)) (.rfl _)) (.rfl _)) (Conv.trans (τ := mkSt [(4, ow 100000 0)] [(100000, ob0 (roI []))]) (Conv.tp [] [] (by kernel_rfl) .nil .nil) .refl)) ?_
  refine DW.ret ?_
  obtain rfl := Option.some.inj hm
  refine retOK (bs' := [roI []]) [100000] (ow 0 0) (by kernel_rfl) ?_ ?_
  · rfl
  · rfl
 ·
  intro h2
  replace hm := if_f h2 hm
  refine DW.skip ?_
  obtain ⟨r3, hr3, hm⟩ := bind_open hm
  refine DW.seq (RK hnt (nn 2 (.call 89 [] true (ow 0 r3.length) [] [roI r3] :: .no :: [])) [(4, ow 1088 r3.length)] [(1088, ob0 (roI r3))] (an (up_ref5Spec p0 p1 r3 hr3) trivial) (by kernel_rfl) ?_)
  refine DW.ret ?_
  obtain rfl := Option.some.inj hm
  refine retOK (bs' := [roI r3]) [1088] (ow 0 r3.length) (by kernel_rfl) ?_ ?_
  · rfl
  · rfl

abbrev c137e1 (p0 : Tree) : Nat × Obj := (1016, bx (pm (encTree p0)))
theorem Domain_ref8Spec (p0 : Tree) (p1 : Int) (RES : Int × Bool) (hm : Domain_ref8 p0 p1 = some RES) : Spec Tryz.prog 137 [.p (.agg (encTree p0)), pI p1] [] (.p (.tup [vi RES.1, vb RES.2])) [] [] := by
 unfold Domain_ref8 at hm
 refine spec_of Tgood (T := Tt) Tryz.func137 (by decide) (c := _) rfl rfl (sl := [(0, .p (.agg (encTree p0))), (1, pI p1)]) (ob := []) (Nat.le_of_ble_eq_true rfl) (Nat.le_of_ble_eq_true rfl) (by kernel_rfl) (by kernel_rfl) ?_
 intro cx hnt
 refine DW.start ?_
 refine DW.seq (RK hnt (nn 3 []) [(1, pI p1), (2, rr 1016)] [(c137e1 p0)] trivial (by kernel_rfl) ?_)
 obtain ⟨r1, hr1, hm⟩ := bind_open hm
 refine DW.seq (RK hnt (nn 2 (.call 21 [] true (ow 0 r1.length) [] [roI r1] :: .no :: [])) [(2, rr 1016), (6, ow 1096 r1.length)] [(c137e1 p0), (1096, ob0 (roI r1))] (an (Ancestors_ref5Spec p0 p1 r1 hr1) trivial) (by kernel_rfl) ?_)
 refine DW.seq (DW.seq (RK hnt (.no :: []) [(2, rr 1016), (6, ow 1096 r1.length), (7, pI 0)] [(c137e1 p0), (1096, ob0 (roI r1))] trivial (by kernel_rfl) ?_))
 refine DW.block ?_
 obtain ⟨hc1, hm⟩ := guard_open hm
 refine DW.rangeO (fun (k1 : Nat) (s1 : Unit) => mkSt [(2, rr 1016), (6, ow 1096 r1.length), (7, pI ((k1 : Nat) : Int))] [(c137e1 p0), (1096, ob0 (roI r1))]) 0 hm .refl ?_
 intro k1 s1 n1 hk1 hs1 he1
 refine DW.seq (DW.seq (RK hnt (nn 4 []) [(2, rr 1016), (6, ow 1096 r1.length), (7, pI ((k1 : Nat) : Int)), (16, pB (decide (((k1 : Nat) : Int) < ((r1.length : Nat) : Int))))] [(c137e1 p0), (1096, ob0 (roI r1))] trivial (by kernel_rfl) ?_))
 refine DW.cond (decide (((k1 : Nat) : Int) < ((r1.length : Nat) : Int))) rfl rfl ?_ ?_
 ·
  intro h16
  have hlt1 : k1 < r1.length := by have := of_decide_eq_true h16; omega
  have hm := hs1 hlt1
  unfold Domain_ref8L1 at hm
  refine DW.skip ?_
  refine DW.seq (DW.block ?_)
  obtain ⟨r17, hr17, hm⟩ := bind_open hm
  refine DW.seq (RK hnt (nn 5 (.call 135 [] true (.p (.tup [.agg (encNode r17.1), vb r17.2])) [] [] :: nn 6 [])) [(2, rr 1016), (6, ow 1096 r1.length), (7, pI ((k1 : Nat) : Int)), (8, rr 1064)] [(c137e1 p0), (1064, bx (pm (encNode r17.1))), (1096, ob0 (roI r1))] (an (nn0 k1) (an (ltc hlt1) (an (by omega : k1 < r1.length) (an (Find_ref5Spec p0 (r1.getD k1 0) r17 hr17) trivial)))) (by kernel_rfl) ?_)
  refine DW.seq (RK hnt (nn 3 []) [(2, rr 1016), (6, ow 1096 r1.length), (7, pI ((k1 : Nat) : Int)), (30, pB (r17.1.kind != 1))] [(c137e1 p0), (1096, ob0 (roI r1))] trivial (by kernel_rfl) ?_)
  refine DW.cond (r17.1.kind != 1) rfl rfl ?_ ?_
  ·
   intro h18
   replace hm := if_t h18 hm
   refine DW.seq (RK hnt (nn 6 []) [(4, pI (r1.getD k1 0)), (5, pB true)] [] (an (nn0 k1) (an (ltc hlt1) (an (by omega : k1 < r1.length) trivial))) (by kernel_rfl) ?_)
   refine DW.ret ?_
   obtain rfl := Option.some.inj hm
   refine retOK (bs' := []) [] (.p (.tup [vi (r1.getD k1 0), vb true])) (by kernel_rfl) ?_ ?_
   · rfl
   · rfl
  ·
   intro h18
   replace hm := if_f h18 hm
   refine DW.skip ?_
   refine DW.done ?_
   show DW _ _ _ _ _
   refine RK hnt (nn 3 []) [(2, rr 1016), (6, ow 1096 r1.length), (7, pI (w64 (((k1 : Nat) : Int) + 1)))] [(c137e1 p0), (1096, ob0 (roI r1))] trivial (by kernel_rfl) ?_
   exact joinDone () ⟨hlt1, hm⟩ (Conv.tp [(7, pI (w64 (((k1 : Nat) : Int) + 1)))] [] (by kernel_rfl) (.cons rfl (.of_eq (congrArg pI (w64_succ hlt1 hc1))) .nil) .nil)
 ·
  intro h16
  have hge1 : ¬ k1 < r1.length := by have := of_decide_eq_false h16; omega
  have hm := he1 hge1
  unfold Domain_ref8D1 at hm
  refine DW.exit ?_
  refine joinQ_exit ?_
  refine KQ_exit ?_
  refine blockQ_exit ?_
  show DW _ _ _ _ _
  refine DW.seq (RK hnt (nn 2 []) [(4, pI 0), (5, pB false)] [] trivial (by kernel_rfl) ?_)
  refine DW.ret ?_
  obtain rfl := Option.some.inj hm
  refine retOK (bs' := []) [] (.p (.tup [vi 0, vb false])) (by kernel_rfl) ?_ ?_
  · rfl
  · rfl

abbrev c27e1 (p0 : Tree) (k1 : Nat) := (p0.nodes.getD k1 (default : Node))
abbrev c27e2 (p0 : Tree) : Nat × Obj := (1016, bx (pm (encTree p0)))
theorem Children_ref5Spec (p0 : Tree) (p1 : Int) (RES : List Int) (hm : Children_ref5 p0 p1 = some RES) : Spec Tryz.prog 27 [.p (.agg (encTree p0)), pI p1] [] (ow 0 RES.length) [] [roI RES] := by
 unfold Children_ref5 at hm
 refine spec_of Tgood (T := Tt) Tryz.func27 (by decide) (c := _) rfl rfl (sl := [(0, .p (.agg (encTree p0))), (1, pI p1)]) (ob := []) (Nat.le_of_ble_eq_true rfl) (Nat.le_of_ble_eq_true rfl) (by kernel_rfl) (by kernel_rfl) ?_
 intro cx hnt
 refine DW.start ?_
 refine DW.seq (RK hnt (nn 2 []) [(1, pI p1), (2, rr 1016)] [(c27e2 p0)] trivial (by kernel_rfl) ?_)
 obtain ⟨r1, hr1, hm⟩ := bind_open hm
 refine DW.seq (DW.seq (RK hnt (nn 2 (.call 88 [] true (pB r1) [] [] :: .no :: [])) [(1, pI p1), (2, rr 1016), (10, pB (!r1))] [(c27e2 p0)] (an (Has_ref5Spec p0 p1 r1 hr1) trivial) (by kernel_rfl) ?_))
 refine DW.cond (!r1) rfl rfl ?_ ?_
 ·
  intro h2
  replace hm := if_t h2 hm
  refine DW.seq (RK hnt (.no :: []) [(4, .p (.sl .nil 0 0 (fun _ => [])))] [] trivial (by kernel_rfl) ?_)
  refine DW.conv (τ := mkSt [(4, ow 100000 0)] [(100000, ob0 (roI []))]) (Conv.trans (τ := mkSt [(4, ow 100000 0)] ((100000, ⟨0, .row 1 0 (elems encI 0 [])⟩) :: [])) (Conv.adopt 100000 1 (elems encI 0 []) rfl rfl (.cons (.one (.nil _ _)) (.rfl _)) (.rfl _)) (Conv.trans (τ := mkSt [(4, ow 100000 0)] [(100000, ob0 (roI []))]) (Conv.tp [] [] (by kernel_rfl) .nil .nil) .refl)) ?_
  refine DW.ret ?_
  obtain rfl := Option.some.inj hm
  refine retOK (bs' := [roI []]) [100000] (ow 0 0) (by kernel_rfl) ?_ ?_
  · rfl
  · rfl
 ·
  intro h2
  replace hm := if_f h2 hm
  refine DW.skip ?_
  refine DW.seq (RK hnt (.no :: []) [(1, pI p1), (2, rr 1016), (5, .p (.sl .nil 0 0 (fun _ => [])))] [(c27e2 p0)] trivial (by kernel_rfl) ?_)
  refine DW.seq (DW.seq (RK hnt (.no :: []) [(1, pI p1), (2, rr 1016), (5, .p (.sl .nil 0 0 (fun _ => []))), (6, pI 0)] [(c27e2 p0)] trivial (by kernel_rfl) ?_))
  refine DW.block ?_
  obtain ⟨hc1, hm⟩ := guard_open hm
  refine DW.rangeO (fun (k1 : Nat) (s1 : List Int) => mkSt [(1, pI p1), (2, rr 1016), (5, ow 1272 s1.length), (6, pI ((k1 : Nat) : Int))] [(c27e2 p0), (1272, ob0 (roI s1))]) dNode hm (Conv.trans (τ := mkSt [(1, pI p1), (2, rr 1016), (5, ow 1272 0), (6, pI 0)] ((1272, ⟨0, .row 1 0 (elems encI 0 [])⟩) :: [(c27e2 p0)])) (Conv.adopt 1272 1 (elems encI 0 []) rfl rfl (.cons (.one (.rfl _)) (.cons (.one (.rfl _)) (.cons (.one (.nil _ _)) (.cons (.one (.rfl _)) (.rfl _))))) (.rfl _)) (Conv.trans (τ := mkSt [(1, pI p1), (2, rr 1016), (5, ow 1272 0), (6, pI 0)] [(c27e2 p0), (1272, ob0 (roI []))]) (Conv.tp [] [] (by kernel_rfl) .nil .nil) .refl)) ?_
  intro k1 s1 n1 hk1 hs1 he1
  refine DW.seq (DW.seq (RK hnt (nn 5 []) [(1, pI p1), (2, rr 1016), (5, ow 1272 s1.length), (6, pI ((k1 : Nat) : Int)), (15, pB (decide (((k1 : Nat) : Int) < ((p0.nodes.length : Nat) : Int))))] [(c27e2 p0), (1272, ob0 (roI s1))] trivial (by kernel_rfl) ?_))
  refine DW.cond (decide (((k1 : Nat) : Int) < ((p0.nodes.length : Nat) : Int))) rfl rfl ?_ ?_
  ·
   intro h12
   have hlt1 : k1 < p0.nodes.length := by have := of_decide_eq_true h12; omega
   have hm := hs1 hlt1
   unfold Children_ref5L1 at hm
   refine DW.skip ?_
   refine DW.seq ?_
   refine DW.join (ι := List Int) (fun (y3 : List Int) => mkSt [(1, pI p1), (2, rr 1016), (5, ow 1272 y3.length), (6, pI ((k1 : Nat) : Int))] [(c27e2 p0), (1272, ob0 (roI y3))]) (fun y3 => (Children_ref5J3 n1) y3 = some RES) ?_ ?_
   ·
    intro y3 hm
    unfold Children_ref5J3 at hm
    refine RK hnt (nn 3 []) [(1, pI p1), (2, rr 1016), (5, ow 1272 y3.length), (6, pI (w64 (((k1 : Nat) : Int) + 1)))] [(c27e2 p0), (1272, ob0 (roI y3))] trivial (by kernel_rfl) ?_
    exact joinDone y3 ⟨hlt1, hm⟩ (Conv.tp [(6, pI (w64 (((k1 : Nat) : Int) + 1)))] [] (by kernel_rfl) (.cons rfl (.of_eq (congrArg pI (w64_succ hlt1 hc1))) .nil) .nil)
   ·
    refine DW.block ?_
    refine DW.seq (RK hnt (nn 8 []) [(1, pI p1), (2, rr 1016), (5, ow 1272 s1.length), (6, pI ((k1 : Nat) : Int)), (25, pB ((c27e1 p0 k1).parent == p1))] [(c27e2 p0), (1272, ob0 (roI s1))] (an (nn0 k1) (an (ltc hlt1) trivial)) (by kernel_rfl) ?_)
    refine DW.cond ((c27e1 p0 k1).parent == p1) rfl rfl ?_ ?_
    ·
     intro h13
     replace hm := if_t h13 hm
     obtain ⟨g14, hm⟩ := guard_open hm
     refine RN hnt (nn 10 []) [(1, pI p1), (2, rr 1016), (5, ow 1272 (s1 ++ [(c27e1 p0 k1).id]).length), (6, pI ((k1 : Nat) : Int))] [(c27e2 p0), (1272, ob0 (roI (s1 ++ [(c27e1 p0 k1).id])))] [(5, ow 1272 (s1.length + 1))] [(1272, .row 1 (s1.length + 1) (catF s1.length (elI s1) (cut 1 [vi (c27e1 p0 k1).id])))] (an (nn0 k1) (an (ltc hlt1) (an (by omega : (s1.length + 1) * 8 ≤ 140737488355328) trivial))) (by kernel_rfl) (.cons rfl (MLe.ownLen (enc := encI) (d := 0) (f := (catF s1.length (elI s1) (cut 1 [vi (c27e1 p0 k1).id]))) (RowIs.cat RowIs.elems (RowIs.lit (enc := encI) (d := 0) (n := 1) (f := (cut 1 [vi (c27e1 p0 k1).id])) [(c27e1 p0 k1).id] rfl (fun | 0, _ => rfl | n + 1, h => absurd h (by omega))))) .nil) (.cons rfl (BLe.typed (RowIs.cat RowIs.elems (RowIs.lit (enc := encI) (d := 0) (n := 1) (f := (cut 1 [vi (c27e1 p0 k1).id])) [(c27e1 p0 k1).id] rfl (fun | 0, _ => rfl | n + 1, h => absurd h (by omega))))) .nil) ?_
     exact blockDone (s1 ++ [(c27e1 p0 k1).id]) hm .refl
    ·
     intro h13
     replace hm := if_f h13 hm
     refine DW.skip ?_
     exact blockDone s1 hm (Conv.tp [] [] (by kernel_rfl) .nil .nil)
  ·
   intro h12
   have hge1 : ¬ k1 < p0.nodes.length := by have := of_decide_eq_false h12; omega
   have hm := he1 hge1
   unfold Children_ref5D1 at hm
   refine DW.exit ?_
   refine joinQ_exit ?_
   refine KQ_exit ?_
   refine blockQ_exit ?_
   show DW _ _ _ _ _
   refine DW.seq (RK hnt (nn 2 []) [(4, ow 1272 s1.length)] [(1272, ob0 (roI s1))] trivial (by kernel_rfl) ?_)
   refine DW.ret ?_
   obtain rfl := Option.some.inj hm
   refine retOK (bs' := [roI s1]) [1272] (ow 0 s1.length) (by kernel_rfl) ?_ ?_
   · rfl
   · rfl

abbrev c130e1 (p0 : Tree) : Nat × Obj := (1016, bx (pm (encTree p0)))
theorem Type_ref8BSpec (rec : Tree → Int → Option Int) (ih : ∀ (p0 : Tree) (p1 : Int) (RES : Int), rec p0 p1 = some RES → Spec Tryz.prog 130 [.p (.agg (encTree p0)), pI p1] [] (pI RES) [] []) (p0 : Tree) (p1 : Int) (RES : Int) (hm : Type_ref8B rec p0 p1 = some RES) : Spec Tryz.prog 130 [.p (.agg (encTree p0)), pI p1] [] (pI RES) [] [] := by
 unfold Type_ref8B at hm
 refine spec_of Tgood (T := Tt) Tryz.func130 (by decide) (c := _) rfl rfl (sl := [(0, .p (.agg (encTree p0))), (1, pI p1)]) (ob := []) (Nat.le_of_ble_eq_true rfl) (Nat.le_of_ble_eq_true rfl) (by kernel_rfl) (by kernel_rfl) ?_
 intro cx hnt
 refine DW.start ?_
 refine DW.seq (RK hnt (nn 2 []) [(1, pI p1), (2, rr 1016)] [(c130e1 p0)] trivial (by kernel_rfl) ?_)
 obtain ⟨r1, hr1, hm⟩ := bind_open hm
 refine DW.seq (RK hnt (nn 2 (.call 135 [] true (.p (.tup [.agg (encNode r1.1), vb r1.2])) [] [] :: nn 6 [])) [(1, pI p1), (2, rr 1016), (5, rr 1040), (6, pB r1.2)] [(c130e1 p0), (1040, bx (pm (encNode r1.1)))] (an (Find_ref5Spec p0 p1 r1 hr1) trivial) (by kernel_rfl) ?_)
 refine DW.seq (DW.seq (RK hnt (nn 2 []) [(1, pI p1), (2, rr 1016), (5, rr 1040), (20, pB (!r1.2))] [(c130e1 p0), (1040, bx (pm (encNode r1.1)))] trivial (by kernel_rfl) ?_))
 refine DW.cond (!r1.2) rfl rfl ?_ ?_
 ·
  intro h2
  replace hm := if_t h2 hm
  refine DW.seq (RK hnt (.no :: []) [(4, pI 0)] [] trivial (by kernel_rfl) ?_)
  refine DW.ret ?_
  obtain rfl := Option.some.inj hm
  refine retOK (bs' := []) [] (pI 0) (by kernel_rfl) ?_ ?_
  · rfl
  · rfl
 ·
  intro h2
  replace hm := if_f h2 hm
  refine DW.skip ?_
  refine DW.seq (DW.seq (RK hnt (nn 3 []) [(1, pI p1), (2, rr 1016), (5, rr 1040), (23, pB (r1.1.kind == 1))] [(c130e1 p0), (1040, bx (pm (encNode r1.1)))] trivial (by kernel_rfl) ?_))
  refine DW.cond (r1.1.kind == 1) rfl rfl ?_ ?_
  ·
   intro h3
   replace hm := if_t h3 hm
   refine DW.seq (RK hnt (.no :: []) [(4, pI 2)] [] trivial (by kernel_rfl) ?_)
   refine DW.ret ?_
   obtain rfl := Option.some.inj hm
   refine retOK (bs' := []) [] (pI 2) (by kernel_rfl) ?_ ?_
   · rfl
   · rfl
  ·
   intro h3
   replace hm := if_f h3 hm
   refine DW.skip ?_
   obtain ⟨r4, hr4, hm⟩ := bind_open hm
   refine DW.seq (DW.seq (RK hnt (nn 3 (.call 135 [] true (.p (.tup [.agg (encNode r4.1), vb r4.2])) [] [] :: nn 6 [])) [(1, pI p1), (2, rr 1016), (7, rr 1056), (8, pB r4.2)] [(c130e1 p0), (1056, bx (pm (encNode r4.1)))] (an (Find_ref5Spec p0 r1.1.parent r4 hr4) trivial) (by kernel_rfl) ?_))
   refine DW.seq ?_
   refine DW.join (ι := Bool) (fun (y1 : Bool) => mkSt [(1, pI p1), (2, rr 1016), (43, pB y1)] [(c130e1 p0)]) (fun y1 => (Type_ref8J1 p0 p1) y1 = some RES) ?_ ?_
   ·
    intro y1 hm
    unfold Type_ref8J1 at hm
    refine DW.cond y1 rfl rfl ?_ ?_
    ·
     intro h8
     replace hm := if_t h8 hm
     refine DW.seq (RK hnt (.no :: []) [(4, pI 3)] [] trivial (by kernel_rfl) ?_)
     refine DW.ret ?_
     obtain rfl := Option.some.inj hm
     refine retOK (bs' := []) [] (pI 3) (by kernel_rfl) ?_ ?_
     · rfl
     · rfl
    ·
     intro h8
     replace hm := if_f h8 hm
     refine DW.skip ?_
     obtain ⟨r9, hr9, hm⟩ := bind_open hm
     refine DW.seq (RK hnt (nn 2 (.call 27 [] true (ow 0 r9.length) [] [roI r9] :: .no :: [])) [(2, rr 1016), (9, ow 1368 r9.length)] [(c130e1 p0), (1368, ob0 (roI r9))] (an (Children_ref5Spec p0 p1 r9 hr9) trivial) (by kernel_rfl) ?_)
     refine DW.seq (DW.seq (RK hnt (.no :: []) [(2, rr 1016), (9, ow 1368 r9.length), (10, pI 0)] [(c130e1 p0), (1368, ob0 (roI r9))] trivial (by kernel_rfl) ?_))
     refine DW.block ?_
     obtain ⟨hc1, hm⟩ := guard_open hm
     refine DW.rangeO (fun (k1 : Nat) (s1 : Unit) => mkSt [(2, rr 1016), (9, ow 1368 r9.length), (10, pI ((k1 : Nat) : Int))] [(c130e1 p0), (1368, ob0 (roI r9))]) 0 hm .refl ?_
     intro k1 s1 n1 hk1 hs1 he1
     refine DW.seq (DW.seq (RK hnt (nn 4 []) [(2, rr 1016), (9, ow 1368 r9.length), (10, pI ((k1 : Nat) : Int)), (50, pB (decide (((k1 : Nat) : Int) < ((r9.length : Nat) : Int))))] [(c130e1 p0), (1368, ob0 (roI r9))] trivial (by kernel_rfl) ?_))
     refine DW.cond (decide (((k1 : Nat) : Int) < ((r9.length : Nat) : Int))) rfl rfl ?_ ?_
     ·
      intro h20
      have hlt1 : k1 < r9.length := by have := of_decide_eq_true h20; omega
      have hm := hs1 hlt1
      unfold Type_ref8L1 at hm
      refine DW.skip ?_
      refine DW.seq (DW.block ?_)
      obtain ⟨r21, hr21, hm⟩ := bind_open hm
      refine DW.seq (RK hnt (nn 5 (.call 135 [] true (.p (.tup [.agg (encNode r21.1), vb r21.2])) [] [] :: nn 6 [])) [(2, rr 1016), (9, ow 1368 r9.length), (10, pI ((k1 : Nat) : Int)), (11, rr 1088)] [(c130e1 p0), (1088, bx (pm (encNode r21.1))), (1368, ob0 (roI r9))] (an (nn0 k1) (an (ltc hlt1) (an (by omega : k1 < r9.length) (an (Find_ref5Spec p0 (r9.getD k1 0) r21 hr21) trivial)))) (by kernel_rfl) ?_)
      refine DW.seq (RK hnt (nn 3 []) [(2, rr 1016), (9, ow 1368 r9.length), (10, pI ((k1 : Nat) : Int)), (64, pB (r21.1.kind == 1))] [(c130e1 p0), (1368, ob0 (roI r9))] trivial (by kernel_rfl) ?_)
      refine DW.cond (r21.1.kind == 1) rfl rfl ?_ ?_
      ·
       intro h22
       replace hm := if_t h22 hm
       refine DW.seq (RK hnt (.no :: []) [(4, pI 1)] [] trivial (by kernel_rfl) ?_)
       refine DW.ret ?_
       obtain rfl := Option.some.inj hm
       refine retOK (bs' := []) [] (pI 1) (by kernel_rfl) ?_ ?_
       · rfl
       · rfl
      ·
       intro h22
       replace hm := if_f h22 hm
       refine DW.skip ?_
       refine DW.done ?_
       show DW _ _ _ _ _
       refine RK hnt (nn 3 []) [(2, rr 1016), (9, ow 1368 r9.length), (10, pI (w64 (((k1 : Nat) : Int) + 1)))] [(c130e1 p0), (1368, ob0 (roI r9))] trivial (by kernel_rfl) ?_
       exact joinDone () ⟨hlt1, hm⟩ (Conv.tp [(10, pI (w64 (((k1 : Nat) : Int) + 1)))] [] (by kernel_rfl) (.cons rfl (.of_eq (congrArg pI (w64_succ hlt1 hc1))) .nil) .nil)
     ·
      intro h20
      have hge1 : ¬ k1 < r9.length := by have := of_decide_eq_false h20; omega
      have hm := he1 hge1
      unfold Type_ref8D1 at hm
      refine DW.exit ?_
      refine joinQ_exit ?_
      refine KQ_exit ?_
      refine blockQ_exit ?_
      show DW _ _ _ _ _
      refine DW.seq (RK hnt (.no :: []) [(4, pI 0)] [] trivial (by kernel_rfl) ?_)
      refine DW.ret ?_
      obtain rfl := Option.some.inj hm
      refine retOK (bs' := []) [] (pI 0) (by kernel_rfl) ?_ ?_
      · rfl
      · rfl
   ·
    rcases bt r4.2 with h5 | h5
    ·
     replace hm := if_t h5 hm
     rcases bt (r4.1.kind == 1) with h6 | h6
     ·
      replace hm := if_t h6 hm
      refine RK hnt (nn 6 (sk 5 (pT :: pT :: []))) [(1, pI p1), (2, rr 1016), (43, pB true)] [(c130e1 p0)] (an4 h5 (an5 h6 (an h5 (an h6 (an h5 trivial))))) (by kernel_rfl) ?_
      exact joinDone true hm .refl
     ·
      replace hm := if_f h6 hm
      obtain ⟨r7, hr7, hm⟩ := bind_open hm
      refine RK hnt (nn 9 (.call 130 [] true (pI r7) [] [] :: .no :: pF :: pT :: [])) [(1, pI p1), (2, rr 1016), (43, pB (r7 == 3))] [(c130e1 p0)] (an4 h5 (an4 h6 (an (ih p0 r4.1.id r7 hr7) (an h6 (an h5 (an h6 (an h5 trivial))))))) (by kernel_rfl) ?_
      exact joinDone (r7 == 3) hm .refl
    ·
     replace hm := if_f h5 hm
     refine RK hnt (nn 2 (sk 10 (pF :: []))) [(1, pI p1), (2, rr 1016), (43, pB false)] [(c130e1 p0)] (an6 h5 trivial) (by kernel_rfl) ?_
     exact joinDone false hm .refl
theorem Type_ref8FSpec : ∀ (n : Nat) (p0 : Tree) (p1 : Int) (RES : Int), Type_ref8F n p0 p1 = some RES → Spec Tryz.prog 130 [.p (.agg (encTree p0)), pI p1] [] (pI RES) [] []
  | 0, p0, p1, RES, hm => by simp [Type_ref8F] at hm
  | n + 1, p0, p1, RES, hm => Type_ref8BSpec (Type_ref8F n) (Type_ref8FSpec n) p0 p1 RES hm
theorem Type_ref8Spec (p0 : Tree) (p1 : Int) (RES : Int) (hm : Type_ref8 p0 p1 = some RES) : Spec Tryz.prog 130 [.p (.agg (encTree p0)), pI p1] [] (pI RES) [] [] := Type_ref8FSpec FUEL p0 p1 RES hm
end Go.Dm


/- Go functions compute their models, printed by a program. -/
namespace Go.Dm
open Go.Proofs
set_option linter.unusedVariables false
abbrev c129e1 (p0 : Hierarchy) : Nat × Obj := (1008, bx (pm (encHierarchy p0)))
abbrev c129e2 (p0 : Hierarchy) (k4 : Nat) := (p0.tree.nodes.getD k4 (default : Node))
abbrev c129e3 (k4 : Nat) : Nat × MV := (10, pI ((k4 : Nat) : Int))
abbrev c129e4 (p0 : Hierarchy) (k4 : Nat) : Nat × Obj := (1088, bx (pm (encNode (c129e2 p0 k4))))
abbrev c129e5 (k1 : Nat) : Nat × MV := (3, pI ((k1 : Nat) : Int))
theorem Fits_ref8Spec (p0 : Hierarchy) (RES : Bool) (hm : Fits_ref8 p0 = some RES) : Spec Tryz.prog 129 [.p (.agg (encHierarchy p0))] [] (pB RES) [] [] := by
 unfold Fits_ref8 at hm
 refine spec_of Tgood (T := Tt) Tryz.func129 (by decide) (c := _) rfl rfl (sl := [(0, .p (.agg (encHierarchy p0)))]) (ob := []) (Nat.le_of_ble_eq_true rfl) (Nat.le_of_ble_eq_true rfl) (by kernel_rfl) (by kernel_rfl) ?_
 intro cx hnt
 refine DW.start ?_
 refine DW.seq (RK hnt (nn 2 []) [(1, rr 1008)] [(c129e1 p0)] trivial (by kernel_rfl) ?_)
 obtain ⟨r1, hr1, hm⟩ := bind_open hm
 refine DW.seq (DW.seq (RK hnt (.no :: .call 162 [] true (pB r1) [] [] :: .no :: []) [(1, rr 1008), (16, pB (!r1))] [(c129e1 p0)] (an (Sound_ref7Spec p0 r1 hr1) trivial) (by kernel_rfl) ?_))
 refine DW.cond (!r1) rfl rfl ?_ ?_
 ·
  intro h2
  replace hm := if_t h2 hm
  refine DW.seq (RK hnt (.no :: []) [(2, pB false)] [] trivial (by kernel_rfl) ?_)
  refine DW.ret ?_
  obtain rfl := Option.some.inj hm
  refine retOK (bs' := []) [] (pB false) (by kernel_rfl) ?_ ?_
  · rfl
  · rfl
 ·
  intro h2
  replace hm := if_f h2 hm
  refine DW.skip ?_
  refine DW.seq (DW.seq (RK hnt (.no :: []) [(1, rr 1008), (3, pI 0)] [(c129e1 p0)] trivial (by kernel_rfl) ?_))
  refine DW.block ?_
  obtain ⟨hc1, hm⟩ := guard_open hm
  refine DW.rangeO (fun (k1 : Nat) (s1 : Unit) => mkSt [(1, rr 1008), (c129e5 k1)] [(c129e1 p0)]) dTask hm .refl ?_
  intro k1 s1 n1 hk1 hs1 he1
  refine DW.seq (DW.seq (RK hnt (nn 5 []) [(1, rr 1008), (c129e5 k1), (21, pB (decide (((k1 : Nat) : Int) < ((p0.tasks.length : Nat) : Int))))] [(c129e1 p0)] trivial (by kernel_rfl) ?_))
  refine DW.cond (decide (((k1 : Nat) : Int) < ((p0.tasks.length : Nat) : Int))) rfl rfl ?_ ?_
  ·
   intro h99
   have hlt1 : k1 < p0.tasks.length := by have := of_decide_eq_true h99; omega
   have hm := hs1 hlt1
   unfold Fits_ref8L1 at hm
   refine DW.skip ?_
   refine DW.seq (DW.block ?_)
   obtain ⟨r100, hr100, hm⟩ := bind_open hm
   refine DW.seq (RK hnt (nn 7 (.call 53 [] true (.p (.tup [.agg (encTask r100.1), vb r100.2])) [] [] :: nn 6 [])) [(1, rr 1008), (c129e5 k1), (4, rr 1032)] [(c129e1 p0), (1032, bx (pm (encTask r100.1)))] (an (nn0 k1) (an (ltc hlt1) (an (Find_ref6Spec p0 (p0.tasks.getD k1 (default : Task)).process r100 hr100) trivial))) (by kernel_rfl) ?_)
   obtain ⟨r101, hr101, hm⟩ := bind_open hm
   refine DW.seq (RK hnt (nn 8 (.call 137 [] true (.p (.tup [vi r101.1, vb r101.2])) [] [] :: nn 5 [])) [(1, rr 1008), (c129e5 k1), (4, rr 1032), (6, pI r101.1)] [(c129e1 p0), (1032, bx (pm (encTask r100.1)))] (an (nn0 k1) (an (ltc hlt1) (an (Domain_ref8Spec p0.tree (p0.tasks.getD k1 (default : Task)).group r101 hr101) trivial))) (by kernel_rfl) ?_)
   obtain ⟨r102, hr102, hm⟩ := bind_open hm
   refine DW.seq (RK hnt (nn 4 (.call 137 [] true (.p (.tup [vi r102.1, vb r102.2])) [] [] :: nn 5 [])) [(1, rr 1008), (c129e5 k1), (6, pI r101.1), (8, pI r102.1)] [(c129e1 p0)] (an (Domain_ref8Spec p0.tree r100.1.group r102 hr102) trivial) (by kernel_rfl) ?_)
   refine DW.seq (RK hnt (nn 3 []) [(1, rr 1008), (c129e5 k1), (57, pB (r101.1 != r102.1))] [(c129e1 p0)] trivial (by kernel_rfl) ?_)
   refine DW.cond (r101.1 != r102.1) rfl rfl ?_ ?_
   ·
    intro h103
    replace hm := if_t h103 hm
    refine DW.seq (RK hnt (.no :: []) [(2, pB false)] [] trivial (by kernel_rfl) ?_)
    refine DW.ret ?_
    obtain rfl := Option.some.inj hm
    refine retOK (bs' := []) [] (pB false) (by kernel_rfl) ?_ ?_
    · rfl
    · rfl
   ·
    intro h103
    replace hm := if_f h103 hm
    refine DW.skip ?_
    refine DW.done ?_
    show DW _ _ _ _ _
    refine RK hnt (nn 3 []) [(1, rr 1008), (3, pI (w64 (((k1 : Nat) : Int) + 1)))] [(c129e1 p0)] trivial (by kernel_rfl) ?_
    exact joinDone () ⟨hlt1, hm⟩ (Conv.tp [(3, pI (w64 (((k1 : Nat) : Int) + 1)))] [] (by kernel_rfl) (.cons rfl (.of_eq (congrArg pI (w64_succ hlt1 hc1))) .nil) .nil)
  ·
   intro h99
   have hge1 : ¬ k1 < p0.tasks.length := by have := of_decide_eq_false h99; omega
   have hm := he1 hge1
   unfold Fits_ref8D1 at hm
   refine DW.exit ?_
   refine joinQ_exit ?_
   refine KQ_exit ?_
   refine blockQ_exit ?_
   show DW _ _ _ _ _
   refine DW.seq (DW.seq (RK hnt (.no :: []) [(1, rr 1008), (10, pI 0)] [(c129e1 p0)] trivial (by kernel_rfl) ?_))
   refine DW.block ?_
   obtain ⟨hc4, hm⟩ := guard_open hm
   refine DW.rangeO (fun (k4 : Nat) (s4 : Unit) => mkSt [(1, rr 1008), (c129e3 k4)] [(c129e1 p0)]) dNode hm .refl ?_
   intro k4 s4 n4 hk4 hs4 he4
   refine DW.seq (DW.seq (RK hnt (nn 6 []) [(1, rr 1008), (c129e3 k4), (63, pB (decide (((k4 : Nat) : Int) < ((p0.tree.nodes.length : Nat) : Int))))] [(c129e1 p0)] trivial (by kernel_rfl) ?_))
   refine DW.cond (decide (((k4 : Nat) : Int) < ((p0.tree.nodes.length : Nat) : Int))) rfl rfl ?_ ?_
   ·
    intro h132
    have hlt4 : k4 < p0.tree.nodes.length := by have := of_decide_eq_true h132; omega
    have hm := hs4 hlt4
    unfold Fits_ref8L4 at hm
    refine DW.skip ?_
    refine DW.seq (DW.block ?_)
    refine DW.seq (RK hnt (nn 8 []) [(1, rr 1008), (c129e3 k4), (11, rr 1088)] [(c129e1 p0), (c129e4 p0 k4)] (an (nn0 k4) (an (ltc hlt4) trivial)) (by kernel_rfl) ?_)
    obtain ⟨r133, hr133, hm⟩ := bind_open hm
    refine DW.seq (RK hnt (nn 4 (.call 135 [] true (.p (.tup [.agg (encNode r133.1), vb r133.2])) [] [] :: nn 6 [])) [(1, rr 1008), (c129e3 k4), (11, rr 1088), (12, rr 1096)] [(c129e1 p0), (c129e4 p0 k4), (1096, bx (pm (encNode r133.1)))] (an (Find_ref5Spec p0.tree (c129e2 p0 k4).parent r133 hr133) trivial) (by kernel_rfl) ?_)
    obtain ⟨r134, hr134, hm⟩ := bind_open hm
    refine DW.seq (DW.seq ?_)
    refine DW.join (ι := Bool) (fun (y17 : Bool) => mkSt [(1, rr 1008), (c129e3 k4), (11, rr 1088), (12, rr 1096), (98, pB y17)] [(c129e1 p0), (c129e4 p0 k4), (1096, bx (pm (encNode r133.1)))]) (fun y17 => (Fits_ref8J17 p0 (c129e2 p0 k4) n4 r133) y17 = some RES) ?_ ?_
    ·
     intro y17 hm
     unfold Fits_ref8J17 at hm
     refine DW.cond y17 rfl rfl ?_ ?_
     ·
      intro h138
      replace hm := if_t h138 hm
      refine DW.seq (RK hnt (.no :: []) [(2, pB false)] [] trivial (by kernel_rfl) ?_)
      refine DW.ret ?_
      obtain rfl := Option.some.inj hm
      refine retOK (bs' := []) [] (pB false) (by kernel_rfl) ?_ ?_
      · rfl
      · rfl
     ·
      intro h138
      replace hm := if_f h138 hm
      refine DW.skip ?_
      refine DW.seq ?_
      refine DW.join (ι := Bool) (fun (y18 : Bool) => mkSt [(1, rr 1008), (c129e3 k4), (120, pB y18)] [(c129e1 p0)]) (fun y18 => (Fits_ref8J18 n4) y18 = some RES) ?_ ?_
      ·
       intro y18 hm
       unfold Fits_ref8J18 at hm
       refine DW.cond y18 rfl rfl ?_ ?_
       ·
        intro h144
        replace hm := if_t h144 hm
        refine DW.seq (RK hnt (.no :: []) [(2, pB false)] [] trivial (by kernel_rfl) ?_)
        refine DW.ret ?_
        obtain rfl := Option.some.inj hm
        refine retOK (bs' := []) [] (pB false) (by kernel_rfl) ?_ ?_
        · rfl
        · rfl
       ·
        intro h144
        replace hm := if_f h144 hm
        refine DW.skip ?_
        refine DW.done ?_
        show DW _ _ _ _ _
        refine RK hnt (nn 3 []) [(1, rr 1008), (10, pI (w64 (((k4 : Nat) : Int) + 1)))] [(c129e1 p0)] trivial (by kernel_rfl) ?_
        exact joinDone () ⟨hlt4, hm⟩ (Conv.tp [(10, pI (w64 (((k4 : Nat) : Int) + 1)))] [] (by kernel_rfl) (.cons rfl (.of_eq (congrArg pI (w64_succ hlt4 hc4))) .nil) .nil)
      ·
       rcases bt ((c129e2 p0 k4).kind == 1) with h139 | h139
       ·
        replace hm := if_t h139 hm
        rcases bt (r133.1.id != 1) with h140 | h140
        ·
         replace hm := if_t h140 hm
         rcases bt ((kand .i64 r133.1.control 6) != 0) with h141 | h141
         ·
          replace hm := if_t h141 hm
          refine RK hnt (nn 12 (pT :: .no :: sk 6 (pT :: pT :: []))) [(1, rr 1008), (c129e3 k4), (120, pB true)] [(c129e1 p0)] (an4 h139 (an4 h140 (an h139 (an h140 (an h139 (an6 h141 (an h139 (an h141 (an h139 trivial))))))))) (by kernel_rfl) ?_
          exact joinDone true hm .refl
         ·
          replace hm := if_f h141 hm
          obtain ⟨r142, hr142, hm⟩ := bind_open hm
          refine RK hnt (nn 12 (pT :: nn 5 (.call 130 [] true (pI r142) [] [] :: .no :: pF :: pT :: []))) [(1, rr 1008), (c129e3 k4), (120, pB (r142 == 3))] [(c129e1 p0)] (an4 h139 (an4 h140 (an h139 (an h140 (an h139 (an5 h141 (an (Type_ref8Spec p0.tree r133.1.id r142 hr142) (an h141 (an h139 (an h141 (an h139 trivial))))))))))) (by kernel_rfl) ?_
          exact joinDone (r142 == 3) hm .refl
        ·
         replace hm := if_f h140 hm
         obtain ⟨r143, hr143, hm⟩ := bind_open hm
         refine RK hnt (nn 8 (sk 4 (pF :: nn 5 (.call 130 [] true (pI r143) [] [] :: .no :: pF :: pT :: [])))) [(1, rr 1008), (c129e3 k4), (120, pB (r143 == 3))] [(c129e1 p0)] (an4 h139 (an4 h140 (an h139 (an h140 (an h139 (an5 ff (an (Type_ref8Spec p0.tree r133.1.id r143 hr143) (an ff (an h139 (an ff (an h139 trivial))))))))))) (by kernel_rfl) ?_
         exact joinDone (r143 == 3) hm .refl
       ·
        replace hm := if_f h139 hm
        refine RK hnt (nn 4 (sk 17 (pF :: []))) [(1, rr 1008), (c129e3 k4), (120, pB false)] [(c129e1 p0)] (an2 h139 (an6 h139 trivial)) (by kernel_rfl) ?_
        exact joinDone false hm .refl
    ·
     rcases bt (r134 == 3) with h135 | h135
     ·
      replace hm := if_t h135 hm
      rcases bt ((c129e2 p0 k4).control != 0) with h136 | h136
      ·
       replace hm := if_t h136 hm
       refine RK hnt (nn 4 (.call 130 [] true (pI r134) [] [] :: nn 6 (sk 6 (pT :: pT :: [])))) [(1, rr 1008), (c129e3 k4), (11, rr 1088), (12, rr 1096), (98, pB true)] [(c129e1 p0), (c129e4 p0 k4), (1096, bx (pm (encNode r133.1)))] (an (Type_ref8Spec p0.tree (c129e2 p0 k4).id r134 hr134) (an4 h135 (an6 h136 (an h135 (an h136 (an h135 trivial)))))) (by kernel_rfl) ?_
       exact joinDone true hm .refl
      ·
       replace hm := if_f h136 hm
       obtain ⟨r137, hr137, hm⟩ := bind_open hm
       refine RK hnt (nn 4 (.call 130 [] true (pI r134) [] [] :: nn 9 (.call 26 [] true (ow 0 r137.length) [] [roI r137] :: nn 2 (pF :: pT :: [])))) [(1, rr 1008), (c129e3 k4), (11, rr 1088), (12, rr 1096), (98, pB (decide (((r137.length : Nat) : Int) > 0)))] [(c129e1 p0), (c129e4 p0 k4), (1096, bx (pm (encNode r133.1)))] (an (Type_ref8Spec p0.tree (c129e2 p0 k4).id r134 hr134) (an4 h135 (an4 h136 (an (Tasks_ref6Spec p0 (c129e2 p0 k4).id r137 hr137) (an2 h136 (an h135 (an h136 (an h135 trivial)))))))) (by kernel_rfl) ?_
       exact joinDone (decide (((r137.length : Nat) : Int) > 0)) hm .refl
     ·
      replace hm := if_f h135 hm
      refine RK hnt (nn 4 (.call 130 [] true (pI r134) [] [] :: nn 2 (sk 11 (pF :: [])))) [(1, rr 1008), (c129e3 k4), (11, rr 1088), (12, rr 1096), (98, pB false)] [(c129e1 p0), (c129e4 p0 k4), (1096, bx (pm (encNode r133.1)))] (an (Type_ref8Spec p0.tree (c129e2 p0 k4).id r134 hr134) (an6 h135 trivial)) (by kernel_rfl) ?_
      exact joinDone false hm .refl
   ·
    intro h132
    have hge4 : ¬ k4 < p0.tree.nodes.length := by have := of_decide_eq_false h132; omega
    have hm := he4 hge4
    unfold Fits_ref8D4 at hm
    refine DW.exit ?_
    refine joinQ_exit ?_
    refine KQ_exit ?_
    refine blockQ_exit ?_
    show DW _ _ _ _ _
    refine DW.seq (RK hnt (.no :: []) [(2, pB true)] [] trivial (by kernel_rfl) ?_)
    refine DW.ret ?_
    obtain rfl := Option.some.inj hm
    refine retOK (bs' := []) [] (pB true) (by kernel_rfl) ?_ ?_
    · rfl
    · rfl

theorem Depth_ref5Spec (p0 : Tree) (p1 : Int) (RES : Int) (hm : Depth_ref5 p0 p1 = some RES) : Spec Tryz.prog 164 [.p (.agg (encTree p0)), pI p1] [] (pI RES) [] [] := by
 unfold Depth_ref5 at hm
 refine spec_of Tgood (T := Tt) Tryz.func164 (by decide) (c := _) rfl rfl (sl := [(0, .p (.agg (encTree p0))), (1, pI p1)]) (ob := []) (Nat.le_of_ble_eq_true rfl) (Nat.le_of_ble_eq_true rfl) (by kernel_rfl) (by kernel_rfl) ?_
 intro cx hnt
 refine DW.start ?_
 refine DW.seq (RK hnt (nn 2 []) [(1, pI p1), (2, rr 1016)] [(1016, bx (pm (encTree p0)))] trivial (by kernel_rfl) ?_)
 obtain ⟨r1, hr1, hm⟩ := bind_open hm
 refine DW.seq (RK hnt (nn 2 (.call 21 [] true (ow 0 r1.length) [] [roI r1] :: nn 3 [])) [(4, pI (w64 (((r1.length : Nat) : Int) - 1)))] [] (an (Ancestors_ref5Spec p0 p1 r1 hr1) trivial) (by kernel_rfl) ?_)
 refine DW.ret ?_
 obtain rfl := Option.some.inj hm
 refine retOK (bs' := []) [] (pI (w64 (((r1.length : Nat) : Int) - 1))) (by kernel_rfl) ?_ ?_
 · rfl
 · rfl

theorem Copy_ref5Spec (p0 : Tree) (RES : Tree) (hm : Copy_ref5 p0 = some RES) : Spec Tryz.prog 122 [.p (.agg (encTree p0))] [] (.agg [ow 0 RES.nodes.length, pI RES.next]) [] [roNode RES.nodes] := by
 unfold Copy_ref5 at hm
 refine spec_of Tgood (T := Tt) Tryz.func122 (by decide) (c := _) rfl rfl (sl := [(0, .p (.agg (encTree p0)))]) (ob := []) (Nat.le_of_ble_eq_true rfl) (Nat.le_of_ble_eq_true rfl) (by kernel_rfl) (by kernel_rfl) ?_
 intro cx hnt
 refine DW.start ?_
 refine DW.seq (RK hnt (nn 2 []) [(1, rr 1008), (2, rr 1016)] [(1008, bx (pm (encTree p0))), (1016, bx [.p (.sl .nil 0 0 (fun _ => [])), pI 0])] trivial (by kernel_rfl) ?_)
 obtain ⟨g1, hm⟩ := guard_open hm
 refine DW.seq (RN hnt (nn 7 []) [(2, rr 1016)] [(1016, bx [ow 1040 p0.nodes.length, pI p0.next]), (1040, ob0 (roNode p0.nodes))] [] [(1040, .row 6 p0.nodes.length (elNode p0.nodes))] (an (by omega : p0.nodes.length * 56 ≤ 140737488355328) trivial) (by kernel_rfl) .nil (.cons rfl (BLe.typed RowIs.elems) .nil) ?_)
 refine DW.ret ?_
 obtain rfl := Option.some.inj hm
 refine retOK (bs' := [roNode p0.nodes]) [1040] (.agg [ow 0 p0.nodes.length, pI p0.next]) (by kernel_rfl) ?_ ?_
 · rfl
 · rfl

abbrev c131e1 : Nat × Obj := (1048, bx [.p (.sl .nil 0 0 (fun _ => [])), pI 0])
abbrev c131e2 (p0 : Tree) (p1 : Int) (p2 : ByteArray) := ({ id := p0.next, parent := p1, name := p2, control := 0, kind := 0, owner := 0 } : Node)
abbrev c131e3 (p0 : Tree) : Nat × Obj := (1024, bx (pm (encTree p0)))
abbrev c131e4 : Nat × Obj := (1048, bx [ow 100000 0, pI 0])
abbrev c131e5 (p0 : Tree) (k1 : Nat) := (p0.nodes.getD k1 (default : Node))
theorem Add_ref5Spec (p0 : Tree) (p1 : Int) (p2 : ByteArray) (RES : Tree × Int × Int) (hm : Add_ref5 p0 p1 p2 = some RES) : Spec Tryz.prog 131 [.p (.agg (encTree p0)), pI p1, pS p2] [] (.tup [.agg [ow 0 RES.1.nodes.length, pI RES.1.next], pI RES.2.1, pI RES.2.2]) [] [roNode RES.1.nodes] := by
 unfold Add_ref5 at hm
 refine spec_of Tgood (T := Tt) Tryz.func131 (by decide) (c := _) rfl rfl (sl := [(0, .p (.agg (encTree p0))), (1, pI p1), (2, pS p2)]) (ob := []) (Nat.le_of_ble_eq_true rfl) (Nat.le_of_ble_eq_true rfl) (by kernel_rfl) (by kernel_rfl) ?_
 intro cx hnt
 refine DW.start ?_
 refine DW.seq (RK hnt (nn 4 []) [(1, pI p1), (2, pS p2), (3, rr 1024), (6, rr 1048)] [(c131e3 p0), (c131e1)] trivial (by kernel_rfl) ?_)
 obtain ⟨r1, hr1, hm⟩ := bind_open hm
 refine DW.seq (DW.seq ?_)
 refine DW.join (ι := Bool) (fun (y1 : Bool) => mkSt [(1, pI p1), (2, pS p2), (3, rr 1024), (6, rr 1048), (18, pB y1)] [(c131e3 p0), (c131e1)]) (fun y1 => (Add_ref5J1 p0 p1 p2) y1 = some RES) ?_ ?_
 ·
  intro y1 hm
  unfold Add_ref5J1 at hm
  refine DW.cond y1 rfl rfl ?_ ?_
  ·
   intro h4
   replace hm := if_t h4 hm
   refine DW.seq (RK hnt (nn 4 []) [(6, rr 1048), (7, pI 0), (8, pI 1)] [(c131e1)] trivial (by kernel_rfl) ?_)
   refine DW.conv (τ := mkSt [(6, rr 1048), (7, pI 0), (8, pI 1)] [(c131e4), (100000, ob0 (roNode []))]) (Conv.trans (τ := mkSt [(6, rr 1048), (7, pI 0), (8, pI 1)] ((100000, ⟨0, .row 6 0 (elems encNode dNode [])⟩) :: [(c131e4)])) (Conv.adopt 100000 6 (elems encNode dNode []) rfl rfl (.rfl _) (.box (.cons (.nil _ _) (.cons (.rfl _) (.rfl _))) (.rfl _))) (Conv.trans (τ := mkSt [(6, rr 1048), (7, pI 0), (8, pI 1)] [(c131e4), (100000, ob0 (roNode []))]) (Conv.tp [] [] (by kernel_rfl) .nil .nil) .refl)) ?_
   refine DW.ret ?_
   obtain rfl := Option.some.inj hm
   refine retOK (bs' := [roNode []]) [100000] (.tup [.agg [ow 0 0, pI 0], pI 0, pI 1]) (by kernel_rfl) ?_ ?_
   · rfl
   · rfl
  ·
   intro h4
   replace hm := if_f h4 hm
   refine DW.skip ?_
   obtain ⟨r5, hr5, hm⟩ := bind_open hm
   refine DW.seq (DW.seq (RK hnt (nn 2 (.call 88 [] true (pB r5) [] [] :: .no :: [])) [(1, pI p1), (2, pS p2), (3, rr 1024), (6, rr 1048), (23, pB (!r5))] [(c131e3 p0), (c131e1)] (an (Has_ref5Spec p0 p1 r5 hr5) trivial) (by kernel_rfl) ?_))
   refine DW.cond (!r5) rfl rfl ?_ ?_
   ·
    intro h6
    replace hm := if_t h6 hm
    refine DW.seq (RK hnt (nn 4 []) [(6, rr 1048), (7, pI 0), (8, pI 4)] [(c131e1)] trivial (by kernel_rfl) ?_)
    refine DW.conv (τ := mkSt [(6, rr 1048), (7, pI 0), (8, pI 4)] [(c131e4), (100000, ob0 (roNode []))]) (Conv.trans (τ := mkSt [(6, rr 1048), (7, pI 0), (8, pI 4)] ((100000, ⟨0, .row 6 0 (elems encNode dNode [])⟩) :: [(c131e4)])) (Conv.adopt 100000 6 (elems encNode dNode []) rfl rfl (.rfl _) (.box (.cons (.nil _ _) (.cons (.rfl _) (.rfl _))) (.rfl _))) (Conv.trans (τ := mkSt [(6, rr 1048), (7, pI 0), (8, pI 4)] [(c131e4), (100000, ob0 (roNode []))]) (Conv.tp [] [] (by kernel_rfl) .nil .nil) .refl)) ?_
    refine DW.ret ?_
    obtain rfl := Option.some.inj hm
    refine retOK (bs' := [roNode []]) [100000] (.tup [.agg [ow 0 0, pI 0], pI 0, pI 4]) (by kernel_rfl) ?_ ?_
    · rfl
    · rfl
   ·
    intro h6
    replace hm := if_f h6 hm
    refine DW.skip ?_
    refine DW.seq (DW.seq (RK hnt (.no :: []) [(1, pI p1), (2, pS p2), (3, rr 1024), (6, rr 1048), (9, pI 0)] [(c131e3 p0), (c131e1)] trivial (by kernel_rfl) ?_))
    refine DW.block ?_
    obtain ⟨hc1, hm⟩ := guard_open hm
    refine DW.rangeO (fun (k1 : Nat) (s1 : Unit) => mkSt [(1, pI p1), (2, pS p2), (3, rr 1024), (6, rr 1048), (9, pI ((k1 : Nat) : Int))] [(c131e3 p0), (c131e1)]) dNode hm .refl ?_
    intro k1 s1 n1 hk1 hs1 he1
    refine DW.seq (DW.seq (RK hnt (nn 5 []) [(1, pI p1), (2, pS p2), (3, rr 1024), (6, rr 1048), (9, pI ((k1 : Nat) : Int)), (29, pB (decide (((k1 : Nat) : Int) < ((p0.nodes.length : Nat) : Int))))] [(c131e3 p0), (c131e1)] trivial (by kernel_rfl) ?_))
    refine DW.cond (decide (((k1 : Nat) : Int) < ((p0.nodes.length : Nat) : Int))) rfl rfl ?_ ?_
    ·
     intro h29
     have hlt1 : k1 < p0.nodes.length := by have := of_decide_eq_true h29; omega
     have hm := hs1 hlt1
     unfold Add_ref5L1 at hm
     refine DW.skip ?_
     refine DW.seq (DW.block ?_)
     refine DW.seq (DW.regJ (sl2 := [(1, pI p1), (2, pS p2), (3, rr 1024), (6, rr 1048), (9, pI ((k1 : Nat) : Int)), (49, pB (((c131e5 p0 k1).parent == p1) && (beqS (c131e5 p0 k1).name p2)))]) (ob2 := [(c131e3 p0), (c131e1)]) ?_ ?_)
     ·
      rcases bt ((c131e5 p0 k1).parent == p1) with h30 | h30
      ·
       exact RT hnt (nn 17 (pT :: [])) [(49, pB (beqS (c131e5 p0 k1).name p2))] (an (nn0 k1) (an (ltc hlt1) (an4 h30 (an (nn0 k1) (an (ltc hlt1) (an5 h30 trivial)))))) (by kernel_rfl) (.cons rfl (.of_eq (by rw [h30]; try rfl)) .nil)
      ·
       exact RT hnt (nn 9 (sk 8 (pF :: []))) [(49, pB false)] (an (nn0 k1) (an (ltc hlt1) (an3 h30 (an6 h30 trivial)))) (by kernel_rfl) (.cons rfl (.of_eq (by rw [h30]; try rfl)) .nil)
     ·
      refine DW.cond (((c131e5 p0 k1).parent == p1) && (beqS (c131e5 p0 k1).name p2)) rfl rfl ?_ ?_
      ·
       intro h31
       replace hm := if_t h31 hm
       refine DW.seq (RK hnt (nn 4 []) [(6, rr 1048), (7, pI 0), (8, pI 5)] [(c131e1)] trivial (by kernel_rfl) ?_)
       refine DW.conv (τ := mkSt [(6, rr 1048), (7, pI 0), (8, pI 5)] [(c131e4), (100000, ob0 (roNode []))]) (Conv.trans (τ := mkSt [(6, rr 1048), (7, pI 0), (8, pI 5)] ((100000, ⟨0, .row 6 0 (elems encNode dNode [])⟩) :: [(c131e4)])) (Conv.adopt 100000 6 (elems encNode dNode []) rfl rfl (.rfl _) (.box (.cons (.nil _ _) (.cons (.rfl _) (.rfl _))) (.rfl _))) (Conv.trans (τ := mkSt [(6, rr 1048), (7, pI 0), (8, pI 5)] [(c131e4), (100000, ob0 (roNode []))]) (Conv.tp [] [] (by kernel_rfl) .nil .nil) .refl)) ?_
       refine DW.ret ?_
       obtain rfl := Option.some.inj hm
       refine retOK (bs' := [roNode []]) [100000] (.tup [.agg [ow 0 0, pI 0], pI 0, pI 5]) (by kernel_rfl) ?_ ?_
       · rfl
       · rfl
      ·
       intro h31
       replace hm := if_f h31 hm
       refine DW.skip ?_
       refine DW.done ?_
       show DW _ _ _ _ _
       refine RK hnt (nn 3 []) [(1, pI p1), (2, pS p2), (3, rr 1024), (6, rr 1048), (9, pI (w64 (((k1 : Nat) : Int) + 1)))] [(c131e3 p0), (c131e1)] trivial (by kernel_rfl) ?_
       exact joinDone () ⟨hlt1, hm⟩ (Conv.tp [(9, pI (w64 (((k1 : Nat) : Int) + 1)))] [] (by kernel_rfl) (.cons rfl (.of_eq (congrArg pI (w64_succ hlt1 hc1))) .nil) .nil)
    ·
     intro h29
     have hge1 : ¬ k1 < p0.nodes.length := by have := of_decide_eq_false h29; omega
     have hm := he1 hge1
     unfold Add_ref5D1 at hm
     refine DW.exit ?_
     refine joinQ_exit ?_
     refine KQ_exit ?_
     refine blockQ_exit ?_
     show DW _ _ _ _ _
     obtain ⟨r32, hr32, hm⟩ := bind_open hm
     refine DW.seq (DW.seq ?_)
     refine DW.join (ι := Bool) (fun (y6 : Bool) => mkSt [(1, pI p1), (2, pS p2), (3, rr 1024), (6, rr 1048), (65, pB y6)] [(c131e3 p0), (c131e1)]) (fun y6 => (Add_ref5J6 p0 p1 p2) y6 = some RES) ?_ ?_
     ·
      intro y6 hm
      unfold Add_ref5J6 at hm
      refine DW.cond y6 rfl rfl ?_ ?_
      ·
       intro h35
       replace hm := if_t h35 hm
       refine DW.seq (RK hnt (nn 4 []) [(6, rr 1048), (7, pI 0), (8, pI 7)] [(c131e1)] trivial (by kernel_rfl) ?_)
       refine DW.conv (τ := mkSt [(6, rr 1048), (7, pI 0), (8, pI 7)] [(c131e4), (100000, ob0 (roNode []))]) (Conv.trans (τ := mkSt [(6, rr 1048), (7, pI 0), (8, pI 7)] ((100000, ⟨0, .row 6 0 (elems encNode dNode [])⟩) :: [(c131e4)])) (Conv.adopt 100000 6 (elems encNode dNode []) rfl rfl (.rfl _) (.box (.cons (.nil _ _) (.cons (.rfl _) (.rfl _))) (.rfl _))) (Conv.trans (τ := mkSt [(6, rr 1048), (7, pI 0), (8, pI 7)] [(c131e4), (100000, ob0 (roNode []))]) (Conv.tp [] [] (by kernel_rfl) .nil .nil) .refl)) ?_
       refine DW.ret ?_
       obtain rfl := Option.some.inj hm
       refine retOK (bs' := [roNode []]) [100000] (.tup [.agg [ow 0 0, pI 0], pI 0, pI 7]) (by kernel_rfl) ?_ ?_
       · rfl
       · rfl
      ·
       intro h35
       replace hm := if_f h35 hm
       refine DW.skip ?_
       obtain ⟨r36, hr36, hm⟩ := bind_open hm
       refine DW.seq (RK hnt (.no :: .call 122 [] true (.agg [ow 0 r36.nodes.length, pI r36.next]) [] [roNode r36.nodes] :: nn 2 []) [(1, pI p1), (2, pS p2), (3, rr 1024), (6, rr 1048), (10, rr 1080)] [(c131e3 p0), (c131e1), (1080, bx [ow 1544 r36.nodes.length, pI r36.next]), (1544, ob0 (roNode r36.nodes))] (an (Copy_ref5Spec p0 r36 hr36) trivial) (by kernel_rfl) ?_)
       obtain ⟨g37, hm⟩ := guard_open hm
       refine DW.seq (RN hnt (nn 11 []) [(3, rr 1024), (6, rr 1048), (10, rr 1080)] [(c131e3 p0), (c131e1), (1080, bx [ow 1544 (r36.nodes ++ [(c131e2 p0 p1 p2)]).length, pI r36.next]), (1544, ob0 (roNode (r36.nodes ++ [(c131e2 p0 p1 p2)])))] [] [(1080, .box [ow 1544 (r36.nodes.length + 1), pI r36.next]), (1544, .row 6 (r36.nodes.length + 1) (catF r36.nodes.length (elNode r36.nodes) (cut 6 [vi p0.next, vi p1, vs p2, vi 0, vi 0, vi 0])))] (an (by omega : (r36.nodes.length + 1) * 56 ≤ 140737488355328) trivial) (by kernel_rfl) .nil (.cons rfl (.box (.cons (MLe.ownLen (enc := encNode) (d := dNode) (f := (catF r36.nodes.length (elNode r36.nodes) (cut 6 [vi p0.next, vi p1, vs p2, vi 0, vi 0, vi 0]))) (RowIs.cat RowIs.elems (RowIs.lit (enc := encNode) (d := dNode) (n := 1) (f := (cut 6 [vi p0.next, vi p1, vs p2, vi 0, vi 0, vi 0])) [(c131e2 p0 p1 p2)] rfl (fun | 0, _ => rfl | n + 1, h => absurd h (by omega))))) (.cons .rfl .nil))) (.cons rfl (BLe.typed (RowIs.cat RowIs.elems (RowIs.lit (enc := encNode) (d := dNode) (n := 1) (f := (cut 6 [vi p0.next, vi p1, vs p2, vi 0, vi 0, vi 0])) [(c131e2 p0 p1 p2)] rfl (fun | 0, _ => rfl | n + 1, h => absurd h (by omega))))) .nil)) ?_)
       refine DW.seq (RK hnt (nn 5 []) [(3, rr 1024), (6, rr 1048), (10, rr 1080)] [(c131e3 p0), (c131e1), (1080, bx [ow 1544 (r36.nodes ++ [(c131e2 p0 p1 p2)]).length, pI (w64 (r36.next + 1))]), (1544, ob0 (roNode (r36.nodes ++ [(c131e2 p0 p1 p2)])))] trivial (by kernel_rfl) ?_)
       refine DW.seq (RK hnt (nn 6 []) [(6, rr 1048), (7, pI p0.next), (8, pI 0)] [(1048, bx [ow 1544 (r36.nodes ++ [(c131e2 p0 p1 p2)]).length, pI (w64 (r36.next + 1))]), (1544, ob0 (roNode (r36.nodes ++ [(c131e2 p0 p1 p2)])))] trivial (by kernel_rfl) ?_)
       refine DW.ret ?_
       obtain rfl := Option.some.inj hm
       refine retOK (bs' := [roNode (r36.nodes ++ [(c131e2 p0 p1 p2)])]) [1544] (.tup [.agg [ow 0 (r36.nodes ++ [(c131e2 p0 p1 p2)]).length, pI (w64 (r36.next + 1))], pI p0.next, pI 0]) (by kernel_rfl) ?_ ?_
       · rfl
       · rfl
     ·
      rcases bt (decide (r32 ≥ 8)) with h33 | h33
      ·
       replace hm := if_t h33 hm
       refine RK hnt (nn 2 (.call 164 [] true (pI r32) [] [] :: nn 2 (sk 4 (pT :: .no :: sk 3 (pT :: []))))) [(1, pI p1), (2, pS p2), (3, rr 1024), (6, rr 1048), (65, pB true)] [(c131e3 p0), (c131e1)] (an (Depth_ref5Spec p0 p1 r32 hr32) (an5 h33 (an4 tt trivial))) (by kernel_rfl) ?_
       exact joinDone true hm .refl
      ·
       replace hm := if_f h33 hm
       rcases bt (decide (((p0.nodes.length : Nat) : Int) ≥ 64)) with h34 | h34
       ·
        replace hm := if_t h34 hm
        refine RK hnt (nn 2 (.call 164 [] true (pI r32) [] [] :: nn 6 (pF :: .no :: sk 3 (pT :: [])))) [(1, pI p1), (2, pS p2), (3, rr 1024), (6, rr 1048), (65, pB true)] [(c131e3 p0), (c131e1)] (an (Depth_ref5Spec p0 p1 r32 hr32) (an5 h33 (an4 h34 trivial))) (by kernel_rfl) ?_
        exact joinDone true hm .refl
       ·
        replace hm := if_f h34 hm
        refine RK hnt (nn 2 (.call 164 [] true (pI r32) [] [] :: nn 6 (pF :: nn 4 (pF :: [])))) [(1, pI p1), (2, pS p2), (3, rr 1024), (6, rr 1048), (65, pB (decide (p0.next > 2147483647)))] [(c131e3 p0), (c131e1)] (an (Depth_ref5Spec p0 p1 r32 hr32) (an5 h33 (an4 h34 trivial))) (by kernel_rfl) ?_
        exact joinDone (decide (p0.next > 2147483647)) hm .refl
 ·
  rcases bt (!r1) with h2 | h2
  ·
   replace hm := if_t h2 hm
   refine RK hnt (.no :: .call 110 [] true (pB r1) [] [] :: nn 2 (sk 3 (pT :: []))) [(1, pI p1), (2, pS p2), (3, rr 1024), (6, rr 1048), (18, pB true)] [(c131e3 p0), (c131e1)] (an (Check_ref5Spec p0 r1 hr1) (an4 h2 trivial)) (by kernel_rfl) ?_
   exact joinDone true hm .refl
  ·
   replace hm := if_f h2 hm
   obtain ⟨r3, hr3, hm⟩ := bind_open hm
   refine RK hnt (.no :: .call 110 [] true (pB r1) [] [] :: nn 3 (.call 163 [] true (pB r3) [] [] :: .no :: pF :: [])) [(1, pI p1), (2, pS p2), (3, rr 1024), (6, rr 1048), (18, pB (!r3))] [(c131e3 p0), (c131e1)] (an (Check_ref5Spec p0 r1 hr1) (an2 h2 (an (Valid_ref1Spec p2 r3 hr3) (an2 h2 trivial)))) (by kernel_rfl) ?_
   exact joinDone (!r3) hm .refl

theorem Copy_ref6Spec (p0 : Hierarchy) (RES : Hierarchy) (hm : Copy_ref6 p0 = some RES) : Spec Tryz.prog 105 [.p (.agg (encHierarchy p0))] [] (.agg [ow 0 RES.tree.nodes.length, pI RES.tree.next, ow 1 RES.tasks.length, pI RES.next]) [] [roNode RES.tree.nodes, roTask RES.tasks] := by
 unfold Copy_ref6 at hm
 refine spec_of Tgood (T := Tt) Tryz.func105 (by decide) (c := _) rfl rfl (sl := [(0, .p (.agg (encHierarchy p0)))]) (ob := []) (Nat.le_of_ble_eq_true rfl) (Nat.le_of_ble_eq_true rfl) (by kernel_rfl) (by kernel_rfl) ?_
 intro cx hnt
 refine DW.start ?_
 refine DW.seq (RK hnt (nn 2 []) [(1, rr 1008), (2, rr 1016)] [(1008, bx (pm (encHierarchy p0))), (1016, bx [.p (.sl .nil 0 0 (fun _ => [])), pI 0, .p (.sl .nil 0 0 (fun _ => [])), pI 0])] trivial (by kernel_rfl) ?_)
 obtain ⟨r1, hr1, hm⟩ := bind_open hm
 obtain ⟨g2, hm⟩ := guard_open hm
 refine DW.seq (RN hnt (nn 2 (.call 122 [] true (.agg [ow 0 r1.nodes.length, pI r1.next]) [] [roNode r1.nodes] :: nn 7 [])) [(2, rr 1016)] [(1016, bx [ow 1040 r1.nodes.length, pI r1.next, ow 1064 p0.tasks.length, pI p0.next]), (1040, ob0 (roNode r1.nodes)), (1064, ob0 (roTask p0.tasks))] [] [(1064, .row 4 p0.tasks.length (elTask p0.tasks))] (an (Copy_ref5Spec p0.tree r1 hr1) (an (by omega : p0.tasks.length * 32 ≤ 140737488355328) trivial)) (by kernel_rfl) .nil (.cons rfl (BLe.typed RowIs.elems) .nil) ?_)
 refine DW.ret ?_
 obtain rfl := Option.some.inj hm
 refine retOK (bs' := [roNode r1.nodes, roTask p0.tasks]) [1040, 1064] (.agg [ow 0 r1.nodes.length, pI r1.next, ow 1 p0.tasks.length, pI p0.next]) (by kernel_rfl) ?_ ?_
 · rfl
 · rfl

abbrev c79e1 : Nat × Obj := (1048, bx [.p (.sl .nil 0 0 (fun _ => [])), pI 0, .p (.sl .nil 0 0 (fun _ => [])), pI 0])
abbrev c79e2 : Nat × Obj := (1048, bx [ow 100000 0, pI 0, ow 100001 0, pI 0])
abbrev c79e3 : Nat × Obj := (1048, bx [ow 100000 0, pI 0, .p (.sl .nil 0 0 (fun _ => [])), pI 0])
abbrev c79e4 (r3 : Tree × Int × Int) : Nat × Obj := (1072, bx [ow 1176 r3.1.nodes.length, pI r3.1.next])
abbrev c79e5 (r3 : Tree × Int × Int) : Nat × Obj := (1176, ob0 (roNode r3.1.nodes))
theorem Create_ref8Spec (p0 : Hierarchy) (p1 : Int) (p2 : ByteArray) (RES : Hierarchy × Int × Int) (hm : Create_ref8 p0 p1 p2 = some RES) : Spec Tryz.prog 79 [.p (.agg (encHierarchy p0)), pI p1, pS p2] [] (.tup [.agg [ow 0 RES.1.tree.nodes.length, pI RES.1.tree.next, ow 1 RES.1.tasks.length, pI RES.1.next], pI RES.2.1, pI RES.2.2]) [] [roNode RES.1.tree.nodes, roTask RES.1.tasks] := by
 unfold Create_ref8 at hm
 refine spec_of Tgood (T := Tt) Tryz.func79 (by decide) (c := _) rfl rfl (sl := [(0, .p (.agg (encHierarchy p0))), (1, pI p1), (2, pS p2)]) (ob := []) (Nat.le_of_ble_eq_true rfl) (Nat.le_of_ble_eq_true rfl) (by kernel_rfl) (by kernel_rfl) ?_
 intro cx hnt
 refine DW.start ?_
 refine DW.seq (RK hnt (nn 4 []) [(1, pI p1), (2, pS p2), (3, rr 1024), (6, rr 1048)] [(1024, bx (pm (encHierarchy p0))), (c79e1)] trivial (by kernel_rfl) ?_)
 obtain ⟨r1, hr1, hm⟩ := bind_open hm
 refine DW.seq (DW.seq (RK hnt (.no :: .call 129 [] true (pB r1) [] [] :: .no :: []) [(1, pI p1), (2, pS p2), (3, rr 1024), (6, rr 1048), (15, pB (!r1))] [(1024, bx (pm (encHierarchy p0))), (c79e1)] (an (Fits_ref8Spec p0 r1 hr1) trivial) (by kernel_rfl) ?_))
 refine DW.cond (!r1) rfl rfl ?_ ?_
 ·
  intro h2
  replace hm := if_t h2 hm
  refine DW.seq (RK hnt (nn 4 []) [(6, rr 1048), (7, pI 0), (8, pI 1)] [(c79e1)] trivial (by kernel_rfl) ?_)
  refine DW.conv (τ := mkSt [(6, rr 1048), (7, pI 0), (8, pI 1)] [(c79e2), (100000, ob0 (roNode [])), (100001, ob0 (roTask []))]) (Conv.trans (τ := mkSt [(6, rr 1048), (7, pI 0), (8, pI 1)] ((100000, ⟨0, .row 6 0 (elems encNode dNode [])⟩) :: [(c79e3)])) (Conv.adopt 100000 6 (elems encNode dNode []) rfl rfl (.rfl _) (.box (.cons (.nil _ _) (.cons (.rfl _) (.cons (.rfl _) (.cons (.rfl _) (.rfl _))))) (.rfl _))) (Conv.trans (τ := mkSt [(6, rr 1048), (7, pI 0), (8, pI 1)] [(c79e3), (100000, ob0 (roNode []))]) (Conv.tp [] [] (by kernel_rfl) .nil .nil) (Conv.trans (τ := mkSt [(6, rr 1048), (7, pI 0), (8, pI 1)] ((100001, ⟨0, .row 4 0 (elems encTask dTask [])⟩) :: [(c79e2), (100000, ob0 (roNode []))])) (Conv.adopt 100001 4 (elems encTask dTask []) rfl rfl (.rfl _) (.box (.cons (.rfl _) (.cons (.rfl _) (.cons (.nil _ _) (.cons (.rfl _) (.rfl _))))) (.keep (.rfl _)))) (Conv.trans (τ := mkSt [(6, rr 1048), (7, pI 0), (8, pI 1)] [(c79e2), (100000, ob0 (roNode [])), (100001, ob0 (roTask []))]) (Conv.tp [] [] (by kernel_rfl) .nil .nil) .refl)))) ?_
  refine DW.ret ?_
  obtain rfl := Option.some.inj hm
  refine retOK (bs' := [roNode [], roTask []]) [100000, 100001] (.tup [.agg [ow 0 0, pI 0, ow 1 0, pI 0], pI 0, pI 1]) (by kernel_rfl) ?_ ?_
  · rfl
  · rfl
 ·
  intro h2
  replace hm := if_f h2 hm
  refine DW.skip ?_
  obtain ⟨r3, hr3, hm⟩ := bind_open hm
  refine DW.seq (RK hnt (nn 4 (.call 131 [] true (.tup [.agg [ow 0 r3.1.nodes.length, pI r3.1.next], pI r3.2.1, pI r3.2.2]) [] [roNode r3.1.nodes] :: nn 8 [])) [(3, rr 1024), (6, rr 1048), (9, rr 1072), (10, pI r3.2.1), (11, pI r3.2.2)] [(1024, bx (pm (encHierarchy p0))), (c79e1), (c79e4 r3), (c79e5 r3)] (an (Add_ref5Spec p0.tree p1 p2 r3 hr3) trivial) (by kernel_rfl) ?_)
  refine DW.seq (DW.seq (RK hnt (nn 2 []) [(3, rr 1024), (6, rr 1048), (9, rr 1072), (10, pI r3.2.1), (11, pI r3.2.2), (27, pB (r3.2.2 != 0))] [(1024, bx (pm (encHierarchy p0))), (c79e1), (c79e4 r3), (c79e5 r3)] trivial (by kernel_rfl) ?_))
  refine DW.cond (r3.2.2 != 0) rfl rfl ?_ ?_
  ·
   intro h4
   replace hm := if_t h4 hm
   refine DW.seq (RK hnt (nn 5 []) [(6, rr 1048), (7, pI 0), (8, pI r3.2.2)] [(c79e1)] trivial (by kernel_rfl) ?_)
   refine DW.conv (τ := mkSt [(6, rr 1048), (7, pI 0), (8, pI r3.2.2)] [(c79e2), (100000, ob0 (roNode [])), (100001, ob0 (roTask []))]) (Conv.trans (τ := mkSt [(6, rr 1048), (7, pI 0), (8, pI r3.2.2)] ((100000, ⟨0, .row 6 0 (elems encNode dNode [])⟩) :: [(c79e3)])) (Conv.adopt 100000 6 (elems encNode dNode []) rfl rfl (.rfl _) (.box (.cons (.nil _ _) (.cons (.rfl _) (.cons (.rfl _) (.cons (.rfl _) (.rfl _))))) (.rfl _))) (Conv.trans (τ := mkSt [(6, rr 1048), (7, pI 0), (8, pI r3.2.2)] [(c79e3), (100000, ob0 (roNode []))]) (Conv.tp [] [] (by kernel_rfl) .nil .nil) (Conv.trans (τ := mkSt [(6, rr 1048), (7, pI 0), (8, pI r3.2.2)] ((100001, ⟨0, .row 4 0 (elems encTask dTask [])⟩) :: [(c79e2), (100000, ob0 (roNode []))])) (Conv.adopt 100001 4 (elems encTask dTask []) rfl rfl (.rfl _) (.box (.cons (.rfl _) (.cons (.rfl _) (.cons (.nil _ _) (.cons (.rfl _) (.rfl _))))) (.keep (.rfl _)))) (Conv.trans (τ := mkSt [(6, rr 1048), (7, pI 0), (8, pI r3.2.2)] [(c79e2), (100000, ob0 (roNode [])), (100001, ob0 (roTask []))]) (Conv.tp [] [] (by kernel_rfl) .nil .nil) .refl)))) ?_
   refine DW.ret ?_
   obtain rfl := Option.some.inj hm
   refine retOK (bs' := [roNode [], roTask []]) [100000, 100001] (.tup [.agg [ow 0 0, pI 0, ow 1 0, pI 0], pI 0, pI r3.2.2]) (by kernel_rfl) ?_ ?_
   · rfl
   · rfl
  ·
   intro h4
   replace hm := if_f h4 hm
   refine DW.skip ?_
   obtain ⟨r5, hr5, hm⟩ := bind_open hm
   refine DW.seq (RK hnt (.no :: .call 105 [] true (.agg [ow 0 r5.tree.nodes.length, pI r5.tree.next, ow 1 r5.tasks.length, pI r5.next]) [] [roNode r5.tree.nodes, roTask r5.tasks] :: nn 2 []) [(6, rr 1048), (9, rr 1072), (10, pI r3.2.1), (12, rr 1096)] [(c79e1), (c79e4 r3), (1096, bx [ow 1248 r5.tree.nodes.length, pI r5.tree.next, ow 1249 r5.tasks.length, pI r5.next]), (c79e5 r3), (1248, ob0 (roNode r5.tree.nodes)), (1249, ob0 (roTask r5.tasks))] (an (Copy_ref6Spec p0 r5 hr5) trivial) (by kernel_rfl) ?_)
   refine DW.seq (RK hnt (nn 3 []) [(6, rr 1048), (10, pI r3.2.1), (12, rr 1096)] [(c79e1), (1096, bx [ow 1176 r3.1.nodes.length, pI r3.1.next, ow 1249 r5.tasks.length, pI r5.next]), (c79e5 r3), (1249, ob0 (roTask r5.tasks))] trivial (by kernel_rfl) ?_)
   refine DW.seq (RK hnt (nn 5 []) [(6, rr 1048), (7, pI r3.2.1), (8, pI 0)] [(1048, bx [ow 1176 r3.1.nodes.length, pI r3.1.next, ow 1249 r5.tasks.length, pI r5.next]), (c79e5 r3), (1249, ob0 (roTask r5.tasks))] trivial (by kernel_rfl) ?_)
   refine DW.ret ?_
   obtain rfl := Option.some.inj hm
   refine retOK (bs' := [roNode r3.1.nodes, roTask r5.tasks]) [1176, 1249] (.tup [.agg [ow 0 r3.1.nodes.length, pI r3.1.next, ow 1 r5.tasks.length, pI r5.next], pI r3.2.1, pI 0]) (by kernel_rfl) ?_ ?_
   · rfl
   · rfl

abbrev c121e1 : Nat × Obj := (1032, bx [.p (.sl .nil 0 0 (fun _ => [])), pI 0, .p (.sl .nil 0 0 (fun _ => [])), pI 0])
abbrev c121e2 (r3 : Hierarchy) : Nat × Obj := (1056, bx [ow 1152 r3.tree.nodes.length, pI r3.tree.next, ow 1153 r3.tasks.length, pI r3.next])
abbrev c121e3 (r3 : Hierarchy) : Nat × Obj := (1152, ob0 (roNode r3.tree.nodes))
abbrev c121e4 : Nat × Obj := (1032, bx [ow 100000 0, pI 0, ow 100001 0, pI 0])
abbrev c121e5 : Nat × Obj := (1032, bx [ow 100000 0, pI 0, .p (.sl .nil 0 0 (fun _ => [])), pI 0])
theorem add_ref6Spec (p0 : Hierarchy) (p1 : Task) (RES : Hierarchy × Int × Int) (hm : add_ref6 p0 p1 = some RES) : Spec Tryz.prog 121 [.p (.agg (encHierarchy p0)), .p (.agg (encTask p1))] [] (.tup [.agg [ow 0 RES.1.tree.nodes.length, pI RES.1.tree.next, ow 1 RES.1.tasks.length, pI RES.1.next], pI RES.2.1, pI RES.2.2]) [] [roNode RES.1.tree.nodes, roTask RES.1.tasks] := by
 unfold add_ref6 at hm
 refine spec_of Tgood (T := Tt) Tryz.func121 (by decide) (c := _) rfl rfl (sl := [(0, .p (.agg (encHierarchy p0))), (1, .p (.agg (encTask p1)))]) (ob := []) (Nat.le_of_ble_eq_true rfl) (Nat.le_of_ble_eq_true rfl) (by kernel_rfl) (by kernel_rfl) ?_
 intro cx hnt
 refine DW.start ?_
 refine DW.seq (RK hnt (nn 5 []) [(2, rr 1016), (3, rr 1024), (4, rr 1032)] [(1016, bx (pm (encHierarchy p0))), (1024, bx (pm (encTask p1))), (c121e1)] trivial (by kernel_rfl) ?_)
 refine DW.seq (DW.seq (DW.regJ (sl2 := [(2, rr 1016), (3, rr 1024), (4, rr 1032), (16, pB ((decide (((p0.tasks.length : Nat) : Int) ≥ 128)) || (decide (p0.next > 2147483647))))]) (ob2 := [(1016, bx (pm (encHierarchy p0))), (1024, bx (pm (encTask p1))), (c121e1)]) ?_ ?_))
 ·
  rcases bt (decide (((p0.tasks.length : Nat) : Int) ≥ 128)) with h1 | h1
  ·
   exact RT hnt (nn 5 (sk 3 (pT :: []))) [(16, pB true)] (an4 h1 trivial) (by kernel_rfl) (.cons rfl (.of_eq (by rw [h1]; try rfl)) .nil)
  ·
   exact RT hnt (nn 8 (pF :: [])) [(16, pB (decide (p0.next > 2147483647)))] (an4 h1 trivial) (by kernel_rfl) (.cons rfl (.of_eq (by rw [h1]; try rfl)) .nil)
 ·
  refine DW.cond ((decide (((p0.tasks.length : Nat) : Int) ≥ 128)) || (decide (p0.next > 2147483647))) rfl rfl ?_ ?_
  ·
   intro h2
   replace hm := if_t h2 hm
   refine DW.seq (RK hnt (nn 4 []) [(4, rr 1032), (5, pI 0), (6, pI 7)] [(c121e1)] trivial (by kernel_rfl) ?_)
   refine DW.conv (τ := mkSt [(4, rr 1032), (5, pI 0), (6, pI 7)] [(c121e4), (100000, ob0 (roNode [])), (100001, ob0 (roTask []))]) (Conv.trans (τ := mkSt [(4, rr 1032), (5, pI 0), (6, pI 7)] ((100000, ⟨0, .row 6 0 (elems encNode dNode [])⟩) :: [(c121e5)])) (Conv.adopt 100000 6 (elems encNode dNode []) rfl rfl (.rfl _) (.box (.cons (.nil _ _) (.cons (.rfl _) (.cons (.rfl _) (.cons (.rfl _) (.rfl _))))) (.rfl _))) (Conv.trans (τ := mkSt [(4, rr 1032), (5, pI 0), (6, pI 7)] [(c121e5), (100000, ob0 (roNode []))]) (Conv.tp [] [] (by kernel_rfl) .nil .nil) (Conv.trans (τ := mkSt [(4, rr 1032), (5, pI 0), (6, pI 7)] ((100001, ⟨0, .row 4 0 (elems encTask dTask [])⟩) :: [(c121e4), (100000, ob0 (roNode []))])) (Conv.adopt 100001 4 (elems encTask dTask []) rfl rfl (.rfl _) (.box (.cons (.rfl _) (.cons (.rfl _) (.cons (.nil _ _) (.cons (.rfl _) (.rfl _))))) (.keep (.rfl _)))) (Conv.trans (τ := mkSt [(4, rr 1032), (5, pI 0), (6, pI 7)] [(c121e4), (100000, ob0 (roNode [])), (100001, ob0 (roTask []))]) (Conv.tp [] [] (by kernel_rfl) .nil .nil) .refl)))) ?_
   refine DW.ret ?_
   obtain rfl := Option.some.inj hm
   refine retOK (bs' := [roNode [], roTask []]) [100000, 100001] (.tup [.agg [ow 0 0, pI 0, ow 1 0, pI 0], pI 0, pI 7]) (by kernel_rfl) ?_ ?_
   · rfl
   · rfl
  ·
   intro h2
   replace hm := if_f h2 hm
   refine DW.skip ?_
   obtain ⟨r3, hr3, hm⟩ := bind_open hm
   refine DW.seq (RK hnt (.no :: .call 105 [] true (.agg [ow 0 r3.tree.nodes.length, pI r3.tree.next, ow 1 r3.tasks.length, pI r3.next]) [] [roNode r3.tree.nodes, roTask r3.tasks] :: nn 2 []) [(2, rr 1016), (3, rr 1024), (4, rr 1032), (7, rr 1056)] [(1016, bx (pm (encHierarchy p0))), (1024, bx (pm (encTask p1))), (c121e1), (c121e2 r3), (c121e3 r3), (1153, ob0 (roTask r3.tasks))] (an (Copy_ref6Spec p0 r3 hr3) trivial) (by kernel_rfl) ?_)
   refine DW.seq (RK hnt (nn 4 []) [(3, rr 1024), (4, rr 1032), (7, rr 1056)] [(1024, bx [pI p0.next, pI p1.process, pI p1.group, pI p1.user]), (c121e1), (c121e2 r3), (c121e3 r3), (1153, ob0 (roTask r3.tasks))] trivial (by kernel_rfl) ?_)
   refine DW.seq (DW.seq (RK hnt (nn 3 []) [(3, rr 1024), (4, rr 1032), (7, rr 1056), (25, pB (p1.process == 0))] [(1024, bx [pI p0.next, pI p1.process, pI p1.group, pI p1.user]), (c121e1), (c121e2 r3), (c121e3 r3), (1153, ob0 (roTask r3.tasks))] trivial (by kernel_rfl) ?_))
   refine DW.join (ι := Task) (fun (y1 : Task) => mkSt [(3, rr 1024), (4, rr 1032), (7, rr 1056)] [(1024, bx (pm (encTask y1))), (c121e1), (c121e2 r3), (c121e3 r3), (1153, ob0 (roTask r3.tasks))]) (fun y1 => (add_ref6J1 r3) y1 = some RES) ?_ ?_
   ·
    intro y1 hm
    unfold add_ref6J1 at hm
    obtain ⟨g5, hm⟩ := guard_open hm
    refine DW.seq (RN hnt (nn 7 []) [(3, rr 1024), (4, rr 1032), (7, rr 1056)] [(1024, bx (pm (encTask y1))), (c121e1), (1056, bx [ow 1152 r3.tree.nodes.length, pI r3.tree.next, ow 1153 (r3.tasks ++ [y1]).length, pI r3.next]), (c121e3 r3), (1153, ob0 (roTask (r3.tasks ++ [y1])))] [] [(1056, .box [ow 1152 r3.tree.nodes.length, pI r3.tree.next, ow 1153 (r3.tasks.length + 1), pI r3.next]), (1153, .row 4 (r3.tasks.length + 1) (catF r3.tasks.length (elTask r3.tasks) (cut 4 [vi y1.id, vi y1.process, vi y1.group, vi y1.user])))] (an (by omega : (r3.tasks.length + 1) * 32 ≤ 140737488355328) trivial) (by kernel_rfl) .nil (.cons rfl (.box (.cons .rfl (.cons .rfl (.cons (MLe.ownLen (enc := encTask) (d := dTask) (f := (catF r3.tasks.length (elTask r3.tasks) (cut 4 [vi y1.id, vi y1.process, vi y1.group, vi y1.user]))) (RowIs.cat RowIs.elems (RowIs.lit (enc := encTask) (d := dTask) (n := 1) (f := (cut 4 [vi y1.id, vi y1.process, vi y1.group, vi y1.user])) [y1] rfl (fun | 0, _ => rfl | n + 1, h => absurd h (by omega))))) (.cons .rfl .nil))))) (.cons rfl (BLe.typed (RowIs.cat RowIs.elems (RowIs.lit (enc := encTask) (d := dTask) (n := 1) (f := (cut 4 [vi y1.id, vi y1.process, vi y1.group, vi y1.user])) [y1] rfl (fun | 0, _ => rfl | n + 1, h => absurd h (by omega))))) .nil)) ?_)
    refine DW.seq (RK hnt (nn 5 []) [(3, rr 1024), (4, rr 1032), (7, rr 1056)] [(1024, bx (pm (encTask y1))), (c121e1), (1056, bx [ow 1152 r3.tree.nodes.length, pI r3.tree.next, ow 1153 (r3.tasks ++ [y1]).length, pI (w64 (r3.next + 1))]), (c121e3 r3), (1153, ob0 (roTask (r3.tasks ++ [y1])))] trivial (by kernel_rfl) ?_)
    refine DW.seq (RK hnt (nn 6 []) [(4, rr 1032), (5, pI y1.id), (6, pI 0)] [(1032, bx [ow 1152 r3.tree.nodes.length, pI r3.tree.next, ow 1153 (r3.tasks ++ [y1]).length, pI (w64 (r3.next + 1))]), (c121e3 r3), (1153, ob0 (roTask (r3.tasks ++ [y1])))] trivial (by kernel_rfl) ?_)
    refine DW.ret ?_
    obtain rfl := Option.some.inj hm
    refine retOK (bs' := [roNode r3.tree.nodes, roTask (r3.tasks ++ [y1])]) [1152, 1153] (.tup [.agg [ow 0 r3.tree.nodes.length, pI r3.tree.next, ow 1 (r3.tasks ++ [y1]).length, pI (w64 (r3.next + 1))], pI y1.id, pI 0]) (by kernel_rfl) ?_ ?_
    · rfl
    · rfl
   ·
    refine DW.cond (p1.process == 0) rfl rfl ?_ ?_
    ·
     intro h4
     replace hm := if_t h4 hm
     refine RK hnt (nn 4 []) [(3, rr 1024), (4, rr 1032), (7, rr 1056)] [(1024, bx [pI p0.next, pI p0.next, pI p1.group, pI p1.user]), (c121e1), (c121e2 r3), (c121e3 r3), (1153, ob0 (roTask r3.tasks))] trivial (by kernel_rfl) ?_
     exact joinDone ({ id := p0.next, process := p0.next, group := p1.group, user := p1.user } : Task) hm .refl
    ·
     intro h4
     replace hm := if_f h4 hm
     refine DW.skip ?_
     exact joinDone ({ id := p0.next, process := p1.process, group := p1.group, user := p1.user } : Task) hm (Conv.tp [] [] (by kernel_rfl) .nil .nil)

abbrev c66e1 : Nat × Obj := (1048, bx [.p (.sl .nil 0 0 (fun _ => [])), pI 0, .p (.sl .nil 0 0 (fun _ => [])), pI 0])
abbrev c66e2 : Nat × Obj := (1048, bx [ow 100000 0, pI 0, ow 100001 0, pI 0])
abbrev c66e3 : Nat × Obj := (1048, bx [ow 100000 0, pI 0, .p (.sl .nil 0 0 (fun _ => [])), pI 0])
abbrev c66e4 (p0 : Hierarchy) : Nat × Obj := (1024, bx (pm (encHierarchy p0)))
theorem Spawn_ref6Spec (p0 : Hierarchy) (p1 : Int) (p2 : Int) (RES : Hierarchy × Int × Int) (hm : Spawn_ref6 p0 p1 p2 = some RES) : Spec Tryz.prog 66 [.p (.agg (encHierarchy p0)), pI p1, pI p2] [] (.tup [.agg [ow 0 RES.1.tree.nodes.length, pI RES.1.tree.next, ow 1 RES.1.tasks.length, pI RES.1.next], pI RES.2.1, pI RES.2.2]) [] [roNode RES.1.tree.nodes, roTask RES.1.tasks] := by
 unfold Spawn_ref6 at hm
 refine spec_of Tgood (T := Tt) Tryz.func66 (by decide) (c := _) rfl rfl (sl := [(0, .p (.agg (encHierarchy p0))), (1, pI p1), (2, pI p2)]) (ob := []) (Nat.le_of_ble_eq_true rfl) (Nat.le_of_ble_eq_true rfl) (by kernel_rfl) (by kernel_rfl) ?_
 intro cx hnt
 refine DW.start ?_
 refine DW.seq (RK hnt (nn 4 []) [(1, pI p1), (2, pI p2), (3, rr 1024), (6, rr 1048)] [(c66e4 p0), (c66e1)] trivial (by kernel_rfl) ?_)
 obtain ⟨r1, hr1, hm⟩ := bind_open hm
 refine DW.seq (DW.seq ?_)
 refine DW.join (ι := Bool) (fun (y1 : Bool) => mkSt [(1, pI p1), (2, pI p2), (3, rr 1024), (6, rr 1048), (19, pB y1)] [(c66e4 p0), (c66e1)]) (fun y1 => (Spawn_ref6J1 p0 p1 p2) y1 = some RES) ?_ ?_
 ·
  intro y1 hm
  unfold Spawn_ref6J1 at hm
  refine DW.cond y1 rfl rfl ?_ ?_
  ·
   intro h4
   replace hm := if_t h4 hm
   refine DW.seq (RK hnt (nn 4 []) [(6, rr 1048), (7, pI 0), (8, pI 1)] [(c66e1)] trivial (by kernel_rfl) ?_)
   refine DW.conv (τ := mkSt [(6, rr 1048), (7, pI 0), (8, pI 1)] [(c66e2), (100000, ob0 (roNode [])), (100001, ob0 (roTask []))]) (Conv.trans (τ := mkSt [(6, rr 1048), (7, pI 0), (8, pI 1)] ((100000, ⟨0, .row 6 0 (elems encNode dNode [])⟩) :: [(c66e3)])) (Conv.adopt 100000 6 (elems encNode dNode []) rfl rfl (.rfl _) (.box (.cons (.nil _ _) (.cons (.rfl _) (.cons (.rfl _) (.cons (.rfl _) (.rfl _))))) (.rfl _))) (Conv.trans (τ := mkSt [(6, rr 1048), (7, pI 0), (8, pI 1)] [(c66e3), (100000, ob0 (roNode []))]) (Conv.tp [] [] (by kernel_rfl) .nil .nil) (Conv.trans (τ := mkSt [(6, rr 1048), (7, pI 0), (8, pI 1)] ((100001, ⟨0, .row 4 0 (elems encTask dTask [])⟩) :: [(c66e2), (100000, ob0 (roNode []))])) (Conv.adopt 100001 4 (elems encTask dTask []) rfl rfl (.rfl _) (.box (.cons (.rfl _) (.cons (.rfl _) (.cons (.nil _ _) (.cons (.rfl _) (.rfl _))))) (.keep (.rfl _)))) (Conv.trans (τ := mkSt [(6, rr 1048), (7, pI 0), (8, pI 1)] [(c66e2), (100000, ob0 (roNode [])), (100001, ob0 (roTask []))]) (Conv.tp [] [] (by kernel_rfl) .nil .nil) .refl)))) ?_
   refine DW.ret ?_
   obtain rfl := Option.some.inj hm
   refine retOK (bs' := [roNode [], roTask []]) [100000, 100001] (.tup [.agg [ow 0 0, pI 0, ow 1 0, pI 0], pI 0, pI 1]) (by kernel_rfl) ?_ ?_
   · rfl
   · rfl
  ·
   intro h4
   replace hm := if_f h4 hm
   refine DW.skip ?_
   obtain ⟨r5, hr5, hm⟩ := bind_open hm
   refine DW.seq (DW.seq (RK hnt (nn 3 (.call 88 [] true (pB r5) [] [] :: .no :: [])) [(1, pI p1), (2, pI p2), (3, rr 1024), (6, rr 1048), (25, pB (!r5))] [(c66e4 p0), (c66e1)] (an (Has_ref5Spec p0.tree p1 r5 hr5) trivial) (by kernel_rfl) ?_))
   refine DW.cond (!r5) rfl rfl ?_ ?_
   ·
    intro h6
    replace hm := if_t h6 hm
    refine DW.seq (RK hnt (nn 4 []) [(6, rr 1048), (7, pI 0), (8, pI 4)] [(c66e1)] trivial (by kernel_rfl) ?_)
    refine DW.conv (τ := mkSt [(6, rr 1048), (7, pI 0), (8, pI 4)] [(c66e2), (100000, ob0 (roNode [])), (100001, ob0 (roTask []))]) (Conv.trans (τ := mkSt [(6, rr 1048), (7, pI 0), (8, pI 4)] ((100000, ⟨0, .row 6 0 (elems encNode dNode [])⟩) :: [(c66e3)])) (Conv.adopt 100000 6 (elems encNode dNode []) rfl rfl (.rfl _) (.box (.cons (.nil _ _) (.cons (.rfl _) (.cons (.rfl _) (.cons (.rfl _) (.rfl _))))) (.rfl _))) (Conv.trans (τ := mkSt [(6, rr 1048), (7, pI 0), (8, pI 4)] [(c66e3), (100000, ob0 (roNode []))]) (Conv.tp [] [] (by kernel_rfl) .nil .nil) (Conv.trans (τ := mkSt [(6, rr 1048), (7, pI 0), (8, pI 4)] ((100001, ⟨0, .row 4 0 (elems encTask dTask [])⟩) :: [(c66e2), (100000, ob0 (roNode []))])) (Conv.adopt 100001 4 (elems encTask dTask []) rfl rfl (.rfl _) (.box (.cons (.rfl _) (.cons (.rfl _) (.cons (.nil _ _) (.cons (.rfl _) (.rfl _))))) (.keep (.rfl _)))) (Conv.trans (τ := mkSt [(6, rr 1048), (7, pI 0), (8, pI 4)] [(c66e2), (100000, ob0 (roNode [])), (100001, ob0 (roTask []))]) (Conv.tp [] [] (by kernel_rfl) .nil .nil) .refl)))) ?_
    refine DW.ret ?_
    obtain rfl := Option.some.inj hm
    refine retOK (bs' := [roNode [], roTask []]) [100000, 100001] (.tup [.agg [ow 0 0, pI 0, ow 1 0, pI 0], pI 0, pI 4]) (by kernel_rfl) ?_ ?_
    · rfl
    · rfl
   ·
    intro h6
    replace hm := if_f h6 hm
    refine DW.skip ?_
    obtain ⟨r7, hr7, hm⟩ := bind_open hm
    refine DW.seq (RK hnt (nn 4 (.call 121 [] true (.tup [.agg [ow 0 r7.1.tree.nodes.length, pI r7.1.tree.next, ow 1 r7.1.tasks.length, pI r7.1.next], pI r7.2.1, pI r7.2.2]) [] [roNode r7.1.tree.nodes, roTask r7.1.tasks] :: nn 6 [])) [(6, rr 1048), (7, pI r7.2.1), (8, pI r7.2.2)] [(1048, bx [ow 1248 r7.1.tree.nodes.length, pI r7.1.tree.next, ow 1249 r7.1.tasks.length, pI r7.1.next]), (1248, ob0 (roNode r7.1.tree.nodes)), (1249, ob0 (roTask r7.1.tasks))] (an (add_ref6Spec p0 ({ id := 0, process := 0, group := p1, user := p2 } : Task) r7 hr7) trivial) (by kernel_rfl) ?_)
    refine DW.ret ?_
    obtain rfl := Option.some.inj hm
    refine retOK (bs' := [roNode r7.1.tree.nodes, roTask r7.1.tasks]) [1248, 1249] (.tup [.agg [ow 0 r7.1.tree.nodes.length, pI r7.1.tree.next, ow 1 r7.1.tasks.length, pI r7.1.next], pI r7.2.1, pI r7.2.2]) (by kernel_rfl) ?_ ?_
    · rfl
    · rfl
 ·
  rcases bt (!r1) with h2 | h2
  ·
   replace hm := if_t h2 hm
   refine RK hnt (.no :: .call 52 [] true (pB r1) [] [] :: nn 2 (sk 2 (pT :: .no :: sk 2 (pT :: [])))) [(1, pI p1), (2, pI p2), (3, rr 1024), (6, rr 1048), (19, pB true)] [(c66e4 p0), (c66e1)] (an (Check_ref6Spec p0 r1 hr1) (an3 h2 (an3 tt trivial))) (by kernel_rfl) ?_
   exact joinDone true hm .refl
  ·
   replace hm := if_f h2 hm
   rcases bt (decide (p2 < 0)) with h3 | h3
   ·
    replace hm := if_t h3 hm
    refine RK hnt (.no :: .call 52 [] true (pB r1) [] [] :: nn 4 (pF :: .no :: sk 2 (pT :: []))) [(1, pI p1), (2, pI p2), (3, rr 1024), (6, rr 1048), (19, pB true)] [(c66e4 p0), (c66e1)] (an (Check_ref6Spec p0 r1 hr1) (an3 h2 (an3 h3 trivial))) (by kernel_rfl) ?_
    exact joinDone true hm .refl
   ·
    replace hm := if_f h3 hm
    refine RK hnt (.no :: .call 52 [] true (pB r1) [] [] :: nn 4 (pF :: nn 3 (pF :: []))) [(1, pI p1), (2, pI p2), (3, rr 1024), (6, rr 1048), (19, pB (decide (p2 > 1048576)))] [(c66e4 p0), (c66e1)] (an (Check_ref6Spec p0 r1 hr1) (an3 h2 (an3 h3 trivial))) (by kernel_rfl) ?_
    exact joinDone (decide (p2 > 1048576)) hm .refl

theorem root_treeSpec (p0 : Node) (RES : Bool) (hm : root_tree p0 = some RES) : Spec Tryz.prog 152 [.p (.agg (encNode p0))] [] (pB RES) [] [] := by
 unfold root_tree at hm
 refine spec_of Tgood (T := Tt) Tryz.func152 (by decide) (c := _) rfl rfl (sl := [(0, .p (.agg (encNode p0)))]) (ob := []) (Nat.le_of_ble_eq_true rfl) (Nat.le_of_ble_eq_true rfl) (by kernel_rfl) (by kernel_rfl) ?_
 intro cx hnt
 refine DW.start ?_
 refine DW.seq (RK hnt (nn 2 []) [(1, rr 1008)] [(1008, bx (pm (encNode p0)))] trivial (by kernel_rfl) ?_)
 refine DW.seq (DW.regJ (sl2 := [(2, pB ((((p0.id == 1) && (p0.parent == 0)) && (beqS p0.name ByteArray.empty)) && (p0.kind == 0)))]) (ob2 := []) ?_ ?_)
 ·
  rcases bt (p0.id == 1) with h1 | h1
  ·
   rcases bt (p0.parent == 0) with h2 | h2
   ·
    rcases bt (beqS p0.name ByteArray.empty) with h3 | h3
    ·
     exact RT hnt (nn 7 (pT :: nn 4 (pT :: nn 4 (pT :: .no :: [])))) [(2, pB (p0.kind == 0))] (an4 h1 (an4 h2 (an4 h3 trivial))) (by kernel_rfl) (.cons rfl (.of_eq (by rw [h1, h2, h3]; try rfl)) .nil)
    ·
     exact RT hnt (nn 7 (pT :: nn 4 (pT :: .no :: sk 3 (pF :: .no :: [])))) [(2, pB false)] (an4 h1 (an4 h2 (an4 h3 trivial))) (by kernel_rfl) (.cons rfl (.of_eq (by rw [h1, h2, h3]; try rfl)) .nil)
   ·
    exact RT hnt (nn 7 (pT :: .no :: sk 3 (pF :: .no :: sk 3 (pF :: .no :: [])))) [(2, pB false)] (an4 h1 (an4 h2 (an4 ff trivial))) (by kernel_rfl) (.cons rfl (.of_eq (by rw [h1, h2]; try rfl)) .nil)
  ·
   exact RT hnt (nn 4 (sk 3 (pF :: .no :: sk 3 (pF :: .no :: sk 3 (pF :: .no :: []))))) [(2, pB false)] (an4 h1 (an2 ff (an6 ff trivial))) (by kernel_rfl) (.cons rfl (.of_eq (by rw [h1]; try rfl)) .nil)
 ·
  refine DW.ret ?_
  obtain rfl := Option.some.inj hm
  refine retOK (bs' := []) [] (pB ((((p0.id == 1) && (p0.parent == 0)) && (beqS p0.name ByteArray.empty)) && (p0.kind == 0))) (by kernel_rfl) ?_ ?_
  · rfl
  · rfl

theorem inner_nameSpec (p0 : Int) (RES : Bool) (hm : inner_name p0 = some RES) : Spec Tryz.prog 176 [.p (vk .u8 p0)] [] (pB RES) [] [] := by
 unfold inner_name at hm
 refine spec_of Tgood (T := Tt) Tryz.func176 (by decide) (c := _) rfl rfl (sl := [(0, .p (vk .u8 p0))]) (ob := []) (Nat.le_of_ble_eq_true rfl) (Nat.le_of_ble_eq_true rfl) (by kernel_rfl) (by kernel_rfl) ?_
 intro cx hnt
 refine DW.start ?_
 refine DW.seq (RK hnt (.no :: []) [(0, .p (vk .u8 p0))] [] trivial (by kernel_rfl) ?_)
 refine DW.seq (DW.regJ (sl2 := [(2, pB ((((((decide (p0 ≥ 97)) && (decide (p0 ≤ 122))) || ((decide (p0 ≥ 65)) && (decide (p0 ≤ 90)))) || ((decide (p0 ≥ 48)) && (decide (p0 ≤ 57)))) || (p0 == 95)) || (p0 == 45)))]) (ob2 := []) ?_ ?_)
 ·
  rcases bt (decide (p0 ≥ 97)) with h1 | h1
  ·
   rcases bt (decide (p0 ≤ 122)) with h2 | h2
   ·
    exact RT hnt (nn 5 (pT :: .no :: sk 6 (pT :: .no :: sk 6 (pT :: .no :: sk 2 (pT :: .no :: sk 2 (pT :: .no :: [])))))) [(2, pB true)] (an3 h1 (an5 h2 (an5 tt (an6 tt trivial)))) (by kernel_rfl) (.cons rfl (.of_eq (by rw [h1, h2]; try rfl)) .nil)
   ·
    rcases bt (decide (p0 ≥ 65)) with h3 | h3
    ·
     rcases bt (decide (p0 ≤ 90)) with h4 | h4
     ·
      exact RT hnt (nn 5 (pT :: nn 6 (pT :: pF :: .no :: sk 6 (pT :: .no :: sk 2 (pT :: .no :: sk 2 (pT :: .no :: [])))))) [(2, pB true)] (an3 h1 (an3 h2 (an2 h3 (an h2 (an h3 (an h2 (an5 h4 (an6 tt trivial)))))))) (by kernel_rfl) (.cons rfl (.of_eq (by rw [h1, h2, h3, h4]; try rfl)) .nil)
     ·
      rcases bt (decide (p0 ≥ 48)) with h5 | h5
      ·
       rcases bt (decide (p0 ≤ 57)) with h6 | h6
       ·
        exact RT hnt (nn 5 (pT :: nn 6 (pT :: pF :: nn 6 (pT :: pF :: .no :: sk 2 (pT :: .no :: sk 2 (pT :: .no :: [])))))) [(2, pB true)] (an3 h1 (an3 h2 (an2 h3 (an h2 (an h3 (an h2 (an3 h4 (an2 h5 (an h4 (an h5 (an h4 (an3 h6 (an3 tt trivial))))))))))))) (by kernel_rfl) (.cons rfl (.of_eq (by rw [h1, h2, h3, h4, h5, h6]; try rfl)) .nil)
       ·
        rcases bt (p0 == 95) with h7 | h7
        ·
         exact RT hnt (nn 5 (pT :: nn 6 (pT :: pF :: nn 6 (pT :: pF :: nn 3 (pF :: .no :: sk 2 (pT :: .no :: [])))))) [(2, pB true)] (an3 h1 (an3 h2 (an2 h3 (an h2 (an h3 (an h2 (an3 h4 (an2 h5 (an h4 (an h5 (an h4 (an3 h6 (an3 h7 trivial))))))))))))) (by kernel_rfl) (.cons rfl (.of_eq (by rw [h1, h2, h3, h4, h5, h6, h7]; try rfl)) .nil)
        ·
         exact RT hnt (nn 5 (pT :: nn 6 (pT :: pF :: nn 6 (pT :: pF :: nn 3 (pF :: nn 3 (pF :: .no :: [])))))) [(2, pB (p0 == 45))] (an3 h1 (an3 h2 (an2 h3 (an h2 (an h3 (an h2 (an3 h4 (an2 h5 (an h4 (an h5 (an h4 (an3 h6 (an3 h7 trivial))))))))))))) (by kernel_rfl) (.cons rfl (.of_eq (by rw [h1, h2, h3, h4, h5, h6, h7]; try rfl)) .nil)
      ·
       rcases bt (p0 == 95) with h8 | h8
       ·
        exact RT hnt (nn 5 (pT :: nn 6 (pT :: pF :: nn 4 (sk 2 (pF :: pF :: nn 3 (pF :: .no :: sk 2 (pT :: .no :: []))))))) [(2, pB true)] (an3 h1 (an3 h2 (an2 h3 (an h2 (an h3 (an h2 (an3 h4 (an2 h5 (an h4 (an h5 (an h4 (an3 ff (an3 h8 trivial))))))))))))) (by kernel_rfl) (.cons rfl (.of_eq (by rw [h1, h2, h3, h4, h5, h8]; try rfl)) .nil)
       ·
        exact RT hnt (nn 5 (pT :: nn 6 (pT :: pF :: nn 4 (sk 2 (pF :: pF :: nn 3 (pF :: nn 3 (pF :: .no :: []))))))) [(2, pB (p0 == 45))] (an3 h1 (an3 h2 (an2 h3 (an h2 (an h3 (an h2 (an3 h4 (an2 h5 (an h4 (an h5 (an h4 (an3 ff (an3 h8 trivial))))))))))))) (by kernel_rfl) (.cons rfl (.of_eq (by rw [h1, h2, h3, h4, h5, h8]; try rfl)) .nil)
    ·
     rcases bt (decide (p0 ≥ 48)) with h9 | h9
     ·
      rcases bt (decide (p0 ≤ 57)) with h10 | h10
      ·
       exact RT hnt (nn 5 (pT :: nn 4 (sk 2 (pF :: pF :: nn 6 (pT :: pF :: .no :: sk 2 (pT :: .no :: sk 2 (pT :: .no :: []))))))) [(2, pB true)] (an3 h1 (an3 h2 (an2 h3 (an h2 (an h3 (an h2 (an3 ff (an2 h9 (an ff (an h9 (an ff (an3 h10 (an3 tt trivial))))))))))))) (by kernel_rfl) (.cons rfl (.of_eq (by rw [h1, h2, h3, h9, h10]; try rfl)) .nil)
      ·
       rcases bt (p0 == 95) with h11 | h11
       ·
        exact RT hnt (nn 5 (pT :: nn 4 (sk 2 (pF :: pF :: nn 6 (pT :: pF :: nn 3 (pF :: .no :: sk 2 (pT :: .no :: []))))))) [(2, pB true)] (an3 h1 (an3 h2 (an2 h3 (an h2 (an h3 (an h2 (an3 ff (an2 h9 (an ff (an h9 (an ff (an3 h10 (an3 h11 trivial))))))))))))) (by kernel_rfl) (.cons rfl (.of_eq (by rw [h1, h2, h3, h9, h10, h11]; try rfl)) .nil)
       ·
        exact RT hnt (nn 5 (pT :: nn 4 (sk 2 (pF :: pF :: nn 6 (pT :: pF :: nn 3 (pF :: nn 3 (pF :: .no :: []))))))) [(2, pB (p0 == 45))] (an3 h1 (an3 h2 (an2 h3 (an h2 (an h3 (an h2 (an3 ff (an2 h9 (an ff (an h9 (an ff (an3 h10 (an3 h11 trivial))))))))))))) (by kernel_rfl) (.cons rfl (.of_eq (by rw [h1, h2, h3, h9, h10, h11]; try rfl)) .nil)
     ·
      rcases bt (p0 == 95) with h12 | h12
      ·
       exact RT hnt (nn 5 (pT :: nn 4 (sk 2 (pF :: pF :: nn 4 (sk 2 (pF :: pF :: nn 3 (pF :: .no :: sk 2 (pT :: .no :: [])))))))) [(2, pB true)] (an3 h1 (an3 h2 (an2 h3 (an h2 (an h3 (an h2 (an3 ff (an2 h9 (an ff (an h9 (an4 ff (an3 h12 trivial)))))))))))) (by kernel_rfl) (.cons rfl (.of_eq (by rw [h1, h2, h3, h9, h12]; try rfl)) .nil)
      ·
       exact RT hnt (nn 5 (pT :: nn 4 (sk 2 (pF :: pF :: nn 4 (sk 2 (pF :: pF :: nn 3 (pF :: nn 3 (pF :: .no :: [])))))))) [(2, pB (p0 == 45))] (an3 h1 (an3 h2 (an2 h3 (an h2 (an h3 (an h2 (an3 ff (an2 h9 (an ff (an h9 (an4 ff (an3 h12 trivial)))))))))))) (by kernel_rfl) (.cons rfl (.of_eq (by rw [h1, h2, h3, h9, h12]; try rfl)) .nil)
  ·
   rcases bt (decide (p0 ≥ 65)) with h13 | h13
   ·
    rcases bt (decide (p0 ≤ 90)) with h14 | h14
    ·
     exact RT hnt (nn 3 (sk 2 (pF :: nn 6 (pT :: pF :: .no :: sk 6 (pT :: .no :: sk 2 (pT :: .no :: sk 2 (pT :: .no :: []))))))) [(2, pB true)] (an3 h1 (an3 ff (an2 h13 (an ff (an h13 (an ff (an5 h14 (an6 tt trivial)))))))) (by kernel_rfl) (.cons rfl (.of_eq (by rw [h1, h13, h14]; try rfl)) .nil)
    ·
     rcases bt (decide (p0 ≥ 48)) with h15 | h15
     ·
      rcases bt (decide (p0 ≤ 57)) with h16 | h16
      ·
       exact RT hnt (nn 3 (sk 2 (pF :: nn 6 (pT :: pF :: nn 6 (pT :: pF :: .no :: sk 2 (pT :: .no :: sk 2 (pT :: .no :: []))))))) [(2, pB true)] (an3 h1 (an3 ff (an2 h13 (an ff (an h13 (an ff (an3 h14 (an2 h15 (an h14 (an h15 (an h14 (an3 h16 (an3 tt trivial))))))))))))) (by kernel_rfl) (.cons rfl (.of_eq (by rw [h1, h13, h14, h15, h16]; try rfl)) .nil)
      ·
       rcases bt (p0 == 95) with h17 | h17
       ·
        exact RT hnt (nn 3 (sk 2 (pF :: nn 6 (pT :: pF :: nn 6 (pT :: pF :: nn 3 (pF :: .no :: sk 2 (pT :: .no :: []))))))) [(2, pB true)] (an3 h1 (an3 ff (an2 h13 (an ff (an h13 (an ff (an3 h14 (an2 h15 (an h14 (an h15 (an h14 (an3 h16 (an3 h17 trivial))))))))))))) (by kernel_rfl) (.cons rfl (.of_eq (by rw [h1, h13, h14, h15, h16, h17]; try rfl)) .nil)
       ·
        exact RT hnt (nn 3 (sk 2 (pF :: nn 6 (pT :: pF :: nn 6 (pT :: pF :: nn 3 (pF :: nn 3 (pF :: .no :: []))))))) [(2, pB (p0 == 45))] (an3 h1 (an3 ff (an2 h13 (an ff (an h13 (an ff (an3 h14 (an2 h15 (an h14 (an h15 (an h14 (an3 h16 (an3 h17 trivial))))))))))))) (by kernel_rfl) (.cons rfl (.of_eq (by rw [h1, h13, h14, h15, h16, h17]; try rfl)) .nil)
     ·
      rcases bt (p0 == 95) with h18 | h18
      ·
       exact RT hnt (nn 3 (sk 2 (pF :: nn 6 (pT :: pF :: nn 4 (sk 2 (pF :: pF :: nn 3 (pF :: .no :: sk 2 (pT :: .no :: [])))))))) [(2, pB true)] (an3 h1 (an3 ff (an2 h13 (an ff (an h13 (an ff (an3 h14 (an2 h15 (an h14 (an h15 (an h14 (an3 ff (an3 h18 trivial))))))))))))) (by kernel_rfl) (.cons rfl (.of_eq (by rw [h1, h13, h14, h15, h18]; try rfl)) .nil)
      ·
       exact RT hnt (nn 3 (sk 2 (pF :: nn 6 (pT :: pF :: nn 4 (sk 2 (pF :: pF :: nn 3 (pF :: nn 3 (pF :: .no :: [])))))))) [(2, pB (p0 == 45))] (an3 h1 (an3 ff (an2 h13 (an ff (an h13 (an ff (an3 h14 (an2 h15 (an h14 (an h15 (an h14 (an3 ff (an3 h18 trivial))))))))))))) (by kernel_rfl) (.cons rfl (.of_eq (by rw [h1, h13, h14, h15, h18]; try rfl)) .nil)
   ·
    rcases bt (decide (p0 ≥ 48)) with h19 | h19
    ·
     rcases bt (decide (p0 ≤ 57)) with h20 | h20
     ·
      exact RT hnt (nn 3 (sk 2 (pF :: nn 4 (sk 2 (pF :: pF :: nn 6 (pT :: pF :: .no :: sk 2 (pT :: .no :: sk 2 (pT :: .no :: [])))))))) [(2, pB true)] (an3 h1 (an3 ff (an2 h13 (an ff (an h13 (an4 ff (an2 h19 (an ff (an h19 (an ff (an3 h20 (an3 tt trivial)))))))))))) (by kernel_rfl) (.cons rfl (.of_eq (by rw [h1, h13, h19, h20]; try rfl)) .nil)
     ·
      rcases bt (p0 == 95) with h21 | h21
      ·
       exact RT hnt (nn 3 (sk 2 (pF :: nn 4 (sk 2 (pF :: pF :: nn 6 (pT :: pF :: nn 3 (pF :: .no :: sk 2 (pT :: .no :: [])))))))) [(2, pB true)] (an3 h1 (an3 ff (an2 h13 (an ff (an h13 (an4 ff (an2 h19 (an ff (an h19 (an ff (an3 h20 (an3 h21 trivial)))))))))))) (by kernel_rfl) (.cons rfl (.of_eq (by rw [h1, h13, h19, h20, h21]; try rfl)) .nil)
      ·
       exact RT hnt (nn 3 (sk 2 (pF :: nn 4 (sk 2 (pF :: pF :: nn 6 (pT :: pF :: nn 3 (pF :: nn 3 (pF :: .no :: [])))))))) [(2, pB (p0 == 45))] (an3 h1 (an3 ff (an2 h13 (an ff (an h13 (an4 ff (an2 h19 (an ff (an h19 (an ff (an3 h20 (an3 h21 trivial)))))))))))) (by kernel_rfl) (.cons rfl (.of_eq (by rw [h1, h13, h19, h20, h21]; try rfl)) .nil)
    ·
     rcases bt (p0 == 95) with h22 | h22
     ·
      exact RT hnt (nn 3 (sk 2 (pF :: nn 4 (sk 2 (pF :: pF :: nn 4 (sk 2 (pF :: pF :: nn 3 (pF :: .no :: sk 2 (pT :: .no :: []))))))))) [(2, pB true)] (an3 h1 (an3 ff (an2 h13 (an ff (an h13 (an4 ff (an2 h19 (an ff (an h19 (an4 ff (an3 h22 trivial))))))))))) (by kernel_rfl) (.cons rfl (.of_eq (by rw [h1, h13, h19, h22]; try rfl)) .nil)
     ·
      exact RT hnt (nn 3 (sk 2 (pF :: nn 4 (sk 2 (pF :: pF :: nn 4 (sk 2 (pF :: pF :: nn 3 (pF :: nn 3 (pF :: .no :: []))))))))) [(2, pB (p0 == 45))] (an3 h1 (an3 ff (an2 h13 (an ff (an h13 (an4 ff (an2 h19 (an ff (an h19 (an4 ff (an3 h22 trivial))))))))))) (by kernel_rfl) (.cons rfl (.of_eq (by rw [h1, h13, h19, h22]; try rfl)) .nil)
 ·
  refine DW.ret ?_
  obtain rfl := Option.some.inj hm
  refine retOK (bs' := []) [] (pB ((((((decide (p0 ≥ 97)) && (decide (p0 ≤ 122))) || ((decide (p0 ≥ 65)) && (decide (p0 ≤ 90)))) || ((decide (p0 ≥ 48)) && (decide (p0 ≤ 57)))) || (p0 == 95)) || (p0 == 45))) (by kernel_rfl) ?_ ?_
  · rfl
  · rfl

abbrev c167e1 (p0 : ByteArray) : Nat × MV := (6, .p (slOf 1 (encK .u8) 0 (bytesL p0)))
abbrev c167e2 (p0 : ByteArray) : Nat × MV := (7, pI ((p0.size : Nat) : Int))
theorem Valid_nameSpec (p0 : ByteArray) (RES : Bool) (hm : Valid_name p0 = some RES) : Spec Tryz.prog 167 [pS p0] [] (pB RES) [] [] := by
 unfold Valid_name at hm
 refine spec_of Tgood (T := Tt) Tryz.func167 (by decide) (c := _) rfl rfl (sl := [(0, pS p0)]) (ob := []) (Nat.le_of_ble_eq_true rfl) (Nat.le_of_ble_eq_true rfl) (by kernel_rfl) (by kernel_rfl) ?_
 intro cx hnt
 refine DW.start ?_
 refine DW.seq (RK hnt (.no :: []) [(0, pS p0)] [] trivial (by kernel_rfl) ?_)
 refine DW.seq (DW.seq (RN hnt (nn 4 []) [(0, pS p0), (c167e1 p0), (c167e2 p0), (8, pI 0)] [] [(6, .p (.sl .unk 1 p0.size (bytesF p0)))] [] trivial (by kernel_rfl) (.cons rfl (MLe.typed RowIs.bytes) .nil) .nil ?_))
 refine DW.block ?_
 obtain ⟨hc1, hm⟩ := guard_open hm
 refine DW.rangeO (fun (k1 : Nat) (s1 : Unit) => mkSt [(0, pS p0), (c167e1 p0), (c167e2 p0), (8, pI ((k1 : Nat) : Int))] []) 0 hm .refl ?_
 intro k1 s1 n1 hk1 hs1 he1
 refine DW.seq (RK hnt (.no :: []) [(0, pS p0), (c167e1 p0), (c167e2 p0), (8, pI ((k1 : Nat) : Int)), (9, pB (decide (((k1 : Nat) : Int) < ((p0.size : Nat) : Int))))] [] trivial (by kernel_rfl) ?_)
 refine DW.seq (DW.cond (decide (((k1 : Nat) : Int) < ((p0.size : Nat) : Int))) rfl rfl ?_ ?_)
 ·
  intro h15
  have hlt1 : k1 < (bytesL p0).length := by have := of_decide_eq_true h15; have := bytesL_length p0; omega
  have hm := hs1 hlt1
  unfold Valid_nameL1 at hm
  refine DW.skip ?_
  refine DW.seq (DW.block ?_)
  refine DW.seq (RK hnt (nn 3 []) [(0, pS p0), (4, .p (vk .u8 ((bytesL p0).getD k1 0))), (c167e1 p0), (c167e2 p0), (8, pI ((k1 : Nat) : Int))] [] (an (nn0 k1) (an (ltc hlt1) trivial)) (by kernel_rfl) ?_)
  obtain ⟨r16, hr16, hm⟩ := bind_open hm
  refine DW.seq (RK hnt (.no :: .call 176 [] true (pB r16) [] [] :: .no :: []) [(0, pS p0), (c167e1 p0), (c167e2 p0), (8, pI ((k1 : Nat) : Int)), (14, pB (!r16))] [] (an (inner_nameSpec ((bytesL p0).getD k1 0) r16 hr16) trivial) (by kernel_rfl) ?_)
  refine DW.cond (!r16) rfl rfl ?_ ?_
  ·
   intro h17
   replace hm := if_t h17 hm
   refine DW.seq (RK hnt (.no :: []) [(2, pB false)] [] trivial (by kernel_rfl) ?_)
   refine DW.ret ?_
   obtain rfl := Option.some.inj hm
   refine retOK (bs' := []) [] (pB false) (by kernel_rfl) ?_ ?_
   · rfl
   · rfl
  ·
   intro h17
   replace hm := if_f h17 hm
   refine DW.skip ?_
   refine DW.done ?_
   show DW _ _ _ _ _
   refine RK hnt (nn 2 []) [(0, pS p0), (c167e1 p0), (c167e2 p0), (8, pI (w64 (((k1 : Nat) : Int) + 1)))] [] trivial (by kernel_rfl) ?_
   exact joinDone () ⟨hlt1, hm⟩ (Conv.tp [(8, pI (w64 (((k1 : Nat) : Int) + 1)))] [] (by kernel_rfl) (.cons rfl (.of_eq (congrArg pI (w64_succ hlt1 hc1))) .nil) .nil)
 ·
  intro h15
  have hge1 : ¬ k1 < (bytesL p0).length := by have := of_decide_eq_false h15; have := bytesL_length p0; omega
  have hm := he1 hge1
  unfold Valid_nameD1 at hm
  refine DW.exit ?_
  refine joinQ_exit ?_
  refine KQ_exit ?_
  refine blockQ_exit ?_
  show DW _ _ _ _ _
  refine DW.seq ?_
  refine DW.join (ι := Bool) (fun (y3 : Bool) => mkSt [(2, pB y3)] []) (fun y3 => Valid_nameJ3 y3 = some RES) ?_ ?_
  ·
   intro y3 hm
   unfold Valid_nameJ3 at hm
   refine DW.ret ?_
   obtain rfl := Option.some.inj hm
   refine retOK (bs' := []) [] (pB y3) (by kernel_rfl) ?_ ?_
   · rfl
   · rfl
  ·
   rcases bt (!(beqS p0 ByteArray.empty)) with h18 | h18
   ·
    replace hm := if_t h18 hm
    rcases bt (decide (((p0.size : Nat) : Int) ≤ 32)) with h19 | h19
    ·
     replace hm := if_t h19 hm
     obtain ⟨g20, hm⟩ := guard_open hm
     refine RK hnt (nn 6 (pT :: nn 4 (pT :: .no :: []))) [(2, pB ((((byteAt p0 0) : Nat) : Int) != 45))] [] (an4 h18 (an2 h19 (an (nn0 0) (an (ltc g20) (an2 h19 trivial))))) (by kernel_rfl) ?_
     exact joinDone ((((byteAt p0 0) : Nat) : Int) != 45) hm .refl
    ·
     replace hm := if_f h19 hm
     refine RK hnt (nn 6 (pT :: .no :: sk 3 (pF :: .no :: []))) [(2, pB false)] [] (an4 h18 (an4 h19 trivial)) (by kernel_rfl) ?_
     exact joinDone false hm .refl
   ·
    replace hm := if_f h18 hm
    refine RK hnt (nn 3 (sk 3 (pF :: .no :: sk 3 (pF :: .no :: [])))) [(2, pB false)] [] (an4 h18 (an4 ff trivial)) (by kernel_rfl) ?_
    exact joinDone false hm .refl

abbrev c153e1 (p1 : Node) : Nat × Obj := (1024, bx (pm (encNode p1)))
abbrev c153e2 (p0 : List Node) (k1 : Nat) := (p0.getD k1 (default : Node))
abbrev c153e3 (p0 : List Node) : Nat × MV := (35, pI ((p0.length : Nat) : Int))
theorem fine_treeSpec (p0 : List Node) (p1 : Node) (RES : Bool) (hm : fine_tree p0 p1 = some RES) : Spec Tryz.prog 153 [.p (slNode p0), .p (.agg (encNode p1))] [] (pB RES) [] [] := by
 unfold fine_tree at hm
 refine spec_of Tgood (T := Tt) Tryz.func153 (by decide) (c := _) rfl rfl (sl := [(0, .p (slNode p0)), (1, .p (.agg (encNode p1)))]) (ob := []) (Nat.le_of_ble_eq_true rfl) (Nat.le_of_ble_eq_true rfl) (by kernel_rfl) (by kernel_rfl) ?_
 intro cx hnt
 refine DW.start ?_
 refine DW.seq (RK hnt (nn 2 []) [(0, .p (slNode p0)), (3, rr 1024)] [(c153e1 p1)] trivial (by kernel_rfl) ?_)
 obtain ⟨g1, hm⟩ := guard_open hm
 refine DW.seq (DW.seq ?_)
 refine DW.join (ι := Bool) (fun (y1 : Bool) => mkSt [(0, .p (slNode p0)), (3, rr 1024), (33, pB y1)] [(c153e1 p1)]) (fun y1 => (fine_treeJ1 p0 p1) y1 = some RES) ?_ ?_
 ·
  intro y1 hm
  unfold fine_treeJ1 at hm
  refine DW.cond y1 rfl rfl ?_ ?_
  ·
   intro h6
   replace hm := if_t h6 hm
   refine DW.seq (RK hnt (.no :: []) [(4, pB false)] [] trivial (by kernel_rfl) ?_)
   refine DW.ret ?_
   obtain rfl := Option.some.inj hm
   refine retOK (bs' := []) [] (pB false) (by kernel_rfl) ?_ ?_
   · rfl
   · rfl
  ·
   intro h6
   replace hm := if_f h6 hm
   refine DW.skip ?_
   refine DW.seq (RK hnt (.no :: []) [(0, .p (slNode p0)), (3, rr 1024), (5, pB false)] [(c153e1 p1)] trivial (by kernel_rfl) ?_)
   refine DW.seq (DW.seq (RK hnt (nn 3 []) [(3, rr 1024), (5, pB false), (34, .p (slNode p0)), (c153e3 p0), (36, pI 0)] [(c153e1 p1)] trivial (by kernel_rfl) ?_))
   refine DW.block ?_
   obtain ⟨hc1, hm⟩ := guard_open hm
   refine DW.rangeO (fun (k1 : Nat) (s1 : Bool) => mkSt [(3, rr 1024), (5, pB s1), (34, .p (slNode p0)), (c153e3 p0), (36, pI ((k1 : Nat) : Int))] [(c153e1 p1)]) dNode hm .refl ?_
   intro k1 s1 n1 hk1 hs1 he1
   refine DW.seq (RK hnt (.no :: []) [(3, rr 1024), (5, pB s1), (34, .p (slNode p0)), (c153e3 p0), (36, pI ((k1 : Nat) : Int)), (37, pB (decide (((k1 : Nat) : Int) < ((p0.length : Nat) : Int))))] [(c153e1 p1)] trivial (by kernel_rfl) ?_)
   refine DW.seq (DW.cond (decide (((k1 : Nat) : Int) < ((p0.length : Nat) : Int))) rfl rfl ?_ ?_)
   ·
    intro h16
    have hlt1 : k1 < p0.length := by have := of_decide_eq_true h16; omega
    have hm := hs1 hlt1
    unfold fine_treeL1 at hm
    refine DW.skip ?_
    refine DW.seq (DW.block ?_)
    refine DW.seq (RK hnt (nn 4 []) [(3, rr 1024), (5, pB s1), (7, rr 1056), (34, .p (slNode p0)), (c153e3 p0), (36, pI ((k1 : Nat) : Int))] [(c153e1 p1), (1056, bx (pm (encNode (c153e2 p0 k1))))] (an (nn0 k1) (an (ltc hlt1) trivial)) (by kernel_rfl) ?_)
    refine DW.seq (DW.regJ (sl2 := [(3, rr 1024), (5, pB (s1 || ((c153e2 p0 k1).id == p1.parent))), (7, rr 1056), (34, .p (slNode p0)), (c153e3 p0), (36, pI ((k1 : Nat) : Int))]) (ob2 := [(c153e1 p1), (1056, bx (pm (encNode (c153e2 p0 k1))))]) ?_ ?_)
    ·
     rcases bt s1 with h17 | h17
     ·
      exact RT hnt (nn 2 (sk 5 (pT :: .no :: []))) [(5, pB true)] (an6 h17 trivial) (by kernel_rfl) (.cons rfl (.of_eq (by rw [h17]; try rfl)) .nil)
     ·
      exact RT hnt (nn 7 (pF :: .no :: [])) [(5, pB ((c153e2 p0 k1).id == p1.parent))] (an6 h17 trivial) (by kernel_rfl) (.cons rfl (.of_eq (by rw [h17]; try rfl)) .nil)
    ·
     refine DW.seq (DW.regJ (sl2 := [(3, rr 1024), (5, pB (s1 || ((c153e2 p0 k1).id == p1.parent))), (34, .p (slNode p0)), (c153e3 p0), (36, pI ((k1 : Nat) : Int)), (59, pB (((c153e2 p0 k1).parent == p1.parent) && (beqS (c153e2 p0 k1).name p1.name)))]) (ob2 := [(c153e1 p1)]) ?_ ?_)
     ·
      rcases bt ((c153e2 p0 k1).parent == p1.parent) with h18 | h18
      ·
       exact RT hnt (nn 11 (pT :: [])) [(59, pB (beqS (c153e2 p0 k1).name p1.name))] (an6 h18 trivial) (by kernel_rfl) (.cons rfl (.of_eq (by rw [h18]; try rfl)) .nil)
      ·
       exact RT hnt (nn 6 (sk 5 (pF :: []))) [(59, pB false)] (an6 h18 trivial) (by kernel_rfl) (.cons rfl (.of_eq (by rw [h18]; try rfl)) .nil)
     ·
      refine DW.cond (((c153e2 p0 k1).parent == p1.parent) && (beqS (c153e2 p0 k1).name p1.name)) rfl rfl ?_ ?_
      ·
       intro h19
       replace hm := if_t h19 hm
       refine DW.seq (RK hnt (.no :: []) [(4, pB false)] [] trivial (by kernel_rfl) ?_)
       refine DW.ret ?_
       obtain rfl := Option.some.inj hm
       refine retOK (bs' := []) [] (pB false) (by kernel_rfl) ?_ ?_
       · rfl
       · rfl
      ·
       intro h19
       replace hm := if_f h19 hm
       refine DW.skip ?_
       refine DW.done ?_
       show DW _ _ _ _ _
       refine RK hnt (nn 2 []) [(3, rr 1024), (5, pB (s1 || ((c153e2 p0 k1).id == p1.parent))), (34, .p (slNode p0)), (c153e3 p0), (36, pI (w64 (((k1 : Nat) : Int) + 1)))] [(c153e1 p1)] trivial (by kernel_rfl) ?_
       exact joinDone (s1 || ((c153e2 p0 k1).id == p1.parent)) ⟨hlt1, hm⟩ (Conv.tp [(36, pI (w64 (((k1 : Nat) : Int) + 1)))] [] (by kernel_rfl) (.cons rfl (.of_eq (congrArg pI (w64_succ hlt1 hc1))) .nil) .nil)
   ·
    intro h16
    have hge1 : ¬ k1 < p0.length := by have := of_decide_eq_false h16; omega
    have hm := he1 hge1
    unfold fine_treeD1 at hm
    refine DW.exit ?_
    refine joinQ_exit ?_
    refine KQ_exit ?_
    refine blockQ_exit ?_
    show DW _ _ _ _ _
    refine DW.seq (RK hnt (nn 2 []) [(4, pB s1)] [] trivial (by kernel_rfl) ?_)
    refine DW.ret ?_
    obtain rfl := Option.some.inj hm
    refine retOK (bs' := []) [] (pB s1) (by kernel_rfl) ?_ ?_
    · rfl
    · rfl
 ·
  rcases bt (decide (p1.id ≤ (p0.getD (Int.toNat (w64 (((p0.length : Nat) : Int) - 1))) dNode).id)) with h2 | h2
  ·
   replace hm := if_t h2 hm
   refine RK hnt (nn 11 (sk 4 (pT :: .no :: sk 8 (pT :: [])))) [(0, .p (slNode p0)), (3, rr 1024), (33, pB true)] [(c153e1 p1)] (an g1.1 (an g1.2 (an5 h2 (an6 tt trivial)))) (by kernel_rfl) ?_
   exact joinDone true hm .refl
  ·
   replace hm := if_f h2 hm
   obtain ⟨r3, hr3, hm⟩ := bind_open hm
   rcases bt (!r3) with h4 | h4
   ·
    replace hm := if_t h4 hm
    refine RK hnt (nn 13 (.call 167 [] true (pB r3) [] [] :: .no :: pF :: .no :: sk 8 (pT :: []))) [(0, .p (slNode p0)), (3, rr 1024), (33, pB true)] [(c153e1 p1)] (an g1.1 (an g1.2 (an3 h2 (an (Valid_nameSpec p1.name r3 hr3) (an2 h2 (an6 h4 trivial)))))) (by kernel_rfl) ?_
    exact joinDone true hm .refl
   ·
    replace hm := if_f h4 hm
    rcases bt (p1.kind != 0) with h5 | h5
    ·
     replace hm := if_t h5 hm
     refine RK hnt (nn 13 (.call 167 [] true (pB r3) [] [] :: .no :: pF :: nn 8 (pT :: pF :: []))) [(0, .p (slNode p0)), (3, rr 1024), (33, pB (p1.kind != 1))] [(c153e1 p1)] (an g1.1 (an g1.2 (an3 h2 (an (Valid_nameSpec p1.name r3 hr3) (an2 h2 (an4 h4 (an3 h5 (an h4 (an h5 (an h4 trivial)))))))))) (by kernel_rfl) ?_
     exact joinDone (p1.kind != 1) hm .refl
    ·
     replace hm := if_f h5 hm
     refine RK hnt (nn 13 (.call 167 [] true (pB r3) [] [] :: .no :: pF :: nn 5 (sk 3 (pF :: pF :: [])))) [(0, .p (slNode p0)), (3, rr 1024), (33, pB false)] [(c153e1 p1)] (an g1.1 (an g1.2 (an3 h2 (an (Valid_nameSpec p1.name r3 hr3) (an2 h2 (an4 h4 (an3 h5 (an h4 (an h5 (an h4 trivial)))))))))) (by kernel_rfl) ?_
     exact joinDone false hm .refl

abbrev c108e1 (p0 : Tree) (k1 : Nat) := (p0.nodes.getD k1 (default : Node))
abbrev c108e2 (p0 : Tree) : Nat × MV := (27, pI ((p0.nodes.length : Nat) : Int))
abbrev c108e3 (p0 : Tree) : Nat × Obj := (1008, bx (pm (encTree p0)))
abbrev c108e4 (p0 : Tree) (k1 : Nat) : Nat × Obj := (1040, bx (pm (encNode (c108e1 p0 k1))))
abbrev c108e5 (p0 : Tree) : Nat × MV := (26, .p (slNode p0.nodes))
abbrev c108e6 (k1 : Nat) : Nat × MV := (28, pI ((k1 : Nat) : Int))
abbrev c108e7 (k1 : Nat) : Nat × MV := (4, pI ((k1 : Nat) : Int))
theorem Check_treeSpec (p0 : Tree) (RES : Bool) (hm : Check_tree p0 = some RES) : Spec Tryz.prog 108 [.p (.agg (encTree p0))] [] (pB RES) [] [] := by
 unfold Check_tree at hm
 refine spec_of Tgood (T := Tt) Tryz.func108 (by decide) (c := _) rfl rfl (sl := [(0, .p (.agg (encTree p0)))]) (ob := []) (Nat.le_of_ble_eq_true rfl) (Nat.le_of_ble_eq_true rfl) (by kernel_rfl) (by kernel_rfl) ?_
 intro cx hnt
 refine DW.start ?_
 refine DW.seq (RK hnt (nn 2 []) [(1, rr 1008)] [(c108e3 p0)] trivial (by kernel_rfl) ?_)
 refine DW.seq (DW.seq ?_)
 refine DW.join (ι := Bool) (fun (y1 : Bool) => mkSt [(1, rr 1008), (23, pB y1)] [(c108e3 p0)]) (fun y1 => (Check_treeJ1 p0) y1 = some RES) ?_ ?_
 ·
  intro y1 hm
  unfold Check_treeJ1 at hm
  refine DW.cond y1 rfl rfl ?_ ?_
  ·
   intro h5
   replace hm := if_t h5 hm
   refine DW.seq (RK hnt (.no :: []) [(2, pB false)] [] trivial (by kernel_rfl) ?_)
   refine DW.ret ?_
   obtain rfl := Option.some.inj hm
   refine retOK (bs' := []) [] (pB false) (by kernel_rfl) ?_ ?_
   · rfl
   · rfl
  ·
   intro h5
   replace hm := if_f h5 hm
   refine DW.skip ?_
   refine DW.seq (RK hnt (nn 2 []) [(1, rr 1008), (3, .mref 1192 0)] [(c108e3 p0), (1192, ob0 (mapOf vi (vi 0) (IMap.empty 0)))] trivial (by kernel_rfl) ?_)
   refine DW.seq (DW.seq (RK hnt (nn 4 []) [(1, rr 1008), (3, .mref 1192 0), (c108e5 p0), (c108e2 p0), (28, pI 0)] [(c108e3 p0), (1192, ob0 (mapOf vi (vi 0) (IMap.empty 0)))] trivial (by kernel_rfl) ?_))
   refine DW.block ?_
   obtain ⟨hc1, hm⟩ := guard_open hm
   refine DW.rangeO (fun (k1 : Nat) (s1 : IMap Int) => mkSt [(1, rr 1008), (3, .mref 1192 0), (c108e5 p0), (c108e2 p0), (c108e6 k1)] [(c108e3 p0), (1192, ob0 (mapOf vi (vi 0) s1))]) dNode hm .refl ?_
   intro k1 s1 n1 hk1 hs1 he1
   refine DW.seq (RK hnt (.no :: []) [(1, rr 1008), (3, .mref 1192 0), (c108e5 p0), (c108e2 p0), (c108e6 k1), (29, pB (decide (((k1 : Nat) : Int) < ((p0.nodes.length : Nat) : Int))))] [(c108e3 p0), (1192, ob0 (mapOf vi (vi 0) s1))] trivial (by kernel_rfl) ?_)
   refine DW.seq (DW.cond (decide (((k1 : Nat) : Int) < ((p0.nodes.length : Nat) : Int))) rfl rfl ?_ ?_)
   ·
    intro h36
    have hlt1 : k1 < p0.nodes.length := by have := of_decide_eq_true h36; omega
    have hm := hs1 hlt1
    unfold Check_treeL1 at hm
    refine DW.skip ?_
    refine DW.seq (DW.block ?_)
    refine DW.seq (RK hnt (nn 6 []) [(1, rr 1008), (3, .mref 1192 0), (c108e7 k1), (5, rr 1040), (c108e5 p0), (c108e2 p0), (c108e6 k1)] [(c108e3 p0), (c108e4 p0 k1), (1192, ob0 (mapOf vi (vi 0) s1))] (an (nn0 k1) (an (ltc hlt1) trivial)) (by kernel_rfl) ?_)
    refine DW.seq (DW.seq ?_)
    refine DW.join (ι := Bool) (fun (y8 : Bool) => mkSt [(1, rr 1008), (3, .mref 1192 0), (c108e7 k1), (5, rr 1040), (c108e5 p0), (c108e2 p0), (c108e6 k1), (64, pB y8)] [(c108e3 p0), (c108e4 p0 k1), (1192, ob0 (mapOf vi (vi 0) s1))]) (fun y8 => (Check_treeJ8 k1 (c108e1 p0 k1) s1 n1) y8 = some RES) ?_ ?_
    ·
     intro y8 hm
     unfold Check_treeJ8 at hm
     refine DW.cond y8 rfl rfl ?_ ?_
     ·
      intro h44
      replace hm := if_t h44 hm
      refine DW.seq (RK hnt (.no :: []) [(2, pB false)] [] trivial (by kernel_rfl) ?_)
      refine DW.ret ?_
      obtain rfl := Option.some.inj hm
      refine retOK (bs' := []) [] (pB false) (by kernel_rfl) ?_ ?_
      · rfl
      · rfl
     ·
      intro h44
      replace hm := if_f h44 hm
      refine DW.skip ?_
      refine DW.seq (DW.seq (RK hnt (nn 2 []) [(1, rr 1008), (3, .mref 1192 0), (5, rr 1040), (c108e5 p0), (c108e2 p0), (c108e6 k1), (66, pB (decide (((k1 : Nat) : Int) > 0)))] [(c108e3 p0), (c108e4 p0 k1), (1192, ob0 (mapOf vi (vi 0) s1))] trivial (by kernel_rfl) ?_))
      refine DW.join (ι := IMap Int) (fun (y9 : IMap Int) => mkSt [(1, rr 1008), (3, .mref 1192 0), (5, rr 1040), (c108e5 p0), (c108e2 p0), (c108e6 k1)] [(c108e3 p0), (c108e4 p0 k1), (1192, ob0 (mapOf vi (vi 0) y9))]) (fun y9 => (Check_treeJ9 (c108e1 p0 k1) n1) y9 = some RES) ?_ ?_
      ·
       intro y9 hm
       unfold Check_treeJ9 at hm
       refine DW.seq (RK hnt (nn 5 []) [(1, rr 1008), (3, .mref 1192 0), (c108e5 p0), (c108e2 p0), (c108e6 k1), (79, pB (decide ((y9.get (c108e1 p0 k1).id) > 8)))] [(c108e3 p0), (1192, ob0 (mapOf vi (vi 0) y9))] (an (rfl : vi 0 = vi 0) trivial) (by kernel_rfl) ?_)
       refine DW.cond (decide ((y9.get (c108e1 p0 k1).id) > 8)) rfl rfl ?_ ?_
       ·
        intro h46
        replace hm := if_t h46 hm
        refine DW.seq (RK hnt (.no :: []) [(2, pB false)] [] trivial (by kernel_rfl) ?_)
        refine DW.ret ?_
        obtain rfl := Option.some.inj hm
        refine retOK (bs' := []) [] (pB false) (by kernel_rfl) ?_ ?_
        · rfl
        · rfl
       ·
        intro h46
        replace hm := if_f h46 hm
        refine DW.skip ?_
        refine DW.done ?_
        show DW _ _ _ _ _
        refine RK hnt (nn 2 []) [(1, rr 1008), (3, .mref 1192 0), (c108e5 p0), (c108e2 p0), (28, pI (w64 (((k1 : Nat) : Int) + 1)))] [(c108e3 p0), (1192, ob0 (mapOf vi (vi 0) y9))] trivial (by kernel_rfl) ?_
        exact joinDone y9 ⟨hlt1, hm⟩ (Conv.tp [(28, pI (w64 (((k1 : Nat) : Int) + 1)))] [] (by kernel_rfl) (.cons rfl (.of_eq (congrArg pI (w64_succ hlt1 hc1))) .nil) .nil)
      ·
       refine DW.cond (decide (((k1 : Nat) : Int) > 0)) rfl rfl ?_ ?_
       ·
        intro h45
        replace hm := if_t h45 hm
        refine RN hnt (nn 9 []) [(1, rr 1008), (3, .mref 1192 0), (5, rr 1040), (c108e5 p0), (c108e2 p0), (c108e6 k1)] [(c108e3 p0), (c108e4 p0 k1), (1192, ob0 (mapOf vi (vi 0) (s1.set (c108e1 p0 k1).id (w64 ((s1.get (c108e1 p0 k1).parent) + 1)))))] [] [(1192, .mp (vi 0) (updI s1.has (c108e1 p0 k1).id true) (updI (fun j => vi (s1.get j)) (c108e1 p0 k1).id (vi (w64 ((s1.get (c108e1 p0 k1).parent) + 1)))))] (an (rfl : vi 0 = vi 0) trivial) (by kernel_rfl) .nil (.cons rfl (map_set (w64 ((s1.get (c108e1 p0 k1).parent) + 1)) rfl) .nil) ?_
        exact joinDone (s1.set (c108e1 p0 k1).id (w64 ((s1.get (c108e1 p0 k1).parent) + 1))) hm .refl
       ·
        intro h45
        replace hm := if_f h45 hm
        refine DW.skip ?_
        exact joinDone s1 hm (Conv.tp [] [] (by kernel_rfl) .nil .nil)
    ·
     rcases bt (decide ((c108e1 p0 k1).control < 0)) with h37 | h37
     ·
      replace hm := if_t h37 hm
      refine RK hnt (nn 4 (sk 4 (pT :: .no :: sk 3 (pT :: .no :: sk 3 (pT :: .no :: sk 11 (pT :: [])))))) [(1, rr 1008), (3, .mref 1192 0), (c108e7 k1), (5, rr 1040), (c108e5 p0), (c108e2 p0), (c108e6 k1), (64, pB true)] [(c108e3 p0), (c108e4 p0 k1), (1192, ob0 (mapOf vi (vi 0) s1))] (an5 h37 (an tt (an6 tt (an6 tt trivial)))) (by kernel_rfl) ?_
      exact joinDone true hm .refl
     ·
      replace hm := if_f h37 hm
      rcases bt ((kandNot .i64 (c108e1 p0 k1).control 31) != 0) with h38 | h38
      ·
       replace hm := if_t h38 hm
       refine RK hnt (nn 8 (pF :: .no :: sk 3 (pT :: .no :: sk 3 (pT :: .no :: sk 11 (pT :: []))))) [(1, rr 1008), (3, .mref 1192 0), (c108e7 k1), (5, rr 1040), (c108e5 p0), (c108e2 p0), (c108e6 k1), (64, pB true)] [(c108e3 p0), (c108e4 p0 k1), (1192, ob0 (mapOf vi (vi 0) s1))] (an5 h37 (an4 h38 (an3 tt (an6 tt trivial)))) (by kernel_rfl) ?_
       exact joinDone true hm .refl
      ·
       replace hm := if_f h38 hm
       rcases bt (decide ((c108e1 p0 k1).owner < 0)) with h39 | h39
       ·
        replace hm := if_t h39 hm
        refine RK hnt (nn 8 (pF :: nn 4 (pF :: .no :: sk 3 (pT :: .no :: sk 11 (pT :: []))))) [(1, rr 1008), (3, .mref 1192 0), (c108e7 k1), (5, rr 1040), (c108e5 p0), (c108e2 p0), (c108e6 k1), (64, pB true)] [(c108e3 p0), (c108e4 p0 k1), (1192, ob0 (mapOf vi (vi 0) s1))] (an5 h37 (an4 h38 (an4 h39 (an5 tt trivial)))) (by kernel_rfl) ?_
        exact joinDone true hm .refl
       ·
        replace hm := if_f h39 hm
        rcases bt (decide ((c108e1 p0 k1).owner > 1048576)) with h40 | h40
        ·
         replace hm := if_t h40 hm
         refine RK hnt (nn 8 (pF :: nn 4 (pF :: nn 4 (pF :: .no :: sk 11 (pT :: []))))) [(1, rr 1008), (3, .mref 1192 0), (c108e7 k1), (5, rr 1040), (c108e5 p0), (c108e2 p0), (c108e6 k1), (64, pB true)] [(c108e3 p0), (c108e4 p0 k1), (1192, ob0 (mapOf vi (vi 0) s1))] (an5 h37 (an4 h38 (an4 h39 (an5 h40 trivial)))) (by kernel_rfl) ?_
         exact joinDone true hm .refl
        ·
         replace hm := if_f h40 hm
         rcases bt (decide (((k1 : Nat) : Int) > 0)) with h41 | h41
         ·
          replace hm := if_t h41 hm
          obtain ⟨g42, hm⟩ := guard_open hm
          obtain ⟨r43, hr43, hm⟩ := bind_open hm
          refine RK hnt (nn 8 (pF :: nn 4 (pF :: nn 4 (pF :: nn 9 (.call 153 [] true (pB r43) [] [] :: .no :: pT :: pF :: []))))) [(1, rr 1008), (3, .mref 1192 0), (c108e7 k1), (5, rr 1040), (c108e5 p0), (c108e2 p0), (c108e6 k1), (64, pB (!r43))] [(c108e3 p0), (c108e4 p0 k1), (1192, ob0 (mapOf vi (vi 0) s1))] (an5 h37 (an4 h38 (an4 h39 (an3 h40 (an4 h41 (an (by omega : (0 : Int) ≤ 0) (an (by omega : (0 : Int) ≤ ((k1 : Nat) : Int)) (an (by omega : ((k1 : Nat) : Int) ≤ ((p0.nodes.length : Nat) : Int)) (an2 h41 (an (Spec.args (xs := [.p (.sl .unk 6 k1 (elNode p0.nodes)), .p (.agg (encNode (c108e1 p0 k1)))]) (fine_treeSpec (p0.nodes.take k1) (c108e1 p0 k1) r43 hr43) (.cons (.p (PLe.typed (RowIs.elems.take (by omega)))) (.cons .rfl .nil))) (an h41 (an h40 (an h41 (an h40 trivial)))))))))))))) (by kernel_rfl) ?_
          exact joinDone (!r43) hm .refl
         ·
          replace hm := if_f h41 hm
          refine RK hnt (nn 8 (pF :: nn 4 (pF :: nn 4 (pF :: nn 4 (sk 7 (pF :: pF :: [])))))) [(1, rr 1008), (3, .mref 1192 0), (c108e7 k1), (5, rr 1040), (c108e5 p0), (c108e2 p0), (c108e6 k1), (64, pB false)] [(c108e3 p0), (c108e4 p0 k1), (1192, ob0 (mapOf vi (vi 0) s1))] (an5 h37 (an4 h38 (an4 h39 (an3 h40 (an h41 (an6 h41 (an h40 (an h41 (an h40 trivial))))))))) (by kernel_rfl) ?_
          exact joinDone false hm .refl
   ·
    intro h36
    have hge1 : ¬ k1 < p0.nodes.length := by have := of_decide_eq_false h36; omega
    have hm := he1 hge1
    unfold Check_treeD1 at hm
    refine DW.exit ?_
    refine joinQ_exit ?_
    refine KQ_exit ?_
    refine blockQ_exit ?_
    show DW _ _ _ _ _
    obtain ⟨g47, hm⟩ := guard_open hm
    refine DW.seq ?_
    refine DW.join (ι := Bool) (fun (y10 : Bool) => mkSt [(2, pB y10)] []) (fun y10 => Check_treeJ10 y10 = some RES) ?_ ?_
    ·
     intro y10 hm
     unfold Check_treeJ10 at hm
     refine DW.ret ?_
     obtain rfl := Option.some.inj hm
     refine retOK (bs' := []) [] (pB y10) (by kernel_rfl) ?_ ?_
     · rfl
     · rfl
    ·
     rcases bt (decide (p0.next > (p0.nodes.getD (Int.toNat (w64 (((p0.nodes.length : Nat) : Int) - 1))) dNode).id)) with h48 | h48
     ·
      replace hm := if_t h48 hm
      refine RK hnt (nn 16 (pT :: .no :: [])) [(2, pB (decide (p0.next ≤ 2147483648)))] [] (an g47.1 (an g47.2 (an4 h48 trivial))) (by kernel_rfl) ?_
      exact joinDone (decide (p0.next ≤ 2147483648)) hm .refl
     ·
      replace hm := if_f h48 hm
      refine RK hnt (nn 13 (sk 3 (pF :: .no :: []))) [(2, pB false)] [] (an g47.1 (an g47.2 (an4 h48 trivial))) (by kernel_rfl) ?_
      exact joinDone false hm .refl
 ·
  rcases bt (decide (((p0.nodes.length : Nat) : Int) < 1)) with h1 | h1
  ·
   replace hm := if_t h1 hm
   refine RK hnt (nn 5 (sk 4 (pT :: .no :: sk 6 (pT :: [])))) [(1, rr 1008), (23, pB true)] [(c108e3 p0)] (an5 h1 (an tt (an6 tt trivial))) (by kernel_rfl) ?_
   exact joinDone true hm .refl
  ·
   replace hm := if_f h1 hm
   rcases bt (decide (((p0.nodes.length : Nat) : Int) > 64)) with h2 | h2
   ·
    replace hm := if_t h2 hm
    refine RK hnt (nn 9 (pF :: .no :: sk 6 (pT :: []))) [(1, rr 1008), (23, pB true)] [(c108e3 p0)] (an5 h1 (an h2 (an6 h2 trivial))) (by kernel_rfl) ?_
    exact joinDone true hm .refl
   ·
    replace hm := if_f h2 hm
    obtain ⟨g3, hm⟩ := guard_open hm
    obtain ⟨r4, hr4, hm⟩ := bind_open hm
    refine RK hnt (nn 9 (pF :: nn 5 (.call 152 [] true (pB r4) [] [] :: .no :: pF :: []))) [(1, rr 1008), (23, pB (!r4))] [(c108e3 p0)] (an5 h1 (an3 h2 (an (nn0 0) (an (ltc g3) (an2 h2 (an (root_treeSpec (p0.nodes.getD 0 dNode) r4 hr4) (an2 h2 trivial))))))) (by kernel_rfl) ?_
    exact joinDone (!r4) hm .refl

theorem AtFa_crewSpec (p0 : Task) (p1 : Int) (RES : Bool) (hm : AtFa_crew p0 p1 = some RES) : Spec Tryz.prog 144 [.p (.agg (encTask p0)), rr 0] [.box [pI p1]] (pB RES) [.box [pI p1]] [] := by
 unfold AtFa_crew at hm
 refine spec_of Tgood (T := Tt) Tryz.func144 (by decide) (c := _) rfl rfl (sl := [(0, .p (.agg (encTask p0))), (1, rr 0)]) (ob := [(0, bx [pI p1])]) (Nat.le_of_ble_eq_true rfl) (Nat.le_of_ble_eq_true rfl) (by kernel_rfl) (by kernel_rfl) ?_
 intro cx hnt
 refine DW.start ?_
 refine DW.seq (RK hnt (nn 2 []) [(1, rr 0), (2, rr 1016)] [(0, bx [pI p1]), (1016, bx (pm (encTask p0)))] trivial (by kernel_rfl) ?_)
 refine DW.seq (RK hnt (nn 5 []) [(3, pB (p0.id == p1))] [(0, bx [pI p1])] trivial (by kernel_rfl) ?_)
 refine DW.ret ?_
 obtain rfl := Option.some.inj hm
 refine retOK (bs' := [.box [pI p1]]) [] (pB (p0.id == p1)) (by kernel_rfl) ?_ ?_
 · rfl
 · rfl

abbrev c143e1 (p0 : List Task) : Nat × MV := (7, pI ((p0.length : Nat) : Int))
theorem IndexFunc_slices_TaskQAtFa_crewSpec (p0 : List Task) (p1c0 : Int) (RES : Int) (hm : IndexFunc_slices_TaskQAtFa_crew p0 p1c0 = some RES) : Spec Tryz.prog 143 [.p (slTask p0), .fn 144 [rr 0]] [.box [pI p1c0]] (pI RES) [.box [pI p1c0]] [] := by
 unfold IndexFunc_slices_TaskQAtFa_crew at hm
 refine spec_of Tgood (T := Tt) Tryz.func143 (by decide) (c := _) rfl rfl (sl := [(0, .p (slTask p0)), (1, .fn 144 [rr 0])]) (ob := [(0, bx [pI p1c0])]) (Nat.le_of_ble_eq_true rfl) (Nat.le_of_ble_eq_true rfl) (by kernel_rfl) (by kernel_rfl) ?_
 intro cx hnt
 refine DW.start ?_
 refine DW.seq (RK hnt (.no :: []) [(0, .p (slTask p0)), (1, .fn 144 [rr 0])] [(0, bx [pI p1c0])] trivial (by kernel_rfl) ?_)
 refine DW.seq (DW.seq (RK hnt (nn 3 []) [(0, .p (slTask p0)), (1, .fn 144 [rr 0]), (c143e1 p0), (8, pI 0)] [(0, bx [pI p1c0])] trivial (by kernel_rfl) ?_))
 refine DW.block ?_
 obtain ⟨hc1, hm⟩ := guard_open hm
 refine DW.rangeO (fun (k1 : Nat) (s1 : Unit) => mkSt [(0, .p (slTask p0)), (1, .fn 144 [rr 0]), (c143e1 p0), (8, pI ((k1 : Nat) : Int))] [(0, bx [pI p1c0])]) dTask hm .refl ?_
 intro k1 s1 n1 hk1 hs1 he1
 refine DW.seq (RK hnt (.no :: []) [(0, .p (slTask p0)), (1, .fn 144 [rr 0]), (c143e1 p0), (8, pI ((k1 : Nat) : Int)), (9, pB (decide (((k1 : Nat) : Int) < ((p0.length : Nat) : Int))))] [(0, bx [pI p1c0])] trivial (by kernel_rfl) ?_)
 refine DW.seq (DW.cond (decide (((k1 : Nat) : Int) < ((p0.length : Nat) : Int))) rfl rfl ?_ ?_)
 ·
  intro h9
  have hlt1 : k1 < p0.length := by have := of_decide_eq_true h9; omega
  have hm := hs1 hlt1
  unfold IndexFunc_slices_TaskQAtFa_crewL1 at hm
  refine DW.skip ?_
  refine DW.seq (DW.block ?_)
  refine DW.seq (RK hnt (nn 2 []) [(0, .p (slTask p0)), (1, .fn 144 [rr 0]), (5, pI ((k1 : Nat) : Int)), (c143e1 p0), (8, pI ((k1 : Nat) : Int))] [(0, bx [pI p1c0])] trivial (by kernel_rfl) ?_)
  obtain ⟨r10, hr10, hm⟩ := bind_open hm
  refine DW.seq (RK hnt (nn 5 (.call 144 [0] true (pB r10) [.box [pI p1c0]] [] :: [])) [(0, .p (slTask p0)), (1, .fn 144 [rr 0]), (5, pI ((k1 : Nat) : Int)), (c143e1 p0), (8, pI ((k1 : Nat) : Int)), (16, pB r10)] [(0, bx [pI p1c0])] (an (nn0 k1) (an (ltc hlt1) (an (AtFa_crewSpec (p0.getD k1 (default : Task)) p1c0 r10 hr10) (an trivial trivial)))) (by kernel_rfl) ?_)
  refine DW.cond r10 rfl rfl ?_ ?_
  ·
   intro h11
   replace hm := if_t h11 hm
   refine DW.seq (RK hnt (nn 2 []) [(4, pI ((k1 : Nat) : Int))] [(0, bx [pI p1c0])] trivial (by kernel_rfl) ?_)
   refine DW.ret ?_
   obtain rfl := Option.some.inj hm
   refine retOK (bs' := [.box [pI p1c0]]) [] (pI ((k1 : Nat) : Int)) (by kernel_rfl) ?_ ?_
   · rfl
   · rfl
  ·
   intro h11
   replace hm := if_f h11 hm
   refine DW.skip ?_
   refine DW.done ?_
   show DW _ _ _ _ _
   refine RK hnt (nn 2 []) [(0, .p (slTask p0)), (1, .fn 144 [rr 0]), (c143e1 p0), (8, pI (w64 (((k1 : Nat) : Int) + 1)))] [(0, bx [pI p1c0])] trivial (by kernel_rfl) ?_
   exact joinDone () ⟨hlt1, hm⟩ (Conv.tp [(8, pI (w64 (((k1 : Nat) : Int) + 1)))] [] (by kernel_rfl) (.cons rfl (.of_eq (congrArg pI (w64_succ hlt1 hc1))) .nil) .nil)
 ·
  intro h9
  have hge1 : ¬ k1 < p0.length := by have := of_decide_eq_false h9; omega
  have hm := he1 hge1
  unfold IndexFunc_slices_TaskQAtFa_crewD1 at hm
  refine DW.exit ?_
  refine joinQ_exit ?_
  refine KQ_exit ?_
  refine blockQ_exit ?_
  show DW _ _ _ _ _
  refine DW.seq (RK hnt (.no :: []) [(4, pI (-1))] [(0, bx [pI p1c0])] trivial (by kernel_rfl) ?_)
  refine DW.ret ?_
  obtain rfl := Option.some.inj hm
  refine retOK (bs' := [.box [pI p1c0]]) [] (pI (-1)) (by kernel_rfl) ?_ ?_
  · rfl
  · rfl

theorem At_crewSpec (p0 : Hierarchy) (p1 : Int) (RES : Int) (hm : At_crew p0 p1 = some RES) : Spec Tryz.prog 95 [.p (.agg (encHierarchy p0)), pI p1] [] (pI RES) [] [] := by
 unfold At_crew at hm
 refine spec_of Tgood (T := Tt) Tryz.func95 (by decide) (c := _) rfl rfl (sl := [(0, .p (.agg (encHierarchy p0))), (1, pI p1)]) (ob := []) (Nat.le_of_ble_eq_true rfl) (Nat.le_of_ble_eq_true rfl) (by kernel_rfl) (by kernel_rfl) ?_
 intro cx hnt
 refine DW.start ?_
 refine DW.seq (RK hnt (nn 3 []) [(2, rr 1016), (3, rr 1024)] [(1016, bx (pm (encHierarchy p0))), (1024, bx [pI p1])] trivial (by kernel_rfl) ?_)
 obtain ⟨r1, hr1, hm⟩ := bind_open hm
 refine DW.seq (RK hnt (nn 3 (.call 143 [1024] true (pI r1) [.box [pI p1]] [] :: .no :: [])) [(4, pI r1)] [] (an (IndexFunc_slices_TaskQAtFa_crewSpec p0.tasks p1 r1 hr1) (an trivial trivial)) (by kernel_rfl) ?_)
 refine DW.ret ?_
 obtain rfl := Option.some.inj hm
 refine retOK (bs' := []) [] (pI r1) (by kernel_rfl) ?_ ?_
 · rfl
 · rfl

abbrev c104e1 : Nat × Obj := (1032, bx [pI 0, pI 0, pI 0, pI 0])
theorem Find_crewSpec (p0 : Hierarchy) (p1 : Int) (RES : Task × Bool) (hm : Find_crew p0 p1 = some RES) : Spec Tryz.prog 104 [.p (.agg (encHierarchy p0)), pI p1] [] (.p (.tup [.agg (encTask RES.1), vb RES.2])) [] [] := by
 unfold Find_crew at hm
 refine spec_of Tgood (T := Tt) Tryz.func104 (by decide) (c := _) rfl rfl (sl := [(0, .p (.agg (encHierarchy p0))), (1, pI p1)]) (ob := []) (Nat.le_of_ble_eq_true rfl) (Nat.le_of_ble_eq_true rfl) (by kernel_rfl) (by kernel_rfl) ?_
 intro cx hnt
 refine DW.start ?_
 refine DW.seq (RK hnt (nn 3 []) [(1, pI p1), (2, rr 1016), (4, rr 1032)] [(1016, bx (pm (encHierarchy p0))), (c104e1)] trivial (by kernel_rfl) ?_)
 obtain ⟨r1, hr1, hm⟩ := bind_open hm
 refine DW.seq (RK hnt (nn 2 (.call 95 [] true (pI r1) [] [] :: .no :: [])) [(2, rr 1016), (4, rr 1032), (6, pI r1)] [(1016, bx (pm (encHierarchy p0))), (c104e1)] (an (At_crewSpec p0 p1 r1 hr1) trivial) (by kernel_rfl) ?_)
 refine DW.seq (DW.seq (RK hnt (nn 2 []) [(2, rr 1016), (4, rr 1032), (6, pI r1), (11, pB (decide (r1 < 0)))] [(1016, bx (pm (encHierarchy p0))), (c104e1)] trivial (by kernel_rfl) ?_))
 refine DW.cond (decide (r1 < 0)) rfl rfl ?_ ?_
 ·
  intro h2
  replace hm := if_t h2 hm
  refine DW.seq (RK hnt (nn 3 []) [(4, rr 1032), (5, pB false)] [(c104e1)] trivial (by kernel_rfl) ?_)
  refine DW.ret ?_
  obtain rfl := Option.some.inj hm
  refine retOK (bs' := []) [] (.p (.tup [.agg [vi 0, vi 0, vi 0, vi 0], vb false])) (by kernel_rfl) ?_ ?_
  · rfl
  · rfl
 ·
  intro h2
  replace hm := if_f h2 hm
  refine DW.skip ?_
  obtain ⟨g3, hm⟩ := guard_open hm
  refine DW.seq (RK hnt (nn 7 []) [(4, rr 1032), (5, pB true)] [(1032, bx (pm (encTask (p0.tasks.getD (Int.toNat r1) dTask))))] (an g3.1 (an g3.2 trivial)) (by kernel_rfl) ?_)
  refine DW.ret ?_
  obtain rfl := Option.some.inj hm
  refine retOK (bs' := []) [] (.p (.tup [.agg (encTask (p0.tasks.getD (Int.toNat r1) dTask)), vb true])) (by kernel_rfl) ?_ ?_
  · rfl
  · rfl

theorem AtFa_forestSpec (p0 : Node) (p1 : Int) (RES : Bool) (hm : AtFa_forest p0 p1 = some RES) : Spec Tryz.prog 150 [.p (.agg (encNode p0)), rr 0] [.box [pI p1]] (pB RES) [.box [pI p1]] [] := by
 unfold AtFa_forest at hm
 refine spec_of Tgood (T := Tt) Tryz.func150 (by decide) (c := _) rfl rfl (sl := [(0, .p (.agg (encNode p0))), (1, rr 0)]) (ob := [(0, bx [pI p1])]) (Nat.le_of_ble_eq_true rfl) (Nat.le_of_ble_eq_true rfl) (by kernel_rfl) (by kernel_rfl) ?_
 intro cx hnt
 refine DW.start ?_
 refine DW.seq (RK hnt (nn 2 []) [(1, rr 0), (2, rr 1016)] [(0, bx [pI p1]), (1016, bx (pm (encNode p0)))] trivial (by kernel_rfl) ?_)
 refine DW.seq (RK hnt (nn 5 []) [(3, pB (p0.id == p1))] [(0, bx [pI p1])] trivial (by kernel_rfl) ?_)
 refine DW.ret ?_
 obtain rfl := Option.some.inj hm
 refine retOK (bs' := [.box [pI p1]]) [] (pB (p0.id == p1)) (by kernel_rfl) ?_ ?_
 · rfl
 · rfl

abbrev c149e1 (p0 : List Node) : Nat × MV := (7, pI ((p0.length : Nat) : Int))
theorem IndexFunc_slices_NodeQAtFa_forestSpec (p0 : List Node) (p1c0 : Int) (RES : Int) (hm : IndexFunc_slices_NodeQAtFa_forest p0 p1c0 = some RES) : Spec Tryz.prog 149 [.p (slNode p0), .fn 150 [rr 0]] [.box [pI p1c0]] (pI RES) [.box [pI p1c0]] [] := by
 unfold IndexFunc_slices_NodeQAtFa_forest at hm
 refine spec_of Tgood (T := Tt) Tryz.func149 (by decide) (c := _) rfl rfl (sl := [(0, .p (slNode p0)), (1, .fn 150 [rr 0])]) (ob := [(0, bx [pI p1c0])]) (Nat.le_of_ble_eq_true rfl) (Nat.le_of_ble_eq_true rfl) (by kernel_rfl) (by kernel_rfl) ?_
 intro cx hnt
 refine DW.start ?_
 refine DW.seq (RK hnt (.no :: []) [(0, .p (slNode p0)), (1, .fn 150 [rr 0])] [(0, bx [pI p1c0])] trivial (by kernel_rfl) ?_)
 refine DW.seq (DW.seq (RK hnt (nn 3 []) [(0, .p (slNode p0)), (1, .fn 150 [rr 0]), (c149e1 p0), (8, pI 0)] [(0, bx [pI p1c0])] trivial (by kernel_rfl) ?_))
 refine DW.block ?_
 obtain ⟨hc1, hm⟩ := guard_open hm
 refine DW.rangeO (fun (k1 : Nat) (s1 : Unit) => mkSt [(0, .p (slNode p0)), (1, .fn 150 [rr 0]), (c149e1 p0), (8, pI ((k1 : Nat) : Int))] [(0, bx [pI p1c0])]) dNode hm .refl ?_
 intro k1 s1 n1 hk1 hs1 he1
 refine DW.seq (RK hnt (.no :: []) [(0, .p (slNode p0)), (1, .fn 150 [rr 0]), (c149e1 p0), (8, pI ((k1 : Nat) : Int)), (9, pB (decide (((k1 : Nat) : Int) < ((p0.length : Nat) : Int))))] [(0, bx [pI p1c0])] trivial (by kernel_rfl) ?_)
 refine DW.seq (DW.cond (decide (((k1 : Nat) : Int) < ((p0.length : Nat) : Int))) rfl rfl ?_ ?_)
 ·
  intro h9
  have hlt1 : k1 < p0.length := by have := of_decide_eq_true h9; omega
  have hm := hs1 hlt1
  unfold IndexFunc_slices_NodeQAtFa_forestL1 at hm
  refine DW.skip ?_
  refine DW.seq (DW.block ?_)
  refine DW.seq (RK hnt (nn 2 []) [(0, .p (slNode p0)), (1, .fn 150 [rr 0]), (5, pI ((k1 : Nat) : Int)), (c149e1 p0), (8, pI ((k1 : Nat) : Int))] [(0, bx [pI p1c0])] trivial (by kernel_rfl) ?_)
  obtain ⟨r10, hr10, hm⟩ := bind_open hm
  refine DW.seq (RK hnt (nn 5 (.call 150 [0] true (pB r10) [.box [pI p1c0]] [] :: [])) [(0, .p (slNode p0)), (1, .fn 150 [rr 0]), (5, pI ((k1 : Nat) : Int)), (c149e1 p0), (8, pI ((k1 : Nat) : Int)), (16, pB r10)] [(0, bx [pI p1c0])] (an (nn0 k1) (an (ltc hlt1) (an (AtFa_forestSpec (p0.getD k1 (default : Node)) p1c0 r10 hr10) (an trivial trivial)))) (by kernel_rfl) ?_)
  refine DW.cond r10 rfl rfl ?_ ?_
  ·
   intro h11
   replace hm := if_t h11 hm
   refine DW.seq (RK hnt (nn 2 []) [(4, pI ((k1 : Nat) : Int))] [(0, bx [pI p1c0])] trivial (by kernel_rfl) ?_)
   refine DW.ret ?_
   obtain rfl := Option.some.inj hm
   refine retOK (bs' := [.box [pI p1c0]]) [] (pI ((k1 : Nat) : Int)) (by kernel_rfl) ?_ ?_
   · rfl
   · rfl
  ·
   intro h11
   replace hm := if_f h11 hm
   refine DW.skip ?_
   refine DW.done ?_
   show DW _ _ _ _ _
   refine RK hnt (nn 2 []) [(0, .p (slNode p0)), (1, .fn 150 [rr 0]), (c149e1 p0), (8, pI (w64 (((k1 : Nat) : Int) + 1)))] [(0, bx [pI p1c0])] trivial (by kernel_rfl) ?_
   exact joinDone () ⟨hlt1, hm⟩ (Conv.tp [(8, pI (w64 (((k1 : Nat) : Int) + 1)))] [] (by kernel_rfl) (.cons rfl (.of_eq (congrArg pI (w64_succ hlt1 hc1))) .nil) .nil)
 ·
  intro h9
  have hge1 : ¬ k1 < p0.length := by have := of_decide_eq_false h9; omega
  have hm := he1 hge1
  unfold IndexFunc_slices_NodeQAtFa_forestD1 at hm
  refine DW.exit ?_
  refine joinQ_exit ?_
  refine KQ_exit ?_
  refine blockQ_exit ?_
  show DW _ _ _ _ _
  refine DW.seq (RK hnt (.no :: []) [(4, pI (-1))] [(0, bx [pI p1c0])] trivial (by kernel_rfl) ?_)
  refine DW.ret ?_
  obtain rfl := Option.some.inj hm
  refine retOK (bs' := [.box [pI p1c0]]) [] (pI (-1)) (by kernel_rfl) ?_ ?_
  · rfl
  · rfl

theorem At_forestSpec (p0 : Tree) (p1 : Int) (RES : Int) (hm : At_forest p0 p1 = some RES) : Spec Tryz.prog 101 [.p (.agg (encTree p0)), pI p1] [] (pI RES) [] [] := by
 unfold At_forest at hm
 refine spec_of Tgood (T := Tt) Tryz.func101 (by decide) (c := _) rfl rfl (sl := [(0, .p (.agg (encTree p0))), (1, pI p1)]) (ob := []) (Nat.le_of_ble_eq_true rfl) (Nat.le_of_ble_eq_true rfl) (by kernel_rfl) (by kernel_rfl) ?_
 intro cx hnt
 refine DW.start ?_
 refine DW.seq (RK hnt (nn 3 []) [(2, rr 1016), (3, rr 1024)] [(1016, bx (pm (encTree p0))), (1024, bx [pI p1])] trivial (by kernel_rfl) ?_)
 obtain ⟨r1, hr1, hm⟩ := bind_open hm
 refine DW.seq (RK hnt (nn 3 (.call 149 [1024] true (pI r1) [.box [pI p1]] [] :: .no :: [])) [(4, pI r1)] [] (an (IndexFunc_slices_NodeQAtFa_forestSpec p0.nodes p1 r1 hr1) (an trivial trivial)) (by kernel_rfl) ?_)
 refine DW.ret ?_
 obtain rfl := Option.some.inj hm
 refine retOK (bs' := []) [] (pI r1) (by kernel_rfl) ?_ ?_
 · rfl
 · rfl

theorem fine_memberSpec (p0 : Hierarchy) (p1 : Task) (RES : Bool) (hm : fine_member p0 p1 = some RES) : Spec Tryz.prog 109 [.p (.agg (encHierarchy p0)), .p (.agg (encTask p1))] [] (pB RES) [] [] := by
 unfold fine_member at hm
 refine spec_of Tgood (T := Tt) Tryz.func109 (by decide) (c := _) rfl rfl (sl := [(0, .p (.agg (encHierarchy p0))), (1, .p (.agg (encTask p1)))]) (ob := []) (Nat.le_of_ble_eq_true rfl) (Nat.le_of_ble_eq_true rfl) (by kernel_rfl) (by kernel_rfl) ?_
 intro cx hnt
 refine DW.start ?_
 refine DW.seq (RK hnt (nn 3 []) [(2, rr 1016), (3, rr 1024)] [(1016, bx (pm (encHierarchy p0))), (1024, bx (pm (encTask p1)))] trivial (by kernel_rfl) ?_)
 obtain ⟨r1, hr1, hm⟩ := bind_open hm
 refine DW.seq (RK hnt (nn 3 (.call 104 [] true (.p (.tup [.agg (encTask r1.1), vb r1.2])) [] [] :: nn 6 [])) [(2, rr 1016), (3, rr 1024), (5, rr 1040), (6, pB r1.2)] [(1016, bx (pm (encHierarchy p0))), (1024, bx (pm (encTask p1))), (1040, bx (pm (encTask r1.1)))] (an (Find_crewSpec p0 p1.process r1 hr1) trivial) (by kernel_rfl) ?_)
 refine DW.seq ?_
 refine DW.join (ι := Bool) (fun (y1 : Bool) => mkSt [(4, pB y1)] []) (fun y1 => fine_memberJ1 y1 = some RES) ?_ ?_
 ·
  intro y1 hm
  unfold fine_memberJ1 at hm
  refine DW.ret ?_
  obtain rfl := Option.some.inj hm
  refine retOK (bs' := []) [] (pB y1) (by kernel_rfl) ?_ ?_
  · rfl
  · rfl
 ·
  rcases bt (decide (p1.user ≥ 0)) with h2 | h2
  ·
   replace hm := if_t h2 hm
   rcases bt (decide (p1.user ≤ 1048576)) with h3 | h3
   ·
    replace hm := if_t h3 hm
    rcases bt r1.2 with h4 | h4
    ·
     replace hm := if_t h4 hm
     rcases bt (r1.1.process == r1.1.id) with h5 | h5
     ·
      replace hm := if_t h5 hm
      rcases bt (r1.1.user == p1.user) with h6 | h6
      ·
       replace hm := if_t h6 hm
       obtain ⟨r7, hr7, hm⟩ := bind_open hm
       refine RK hnt (nn 7 (pT :: nn 2 (pT :: nn 6 (pT :: nn 6 (pT :: nn 5 (.call 101 [] true (pI r7) [] [] :: .no :: pT :: .no :: [])))))) [(4, pB (decide (r7 ≥ 0)))] [] (an4 h2 (an2 h3 (an6 h4 (an6 h5 (an5 h6 (an (At_forestSpec p0.tree p1.group r7 hr7) (an2 h6 trivial))))))) (by kernel_rfl) ?_
       exact joinDone (decide (r7 ≥ 0)) hm .refl
      ·
       replace hm := if_f h6 hm
       refine RK hnt (nn 7 (pT :: nn 2 (pT :: nn 6 (pT :: nn 6 (pT :: .no :: sk 6 (pF :: .no :: [])))))) [(4, pB false)] [] (an4 h2 (an2 h3 (an6 h4 (an6 h5 (an h6 (an6 h6 trivial)))))) (by kernel_rfl) ?_
       exact joinDone false hm .refl
     ·
      replace hm := if_f h5 hm
      refine RK hnt (nn 7 (pT :: nn 2 (pT :: nn 6 (pT :: .no :: sk 5 (pF :: .no :: sk 6 (pF :: .no :: [])))))) [(4, pB false)] [] (an4 h2 (an2 h3 (an6 h4 (an6 h5 (an ff (an6 ff trivial)))))) (by kernel_rfl) ?_
      exact joinDone false hm .refl
    ·
     replace hm := if_f h4 hm
     refine RK hnt (nn 7 (pT :: nn 2 (pT :: .no :: sk 5 (pF :: .no :: sk 5 (pF :: .no :: sk 6 (pF :: .no :: [])))))) [(4, pB false)] [] (an4 h2 (an2 h3 (an6 h4 (an ff (an6 ff (an6 ff trivial)))))) (by kernel_rfl) ?_
     exact joinDone false hm .refl
   ·
    replace hm := if_f h3 hm
    refine RK hnt (nn 7 (pT :: .no :: .skip :: pF :: .no :: sk 5 (pF :: .no :: sk 5 (pF :: .no :: sk 6 (pF :: .no :: []))))) [(4, pB false)] [] (an4 h2 (an2 h3 (an ff (an6 ff (an6 ff (an6 ff trivial)))))) (by kernel_rfl) ?_
    exact joinDone false hm .refl
  ·
   replace hm := if_f h2 hm
   refine RK hnt (nn 4 (sk 3 (pF :: .no :: .skip :: pF :: .no :: sk 5 (pF :: .no :: sk 5 (pF :: .no :: sk 6 (pF :: .no :: [])))))) [(4, pB false)] [] (an4 h2 (an3 ff (an6 ff (an6 ff (an6 ff trivial))))) (by kernel_rfl) ?_
   exact joinDone false hm .refl

abbrev c51e1 (p0 : Hierarchy) : Nat × Obj := (1008, bx (pm (encHierarchy p0)))
abbrev c51e2 (p0 : Hierarchy) : Nat × MV := (23, pI ((p0.tasks.length : Nat) : Int))
abbrev c51e3 (p0 : Hierarchy) (k1 : Nat) := (p0.tasks.getD k1 (default : Task))
abbrev c51e4 (p0 : Hierarchy) : Nat × MV := (22, .p (slTask p0.tasks))
abbrev c51e5 (k1 : Nat) : Nat × MV := (24, pI ((k1 : Nat) : Int))
theorem Check_memberSpec (p0 : Hierarchy) (RES : Bool) (hm : Check_member p0 = some RES) : Spec Tryz.prog 51 [.p (.agg (encHierarchy p0))] [] (pB RES) [] [] := by
 unfold Check_member at hm
 refine spec_of Tgood (T := Tt) Tryz.func51 (by decide) (c := _) rfl rfl (sl := [(0, .p (.agg (encHierarchy p0)))]) (ob := []) (Nat.le_of_ble_eq_true rfl) (Nat.le_of_ble_eq_true rfl) (by kernel_rfl) (by kernel_rfl) ?_
 intro cx hnt
 refine DW.start ?_
 refine DW.seq (RK hnt (nn 2 []) [(1, rr 1008)] [(c51e1 p0)] trivial (by kernel_rfl) ?_)
 refine DW.seq (DW.seq ?_)
 refine DW.join (ι := Bool) (fun (y1 : Bool) => mkSt [(1, rr 1008), (20, pB y1)] [(c51e1 p0)]) (fun y1 => (Check_memberJ1 p0) y1 = some RES) ?_ ?_
 ·
  intro y1 hm
  unfold Check_memberJ1 at hm
  refine DW.cond y1 rfl rfl ?_ ?_
  ·
   intro h4
   replace hm := if_t h4 hm
   refine DW.seq (RK hnt (.no :: []) [(2, pB false)] [] trivial (by kernel_rfl) ?_)
   refine DW.ret ?_
   obtain rfl := Option.some.inj hm
   refine retOK (bs' := []) [] (pB false) (by kernel_rfl) ?_ ?_
   · rfl
   · rfl
  ·
   intro h4
   replace hm := if_f h4 hm
   refine DW.skip ?_
   refine DW.seq (RK hnt (.no :: []) [(1, rr 1008), (3, pI 0)] [(c51e1 p0)] trivial (by kernel_rfl) ?_)
   refine DW.seq (DW.seq (RK hnt (nn 4 []) [(1, rr 1008), (3, pI 0), (c51e4 p0), (c51e2 p0), (24, pI 0)] [(c51e1 p0)] trivial (by kernel_rfl) ?_))
   refine DW.block ?_
   obtain ⟨hc1, hm⟩ := guard_open hm
   refine DW.rangeO (fun (k1 : Nat) (s1 : Int) => mkSt [(1, rr 1008), (3, pI s1), (c51e4 p0), (c51e2 p0), (c51e5 k1)] [(c51e1 p0)]) dTask hm .refl ?_
   intro k1 s1 n1 hk1 hs1 he1
   refine DW.seq (RK hnt (.no :: []) [(1, rr 1008), (3, pI s1), (c51e4 p0), (c51e2 p0), (c51e5 k1), (25, pB (decide (((k1 : Nat) : Int) < ((p0.tasks.length : Nat) : Int))))] [(c51e1 p0)] trivial (by kernel_rfl) ?_)
   refine DW.seq (DW.cond (decide (((k1 : Nat) : Int) < ((p0.tasks.length : Nat) : Int))) rfl rfl ?_ ?_)
   ·
    intro h15
    have hlt1 : k1 < p0.tasks.length := by have := of_decide_eq_true h15; omega
    have hm := hs1 hlt1
    unfold Check_memberL1 at hm
    refine DW.skip ?_
    refine DW.seq (DW.block ?_)
    refine DW.seq (RK hnt (nn 4 []) [(1, rr 1008), (3, pI s1), (5, rr 1040), (c51e4 p0), (c51e2 p0), (c51e5 k1)] [(c51e1 p0), (1040, bx (pm (encTask (c51e3 p0 k1))))] (an (nn0 k1) (an (ltc hlt1) trivial)) (by kernel_rfl) ?_)
    refine DW.seq (DW.seq ?_)
    refine DW.join (ι := Bool) (fun (y4 : Bool) => mkSt [(1, rr 1008), (5, rr 1040), (c51e4 p0), (c51e2 p0), (c51e5 k1), (37, pB y4)] [(c51e1 p0), (1040, bx (pm (encTask (c51e3 p0 k1))))]) (fun y4 => (Check_memberJ4 (c51e3 p0 k1) n1) y4 = some RES) ?_ ?_
    ·
     intro y4 hm
     unfold Check_memberJ4 at hm
     refine DW.cond y4 rfl rfl ?_ ?_
     ·
      intro h18
      replace hm := if_t h18 hm
      refine DW.seq (RK hnt (.no :: []) [(2, pB false)] [] trivial (by kernel_rfl) ?_)
      refine DW.ret ?_
      obtain rfl := Option.some.inj hm
      refine retOK (bs' := []) [] (pB false) (by kernel_rfl) ?_ ?_
      · rfl
      · rfl
     ·
      intro h18
      replace hm := if_f h18 hm
      refine DW.skip ?_
      refine RK hnt (nn 3 []) [(1, rr 1008), (3, pI (c51e3 p0 k1).id), (c51e4 p0), (c51e2 p0), (c51e5 k1)] [(c51e1 p0)] trivial (by kernel_rfl) ?_
      refine DW.done ?_
      show DW _ _ _ _ _
      refine RK hnt (nn 2 []) [(1, rr 1008), (3, pI (c51e3 p0 k1).id), (c51e4 p0), (c51e2 p0), (24, pI (w64 (((k1 : Nat) : Int) + 1)))] [(c51e1 p0)] trivial (by kernel_rfl) ?_
      exact joinDone (c51e3 p0 k1).id ⟨hlt1, hm⟩ (Conv.tp [(24, pI (w64 (((k1 : Nat) : Int) + 1)))] [] (by kernel_rfl) (.cons rfl (.of_eq (congrArg pI (w64_succ hlt1 hc1))) .nil) .nil)
    ·
     rcases bt (decide ((c51e3 p0 k1).id ≤ s1)) with h16 | h16
     ·
      replace hm := if_t h16 hm
      refine RK hnt (nn 5 (sk 4 (pT :: []))) [(1, rr 1008), (5, rr 1040), (c51e4 p0), (c51e2 p0), (c51e5 k1), (37, pB true)] [(c51e1 p0), (1040, bx (pm (encTask (c51e3 p0 k1))))] (an5 h16 trivial) (by kernel_rfl) ?_
      exact joinDone true hm .refl
     ·
      replace hm := if_f h16 hm
      obtain ⟨r17, hr17, hm⟩ := bind_open hm
      refine RK hnt (nn 7 (.call 109 [] true (pB r17) [] [] :: .no :: pF :: [])) [(1, rr 1008), (5, rr 1040), (c51e4 p0), (c51e2 p0), (c51e5 k1), (37, pB (!r17))] [(c51e1 p0), (1040, bx (pm (encTask (c51e3 p0 k1))))] (an3 h16 (an (fine_memberSpec p0 (c51e3 p0 k1) r17 hr17) (an2 h16 trivial))) (by kernel_rfl) ?_
      exact joinDone (!r17) hm .refl
   ·
    intro h15
    have hge1 : ¬ k1 < p0.tasks.length := by have := of_decide_eq_false h15; omega
    have hm := he1 hge1
    unfold Check_memberD1 at hm
    refine DW.exit ?_
    refine joinQ_exit ?_
    refine KQ_exit ?_
    refine blockQ_exit ?_
    show DW _ _ _ _ _
    refine DW.seq (RK hnt (nn 5 []) [(2, pB (decide (p0.next > s1)))] [] trivial (by kernel_rfl) ?_)
    refine DW.ret ?_
    obtain rfl := Option.some.inj hm
    refine retOK (bs' := []) [] (pB (decide (p0.next > s1))) (by kernel_rfl) ?_ ?_
    · rfl
    · rfl
 ·
  rcases bt (decide (((p0.tasks.length : Nat) : Int) > 128)) with h1 | h1
  ·
   replace hm := if_t h1 hm
   refine RK hnt (nn 5 (sk 3 (pT :: .no :: sk 4 (pT :: [])))) [(1, rr 1008), (20, pB true)] [(c51e1 p0)] (an4 h1 (an5 tt trivial)) (by kernel_rfl) ?_
   exact joinDone true hm .refl
  ·
   replace hm := if_f h1 hm
   rcases bt (decide (p0.next > 2147483648)) with h2 | h2
   ·
    replace hm := if_t h2 hm
    refine RK hnt (nn 8 (pF :: .no :: sk 4 (pT :: []))) [(1, rr 1008), (20, pB true)] [(c51e1 p0)] (an4 h1 (an5 h2 trivial)) (by kernel_rfl) ?_
    exact joinDone true hm .refl
   ·
    replace hm := if_f h2 hm
    obtain ⟨r3, hr3, hm⟩ := bind_open hm
    refine RK hnt (nn 8 (pF :: nn 3 (.call 108 [] true (pB r3) [] [] :: .no :: pF :: []))) [(1, rr 1008), (20, pB (!r3))] [(c51e1 p0)] (an4 h1 (an3 h2 (an (Check_treeSpec p0.tree r3 hr3) (an2 h2 trivial)))) (by kernel_rfl) ?_
    exact joinDone (!r3) hm .refl

theorem atFa_pidsSpec (p0 : Count) (p1 : Int) (RES : Bool) (hm : atFa_pids p0 p1 = some RES) : Spec Tryz.prog 140 [.p (.agg (encCount p0)), rr 0] [.box [pI p1]] (pB RES) [.box [pI p1]] [] := by
 unfold atFa_pids at hm
 refine spec_of Tgood (T := Tt) Tryz.func140 (by decide) (c := _) rfl rfl (sl := [(0, .p (.agg (encCount p0))), (1, rr 0)]) (ob := [(0, bx [pI p1])]) (Nat.le_of_ble_eq_true rfl) (Nat.le_of_ble_eq_true rfl) (by kernel_rfl) (by kernel_rfl) ?_
 intro cx hnt
 refine DW.start ?_
 refine DW.seq (RK hnt (nn 2 []) [(1, rr 0), (2, rr 1016)] [(0, bx [pI p1]), (1016, bx (pm (encCount p0)))] trivial (by kernel_rfl) ?_)
 refine DW.seq (RK hnt (nn 5 []) [(3, pB (p0.group == p1))] [(0, bx [pI p1])] trivial (by kernel_rfl) ?_)
 refine DW.ret ?_
 obtain rfl := Option.some.inj hm
 refine retOK (bs' := [.box [pI p1]]) [] (pB (p0.group == p1)) (by kernel_rfl) ?_ ?_
 · rfl
 · rfl

abbrev c139e1 (p0 : List Count) : Nat × MV := (7, pI ((p0.length : Nat) : Int))
theorem IndexFunc_slices_CountQatFa_pidsSpec (p0 : List Count) (p1c0 : Int) (RES : Int) (hm : IndexFunc_slices_CountQatFa_pids p0 p1c0 = some RES) : Spec Tryz.prog 139 [.p (slCount p0), .fn 140 [rr 0]] [.box [pI p1c0]] (pI RES) [.box [pI p1c0]] [] := by
 unfold IndexFunc_slices_CountQatFa_pids at hm
 refine spec_of Tgood (T := Tt) Tryz.func139 (by decide) (c := _) rfl rfl (sl := [(0, .p (slCount p0)), (1, .fn 140 [rr 0])]) (ob := [(0, bx [pI p1c0])]) (Nat.le_of_ble_eq_true rfl) (Nat.le_of_ble_eq_true rfl) (by kernel_rfl) (by kernel_rfl) ?_
 intro cx hnt
 refine DW.start ?_
 refine DW.seq (RK hnt (.no :: []) [(0, .p (slCount p0)), (1, .fn 140 [rr 0])] [(0, bx [pI p1c0])] trivial (by kernel_rfl) ?_)
 refine DW.seq (DW.seq (RK hnt (nn 3 []) [(0, .p (slCount p0)), (1, .fn 140 [rr 0]), (c139e1 p0), (8, pI 0)] [(0, bx [pI p1c0])] trivial (by kernel_rfl) ?_))
 refine DW.block ?_
 obtain ⟨hc1, hm⟩ := guard_open hm
 refine DW.rangeO (fun (k1 : Nat) (s1 : Unit) => mkSt [(0, .p (slCount p0)), (1, .fn 140 [rr 0]), (c139e1 p0), (8, pI ((k1 : Nat) : Int))] [(0, bx [pI p1c0])]) dCount hm .refl ?_
 intro k1 s1 n1 hk1 hs1 he1
 refine DW.seq (RK hnt (.no :: []) [(0, .p (slCount p0)), (1, .fn 140 [rr 0]), (c139e1 p0), (8, pI ((k1 : Nat) : Int)), (9, pB (decide (((k1 : Nat) : Int) < ((p0.length : Nat) : Int))))] [(0, bx [pI p1c0])] trivial (by kernel_rfl) ?_)
 refine DW.seq (DW.cond (decide (((k1 : Nat) : Int) < ((p0.length : Nat) : Int))) rfl rfl ?_ ?_)
 ·
  intro h9
  have hlt1 : k1 < p0.length := by have := of_decide_eq_true h9; omega
  have hm := hs1 hlt1
  unfold IndexFunc_slices_CountQatFa_pidsL1 at hm
  refine DW.skip ?_
  refine DW.seq (DW.block ?_)
  refine DW.seq (RK hnt (nn 2 []) [(0, .p (slCount p0)), (1, .fn 140 [rr 0]), (5, pI ((k1 : Nat) : Int)), (c139e1 p0), (8, pI ((k1 : Nat) : Int))] [(0, bx [pI p1c0])] trivial (by kernel_rfl) ?_)
  obtain ⟨r10, hr10, hm⟩ := bind_open hm
  refine DW.seq (RK hnt (nn 5 (.call 140 [0] true (pB r10) [.box [pI p1c0]] [] :: [])) [(0, .p (slCount p0)), (1, .fn 140 [rr 0]), (5, pI ((k1 : Nat) : Int)), (c139e1 p0), (8, pI ((k1 : Nat) : Int)), (16, pB r10)] [(0, bx [pI p1c0])] (an (nn0 k1) (an (ltc hlt1) (an (atFa_pidsSpec (p0.getD k1 (default : Count)) p1c0 r10 hr10) (an trivial trivial)))) (by kernel_rfl) ?_)
  refine DW.cond r10 rfl rfl ?_ ?_
  ·
   intro h11
   replace hm := if_t h11 hm
   refine DW.seq (RK hnt (nn 2 []) [(4, pI ((k1 : Nat) : Int))] [(0, bx [pI p1c0])] trivial (by kernel_rfl) ?_)
   refine DW.ret ?_
   obtain rfl := Option.some.inj hm
   refine retOK (bs' := [.box [pI p1c0]]) [] (pI ((k1 : Nat) : Int)) (by kernel_rfl) ?_ ?_
   · rfl
   · rfl
  ·
   intro h11
   replace hm := if_f h11 hm
   refine DW.skip ?_
   refine DW.done ?_
   show DW _ _ _ _ _
   refine RK hnt (nn 2 []) [(0, .p (slCount p0)), (1, .fn 140 [rr 0]), (c139e1 p0), (8, pI (w64 (((k1 : Nat) : Int) + 1)))] [(0, bx [pI p1c0])] trivial (by kernel_rfl) ?_
   exact joinDone () ⟨hlt1, hm⟩ (Conv.tp [(8, pI (w64 (((k1 : Nat) : Int) + 1)))] [] (by kernel_rfl) (.cons rfl (.of_eq (congrArg pI (w64_succ hlt1 hc1))) .nil) .nil)
 ·
  intro h9
  have hge1 : ¬ k1 < p0.length := by have := of_decide_eq_false h9; omega
  have hm := he1 hge1
  unfold IndexFunc_slices_CountQatFa_pidsD1 at hm
  refine DW.exit ?_
  refine joinQ_exit ?_
  refine KQ_exit ?_
  refine blockQ_exit ?_
  show DW _ _ _ _ _
  refine DW.seq (RK hnt (.no :: []) [(4, pI (-1))] [(0, bx [pI p1c0])] trivial (by kernel_rfl) ?_)
  refine DW.ret ?_
  obtain rfl := Option.some.inj hm
  refine retOK (bs' := [.box [pI p1c0]]) [] (pI (-1)) (by kernel_rfl) ?_ ?_
  · rfl
  · rfl

theorem at_pidsSpec (p0 : List Count) (p1 : Int) (RES : Int) (hm : at_pids p0 p1 = some RES) : Spec Tryz.prog 86 [.p (slCount p0), pI p1] [] (pI RES) [] [] := by
 unfold at_pids at hm
 refine spec_of Tgood (T := Tt) Tryz.func86 (by decide) (c := _) rfl rfl (sl := [(0, .p (slCount p0)), (1, pI p1)]) (ob := []) (Nat.le_of_ble_eq_true rfl) (Nat.le_of_ble_eq_true rfl) (by kernel_rfl) (by kernel_rfl) ?_
 intro cx hnt
 refine DW.start ?_
 refine DW.seq (RK hnt (nn 2 []) [(0, .p (slCount p0)), (3, rr 1024)] [(1024, bx [pI p1])] trivial (by kernel_rfl) ?_)
 obtain ⟨r1, hr1, hm⟩ := bind_open hm
 refine DW.seq (RK hnt (nn 2 (.call 139 [1024] true (pI r1) [.box [pI p1]] [] :: .no :: [])) [(4, pI r1)] [] (an (IndexFunc_slices_CountQatFa_pidsSpec p0 p1 r1 hr1) (an trivial trivial)) (by kernel_rfl) ?_)
 refine DW.ret ?_
 obtain rfl := Option.some.inj hm
 refine retOK (bs' := []) [] (pI r1) (by kernel_rfl) ?_ ?_
 · rfl
 · rfl

abbrev c24e1 : Nat × Obj := (1032, bx [pI 0, pI 0, pI 0, pI 0, pI 0])
theorem Get_pidsSpec (p0 : List Count) (p1 : Int) (RES : Count × Bool) (hm : Get_pids p0 p1 = some RES) : Spec Tryz.prog 24 [.p (slCount p0), pI p1] [] (.p (.tup [.agg (encCount RES.1), vb RES.2])) [] [] := by
 unfold Get_pids at hm
 refine spec_of Tgood (T := Tt) Tryz.func24 (by decide) (c := _) rfl rfl (sl := [(0, .p (slCount p0)), (1, pI p1)]) (ob := []) (Nat.le_of_ble_eq_true rfl) (Nat.le_of_ble_eq_true rfl) (by kernel_rfl) (by kernel_rfl) ?_
 intro cx hnt
 refine DW.start ?_
 refine DW.seq (RK hnt (nn 2 []) [(0, .p (slCount p0)), (1, pI p1), (4, rr 1032)] [(c24e1)] trivial (by kernel_rfl) ?_)
 obtain ⟨r1, hr1, hm⟩ := bind_open hm
 refine DW.seq (RK hnt (nn 2 (.call 86 [] true (pI r1) [] [] :: .no :: [])) [(0, .p (slCount p0)), (4, rr 1032), (6, pI r1)] [(c24e1)] (an (at_pidsSpec p0 p1 r1 hr1) trivial) (by kernel_rfl) ?_)
 refine DW.seq (DW.seq (RK hnt (nn 2 []) [(0, .p (slCount p0)), (4, rr 1032), (6, pI r1), (11, pB (decide (r1 < 0)))] [(c24e1)] trivial (by kernel_rfl) ?_))
 refine DW.cond (decide (r1 < 0)) rfl rfl ?_ ?_
 ·
  intro h2
  replace hm := if_t h2 hm
  refine DW.seq (RK hnt (nn 3 []) [(4, rr 1032), (5, pB false)] [(c24e1)] trivial (by kernel_rfl) ?_)
  refine DW.ret ?_
  obtain rfl := Option.some.inj hm
  refine retOK (bs' := []) [] (.p (.tup [.agg [vi 0, vi 0, vi 0, vi 0, vi 0], vb false])) (by kernel_rfl) ?_ ?_
  · rfl
  · rfl
 ·
  intro h2
  replace hm := if_f h2 hm
  refine DW.skip ?_
  obtain ⟨g3, hm⟩ := guard_open hm
  refine DW.seq (RK hnt (nn 6 []) [(4, rr 1032), (5, pB true)] [(1032, bx (pm (encCount (p0.getD (Int.toNat r1) dCount))))] (an g3.1 (an g3.2 trivial)) (by kernel_rfl) ?_)
  refine DW.ret ?_
  obtain rfl := Option.some.inj hm
  refine retOK (bs' := []) [] (.p (.tup [.agg (encCount (p0.getD (Int.toNat r1) dCount)), vb true])) (by kernel_rfl) ?_ ?_
  · rfl
  · rfl
end Go.Dm

