/- slices.Insert of one element into a row of one element: it returns, and leaves other memory alone. -/
import Derived.Test.YtlgpejehffhplaaGreatDoorProg
import Derived.Shelf.Spec.SlicesInsertGrow
set_option linter.unusedVariables false
set_option linter.unusedSimpArgs false
namespace Go.Dm
open Go.Proofs Go.RowKit Go.Lib Go.Shelf
theorem copyN {P : Program} (w : World) (dT sT ty elem : TypeId) (b o dLen dCap : Nat) (a : Addr) (sLen sCap z : Nat) (cs : List Value)
  (hu : P.underlying dT = some (.slice elem)) (hs : (P.info? elem).map (·.size) = some z) (hn : cs.length = Nat.min sLen dLen * z)
  (hsrc : ∀ j v,cs[j]? = some v -> w.cell? (a.add j) = some v) (hc : ∀ j,j < cs.length -> (w.cell? ⟨b,o + j,none⟩).isSome = true) (hf : ∀ j,j < cs.length -> w.frozen? ⟨b,o + j,none⟩ = false) (h1 : ∀ v ∈ cs,v.oneCell' = true) :
  (Builtin.copy_ #[dT,sT] ty #[.slice (some ⟨b,o,none⟩) dLen dCap,.slice (some a) sLen sCap]).run P w = .ok (goInt (Nat.min sLen dLen)) (w.setCells b o cs) := by
 have hl := run_loadCells_list (P := P) w a cs hsrc
 have hst := run_storeCells_cells (P := P) b o cs 0 w (by simpa using hc) (by simpa using hf) h1
 cases hq : P.info? elem with
 | none => simp [hq] at hs
 | some i =>
  have hi : i.size = z := by simpa [hq] using hs
  simp [Builtin.copy_,run_underlying hu,Builtin.lenOf,Builtin.firstCells,sizeOf,typeInfo,hq,hi,<- hn,hl,hst]
structure OnlyB (b : Nat) (w w' : World) : Prop where
 os : w'.os = w.os
 tape : w'.tape = w.tape
 output : w'.output = w.output
 size : w'.heap.size = w.heap.size
 block : ∀ k,k ≠ b -> w'.heap[k]? = w.heap[k]?
theorem OnlyB.refl (b : Nat) (w : World) : OnlyB b w w := ⟨rfl,rfl,rfl,rfl,fun _ _ => rfl⟩
theorem OnlyB.trans {b : Nat} {a c d : World} (h : OnlyB b a c) (k : OnlyB b c d) : OnlyB b a d :=
 ⟨k.os.trans h.os,k.tape.trans h.tape,k.output.trans h.output,k.size.trans h.size,fun i hi => (k.block i hi).trans (h.block i hi)⟩
theorem OnlyB.drew (b : Nat) (w : World) : OnlyB b w w.drew := ⟨rfl,rfl,rfl,rfl,fun _ _ => rfl⟩
theorem OnlyB.setCells (b : Nat) : ∀ (vs : List Value) (o : Nat) (w : World),OnlyB b w (w.setCells b o vs)
 | [],_,w => OnlyB.refl b w
 | v :: r,o,w => by
  rw [World.setCells]
  have h1 : OnlyB b w (w.setCell ⟨b,o,none⟩ v) := by
   refine ⟨rfl,rfl,rfl,?_,fun k hk => ?_⟩
   ·simp [World.setCell]
   ·simp only [World.setCell]
    rw [Array.getElem?_modify,if_neg (Ne.symm hk)]
  exact h1.trans (OnlyB.setCells b r (o + 1) _)
theorem It.under : Tryz.prog.underlying 215 = some (.slice 221) := by kernel_rfl
theorem It.size : (Tryz.prog.info? 221).map (·.size) = some 3 := by kernel_rfl
set_option maxHeartbeats 4000000 in
set_option maxRecDepth 100000 in
theorem ins_room (b o cap vb vo vc : Nat) (x0 x1 x2 y0 y1 y2 : Value) (w : World) (hcap : 2 <= cap) (hvb : vb ≠ b)
  (hcs : ∀ j v,[x0,x1,x2][j]? = some v -> w.cell? ⟨b,o + j,none⟩ = some v) (hsp : ∀ j,j < 6 -> (w.cell? ⟨b,o + j,none⟩).isSome = true) (hfz : ∀ j,w.frozen? ⟨b,j,none⟩ = false)
  (hvs : ∀ j v,[y0,y1,y2][j]? = some v -> w.cell? ⟨vb,vo + j,none⟩ = some v) (h1c : ∀ v ∈ [x0,x1,x2],v.oneCell' = true) (h1v : ∀ v ∈ [y0,y1,y2],v.oneCell' = true)
  (tA tB : TypeId) (kA kB : Nat) (hsa : w.shape? vb = some (tA,kA)) (hsb : w.shape? b = some (tB,kB)) (hkB : kB ≠ 0) (hfa : ∀ j,w.frozen? ⟨vb,j,none⟩ = false) :
  Calls Tryz.prog 460 #[.slice (some ⟨b,o,none⟩) 1 cap,.int .i64 0,.slice (some ⟨vb,vo,none⟩) 1 vc] w fun e w' => (∃ v,e = .returned v) /\ OnlyB b w w' := by
 have hov : ∀ lb cb,(callFunc 492 #[.slice (some ⟨vb,vo,none⟩) 1 vc,.slice (some ⟨b,o + 3,none⟩) lb cb]).run Tryz.prog w = .ok (.value (.bool false)) w := fun lb cb => by
  rw [run_callFunc_extern Tryz.func492 (by kernel_rfl) (by kernel_rfl) (by kernel_rfl) (e := Extern.SlicesOverlaps.overlaps #[215,215] #[4]) (by kernel_rfl),
   Lib.run_overlaps_apart w 215 4 221 It.under 3 (fun _ => by kernel_rfl) ⟨vb,vo,none⟩ ⟨b,o + 3,none⟩ 1 vc lb cb hvb tA tB kA kB hsa hsb hkB (hfa _) (hfa _)]
  rfl
 have hcp1 : ∀ ty dc sc,(Builtin.copy_ #[215,215] ty #[.slice (some ⟨b,o + 3,none⟩) 1 dc,.slice (some ⟨b,o,none⟩) 2 sc]).run Tryz.prog w.drew = .ok (goInt 1) (w.drew.setCells b (o + 3) [x0,x1,x2]) := fun ty dc sc =>
  copyN w.drew 215 215 ty 221 b (o + 3) 1 dc ⟨b,o,none⟩ 2 sc 3 [x0,x1,x2] It.under It.size rfl
   (fun j v hj => by rw [Addr.add_lit]; exact hcs j v hj) (fun j hj => by rw [Nat.add_assoc]; exact hsp _ (by simp at hj; omega)) (fun j _ => hfz _) h1c
 obtain ⟨W1,hW1⟩ : ∃ W1,W1 = w.drew.setCells b (o + 3) [x0,x1,x2] := ⟨_,rfl⟩
 have hcp2 : ∀ (W : World),(∀ x,W.cell? x = W1.cell? x) -> (∀ x,W.frozen? x = W1.frozen? x) -> ∀ ty dl dc,1 <= dl -> (Builtin.copy_ #[215,215] ty #[.slice (some ⟨b,o,none⟩) dl dc,.slice (some ⟨vb,vo,none⟩) 1 vc]).run Tryz.prog W = .ok (goInt 1) (W.setCells b o [y0,y1,y2]) := fun W hWc hWf ty dl dc hdl => by
  have e : Nat.min 1 dl = 1 := by simp only [Nat.min_def]; split <;> omega
  have := copyN W 215 215 ty 221 b o dl dc ⟨vb,vo,none⟩ 1 vc 3 [y0,y1,y2] It.under It.size (by rw [e]; rfl)
   (fun j v hj => by
    rw [Addr.add_lit,hWc,hW1,World.cell?_setCells_out b _ _ _ _ (fun h _ => absurd h hvb)]
    exact hvs j v hj)
   (fun j hj => by
    rw [hWc,hW1]
    exact isSome_setCells b _ _ _ (fun j hj => by rw [Nat.add_assoc]; exact hsp _ (by simp at hj; omega)) _ (hsp _ (by simp at hj; omega)))
   (fun j hj => by rw [hWf,hW1,World.frozen?_setCells]; exact hfz _) h1v
  rw [e] at this
  exact this
 rw [<- hW1] at hcp1
 have mixed : Tryz.prog.follows .mixedOrders = true := by kernel_rfl
 have hb0 : ¬ ((2 : Int) > (cap : Int)) := by omega
 have hb2 : ¬ (cap = 1) := by omega
 have hb4 : ¬ (cap = 0) := by omega
 have hwr : IntKind.i64.wrap 1 = 1 := by decide
 go_enter Tryz.func460,Tryz.ntmps460
 go_wp2_with (simp only [hov])
 go_region_law_o (refine step_copy_runI rfl _ _ 215 215 rfl _ _ (by simp [Act.eval,Act.put]) (by simp [Act.eval,Act.put]) (hcp1 _ _ _) ?_)
 go_wp2_with (at_builtin; refine wpList_copy_runI _ rfl _ _ 215 215 rfl _ _ rfl rfl (hcp2 _ (fun _ => rfl) (fun _ => rfl) _ _ _ (by omega)) ?_)
 go_ret
 subst hW1
 exact ⟨⟨_,rfl⟩,((OnlyB.drew b w).trans (OnlyB.setCells b _ _ _)).trans (OnlyB.setCells b _ _ _)⟩
theorem It.info0 : (Tryz.prog.info? 221).map (fun i => (i.zero,i.size,i.bytes)) = some (some (.agg #[.int .i64 0,.slice none 0 0,.int .i64 0]),3,40) := by kernel_rfl
theorem It.int : Tryz.prog.underlying 3 = some (.int .i64) := by kernel_rfl
structure GrewB (w w' : World) : Prop where
 os : w'.os = w.os
 tape : w'.tape = w.tape
 output : w'.output = w.output
 size : w.heap.size <= w'.heap.size
 block : ∀ k,k < w.heap.size -> w'.heap[k]? = w.heap[k]?
theorem GrewB.of {w w' : World} {o : Go.Obj} (h : OnlyB w.heap.size (w.alloc o) w') : GrewB w w' := by
 have e : (w.alloc o).heap = w.heap.push o := rfl
 refine ⟨h.os,h.tape,h.output,?_,fun k hk => (h.block k (by omega)).trans ?_⟩
 ·rw [h.size,e,Array.size_push]
  omega
 ·rw [e,Array.getElem?_push,if_neg (by omega)]
set_option maxHeartbeats 4000000 in
set_option maxRecDepth 100000 in
theorem ins_grow (b o vb vo vc : Nat) (x0 x1 x2 y0 y1 y2 : Value) (w : World)
  (hcs : ∀ j v,[x0,x1,x2][j]? = some v -> w.cell? ⟨b,o + j,none⟩ = some v)
  (hvs : ∀ j v,[y0,y1,y2][j]? = some v -> w.cell? ⟨vb,vo + j,none⟩ = some v) (h1c : ∀ v ∈ [x0,x1,x2],v.oneCell' = true) (h1v : ∀ v ∈ [y0,y1,y2],v.oneCell' = true) :
  Calls Tryz.prog 460 #[.slice (some ⟨b,o,none⟩) 1 1,.int .i64 0,.slice (some ⟨vb,vo,none⟩) 1 vc] w fun e w' => (∃ v,e = .returned v) /\ GrewB w w' := by
 have mixed : Tryz.prog.follows .mixedOrders = true := by kernel_rfl
 obtain ⟨i0,hi0,hz0,hzs,hzb⟩ := info_parts It.info0
 have hbw : b < w.heap.size := block_lt_of_cell (hcs 0 x0 rfl)
 have hvw : vb < w.heap.size := block_lt_of_cell (hvs 0 y0 rfl)
 have hold : (Builtin.firstCells i0.size 0 (.slice (some ⟨b,o,none⟩) 0 1)).run Tryz.prog w.drew = .ok #[] w.drew := by
  exact run_firstCells_some w.drew i0.size 0 ⟨b,o,none⟩ 0 1 [] (by simp) (by simp)
 have hrz : ∀ ty,(Builtin.append_ #[215,3] ty #[.slice (some ⟨b,o,none⟩) 0 1,.int .i64 2]).run Tryz.prog w =
   .ok (.slice (some ⟨w.heap.size,0,none⟩) 2 (grownCap w 2 1 221)) (w.drew.alloc (.cells (#[] ++ Builtin.zeroCells (Value.agg #[.int .i64 0,.slice none 0 0,.int .i64 0]).cells 2 ++ Builtin.zeroCells (Value.agg #[.int .i64 0,.slice none 0 0,.int .i64 0]).cells (grownCap w 2 1 221 - 2)) 221)) := fun ty => by
  exact Lib.run_append_grow_zeros w 215 3 ty 221 i0 _ .i64 .i64 It.under It.int hi0 hz0 (some ⟨b,o,none⟩) 0 1 [] hold 2 (by omega) (by omega) (by omega) (by omega) (by rw [hzb]; omega) (by rw [hzb]; decide)
 obtain ⟨G,hG⟩ : ∃ G,G = grownCap w 2 1 221 := ⟨_,rfl⟩
 obtain ⟨ROW,hROW⟩ : ∃ ROW : Array Value,ROW = #[] ++ Builtin.zeroCells (Value.agg #[.int .i64 0,.slice none 0 0,.int .i64 0]).cells 2 ++ Builtin.zeroCells (Value.agg #[.int .i64 0,.slice none 0 0,.int .i64 0]).cells (G - 2) := ⟨_,rfl⟩
 rw [<- hG] at hrz
 rw [<- hROW] at hrz
 have hRl : 6 <= ROW.size := by
  rw [hROW]
  simp [Builtin.zeroCells,Value.cells]
 obtain ⟨W1,hW1⟩ : ∃ W1,W1 = w.drew.alloc (.cells ROW 221) := ⟨_,rfl⟩
 rw [<- hW1] at hrz
 have hN : ∀ j,j < 6 -> (W1.cell? ⟨w.heap.size,j,none⟩).isSome = true := fun j hj => by
  rw [hW1,World.cell?_alloc_at (w := w.drew) ROW _ w.heap.size j rfl,Array.getElem?_eq_getElem (by omega)]; rfl
 have hNf : ∀ j,W1.frozen? ⟨w.heap.size,j,none⟩ = false := fun j => by rw [hW1]; exact World.frozen?_alloc_at (w := w.drew) ROW _ w.heap.size j rfl
 have hOb : ∀ j v,w.cell? ⟨b,j,none⟩ = some v -> W1.cell? ⟨b,j,none⟩ = some v := fun j v h => by rw [hW1,World.cell?_alloc_past (w := w.drew) _ b j hbw]; exact h
 have hOv : ∀ j v,w.cell? ⟨vb,j,none⟩ = some v -> W1.cell? ⟨vb,j,none⟩ = some v := fun j v h => by rw [hW1,World.cell?_alloc_past (w := w.drew) _ vb j hvw]; exact h
 have hGn : 2 <= G := by rw [hG]; exact grownCap_ge w _ _ _
 have hcpA : ∀ (W : World),(∀ x,W.cell? x = W1.cell? x) -> (∀ x,W.frozen? x = W1.frozen? x) -> ∀ ty dc,(Builtin.copy_ #[215,215] ty #[.slice (some ⟨w.heap.size,0,none⟩) 2 dc,.slice (some ⟨vb,vo,none⟩) 1 vc]).run Tryz.prog W = .ok (goInt 1) (W.setCells w.heap.size 0 [y0,y1,y2]) := fun W hWc hWf ty dc =>
  copyN W 215 215 ty 221 w.heap.size 0 2 dc ⟨vb,vo,none⟩ 1 vc 3 [y0,y1,y2] It.under It.size rfl
   (fun j v hj => by rw [Addr.add_lit,hWc]; exact hOv _ v (hvs j v hj))
   (fun j hj => by rw [hWc]; exact hN _ (by simp at hj; omega)) (fun j hj => by rw [hWf]; exact hNf _) h1v
 have hbN : b ≠ w.heap.size := by omega
 have hcpB : ∀ (W : World),(∀ x,W.cell? x = (W1.setCells w.heap.size 0 [y0,y1,y2]).cell? x) -> (∀ x,W.frozen? x = (W1.setCells w.heap.size 0 [y0,y1,y2]).frozen? x) -> ∀ ty dc sc,(Builtin.copy_ #[215,215] ty #[.slice (some ⟨w.heap.size,3,none⟩) 1 dc,.slice (some ⟨b,o,none⟩) 1 sc]).run Tryz.prog W = .ok (goInt 1) (W.setCells w.heap.size 3 [x0,x1,x2]) := fun W hWc hWf ty dc sc =>
  copyN W 215 215 ty 221 w.heap.size 3 1 dc ⟨b,o,none⟩ 1 sc 3 [x0,x1,x2] It.under It.size rfl
   (fun j v hj => by
    rw [Addr.add_lit,hWc,World.cell?_setCells_out _ _ _ _ _ (fun h _ => absurd h hbN)]
    exact hOb _ v (hcs j v hj))
   (fun j hj => by rw [hWc]; exact isSome_setCells _ _ _ _ (fun t ht => hN _ (by simp at ht; omega)) _ (hN _ (by simp at hj; omega)))
   (fun j hj => by rw [hWf,World.frozen?_setCells]; exact hNf _) h1c
 subst hW1
 have hE1 : ∀ x,((w.alloc (.cells ROW 221)).drew).cell? x = (w.drew.alloc (.cells ROW 221)).cell? x := fun x => rfl
 have hE2 : ∀ x,((w.alloc (.cells ROW 221)).drew).frozen? x = (w.drew.alloc (.cells ROW 221)).frozen? x := fun x => rfl
 have hF1 : ∀ x,(((w.alloc (.cells ROW 221)).drew.setCells w.heap.size 0 [y0,y1,y2]).drew).cell? x = ((w.drew.alloc (.cells ROW 221)).setCells w.heap.size 0 [y0,y1,y2]).cell? x := fun x => rfl
 have hF2 : ∀ x,(((w.alloc (.cells ROW 221)).drew.setCells w.heap.size 0 [y0,y1,y2]).drew).frozen? x = ((w.drew.alloc (.cells ROW 221)).setCells w.heap.size 0 [y0,y1,y2]).frozen? x := fun x => rfl
 have hGi : ¬ (G = 0) := by omega
 have hGim : ¬ (G = 1) := by omega
 have hwr : IntKind.i64.wrap 1 = 1 := by decide
 have hwr2 : IntKind.i64.wrap 2 = 2 := by decide
 clear hold hROW hG hRl
 go_enter Tryz.func460,Tryz.ntmps460
 go_wp2_with (first
  | (at_builtin; refine Lib.wpList_append_run _ rfl _ _ _ _ rfl _ _ rfl rfl _ _ (hrz _) ?_)
  | (at_builtin; refine wpList_copy_runI _ rfl _ _ 215 215 rfl _ _ rfl rfl (hcpA _ hE1 hE2 _ _) ?_)
  | (at_builtin; refine wpList_copy_runI _ rfl _ _ 215 215 rfl _ _ rfl rfl (hcpB _ (fun _ => rfl) (fun _ => rfl) _ _ _) ?_))
 go_region_law_o (refine step_copy_runI rfl _ _ 215 215 rfl (.slice (some ⟨w.heap.size,3,none⟩) 1 (G - 1)) (.slice (some ⟨b,o,none⟩) 1 1) (by simp [Act.eval,Act.put]) (by simp [Act.eval,Act.put]) (hcpB _ hF1 hF2 3 (G - 1) 1) ?_)
 go_wp2
 go_ret
 exact ⟨⟨_,rfl⟩,GrewB.of (((OnlyB.drew _ _).trans (OnlyB.setCells _ _ _ _)).trans ((OnlyB.drew _ _).trans (OnlyB.setCells _ _ _ _)))⟩
end Go.Dm
