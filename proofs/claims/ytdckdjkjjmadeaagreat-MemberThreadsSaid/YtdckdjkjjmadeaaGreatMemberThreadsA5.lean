/- Texts of the proof of MemberThreads: the data machine, the models of the Go functions, their contracts. -/
import Derived.Test.YtdckdjkjjmadeaaGreatMemberThreadsA4
set_option linter.unusedVariables false
set_option linter.unusedSimpArgs false
/- Go functions compute their models, printed by a program. -/
namespace Go.Dm
open Go.Proofs
set_option linter.unusedVariables false
abbrev c177e1 (s4 : (List Int) × Int) := (s4.1.getD (Int.toNat (w64 (s4.2 - 1))) 0)
abbrev c177e2 (s4 : (List Int) × Int) := (updF (updF (elI s4.1) (Int.toNat s4.2) [vi (c177e1 s4)]) (Int.toNat (w64 (s4.2 - 1))) (setRange ((updF (elI s4.1) (Int.toNat s4.2) [vi (c177e1 s4)]) (Int.toNat (w64 (s4.2 - 1)))) 0 [vi (s4.1.getD (Int.toNat s4.2) 0)]))
abbrev c177e3 (s4 : (List Int) × Int) := ((s4.1.set (Int.toNat s4.2) (c177e1 s4)).set (Int.toNat (w64 (s4.2 - 1))) (s4.1.getD (Int.toNat s4.2) 0))
theorem insertionSortOrdered_slices_intSpec (p0 : List Int) (p1 : Int) (p2 : Int) (RES : List Int) (hm : insertionSortOrdered_slices_int p0 p1 p2 = some RES) : Spec Tryz.prog 177 [ow 0 p0.length, pI p1, pI p2] [roI p0] (.p (.tup [])) [roI RES] [] := by
 unfold insertionSortOrdered_slices_int at hm
 refine SO Tryz.func177 rfl rfl [(0, ow 0 p0.length), (1, pI p1), (2, pI p2)] [(0, ob0 (roI p0))] ?_
 intro cx hnt
 refine DW.seq (RD hnt (nn 3 []) [] [(6, pI (w64 (p1 + 1)))] [] [] trivial ?_)
 refine DW.block ?_
 obtain ⟨hc1, hm⟩ := guard_open hm
 refine DW.forO (fun (k1 : Int) (s1 : List Int) => mkSt [(0, ow 0 s1.length), (1, pI p1), (2, pI p2), (6, pI k1)] [(0, ob0 (roI s1))]) (lo := (w64 (p1 + 1))) (hi := p2) hm Conv.eqK ?_
 intro k1 s1 n1 hk1 hs1 he1
 refine DW.seq (DW.seq (RD hnt (nn 3 []) [] [(12, pB (decide (k1 < p2)))] [] [] trivial ?_))
 refine condK (decide (k1 < p2)) ?_ ?_
 ·intro h75
  have hlt1 : k1 < p2 := by have := of_decide_eq_true h75; omega
  have hm := hs1 hlt1
  unfold insertionSortOrdered_slices_intL1 at hm
  refine DW.skip ?_
  refine DW.seq (DW.block ?_)
  refine DW.seq (RD hnt (nn 2 []) [12] [(7, pI k1)] [] [] trivial ?_)
  refine DW.block ?_
  refine DW.whileO (fun (s4 : (List Int) × Int) => mkSt [(0, ow 0 s4.1.length), (1, pI p1), (2, pI p2), (6, pI k1), (7, pI s4.2)] [(0, ob0 (roI s4.1))]) hm Conv.eqK ?_
  intro s4 n4 hm
  unfold insertionSortOrdered_slices_intL4 at hm
  refine DW.seq (DW.seq ?_)
  refine DW.join (ι := Bool) (fun (y6 : Bool) => mkSt [(0, ow 0 s4.1.length), (1, pI p1), (2, pI p2), (6, pI k1), (7, pI s4.2), (30, pB y6)] [(0, ob0 (roI s4.1))]) (fun y6 => (insertionSortOrdered_slices_intJ6 n1 s4 n4) y6 = some RES) ?_ ?_
  ·intro y6 hm
   unfold insertionSortOrdered_slices_intJ6 at hm
   refine condM hm ?_ ?_
   ·intro h97 hm
    refine DW.skip ?_
    refine DW.seq (DW.block ?_)
    obtain ⟨g98, g99, g100, g101, hm⟩ := go4 hm
    obtain ⟨g102, g103, g104, g105, hm⟩ := go4 hm
    refine RN hnt (nn 18 []) [(0, ow 0 (c177e3 s4).length), (1, pI p1), (2, pI p2), (6, pI k1), (7, pI s4.2)] [(0, ob0 (roI (c177e3 s4)))] [(0, ow 0 s4.1.length)] [(0, .row 1 s4.1.length (c177e2 s4))] (an g98.1 (an g98.2 (an g99 (an g100.1 (an g100.2 (an g101 (an g102.1 (an g102.2 (an g103 (an g104.1 (an g104.2 (an g105 trivial)))))))))))) (by kernel_rfl) (.cons rfl (MLe.ownLen (enc := encI) (d := 0) (f := (c177e2 s4)) (RowIs.updR (RowIs.upd RowIs.elems (c177e1 s4) rfl) (by omega) (s4.1.getD (Int.toNat s4.2) 0) rfl)) .nil) (.cons rfl (BLe.typed (RowIs.updR (RowIs.upd RowIs.elems (c177e1 s4) rfl) (by omega) (s4.1.getD (Int.toNat s4.2) 0) rfl)) .nil) ?_
    refine DW.done ?_
    show DW _ _ _ _ _
    refine RD hnt (nn 3 []) [] [(7, pI (w64 (s4.2 - 1)))] [] [] trivial ?_
    exact joinDone ((c177e3 s4), (w64 (s4.2 - 1))) hm Conv.eqK
   ·intro h97 hm
    refine DW.exit ?_
    refine joinQ_exit ?_
    refine KQ_exit ?_
    refine blockQ_exit ?_
    show DW _ _ _ _ _
    refine DW.done ?_
    show DW _ _ _ _ _
    refine RD hnt (nn 3 []) [7, 30] [(6, pI (w64 (k1 + 1)))] [] [] trivial ?_
    exact joinDone s4.1 ⟨hlt1, hm⟩ (Conv.tp [(6, pI (w64 (k1 + 1)))] [] (by kernel_rfl) (.cons rfl (.of_eq (congrArg pI (w64_for (lo := (w64 (p1 + 1))) (hi := p2) (by omega) hk1 hlt1 (by omega)))) .nil) .nil)
  ·rcases bt (decide (s4.2 > p1)) with h91 | h91
   ·replace hm := if_t h91 hm
    obtain ⟨g92, g93, g94, g95, hm⟩ := go4 hm
    obtain ⟨r96, hr96, hm⟩ := bind_open hm
    refine RD hnt (nn 13 (.call 183 [] true (pB r96) [] [] :: pT :: [])) [] [(30, pB r96)] [] [] (an3 h91 (an g92.1 (an g92.2 (an h91 (an g93 (an4 h91 (an g94.1 (an g94.2 (an h91 (an g95 (an h91 (an (Less_cmp_intSpec (s4.1.getD (Int.toNat s4.2) 0) (c177e1 s4) r96 hr96) (an h91 trivial))))))))))))) ?_
    exact joinDone r96 hm Conv.eqK
   ·replace hm := if_f h91 hm
    refine RD hnt (nn 4 (sk 10 (pF :: []))) [] [(30, pB false)] [] [] (an5 h91 (an6 h91 trivial)) ?_
    exact joinDone false hm Conv.eqK
 ·intro h75
  have hge1 : ¬ k1 < p2 := by have := of_decide_eq_false h75; omega
  have hm := he1 hge1
  unfold insertionSortOrdered_slices_intD1 at hm
  refine DW.exit ?_
  refine joinQ_exit ?_
  refine KQ_exit ?_
  refine blockQ_exit ?_
  show DW _ _ _ _ _
  refine DW.done ?_
  obtain rfl := Option.some.inj hm
  exact endK [roI s1] [] (.p (.tup []))

abbrev c190e1 (s1 : (List Int) × Int) (p3 : Int) (y4 : Int) := (updF (updF (elI s1.1) (Int.toNat (w64 (p3 + s1.2))) [vi (s1.1.getD (Int.toNat (w64 (p3 + y4))) 0)]) (Int.toNat (w64 (p3 + y4))) (setRange ((updF (elI s1.1) (Int.toNat (w64 (p3 + s1.2))) [vi (s1.1.getD (Int.toNat (w64 (p3 + y4))) 0)]) (Int.toNat (w64 (p3 + y4)))) 0 [vi (s1.1.getD (Int.toNat (w64 (p3 + s1.2))) 0)]))
abbrev c190e2 (s1 : (List Int) × Int) (p3 : Int) (y4 : Int) := ((s1.1.set (Int.toNat (w64 (p3 + s1.2))) (s1.1.getD (Int.toNat (w64 (p3 + y4))) 0)).set (Int.toNat (w64 (p3 + y4))) (s1.1.getD (Int.toNat (w64 (p3 + s1.2))) 0))
abbrev c190e3 (s1 : (List Int) × Int) := (w64 ((w64 (2 * s1.2)) + 1))
theorem siftDownOrdered_slices_intSpec (p0 : List Int) (p1 : Int) (p2 : Int) (p3 : Int) (RES : List Int) (hm : siftDownOrdered_slices_int p0 p1 p2 p3 = some RES) : Spec Tryz.prog 190 [ow 0 p0.length, pI p1, pI p2, pI p3] [roI p0] (.p (.tup [])) [roI RES] [] := by
 unfold siftDownOrdered_slices_int at hm
 refine SO Tryz.func190 rfl rfl [(0, ow 0 p0.length), (1, pI p1), (2, pI p2), (3, pI p3)] [(0, ob0 (roI p0))] ?_
 intro cx hnt
 refine DW.seq (RD hnt (nn 2 []) [1] [(8, pI p1)] [] [] trivial ?_)
 refine DW.block ?_
 refine DW.whileO (fun (s1 : (List Int) × Int) => mkSt [(0, ow 0 s1.1.length), (2, pI p2), (3, pI p3), (8, pI s1.2)] [(0, ob0 (roI s1.1))]) hm Conv.eqK ?_
 intro s1 n1 hm
 unfold siftDownOrdered_slices_intL1 at hm
 refine DW.block ?_
 refine DW.seq (RD hnt (nn 4 []) [] [(9, pI (c190e3 s1))] [] [] trivial ?_)
 refine DW.seq (DW.seq (RD hnt (nn 3 []) [] [(16, pB (decide ((c190e3 s1) ≥ p2)))] [] [] trivial ?_))
 refine condM hm ?_ ?_
 ·intro h23 hm
  refine DW.exit ?_
  refine blockQ_other (by decide) ?_
  refine KQ_exit ?_
  refine joinQ_exit ?_
  refine KQ_exit ?_
  refine blockQ_exit ?_
  show DW _ _ _ _ _
  refine DW.done ?_
  obtain rfl := Option.some.inj hm
  exact endK [roI s1.1] [] (.p (.tup []))
 ·intro h23 hm
  refine DW.skip ?_
  refine DW.seq (DW.seq ?_)
  refine DW.join (ι := Bool) (fun (y3 : Bool) => mkSt [(0, ow 0 s1.1.length), (2, pI p2), (3, pI p3), (8, pI s1.2), (9, pI (c190e3 s1)), (36, pB y3)] [(0, ob0 (roI s1.1))]) (fun y3 => (siftDownOrdered_slices_intJ3 p3 s1 n1) y3 = some RES) ?_ ?_
  ·intro y3 hm
   unfold siftDownOrdered_slices_intJ3 at hm
   refine DW.join (ι := Int) (fun (y4 : Int) => mkSt [(0, ow 0 s1.1.length), (2, pI p2), (3, pI p3), (8, pI s1.2), (9, pI y4)] [(0, ob0 (roI s1.1))]) (fun y4 => (siftDownOrdered_slices_intJ4 p3 s1 n1) y4 = some RES) ?_ ?_
   ·intro y4 hm
    unfold siftDownOrdered_slices_intJ4 at hm
    obtain ⟨g31, g32, g33, g34, hm⟩ := go4 hm
    obtain ⟨r35, hr35, hm⟩ := bind_open hm
    refine DW.seq (DW.seq (RD hnt (nn 12 (.call 183 [] true (pB r35) [] [] :: .no :: [])) [] [(52, pB (!r35))] [] [] (an g31.1 (an g31.2 (an g32 (an g33.1 (an g33.2 (an g34 (an (Less_cmp_intSpec (s1.1.getD (Int.toNat (w64 (p3 + s1.2))) 0) (s1.1.getD (Int.toNat (w64 (p3 + y4))) 0) r35 hr35) trivial))))))) ?_))
    refine condM hm ?_ ?_
    ·intro h36 hm
     refine DW.ret ?_
     obtain rfl := Option.some.inj hm
     exact retK [roI s1.1] [] (.p (.tup []))
    ·intro h36 hm
     refine DW.skip ?_
     obtain ⟨g37, g38, g39, g40, hm⟩ := go4 hm
     obtain ⟨g41, g42, g43, g44, hm⟩ := go4 hm
     refine DW.seq (RN hnt (nn 24 []) [(0, ow 0 (c190e2 s1 p3 y4).length), (2, pI p2), (3, pI p3), (9, pI y4)] [(0, ob0 (roI (c190e2 s1 p3 y4)))] [(0, ow 0 s1.1.length)] [(0, .row 1 s1.1.length (c190e1 s1 p3 y4))] (an g37.1 (an g37.2 (an g38 (an g39.1 (an g39.2 (an g40 (an g41.1 (an g41.2 (an g42 (an g43.1 (an g43.2 (an g44 trivial)))))))))))) (by kernel_rfl) (.cons rfl (MLe.ownLen (enc := encI) (d := 0) (f := (c190e1 s1 p3 y4)) (RowIs.updR (RowIs.upd RowIs.elems (s1.1.getD (Int.toNat (w64 (p3 + y4))) 0) rfl) (by omega) (s1.1.getD (Int.toNat (w64 (p3 + s1.2))) 0) rfl)) .nil) (.cons rfl (BLe.typed (RowIs.updR (RowIs.upd RowIs.elems (s1.1.getD (Int.toNat (w64 (p3 + y4))) 0) rfl) (by omega) (s1.1.getD (Int.toNat (w64 (p3 + s1.2))) 0) rfl)) .nil) ?_)
     refine RD hnt (nn 2 []) [9] [(8, pI y4)] [] [] trivial ?_
     refine DW.done ?_
     show DW _ _ _ _ _
     exact joinDone ((c190e2 s1 p3 y4), y4) hm Conv.eqK
   ·refine condM hm ?_ ?_
    ·intro h30 hm
     refine RD hnt (nn 3 []) [36] [(9, pI (w64 ((c190e3 s1) + 1)))] [] [] trivial ?_
     exact joinDone (w64 ((c190e3 s1) + 1)) hm Conv.eqK
    ·intro h30 hm
     refine DW.skip ?_
     exact joinDone (c190e3 s1) hm Conv.t0
  ·rcases bt (decide ((w64 ((c190e3 s1) + 1)) < p2)) with h24 | h24
   ·replace hm := if_t h24 hm
    obtain ⟨g25, g26, g27, g28, hm⟩ := go4 hm
    obtain ⟨r29, hr29, hm⟩ := bind_open hm
    refine RD hnt (nn 18 (.call 183 [] true (pB r29) [] [] :: pT :: [])) [16] [(36, pB r29)] [] [] (an5 h24 (an g25.1 (an g25.2 (an h24 (an g26 (an6 h24 (an g27.1 (an g27.2 (an h24 (an g28 (an h24 (an (Less_cmp_intSpec (s1.1.getD (Int.toNat (w64 (p3 + (c190e3 s1)))) 0) (s1.1.getD (Int.toNat (w64 ((w64 (p3 + (c190e3 s1))) + 1))) 0) r29 hr29) (an h24 trivial))))))))))))) ?_
    exact joinDone r29 hm Conv.eqK
   ·replace hm := if_f h24 hm
    refine RD hnt (nn 5 (sk 14 (pF :: []))) [16] [(36, pB false)] [] [] (an3 h24 (an6 h24 (an6 h24 trivial))) ?_
    exact joinDone false hm Conv.eqK

abbrev c178e1 (s3 : (List Int) × Int) (p1 : Int) := ((s3.1.set (Int.toNat p1) (s3.1.getD (Int.toNat (w64 (p1 + s3.2))) 0)).set (Int.toNat (w64 (p1 + s3.2))) (s3.1.getD (Int.toNat p1) 0))
abbrev c178e2 (s3 : (List Int) × Int) (p1 : Int) := (updF (updF (elI s3.1) (Int.toNat p1) [vi (s3.1.getD (Int.toNat (w64 (p1 + s3.2))) 0)]) (Int.toNat (w64 (p1 + s3.2))) (setRange ((updF (elI s3.1) (Int.toNat p1) [vi (s3.1.getD (Int.toNat (w64 (p1 + s3.2))) 0)]) (Int.toNat (w64 (p1 + s3.2)))) 0 [vi (s3.1.getD (Int.toNat p1) 0)]))
theorem heapSortOrdered_slices_intSpec (p0 : List Int) (p1 : Int) (p2 : Int) (RES : List Int) (hm : heapSortOrdered_slices_int p0 p1 p2 = some RES) : Spec Tryz.prog 178 [ow 0 p0.length, pI p1, pI p2] [roI p0] (.p (.tup [])) [roI RES] [] := by
 unfold heapSortOrdered_slices_int at hm
 refine SO Tryz.func178 rfl rfl [(0, ow 0 p0.length), (1, pI p1), (2, pI p2)] [(0, ob0 (roI p0))] ?_
 intro cx hnt
 refine DW.seq (RD hnt (nn 2 []) [] [(6, pI p1)] [] [] trivial ?_)
 refine DW.seq (RD hnt (.no :: []) [] [(7, pI 0)] [] [] trivial ?_)
 refine DW.seq (RD hnt (nn 4 []) [1, 2] [(8, pI (w64 (p2 - p1)))] [] [] trivial ?_)
 refine DW.seq (DW.seq (RD hnt (nn 4 []) [] [(9, pI (w64 (Int.tdiv (w64 ((w64 (p2 - p1)) - 1)) 2)))] [] [] (an (by decide : (2 : Int) ≠ 0) trivial) ?_))
 refine DW.block ?_
 refine DW.whileO (fun (s1 : (List Int) × Int) => mkSt [(0, ow 0 s1.1.length), (6, pI p1), (7, pI 0), (8, pI (w64 (p2 - p1))), (9, pI s1.2)] [(0, ob0 (roI s1.1))]) hm Conv.eqK ?_
 intro s1 n1 hm
 unfold heapSortOrdered_slices_intL1 at hm
 refine DW.seq (DW.seq (RD hnt (nn 2 []) [] [(19, pB (decide (s1.2 ≥ 0)))] [] [] trivial ?_))
 refine condM hm ?_ ?_
 ·intro h26 hm
  refine DW.skip ?_
  refine DW.seq (DW.block ?_)
  obtain ⟨r27, hr27, hm⟩ := bind_open hm
  obtain ⟨g28, hm⟩ := guard_open hm
  refine RN hnt (nn 4 (.call 190 [0] true (.p (.tup [])) [roI r27] [] :: [])) [(0, ow 0 r27.length), (6, pI p1), (7, pI 0), (8, pI (w64 (p2 - p1))), (9, pI s1.2)] [(0, ob0 (roI r27))] [(0, ow 0 s1.1.length)] [] (an (siftDownOrdered_slices_intSpec s1.1 s1.2 (w64 (p2 - p1)) p1 r27 hr27) (an (⟨rfl, g28⟩ : Body.same (roI s1.1) (roI r27)) trivial)) (by kernel_rfl) (.cons rfl (MLe.of_eq (congrArg (MV.own 0 0 0) g28)) .nil) .nil ?_
  refine DW.done ?_
  show DW _ _ _ _ _
  refine RD hnt (nn 3 []) [] [(9, pI (w64 (s1.2 - 1)))] [] [] trivial ?_
  exact joinDone (r27, (w64 (s1.2 - 1))) hm Conv.eqK
 ·intro h26 hm
  refine DW.exit ?_
  refine joinQ_exit ?_
  refine KQ_exit ?_
  refine blockQ_exit ?_
  show DW _ _ _ _ _
  refine DW.seq (RD hnt (nn 3 []) [8, 9, 19] [(10, pI (w64 ((w64 (p2 - p1)) - 1)))] [] [] trivial ?_)
  refine DW.block ?_
  refine DW.whileO (fun (s3 : (List Int) × Int) => mkSt [(0, ow 0 s3.1.length), (6, pI p1), (7, pI 0), (10, pI s3.2)] [(0, ob0 (roI s3.1))]) hm Conv.eqK ?_
  intro s3 n3 hm
  unfold heapSortOrdered_slices_intL3 at hm
  refine DW.seq (DW.seq (RD hnt (nn 2 []) [] [(30, pB (decide (s3.2 ≥ 0)))] [] [] trivial ?_))
  refine condM hm ?_ ?_
  ·intro h40 hm
   refine DW.skip ?_
   refine DW.seq (DW.block ?_)
   obtain ⟨g41, g42, g43, g44, hm⟩ := go4 hm
   obtain ⟨g45, g46, g47, g48, hm⟩ := go4 hm
   refine DW.seq (RN hnt (nn 20 []) [(0, ow 0 (c178e1 s3 p1).length), (6, pI p1), (7, pI 0), (10, pI s3.2)] [(0, ob0 (roI (c178e1 s3 p1)))] [(0, ow 0 s3.1.length)] [(0, .row 1 s3.1.length (c178e2 s3 p1))] (an g41.1 (an g41.2 (an g42 (an g43.1 (an g43.2 (an g44 (an g45.1 (an g45.2 (an g46 (an g47.1 (an g47.2 (an g48 trivial)))))))))))) (by kernel_rfl) (.cons rfl (MLe.ownLen (enc := encI) (d := 0) (f := (c178e2 s3 p1)) (RowIs.updR (RowIs.upd RowIs.elems (s3.1.getD (Int.toNat (w64 (p1 + s3.2))) 0) rfl) (by omega) (s3.1.getD (Int.toNat p1) 0) rfl)) .nil) (.cons rfl (BLe.typed (RowIs.updR (RowIs.upd RowIs.elems (s3.1.getD (Int.toNat (w64 (p1 + s3.2))) 0) rfl) (by omega) (s3.1.getD (Int.toNat p1) 0) rfl)) .nil) ?_)
   obtain ⟨r49, hr49, hm⟩ := bind_open hm
   obtain ⟨g50, hm⟩ := guard_open hm
   refine RN hnt (nn 4 (.call 190 [0] true (.p (.tup [])) [roI r49] [] :: [])) [(0, ow 0 r49.length), (6, pI p1), (7, pI 0), (10, pI s3.2)] [(0, ob0 (roI r49))] [(0, ow 0 (c178e1 s3 p1).length)] [] (an (siftDownOrdered_slices_intSpec (c178e1 s3 p1) 0 s3.2 p1 r49 hr49) (an (⟨rfl, g50⟩ : Body.same (roI (c178e1 s3 p1)) (roI r49)) trivial)) (by kernel_rfl) (.cons rfl (MLe.of_eq (congrArg (MV.own 0 0 0) g50)) .nil) .nil ?_
   refine DW.done ?_
   show DW _ _ _ _ _
   refine RD hnt (nn 3 []) [] [(10, pI (w64 (s3.2 - 1)))] [] [] trivial ?_
   exact joinDone (r49, (w64 (s3.2 - 1))) hm Conv.eqK
  ·intro h40 hm
   refine DW.exit ?_
   refine joinQ_exit ?_
   refine KQ_exit ?_
   refine blockQ_exit ?_
   show DW _ _ _ _ _
   refine DW.done ?_
   obtain rfl := Option.some.inj hm
   exact endK [roI s3.1] [] (.p (.tup []))

theorem order2Ordered_slices_intSpec (p0 : List Int) (p1 : Int) (p2 : Int) (p3 : Int) (RES : Int × Int × Int) (hm : order2Ordered_slices_int p0 p1 p2 p3 = some RES) : Spec Tryz.prog 196 [.p (slI p0), pI p1, pI p2, rr 0] [.box [pI p3]] (.p (.tup [vi RES.1, vi RES.2.1])) [.box [pI RES.2.2]] [] := by
 unfold order2Ordered_slices_int at hm
 refine SO Tryz.func196 rfl rfl [(0, .p (slI p0)), (1, pI p1), (2, pI p2), (3, rr 0)] [(0, bx [pI p3])] ?_
 intro cx hnt
 refine DW.seq (RD hnt (nn 2 []) [] [] [] [] trivial ?_)
 obtain ⟨g1, g2, hm⟩ := go2 hm
 obtain ⟨r3, hr3, hm⟩ := bind_open hm
 refine DW.seq (DW.seq (RD hnt (nn 8 (.call 183 [] true (pB r3) [] [] :: [])) [0] [(18, pB r3)] [] [] (an g1.1 (an g1.2 (an g2.1 (an g2.2 (an (Less_cmp_intSpec (p0.getD (Int.toNat p2) 0) (p0.getD (Int.toNat p1) 0) r3 hr3) trivial))))) ?_))
 refine condM hm ?_ ?_
 ·intro h4 hm
  refine DW.seq (RD hnt (nn 6 []) [3, 18] [] [] [(0, bx [pI (w64 (p3 + 1))])] trivial ?_)
  refine DW.seq (RD hnt (nn 4 []) [1, 2] [(8, pI p2), (9, pI p1)] [] [] trivial ?_)
  refine DW.ret ?_
  obtain rfl := Option.some.inj hm
  exact retK [.box [pI (w64 (p3 + 1))]] [] (.p (.tup [vi p2, vi p1]))
 ·intro h4 hm
  refine DW.skip ?_
  refine DW.seq (RK hnt (nn 4 []) [(8, pI p1), (9, pI p2)] [(0, bx [pI p3])] trivial ?_)
  refine DW.ret ?_
  obtain rfl := Option.some.inj hm
  exact retK [.box [pI p3]] [] (.p (.tup [vi p1, vi p2]))

theorem medianOrdered_slices_intSpec (p0 : List Int) (p1 : Int) (p2 : Int) (p3 : Int) (p4 : Int) (RES : Int × Int) (hm : medianOrdered_slices_int p0 p1 p2 p3 p4 = some RES) : Spec Tryz.prog 194 [.p (slI p0), pI p1, pI p2, pI p3, rr 0] [.box [pI p4]] (pI RES.1) [.box [pI RES.2]] [] := by
 unfold medianOrdered_slices_int at hm
 refine SO Tryz.func194 rfl rfl [(0, .p (slI p0)), (1, pI p1), (2, pI p2), (3, pI p3), (4, rr 0)] [(0, bx [pI p4])] ?_
 intro cx hnt
 refine DW.seq (RD hnt (.no :: []) [] [] [] [] trivial ?_)
 obtain ⟨r1, hr1, hm⟩ := bind_open hm
 refine DW.seq (RD hnt (nn 4 (.call 196 [0] true (.p (.tup [vi r1.1, vi r1.2.1])) [.box [pI r1.2.2]] [] :: nn 5 [])) [] [(1, pI r1.1), (2, pI r1.2.1)] [] [(0, bx [pI r1.2.2])] (an (order2Ordered_slices_intSpec p0 p1 p2 p4 r1 hr1) (an trivial trivial)) ?_)
 obtain ⟨r2, hr2, hm⟩ := bind_open hm
 refine DW.seq (RD hnt (nn 4 (.call 196 [0] true (.p (.tup [vi r2.1, vi r2.2.1])) [.box [pI r2.2.2]] [] :: nn 5 [])) [3] [(2, pI r2.1)] [] [(0, bx [pI r2.2.2])] (an (order2Ordered_slices_intSpec p0 r1.2.1 p3 r1.2.2 r2 hr2) (an trivial trivial)) ?_)
 obtain ⟨r3, hr3, hm⟩ := bind_open hm
 refine DW.seq (RK hnt (nn 4 (.call 196 [0] true (.p (.tup [vi r3.1, vi r3.2.1])) [.box [pI r3.2.2]] [] :: nn 5 [])) [(2, pI r3.2.1)] [(0, bx [pI r3.2.2])] (an (order2Ordered_slices_intSpec p0 r1.1 r2.1 r2.2.2 r3 hr3) (an trivial trivial)) ?_)
 refine DW.seq (RD hnt (nn 2 []) [2] [(10, pI r3.2.1)] [] [] trivial ?_)
 refine DW.ret ?_
 obtain rfl := Option.some.inj hm
 exact retK [.box [pI r3.2.2]] [] (pI r3.2.1)

theorem medianAdjacentOrdered_slices_intSpec (p0 : List Int) (p1 : Int) (p2 : Int) (RES : Int × Int) (hm : medianAdjacentOrdered_slices_int p0 p1 p2 = some RES) : Spec Tryz.prog 193 [.p (slI p0), pI p1, rr 0] [.box [pI p2]] (pI RES.1) [.box [pI RES.2]] [] := by
 unfold medianAdjacentOrdered_slices_int at hm
 refine SO Tryz.func193 rfl rfl [(0, .p (slI p0)), (1, pI p1), (2, rr 0)] [(0, bx [pI p2])] ?_
 intro cx hnt
 refine DW.seq (RD hnt (.no :: []) [] [] [] [] trivial ?_)
 obtain ⟨r1, hr1, hm⟩ := bind_open hm
 refine DW.seq (RK hnt (nn 7 (.call 194 [0] true (pI r1.1) [.box [pI r1.2]] [] :: .no :: [])) [(6, pI r1.1)] [(0, bx [pI r1.2])] (an (medianOrdered_slices_intSpec p0 (w64 (p1 - 1)) p1 (w64 (p1 + 1)) p2 r1 hr1) (an trivial trivial)) ?_)
 refine DW.ret ?_
 obtain rfl := Option.some.inj hm
 exact retK [.box [pI r1.2]] [] (pI r1.1)

abbrev c180e1 (p2 : Int) (p1 : Int) := (w64 (Int.tdiv (w64 (p2 - p1)) 4))
abbrev c180e2 (p1 : Int) (p2 : Int) := (w64 (p1 + (w64 ((c180e1 p2 p1) * 2))))
theorem choosePivotOrdered_slices_intSpec (p0 : List Int) (p1 : Int) (p2 : Int) (RES : Int × Int) (hm : choosePivotOrdered_slices_int p0 p1 p2 = some RES) : Spec Tryz.prog 180 [.p (slI p0), pI p1, pI p2] [] (.p (.tup [vi RES.1, vi RES.2])) [] [] := by
 unfold choosePivotOrdered_slices_int at hm
 refine SO Tryz.func180 rfl rfl [(0, .p (slI p0)), (1, pI p1), (2, pI p2)] [] ?_
 intro cx hnt
 refine DW.seq (RD hnt (nn 2 []) [] [] [] [] trivial ?_)
 refine DW.seq (RD hnt (nn 4 []) [2] [(8, pI (w64 (p2 - p1)))] [] [] trivial ?_)
 refine DW.seq (RD hnt (.no :: []) [] [(9, rr 1072)] [] [(1072, bx [pI 0])] trivial ?_)
 refine DW.seq (RD hnt (nn 6 []) [] [(10, pI (w64 (p1 + (w64 ((c180e1 p2 p1) * 1)))))] [] [] (an (by decide : (4 : Int) ≠ 0) trivial) ?_)
 refine DW.seq (RD hnt (nn 6 []) [] [(11, pI (c180e2 p1 p2))] [] [] (an (by decide : (4 : Int) ≠ 0) trivial) ?_)
 refine DW.seq (RD hnt (nn 6 []) [1] [(12, pI (w64 (p1 + (w64 ((c180e1 p2 p1) * 3)))))] [] [] (an (by decide : (4 : Int) ≠ 0) trivial) ?_)
 refine DW.seq (DW.seq (RD hnt (nn 2 []) [] [(32, pB (decide ((w64 (p2 - p1)) ≥ 8)))] [] [] trivial ?_))
 refine DW.join (ι := Int × Int) (fun (y1 : Int × Int) => mkSt [(9, rr 1072), (11, pI y1.2)] [(1072, bx [pI y1.1])]) (fun y1 => choosePivotOrdered_slices_intJ1 y1 = some RES) ?_ ?_
 ·intro y1 hm
  unfold choosePivotOrdered_slices_intJ1 at hm
  refine DW.seq (RK hnt (.no :: []) [(11, pI y1.2), (49, pI y1.1)] [] trivial ?_)
  refine DW.block ?_
  refine DW.seq (RD hnt (nn 2 []) [] [(51, pB (y1.1 == 0))] [] [] trivial ?_)
  refine condM hm ?_ ?_
  ·intro h7 hm
   refine DW.seq (RK hnt (nn 3 []) [(6, pI y1.2), (7, pI 1)] [] trivial ?_)
   refine DW.ret ?_
   obtain rfl := Option.some.inj hm
   exact retK [] [] (.p (.tup [vi y1.2, vi 1]))
  ·intro h7 hm
   refine DW.seq (RK hnt (nn 2 []) [(11, pI y1.2), (54, pB (y1.1 == 12))] [] trivial ?_)
   refine condM hm ?_ ?_
   ·intro h8 hm
    refine DW.seq (RK hnt (nn 3 []) [(6, pI y1.2), (7, pI 2)] [] trivial ?_)
    refine DW.ret ?_
    obtain rfl := Option.some.inj hm
    exact retK [] [] (.p (.tup [vi y1.2, vi 2]))
   ·intro h8 hm
    refine DW.seq (RK hnt (nn 3 []) [(6, pI y1.2), (7, pI 0)] [] trivial ?_)
    refine DW.ret ?_
    obtain rfl := Option.some.inj hm
    exact retK [] [] (.p (.tup [vi y1.2, vi 0]))
 ·refine condM hm ?_ ?_
  ·intro h1 hm
   refine DW.seq (DW.seq (RD hnt (nn 2 []) [8, 32] [(34, pB (decide ((w64 (p2 - p1)) ≥ 50)))] [] [] trivial ?_))
   refine DW.join (ι := Int × Int × Int × Int) (fun (y2 : Int × Int × Int × Int) => mkSt [(0, .p (slI p0)), (9, rr 1072), (10, pI y2.2.1), (11, pI y2.2.2.1), (12, pI y2.2.2.2)] [(1072, bx [pI y2.1])]) (fun y2 => (choosePivotOrdered_slices_intJ2 p0) y2 = some RES) ?_ ?_
   ·intro y2 hm
    unfold choosePivotOrdered_slices_intJ2 at hm
    obtain ⟨r6, hr6, hm⟩ := bind_open hm
    refine RK hnt (nn 4 (.call 194 [1072] true (pI r6.1) [.box [pI r6.2]] [] :: .no :: [])) [(9, rr 1072), (11, pI r6.1)] [(1072, bx [pI r6.2])] (an (medianOrdered_slices_intSpec p0 y2.2.1 y2.2.2.1 y2.2.2.2 y2.1 r6 hr6) (an trivial trivial)) ?_
    exact joinDone (r6.2, r6.1) hm .refl
   ·refine condM hm ?_ ?_
    ·intro h2 hm
     obtain ⟨r3, hr3, hm⟩ := bind_open hm
     refine DW.seq (RK hnt (nn 2 (.call 193 [1072] true (pI r3.1) [.box [pI r3.2]] [] :: .no :: [])) [(0, .p (slI p0)), (9, rr 1072), (10, pI r3.1), (11, pI (c180e2 p1 p2)), (12, pI (w64 (p1 + (w64 ((c180e1 p2 p1) * 3)))))] [(1072, bx [pI r3.2])] (an (medianAdjacentOrdered_slices_intSpec p0 (w64 (p1 + (w64 ((c180e1 p2 p1) * 1)))) 0 r3 hr3) (an trivial trivial)) ?_)
     obtain ⟨r4, hr4, hm⟩ := bind_open hm
     refine DW.seq (RD hnt (nn 2 (.call 193 [1072] true (pI r4.1) [.box [pI r4.2]] [] :: .no :: [])) [] [(11, pI r4.1)] [] [(1072, bx [pI r4.2])] (an (medianAdjacentOrdered_slices_intSpec p0 (c180e2 p1 p2) r3.2 r4 hr4) (an trivial trivial)) ?_)
     obtain ⟨r5, hr5, hm⟩ := bind_open hm
     refine RD hnt (nn 2 (.call 193 [1072] true (pI r5.1) [.box [pI r5.2]] [] :: .no :: [])) [] [(12, pI r5.1)] [] [(1072, bx [pI r5.2])] (an (medianAdjacentOrdered_slices_intSpec p0 (w64 (p1 + (w64 ((c180e1 p2 p1) * 3)))) r4.2 r5 hr5) (an trivial trivial)) ?_
     exact joinDone (r5.2, r3.1, r4.1, r5.1) hm Conv.eqK
    ·intro h2 hm
     refine DW.skip ?_
     exact joinDone (0, (w64 (p1 + (w64 ((c180e1 p2 p1) * 1)))), (c180e2 p1 p2), (w64 (p1 + (w64 ((c180e1 p2 p1) * 3))))) hm Conv.t0
  ·intro h1 hm
   refine DW.skip ?_
   exact joinDone (0, (c180e2 p1 p2)) hm Conv.t0

abbrev c181e1 (s1 : (List Int) × Int × Int) := (updF (updF (elI s1.1) (Int.toNat s1.2.1) [vi (s1.1.getD (Int.toNat s1.2.2) 0)]) (Int.toNat s1.2.2) (setRange ((updF (elI s1.1) (Int.toNat s1.2.1) [vi (s1.1.getD (Int.toNat s1.2.2) 0)]) (Int.toNat s1.2.2)) 0 [vi (s1.1.getD (Int.toNat s1.2.1) 0)]))
abbrev c181e2 (s1 : (List Int) × Int × Int) := ((s1.1.set (Int.toNat s1.2.1) (s1.1.getD (Int.toNat s1.2.2) 0)).set (Int.toNat s1.2.2) (s1.1.getD (Int.toNat s1.2.1) 0))
theorem reverseRangeOrdered_slices_intSpec (p0 : List Int) (p1 : Int) (p2 : Int) (RES : List Int) (hm : reverseRangeOrdered_slices_int p0 p1 p2 = some RES) : Spec Tryz.prog 181 [ow 0 p0.length, pI p1, pI p2] [roI p0] (.p (.tup [])) [roI RES] [] := by
 unfold reverseRangeOrdered_slices_int at hm
 refine SO Tryz.func181 rfl rfl [(0, ow 0 p0.length), (1, pI p1), (2, pI p2)] [(0, ob0 (roI p0))] ?_
 intro cx hnt
 refine DW.seq (RD hnt (nn 2 []) [1] [(6, pI p1)] [] [] trivial ?_)
 refine DW.seq (RD hnt (nn 3 []) [2] [(7, pI (w64 (p2 - 1)))] [] [] trivial ?_)
 refine DW.block ?_
 refine DW.whileO (fun (s1 : (List Int) × Int × Int) => mkSt [(0, ow 0 s1.1.length), (6, pI s1.2.1), (7, pI s1.2.2)] [(0, ob0 (roI s1.1))]) hm Conv.eqK ?_
 intro s1 n1 hm
 unfold reverseRangeOrdered_slices_intL1 at hm
 refine DW.seq (DW.seq (RD hnt (nn 3 []) [] [(13, pB (decide (s1.2.1 < s1.2.2)))] [] [] trivial ?_))
 refine condM hm ?_ ?_
 ·intro h10 hm
  refine DW.skip ?_
  refine DW.block ?_
  obtain ⟨g11, g12, g13, g14, hm⟩ := go4 hm
  obtain ⟨g15, g16, g17, g18, hm⟩ := go4 hm
  refine DW.seq (RN hnt (nn 16 []) [(0, ow 0 (c181e2 s1).length), (6, pI s1.2.1), (7, pI s1.2.2)] [(0, ob0 (roI (c181e2 s1)))] [(0, ow 0 s1.1.length)] [(0, .row 1 s1.1.length (c181e1 s1))] (an g11.1 (an g11.2 (an g12 (an g13.1 (an g13.2 (an g14 (an g15.1 (an g15.2 (an g16 (an g17.1 (an g17.2 (an g18 trivial)))))))))))) (by kernel_rfl) (.cons rfl (MLe.ownLen (enc := encI) (d := 0) (f := (c181e1 s1)) (RowIs.updR (RowIs.upd RowIs.elems (s1.1.getD (Int.toNat s1.2.2) 0) rfl) (by omega) (s1.1.getD (Int.toNat s1.2.1) 0) rfl)) .nil) (.cons rfl (BLe.typed (RowIs.updR (RowIs.upd RowIs.elems (s1.1.getD (Int.toNat s1.2.2) 0) rfl) (by omega) (s1.1.getD (Int.toNat s1.2.1) 0) rfl)) .nil) ?_)
  refine DW.seq (RD hnt (nn 3 []) [] [(6, pI (w64 (s1.2.1 + 1)))] [] [] trivial ?_)
  refine RD hnt (nn 3 []) [] [(7, pI (w64 (s1.2.2 - 1)))] [] [] trivial ?_
  refine DW.done ?_
  show DW _ _ _ _ _
  exact joinDone ((c181e2 s1), (w64 (s1.2.1 + 1)), (w64 (s1.2.2 - 1))) hm Conv.eqK
 ·intro h10 hm
  refine DW.exit ?_
  refine joinQ_exit ?_
  refine KQ_exit ?_
  refine blockQ_exit ?_
  show DW _ _ _ _ _
  refine DW.done ?_
  obtain rfl := Option.some.inj hm
  exact endK [roI s1.1] [] (.p (.tup []))

abbrev c182e1 (s15 : (List Int) × Int) := (s15.1.getD (Int.toNat (w64 (s15.2 - 1))) 0)
abbrev c182e2 (s1 : (List Int) × Int) (s12 : Int) := (updF (updF (elI s1.1) (Int.toNat s12) [vi (s1.1.getD (Int.toNat (w64 (s12 - 1))) 0)]) (Int.toNat (w64 (s12 - 1))) (setRange ((updF (elI s1.1) (Int.toNat s12) [vi (s1.1.getD (Int.toNat (w64 (s12 - 1))) 0)]) (Int.toNat (w64 (s12 - 1)))) 0 [vi (s1.1.getD (Int.toNat s12) 0)]))
abbrev c182e3 (s16 : List Int) (k16 : Int) := (updF (updF (elI s16) (Int.toNat k16) [vi (s16.getD (Int.toNat (w64 (k16 - 1))) 0)]) (Int.toNat (w64 (k16 - 1))) (setRange ((updF (elI s16) (Int.toNat k16) [vi (s16.getD (Int.toNat (w64 (k16 - 1))) 0)]) (Int.toNat (w64 (k16 - 1)))) 0 [vi (s16.getD (Int.toNat k16) 0)]))
abbrev c182e4 (s1 : (List Int) × Int) (s12 : Int) := ((s1.1.set (Int.toNat s12) (s1.1.getD (Int.toNat (w64 (s12 - 1))) 0)).set (Int.toNat (w64 (s12 - 1))) (s1.1.getD (Int.toNat s12) 0))
abbrev c182e5 (s16 : List Int) (k16 : Int) := ((s16.set (Int.toNat k16) (s16.getD (Int.toNat (w64 (k16 - 1))) 0)).set (Int.toNat (w64 (k16 - 1))) (s16.getD (Int.toNat k16) 0))
abbrev c182e6 (s15 : (List Int) × Int) := (updF (updF (elI s15.1) (Int.toNat s15.2) [vi (c182e1 s15)]) (Int.toNat (w64 (s15.2 - 1))) (setRange ((updF (elI s15.1) (Int.toNat s15.2) [vi (c182e1 s15)]) (Int.toNat (w64 (s15.2 - 1)))) 0 [vi (s15.1.getD (Int.toNat s15.2) 0)]))
abbrev c182e7 (s15 : (List Int) × Int) := ((s15.1.set (Int.toNat s15.2) (c182e1 s15)).set (Int.toNat (w64 (s15.2 - 1))) (s15.1.getD (Int.toNat s15.2) 0))
theorem partialInsertionSortOrdered_slices_intSpec (p0 : List Int) (p1 : Int) (p2 : Int) (RES : Bool × (List Int)) (hm : partialInsertionSortOrdered_slices_int p0 p1 p2 = some RES) : Spec Tryz.prog 182 [ow 0 p0.length, pI p1, pI p2] [roI p0] (pB RES.1) [roI RES.2] [] := by
 unfold partialInsertionSortOrdered_slices_int at hm
 refine SO Tryz.func182 rfl rfl [(0, ow 0 p0.length), (1, pI p1), (2, pI p2)] [(0, ob0 (roI p0))] ?_
 intro cx hnt
 refine DW.seq (RD hnt (.no :: []) [] [] [] [] trivial ?_)
 refine DW.seq (RD hnt (nn 3 []) [] [(7, pI (w64 (p1 + 1)))] [] [] trivial ?_)
 refine DW.seq (DW.seq (RD hnt (.no :: []) [] [(8, pI 0)] [] [] trivial ?_))
 refine DW.block ?_
 refine DW.forO (fun (k1 : Int) (s1 : (List Int) × Int) => mkSt [(0, ow 0 s1.1.length), (1, pI p1), (2, pI p2), (7, pI s1.2), (8, pI k1)] [(0, ob0 (roI s1.1))]) (lo := 0) (hi := 5) hm Conv.eqK ?_
 intro k1 s1 n1 hk1 hs1 he1
 refine DW.seq (DW.seq (RD hnt (nn 2 []) [] [(14, pB (decide (k1 < 5)))] [] [] trivial ?_))
 refine condK (decide (k1 < 5)) ?_ ?_
 ·intro h391
  have hlt1 : k1 < 5 := by have := of_decide_eq_true h391; omega
  have hm := hs1 hlt1
  unfold partialInsertionSortOrdered_slices_intL1 at hm
  refine DW.skip ?_
  refine DW.seq ?_
  refine DW.join (ι := (List Int) × Int) (fun (y11 : (List Int) × Int) => mkSt [(0, ow 0 y11.1.length), (1, pI p1), (2, pI p2), (7, pI y11.2), (8, pI k1)] [(0, ob0 (roI y11.1))]) (fun y11 => (partialInsertionSortOrdered_slices_intJ11 n1) y11 = some RES) ?_ ?_
  ·intro y11 hm
   unfold partialInsertionSortOrdered_slices_intJ11 at hm
   refine RD hnt (nn 3 []) [] [(8, pI (w64 (k1 + 1)))] [] [] trivial ?_
   exact joinDone (y11.1, y11.2) ⟨hlt1, hm⟩ (Conv.tp [(8, pI (w64 (k1 + 1)))] [] (by kernel_rfl) (.cons rfl (.of_eq (congrArg pI (w64_for (lo := 0) (hi := 5) (by omega) hk1 hlt1 (by omega)))) .nil) .nil)
  ·refine DW.block ?_
   refine DW.seq (DW.block ?_)
   refine DW.whileO (fun (s12 : Int) => mkSt [(0, ow 0 s1.1.length), (1, pI p1), (2, pI p2), (7, pI s12), (8, pI k1)] [(0, ob0 (roI s1.1))]) hm Conv.t0 ?_
   intro s12 n12 hm
   unfold partialInsertionSortOrdered_slices_intL12 at hm
   refine DW.seq (DW.seq ?_)
   refine DW.join (ι := Bool) (fun (y14 : Bool) => mkSt [(0, ow 0 s1.1.length), (1, pI p1), (2, pI p2), (7, pI s12), (8, pI k1), (32, pB y14)] [(0, ob0 (roI s1.1))]) (fun y14 => (partialInsertionSortOrdered_slices_intJ14 p1 p2 s1 n1 s12 n12) y14 = some RES) ?_ ?_
   ·intro y14 hm
    unfold partialInsertionSortOrdered_slices_intJ14 at hm
    refine condM hm ?_ ?_
    ·intro h492 hm
     refine DW.skip ?_
     refine DW.block ?_
     refine RD hnt (nn 3 []) [32] [(7, pI (w64 (s12 + 1)))] [] [] trivial ?_
     refine DW.done ?_
     show DW _ _ _ _ _
     exact joinDone (w64 (s12 + 1)) hm Conv.eqK
    ·intro h492 hm
     refine DW.exit ?_
     refine joinQ_exit ?_
     refine KQ_exit ?_
     refine blockQ_exit ?_
     show DW _ _ _ _ _
     refine DW.seq (DW.seq (RD hnt (nn 3 []) [32] [(37, pB (s12 == p2))] [] [] trivial ?_))
     refine condM hm ?_ ?_
     ·intro h493 hm
      refine DW.seq (RK hnt (.no :: []) [(6, pB true)] [(0, ob0 (roI s1.1))] trivial ?_)
      refine DW.ret ?_
      obtain rfl := Option.some.inj hm
      exact retK [roI s1.1] [] (pB true)
     ·intro h493 hm
      refine DW.skip ?_
      refine DW.seq (DW.seq (RD hnt (nn 4 []) [37] [(41, pB (decide ((w64 (p2 - p1)) < 50)))] [] [] trivial ?_))
      refine condM hm ?_ ?_
      ·intro h494 hm
       refine DW.seq (RK hnt (.no :: []) [(6, pB false)] [(0, ob0 (roI s1.1))] trivial ?_)
       refine DW.ret ?_
       obtain rfl := Option.some.inj hm
       exact retK [roI s1.1] [] (pB false)
      ·intro h494 hm
       refine DW.skip ?_
       obtain ⟨g495, g496, g497, g498, hm⟩ := go4 hm
       obtain ⟨g499, g500, g501, g502, hm⟩ := go4 hm
       refine DW.seq (RN hnt (nn 18 []) [(0, ow 0 (c182e4 s1 s12).length), (1, pI p1), (2, pI p2), (7, pI s12), (8, pI k1)] [(0, ob0 (roI (c182e4 s1 s12)))] [(0, ow 0 s1.1.length)] [(0, .row 1 s1.1.length (c182e2 s1 s12))] (an g495.1 (an g495.2 (an g496 (an g497.1 (an g497.2 (an g498 (an g499.1 (an g499.2 (an g500 (an g501.1 (an g501.2 (an g502 trivial)))))))))))) (by kernel_rfl) (.cons rfl (MLe.ownLen (enc := encI) (d := 0) (f := (c182e2 s1 s12)) (RowIs.updR (RowIs.upd RowIs.elems (s1.1.getD (Int.toNat (w64 (s12 - 1))) 0) rfl) (by omega) (s1.1.getD (Int.toNat s12) 0) rfl)) .nil) (.cons rfl (BLe.typed (RowIs.updR (RowIs.upd RowIs.elems (s1.1.getD (Int.toNat (w64 (s12 - 1))) 0) rfl) (by omega) (s1.1.getD (Int.toNat s12) 0) rfl)) .nil) ?_)
       refine DW.seq (DW.seq (RD hnt (nn 4 []) [] [(61, pB (decide ((w64 (s12 - p1)) ≥ 2)))] [] [] trivial ?_))
       refine DW.join (ι := List Int) (fun (y15 : List Int) => mkSt [(0, ow 0 y15.length), (1, pI p1), (2, pI p2), (7, pI s12), (8, pI k1)] [(0, ob0 (roI y15))]) (fun y15 => (partialInsertionSortOrdered_slices_intJ15 p2 n1 s12) y15 = some RES) ?_ ?_
       ·intro y15 hm
        unfold partialInsertionSortOrdered_slices_intJ15 at hm
        refine DW.seq (RD hnt (nn 4 []) [] [(98, pB (decide ((w64 (p2 - s12)) ≥ 2)))] [] [] trivial ?_)
        refine condM hm ?_ ?_
        ·intro h534 hm
         refine DW.seq (RD hnt (nn 3 []) [98] [(10, pI (w64 (s12 + 1)))] [] [] trivial ?_)
         refine DW.block ?_
         obtain ⟨hc16, hm⟩ := guard_open hm
         refine DW.forO (fun (k16 : Int) (s16 : List Int) => mkSt [(0, ow 0 s16.length), (1, pI p1), (2, pI p2), (7, pI s12), (8, pI k1), (10, pI k16)] [(0, ob0 (roI s16))]) (lo := (w64 (s12 + 1))) (hi := p2) hm Conv.eqK ?_
         intro k16 s16 n16 hk16 hs16 he16
         refine DW.seq (DW.seq (RD hnt (nn 3 []) [] [(103, pB (decide (k16 < p2)))] [] [] trivial ?_))
         refine condK (decide (k16 < p2)) ?_ ?_
         ·intro h565
          have hlt16 : k16 < p2 := by have := of_decide_eq_true h565; omega
          have hm := hs16 hlt16
          unfold partialInsertionSortOrdered_slices_intL16 at hm
          refine DW.skip ?_
          refine DW.seq (DW.block ?_)
          obtain ⟨g566, g567, g568, g569, hm⟩ := go4 hm
          obtain ⟨r570, hr570, hm⟩ := bind_open hm
          refine DW.seq (DW.seq (RD hnt (nn 9 (.call 183 [] true (pB r570) [] [] :: .no :: [])) [103] [(116, pB (!r570))] [] [] (an g566.1 (an g566.2 (an g567 (an g568.1 (an g568.2 (an g569 (an (Less_cmp_intSpec (s16.getD (Int.toNat k16) 0) (s16.getD (Int.toNat (w64 (k16 - 1))) 0) r570 hr570) trivial))))))) ?_))
          refine condM hm ?_ ?_
          ·intro h571 hm
           refine DW.exit ?_
           refine blockQ_other (by decide) ?_
           refine KQ_exit ?_
           refine joinQ_exit ?_
           refine KQ_exit ?_
           refine blockQ_exit ?_
           show DW _ _ _ _ _
           exact blockDone (s16, s12) hm Conv.t0
          ·intro h571 hm
           refine DW.skip ?_
           obtain ⟨g572, g573, g574, g575, hm⟩ := go4 hm
           obtain ⟨g576, g577, g578, g579, hm⟩ := go4 hm
           refine RN hnt (nn 18 []) [(0, ow 0 (c182e5 s16 k16).length), (1, pI p1), (2, pI p2), (7, pI s12), (8, pI k1), (10, pI k16)] [(0, ob0 (roI (c182e5 s16 k16)))] [(0, ow 0 s16.length)] [(0, .row 1 s16.length (c182e3 s16 k16))] (an g572.1 (an g572.2 (an g573 (an g574.1 (an g574.2 (an g575 (an g576.1 (an g576.2 (an g577 (an g578.1 (an g578.2 (an g579 trivial)))))))))))) (by kernel_rfl) (.cons rfl (MLe.ownLen (enc := encI) (d := 0) (f := (c182e3 s16 k16)) (RowIs.updR (RowIs.upd RowIs.elems (s16.getD (Int.toNat (w64 (k16 - 1))) 0) rfl) (by omega) (s16.getD (Int.toNat k16) 0) rfl)) .nil) (.cons rfl (BLe.typed (RowIs.updR (RowIs.upd RowIs.elems (s16.getD (Int.toNat (w64 (k16 - 1))) 0) rfl) (by omega) (s16.getD (Int.toNat k16) 0) rfl)) .nil) ?_
           refine DW.done ?_
           show DW _ _ _ _ _
           refine RD hnt (nn 3 []) [] [(10, pI (w64 (k16 + 1)))] [] [] trivial ?_
           exact joinDone (c182e5 s16 k16) ⟨hlt16, hm⟩ (Conv.tp [(10, pI (w64 (k16 + 1)))] [] (by kernel_rfl) (.cons rfl (.of_eq (congrArg pI (w64_for (lo := (w64 (s12 + 1))) (hi := p2) (by omega) hk16 hlt16 (by omega)))) .nil) .nil)
         ·intro h565
          have hge16 : ¬ k16 < p2 := by have := of_decide_eq_false h565; omega
          have hm := he16 hge16
          unfold partialInsertionSortOrdered_slices_intD16 at hm
          refine DW.exit ?_
          refine joinQ_exit ?_
          refine KQ_exit ?_
          refine blockQ_exit ?_
          show DW _ _ _ _ _
          exact blockDone (s16, s12) hm Conv.t0
        ·intro h534 hm
         refine DW.skip ?_
         exact blockDone (y15, s12) hm Conv.t0
       ·refine condM hm ?_ ?_
        ·intro h503 hm
         refine DW.seq (RD hnt (nn 3 []) [61] [(9, pI (w64 (s12 - 1)))] [] [] trivial ?_)
         refine DW.block ?_
         refine DW.whileO (fun (s15 : (List Int) × Int) => mkSt [(0, ow 0 s15.1.length), (1, pI p1), (2, pI p2), (7, pI s12), (8, pI k1), (9, pI s15.2)] [(0, ob0 (roI s15.1))]) hm Conv.eqK ?_
         intro s15 n15 hm
         unfold partialInsertionSortOrdered_slices_intL15 at hm
         refine DW.seq (DW.seq (RD hnt (nn 2 []) [] [(65, pB (decide (s15.2 ≥ 1)))] [] [] trivial ?_))
         refine condM hm ?_ ?_
         ·intro h519 hm
          refine DW.skip ?_
          refine DW.seq (DW.block ?_)
          obtain ⟨g520, g521, g522, g523, hm⟩ := go4 hm
          obtain ⟨r524, hr524, hm⟩ := bind_open hm
          refine DW.seq (DW.seq (RD hnt (nn 9 (.call 183 [] true (pB r524) [] [] :: .no :: [])) [65] [(78, pB (!r524))] [] [] (an g520.1 (an g520.2 (an g521 (an g522.1 (an g522.2 (an g523 (an (Less_cmp_intSpec (s15.1.getD (Int.toNat s15.2) 0) (c182e1 s15) r524 hr524) trivial))))))) ?_))
          refine condM hm ?_ ?_
          ·intro h525 hm
           refine DW.exit ?_
           refine blockQ_other (by decide) ?_
           refine KQ_exit ?_
           refine joinQ_exit ?_
           refine KQ_exit ?_
           refine blockQ_exit ?_
           show DW _ _ _ _ _
           exact joinDone s15.1 hm Conv.t0
          ·intro h525 hm
           refine DW.skip ?_
           obtain ⟨g526, g527, g528, g529, hm⟩ := go4 hm
           obtain ⟨g530, g531, g532, g533, hm⟩ := go4 hm
           refine RN hnt (nn 18 []) [(0, ow 0 (c182e7 s15).length), (1, pI p1), (2, pI p2), (7, pI s12), (8, pI k1), (9, pI s15.2)] [(0, ob0 (roI (c182e7 s15)))] [(0, ow 0 s15.1.length)] [(0, .row 1 s15.1.length (c182e6 s15))] (an g526.1 (an g526.2 (an g527 (an g528.1 (an g528.2 (an g529 (an g530.1 (an g530.2 (an g531 (an g532.1 (an g532.2 (an g533 trivial)))))))))))) (by kernel_rfl) (.cons rfl (MLe.ownLen (enc := encI) (d := 0) (f := (c182e6 s15)) (RowIs.updR (RowIs.upd RowIs.elems (c182e1 s15) rfl) (by omega) (s15.1.getD (Int.toNat s15.2) 0) rfl)) .nil) (.cons rfl (BLe.typed (RowIs.updR (RowIs.upd RowIs.elems (c182e1 s15) rfl) (by omega) (s15.1.getD (Int.toNat s15.2) 0) rfl)) .nil) ?_
           refine DW.done ?_
           show DW _ _ _ _ _
           refine RD hnt (nn 3 []) [] [(9, pI (w64 (s15.2 - 1)))] [] [] trivial ?_
           exact joinDone ((c182e7 s15), (w64 (s15.2 - 1))) hm Conv.eqK
         ·intro h519 hm
          refine DW.exit ?_
          refine joinQ_exit ?_
          refine KQ_exit ?_
          refine blockQ_exit ?_
          show DW _ _ _ _ _
          exact joinDone s15.1 hm Conv.t0
        ·intro h503 hm
         refine DW.skip ?_
         exact joinDone (c182e4 s1 s12) hm Conv.t0
   ·rcases bt (decide (s12 < p2)) with h486 | h486
    ·replace hm := if_t h486 hm
     obtain ⟨g487, g488, g489, g490, hm⟩ := go4 hm
     obtain ⟨r491, hr491, hm⟩ := bind_open hm
     refine RD hnt (nn 13 (.call 183 [] true (pB r491) [] [] :: .no :: pT :: [])) [] [(32, pB (!r491))] [] [] (an3 h486 (an g487.1 (an g487.2 (an h486 (an g488 (an4 h486 (an g489.1 (an g489.2 (an h486 (an g490 (an h486 (an (Less_cmp_intSpec (s1.1.getD (Int.toNat s12) 0) (s1.1.getD (Int.toNat (w64 (s12 - 1))) 0) r491 hr491) (an2 h486 trivial))))))))))))) ?_
     exact joinDone (!r491) hm Conv.eqK
    ·replace hm := if_f h486 hm
     refine RD hnt (nn 4 (sk 11 (pF :: []))) [] [(32, pB false)] [] [] (an6 h486 (an6 h486 trivial)) ?_
     exact joinDone false hm Conv.eqK
 ·intro h391
  have hge1 : ¬ k1 < 5 := by have := of_decide_eq_false h391; omega
  have hm := he1 hge1
  unfold partialInsertionSortOrdered_slices_intD1 at hm
  refine DW.exit ?_
  refine joinQ_exit ?_
  refine KQ_exit ?_
  refine blockQ_exit ?_
  show DW _ _ _ _ _
  refine DW.seq (RK hnt (.no :: []) [(6, pB false)] [(0, ob0 (roI s1.1))] trivial ?_)
  refine DW.ret ?_
  obtain rfl := Option.some.inj hm
  exact retK [roI s1.1] [] (pB false)

abbrev c184e1 (p0 : List Int) (p1 : Int) (p3 : Int) := (updF (updF (elI p0) (Int.toNat p1) [vi (p0.getD (Int.toNat p3) 0)]) (Int.toNat p3) (setRange ((updF (elI p0) (Int.toNat p1) [vi (p0.getD (Int.toNat p3) 0)]) (Int.toNat p3)) 0 [vi (p0.getD (Int.toNat p1) 0)]))
abbrev c184e2 (s1 : (List Int) × Int × Int) (s5 : Int) (s7 : Int) := (updF (updF (elI s1.1) (Int.toNat s5) [vi (s1.1.getD (Int.toNat s7) 0)]) (Int.toNat s7) (setRange ((updF (elI s1.1) (Int.toNat s5) [vi (s1.1.getD (Int.toNat s7) 0)]) (Int.toNat s7)) 0 [vi (s1.1.getD (Int.toNat s5) 0)]))
abbrev c184e3 (s1 : (List Int) × Int × Int) (s5 : Int) (s7 : Int) := ((s1.1.set (Int.toNat s5) (s1.1.getD (Int.toNat s7) 0)).set (Int.toNat s7) (s1.1.getD (Int.toNat s5) 0))
theorem partitionEqualOrdered_slices_intSpec (p0 : List Int) (p1 : Int) (p2 : Int) (p3 : Int) (RES : Int × (List Int)) (hm : partitionEqualOrdered_slices_int p0 p1 p2 p3 = some RES) : Spec Tryz.prog 184 [ow 0 p0.length, pI p1, pI p2, pI p3] [roI p0] (pI RES.1) [roI RES.2] [] := by
 unfold partitionEqualOrdered_slices_int at hm
 refine SO Tryz.func184 rfl rfl [(0, ow 0 p0.length), (1, pI p1), (2, pI p2), (3, pI p3)] [(0, ob0 (roI p0))] ?_
 intro cx hnt
 refine DW.seq (RD hnt (.no :: []) [] [] [] [] trivial ?_)
 obtain ⟨g1, g2, g3, g4, hm⟩ := go4 hm
 obtain ⟨g5, g6, g7, g8, hm⟩ := go4 hm
 refine DW.seq (RN hnt (nn 16 []) [(0, ow 0 ((p0.set (Int.toNat p1) (p0.getD (Int.toNat p3) 0)).set (Int.toNat p3) (p0.getD (Int.toNat p1) 0)).length), (1, pI p1), (2, pI p2)] [(0, ob0 (roI ((p0.set (Int.toNat p1) (p0.getD (Int.toNat p3) 0)).set (Int.toNat p3) (p0.getD (Int.toNat p1) 0))))] [(0, ow 0 p0.length)] [(0, .row 1 p0.length (c184e1 p0 p1 p3))] (an g1.1 (an g1.2 (an g2 (an g3.1 (an g3.2 (an g4 (an g5.1 (an g5.2 (an g6 (an g7.1 (an g7.2 (an g8 trivial)))))))))))) (by kernel_rfl) (.cons rfl (MLe.ownLen (enc := encI) (d := 0) (f := (c184e1 p0 p1 p3)) (RowIs.updR (RowIs.upd RowIs.elems (p0.getD (Int.toNat p3) 0) rfl) (by omega) (p0.getD (Int.toNat p1) 0) rfl)) .nil) (.cons rfl (BLe.typed (RowIs.updR (RowIs.upd RowIs.elems (p0.getD (Int.toNat p3) 0) rfl) (by omega) (p0.getD (Int.toNat p1) 0) rfl)) .nil) ?_)
 refine DW.seq (RD hnt (nn 6 []) [2] [(9, pI (w64 (p1 + 1))), (10, pI (w64 (p2 - 1)))] [] [] trivial ?_)
 refine DW.seq (DW.block ?_)
 refine DW.whileO (fun (s1 : (List Int) × Int × Int) => mkSt [(0, ow 0 s1.1.length), (1, pI p1), (9, pI s1.2.2), (10, pI s1.2.1)] [(0, ob0 (roI s1.1))]) hm Conv.eqK ?_
 intro s1 n1 hm
 unfold partitionEqualOrdered_slices_intL1 at hm
 refine DW.block ?_
 refine DW.seq (DW.block ?_)
 refine DW.whileO (fun (s5 : Int) => mkSt [(0, ow 0 s1.1.length), (1, pI p1), (9, pI s5), (10, pI s1.2.1)] [(0, ob0 (roI s1.1))]) hm .refl ?_
 intro s5 n5 hm
 unfold partitionEqualOrdered_slices_intL5 at hm
 refine DW.seq (DW.seq ?_)
 refine DW.join (ι := Bool) (fun (y10 : Bool) => mkSt [(0, ow 0 s1.1.length), (1, pI p1), (9, pI s5), (10, pI s1.2.1), (43, pB y10)] [(0, ob0 (roI s1.1))]) (fun y10 => (partitionEqualOrdered_slices_intJ10 p1 s1 n1 s5 n5) y10 = some RES) ?_ ?_
 ·intro y10 hm
  unfold partitionEqualOrdered_slices_intJ10 at hm
  refine condM hm ?_ ?_
  ·intro h156 hm
   refine DW.skip ?_
   refine DW.block ?_
   refine RD hnt (nn 3 []) [43] [(9, pI (w64 (s5 + 1)))] [] [] trivial ?_
   refine DW.done ?_
   show DW _ _ _ _ _
   exact joinDone (w64 (s5 + 1)) hm Conv.eqK
  ·intro h156 hm
   refine DW.exit ?_
   refine joinQ_exit ?_
   refine KQ_exit ?_
   refine blockQ_exit ?_
   show DW _ _ _ _ _
   refine DW.seq (DW.block ?_)
   refine DW.whileO (fun (s7 : Int) => mkSt [(0, ow 0 s1.1.length), (1, pI p1), (9, pI s5), (10, pI s7)] [(0, ob0 (roI s1.1))]) hm Conv.t0 ?_
   intro s7 n7 hm
   unfold partitionEqualOrdered_slices_intL7 at hm
   refine DW.seq (DW.seq ?_)
   refine DW.join (ι := Bool) (fun (y12 : Bool) => mkSt [(0, ow 0 s1.1.length), (1, pI p1), (9, pI s5), (10, pI s7), (59, pB y12)] [(0, ob0 (roI s1.1))]) (fun y12 => (partitionEqualOrdered_slices_intJ12 s1 n1 s5 s7 n7) y12 = some RES) ?_ ?_
   ·intro y12 hm
    unfold partitionEqualOrdered_slices_intJ12 at hm
    refine condM hm ?_ ?_
    ·intro h179 hm
     refine DW.skip ?_
     refine DW.block ?_
     refine RD hnt (nn 3 []) [59] [(10, pI (w64 (s7 - 1)))] [] [] trivial ?_
     refine DW.done ?_
     show DW _ _ _ _ _
     exact joinDone (w64 (s7 - 1)) hm Conv.eqK
    ·intro h179 hm
     refine DW.exit ?_
     refine joinQ_exit ?_
     refine KQ_exit ?_
     refine blockQ_exit ?_
     show DW _ _ _ _ _
     refine DW.seq (DW.seq (RD hnt (nn 3 []) [59] [(64, pB (decide (s5 > s7)))] [] [] trivial ?_))
     refine condM hm ?_ ?_
     ·intro h180 hm
      refine DW.exit ?_
      refine blockQ_other (by decide) ?_
      refine KQ_exit ?_
      refine joinQ_exit ?_
      refine KQ_exit ?_
      refine blockQ_exit ?_
      show DW _ _ _ _ _
      refine DW.seq (RK hnt (nn 2 []) [(8, pI s5)] [(0, ob0 (roI s1.1))] trivial ?_)
      refine DW.ret ?_
      obtain rfl := Option.some.inj hm
      exact retK [roI s1.1] [] (pI s5)
     ·intro h180 hm
      refine DW.skip ?_
      obtain ⟨g181, g182, g183, g184, hm⟩ := go4 hm
      obtain ⟨g185, g186, g187, g188, hm⟩ := go4 hm
      refine DW.seq (RN hnt (nn 16 []) [(0, ow 0 (c184e3 s1 s5 s7).length), (1, pI p1), (9, pI s5), (10, pI s7)] [(0, ob0 (roI (c184e3 s1 s5 s7)))] [(0, ow 0 s1.1.length)] [(0, .row 1 s1.1.length (c184e2 s1 s5 s7))] (an g181.1 (an g181.2 (an g182 (an g183.1 (an g183.2 (an g184 (an g185.1 (an g185.2 (an g186 (an g187.1 (an g187.2 (an g188 trivial)))))))))))) (by kernel_rfl) (.cons rfl (MLe.ownLen (enc := encI) (d := 0) (f := (c184e2 s1 s5 s7)) (RowIs.updR (RowIs.upd RowIs.elems (s1.1.getD (Int.toNat s7) 0) rfl) (by omega) (s1.1.getD (Int.toNat s5) 0) rfl)) .nil) (.cons rfl (BLe.typed (RowIs.updR (RowIs.upd RowIs.elems (s1.1.getD (Int.toNat s7) 0) rfl) (by omega) (s1.1.getD (Int.toNat s5) 0) rfl)) .nil) ?_)
      refine DW.seq (RD hnt (nn 3 []) [] [(9, pI (w64 (s5 + 1)))] [] [] trivial ?_)
      refine RD hnt (nn 3 []) [] [(10, pI (w64 (s7 - 1)))] [] [] trivial ?_
      refine DW.done ?_
      show DW _ _ _ _ _
      exact joinDone ((c184e3 s1 s5 s7), (w64 (s7 - 1)), (w64 (s5 + 1))) hm Conv.eqK
   ·rcases bt (decide (s5 ≤ s7)) with h173 | h173
    ·replace hm := if_t h173 hm
     obtain ⟨g174, g175, g176, g177, hm⟩ := go4 hm
     obtain ⟨r178, hr178, hm⟩ := bind_open hm
     refine RD hnt (nn 12 (.call 183 [] true (pB r178) [] [] :: pT :: [])) [] [(59, pB r178)] [] [] (an3 h173 (an g174.1 (an g174.2 (an h173 (an g175 (an3 h173 (an g176.1 (an g176.2 (an h173 (an g177 (an h173 (an (Less_cmp_intSpec (s1.1.getD (Int.toNat p1) 0) (s1.1.getD (Int.toNat s7) 0) r178 hr178) (an h173 trivial))))))))))))) ?_
     exact joinDone r178 hm Conv.eqK
    ·replace hm := if_f h173 hm
     refine RD hnt (nn 4 (sk 9 (pF :: []))) [] [(59, pB false)] [] [] (an4 h173 (an6 h173 trivial)) ?_
     exact joinDone false hm Conv.eqK
 ·rcases bt (decide (s5 ≤ s1.2.1)) with h150 | h150
  ·replace hm := if_t h150 hm
   obtain ⟨g151, g152, g153, g154, hm⟩ := go4 hm
   obtain ⟨r155, hr155, hm⟩ := bind_open hm
   refine RD hnt (nn 12 (.call 183 [] true (pB r155) [] [] :: .no :: pT :: [])) [] [(43, pB (!r155))] [] [] (an3 h150 (an g151.1 (an g151.2 (an h150 (an g152 (an3 h150 (an g153.1 (an g153.2 (an h150 (an g154 (an h150 (an (Less_cmp_intSpec (s1.1.getD (Int.toNat p1) 0) (s1.1.getD (Int.toNat s5) 0) r155 hr155) (an2 h150 trivial))))))))))))) ?_
   exact joinDone (!r155) hm Conv.eqK
  ·replace hm := if_f h150 hm
   refine RD hnt (nn 4 (sk 10 (pF :: []))) [] [(43, pB false)] [] [] (an5 h150 (an6 h150 trivial)) ?_
   exact joinDone false hm Conv.eqK

abbrev c185e1 (p0 : List Int) (p1 : Int) (p3 : Int) := ((p0.set (Int.toNat p1) (p0.getD (Int.toNat p3) 0)).set (Int.toNat p3) (p0.getD (Int.toNat p1) 0))
abbrev c185e2 (p0 : List Int) (p1 : Int) (p3 : Int) (s1 : Int) (s17 : Int) := (updF (updF (elI (c185e1 p0 p1 p3)) (Int.toNat s1) [vi ((c185e1 p0 p1 p3).getD (Int.toNat s17) 0)]) (Int.toNat s17) (setRange ((updF (elI (c185e1 p0 p1 p3)) (Int.toNat s1) [vi ((c185e1 p0 p1 p3).getD (Int.toNat s17) 0)]) (Int.toNat s17)) 0 [vi ((c185e1 p0 p1 p3).getD (Int.toNat s1) 0)]))
abbrev c185e3 (p0 : List Int) (p1 : Int) (p3 : Int) := (updF (updF (elI p0) (Int.toNat p1) [vi (p0.getD (Int.toNat p3) 0)]) (Int.toNat p3) (setRange ((updF (elI p0) (Int.toNat p1) [vi (p0.getD (Int.toNat p3) 0)]) (Int.toNat p3)) 0 [vi (p0.getD (Int.toNat p1) 0)]))
abbrev c185e4 (s25 : (List Int) × Int × Int) (s29 : Int) (s31 : Int) := (updF (updF (elI s25.1) (Int.toNat s29) [vi (s25.1.getD (Int.toNat s31) 0)]) (Int.toNat s31) (setRange ((updF (elI s25.1) (Int.toNat s29) [vi (s25.1.getD (Int.toNat s31) 0)]) (Int.toNat s31)) 0 [vi (s25.1.getD (Int.toNat s29) 0)]))
abbrev c185e5 (s25 : (List Int) × Int × Int) (s29 : Int) (s31 : Int) := ((s25.1.set (Int.toNat s29) (s25.1.getD (Int.toNat s31) 0)).set (Int.toNat s31) (s25.1.getD (Int.toNat s29) 0))
theorem partitionOrdered_slices_intSpec (p0 : List Int) (p1 : Int) (p2 : Int) (p3 : Int) (RES : Int × Bool × (List Int)) (hm : partitionOrdered_slices_int p0 p1 p2 p3 = some RES) : Spec Tryz.prog 185 [ow 0 p0.length, pI p1, pI p2, pI p3] [roI p0] (.p (.tup [vi RES.1, vb RES.2.1])) [roI RES.2.2] [] := by
 unfold partitionOrdered_slices_int at hm
 refine SO Tryz.func185 rfl rfl [(0, ow 0 p0.length), (1, pI p1), (2, pI p2), (3, pI p3)] [(0, ob0 (roI p0))] ?_
 intro cx hnt
 refine DW.seq (RD hnt (nn 2 []) [] [] [] [] trivial ?_)
 obtain ⟨g1, g2, g3, g4, hm⟩ := go4 hm
 obtain ⟨g5, g6, g7, g8, hm⟩ := go4 hm
 refine DW.seq (RN hnt (nn 16 []) [(0, ow 0 (c185e1 p0 p1 p3).length), (1, pI p1), (2, pI p2)] [(0, ob0 (roI (c185e1 p0 p1 p3)))] [(0, ow 0 p0.length)] [(0, .row 1 p0.length (c185e3 p0 p1 p3))] (an g1.1 (an g1.2 (an g2 (an g3.1 (an g3.2 (an g4 (an g5.1 (an g5.2 (an g6 (an g7.1 (an g7.2 (an g8 trivial)))))))))))) (by kernel_rfl) (.cons rfl (MLe.ownLen (enc := encI) (d := 0) (f := (c185e3 p0 p1 p3)) (RowIs.updR (RowIs.upd RowIs.elems (p0.getD (Int.toNat p3) 0) rfl) (by omega) (p0.getD (Int.toNat p1) 0) rfl)) .nil) (.cons rfl (BLe.typed (RowIs.updR (RowIs.upd RowIs.elems (p0.getD (Int.toNat p3) 0) rfl) (by omega) (p0.getD (Int.toNat p1) 0) rfl)) .nil) ?_)
 refine DW.seq (RD hnt (nn 6 []) [2] [(10, pI (w64 (p1 + 1))), (11, pI (w64 (p2 - 1)))] [] [] trivial ?_)
 refine DW.seq (DW.block ?_)
 refine DW.whileO (fun (s1 : Int) => mkSt [(0, ow 0 (c185e1 p0 p1 p3).length), (1, pI p1), (10, pI s1), (11, pI (w64 (p2 - 1)))] [(0, ob0 (roI (c185e1 p0 p1 p3)))]) hm Conv.eqK ?_
 intro s1 n1 hm
 unfold partitionOrdered_slices_intL1 at hm
 refine DW.seq (DW.seq ?_)
 refine DW.join (ι := Bool) (fun (y28 : Bool) => mkSt [(0, ow 0 (c185e1 p0 p1 p3).length), (1, pI p1), (10, pI s1), (11, pI (w64 (p2 - 1))), (43, pB y28)] [(0, ob0 (roI (c185e1 p0 p1 p3)))]) (fun y28 => (partitionOrdered_slices_intJ28 p0 p1 p2 p3 s1 n1) y28 = some RES) ?_ ?_
 ·intro y28 hm
  unfold partitionOrdered_slices_intJ28 at hm
  refine condM hm ?_ ?_
  ·intro h588 hm
   refine DW.skip ?_
   refine DW.block ?_
   refine RD hnt (nn 3 []) [43] [(10, pI (w64 (s1 + 1)))] [] [] trivial ?_
   refine DW.done ?_
   show DW _ _ _ _ _
   exact joinDone (w64 (s1 + 1)) hm Conv.eqK
  ·intro h588 hm
   refine DW.exit ?_
   refine joinQ_exit ?_
   refine KQ_exit ?_
   refine blockQ_exit ?_
   show DW _ _ _ _ _
   refine DW.seq (DW.block ?_)
   refine DW.whileO (fun (s17 : Int) => mkSt [(0, ow 0 (c185e1 p0 p1 p3).length), (1, pI p1), (10, pI s1), (11, pI s17)] [(0, ob0 (roI (c185e1 p0 p1 p3)))]) hm Conv.t0 ?_
   intro s17 n17 hm
   unfold partitionOrdered_slices_intL17 at hm
   refine DW.seq (DW.seq ?_)
   refine DW.join (ι := Bool) (fun (y42 : Bool) => mkSt [(0, ow 0 (c185e1 p0 p1 p3).length), (1, pI p1), (10, pI s1), (11, pI s17), (60, pB y42)] [(0, ob0 (roI (c185e1 p0 p1 p3)))]) (fun y42 => (partitionOrdered_slices_intJ42 p0 p1 p3 s1 s17 n17) y42 = some RES) ?_ ?_
   ·intro y42 hm
    unfold partitionOrdered_slices_intJ42 at hm
    refine condM hm ?_ ?_
    ·intro h875 hm
     refine DW.skip ?_
     refine DW.block ?_
     refine RD hnt (nn 3 []) [60] [(11, pI (w64 (s17 - 1)))] [] [] trivial ?_
     refine DW.done ?_
     show DW _ _ _ _ _
     exact joinDone (w64 (s17 - 1)) hm Conv.eqK
    ·intro h875 hm
     refine DW.exit ?_
     refine joinQ_exit ?_
     refine KQ_exit ?_
     refine blockQ_exit ?_
     show DW _ _ _ _ _
     refine DW.seq (DW.seq (RD hnt (nn 3 []) [60] [(65, pB (decide (s1 > s17)))] [] [] trivial ?_))
     refine condM hm ?_ ?_
     ·intro h876 hm
      obtain ⟨g877, g878, g879, g880, hm⟩ := go4 hm
      obtain ⟨g881, g882, g883, g884, hm⟩ := go4 hm
      refine DW.seq (RN hnt (nn 16 []) [(11, pI s17)] [(0, ob0 (roI (((c185e1 p0 p1 p3).set (Int.toNat s17) ((c185e1 p0 p1 p3).getD (Int.toNat p1) 0)).set (Int.toNat p1) ((c185e1 p0 p1 p3).getD (Int.toNat s17) 0))))] [] [(0, .row 1 (c185e1 p0 p1 p3).length (updF (updF (elI (c185e1 p0 p1 p3)) (Int.toNat s17) [vi ((c185e1 p0 p1 p3).getD (Int.toNat p1) 0)]) (Int.toNat p1) (setRange ((updF (elI (c185e1 p0 p1 p3)) (Int.toNat s17) [vi ((c185e1 p0 p1 p3).getD (Int.toNat p1) 0)]) (Int.toNat p1)) 0 [vi ((c185e1 p0 p1 p3).getD (Int.toNat s17) 0)])))] (an g877.1 (an g877.2 (an g878 (an g879.1 (an g879.2 (an g880 (an g881.1 (an g881.2 (an g882 (an g883.1 (an g883.2 (an g884 trivial)))))))))))) (by kernel_rfl) .nil (.cons rfl (BLe.typed (RowIs.updR (RowIs.upd RowIs.elems ((c185e1 p0 p1 p3).getD (Int.toNat p1) 0) rfl) (by omega) ((c185e1 p0 p1 p3).getD (Int.toNat s17) 0) rfl)) .nil) ?_)
      refine DW.seq (RD hnt (nn 3 []) [11] [(8, pI s17), (9, pB true)] [] [] trivial ?_)
      refine DW.ret ?_
      obtain rfl := Option.some.inj hm
      exact retK [roI (((c185e1 p0 p1 p3).set (Int.toNat s17) ((c185e1 p0 p1 p3).getD (Int.toNat p1) 0)).set (Int.toNat p1) ((c185e1 p0 p1 p3).getD (Int.toNat s17) 0))] [] (.p (.tup [vi s17, vb true]))
     ·intro h876 hm
      refine DW.skip ?_
      obtain ⟨g885, g886, g887, g888, hm⟩ := go4 hm
      obtain ⟨g889, g890, g891, g892, hm⟩ := go4 hm
      refine DW.seq (RN hnt (nn 16 []) [(0, ow 0 (((c185e1 p0 p1 p3).set (Int.toNat s1) ((c185e1 p0 p1 p3).getD (Int.toNat s17) 0)).set (Int.toNat s17) ((c185e1 p0 p1 p3).getD (Int.toNat s1) 0)).length), (1, pI p1), (10, pI s1), (11, pI s17)] [(0, ob0 (roI (((c185e1 p0 p1 p3).set (Int.toNat s1) ((c185e1 p0 p1 p3).getD (Int.toNat s17) 0)).set (Int.toNat s17) ((c185e1 p0 p1 p3).getD (Int.toNat s1) 0))))] [(0, ow 0 (c185e1 p0 p1 p3).length)] [(0, .row 1 (c185e1 p0 p1 p3).length (c185e2 p0 p1 p3 s1 s17))] (an g885.1 (an g885.2 (an g886 (an g887.1 (an g887.2 (an g888 (an g889.1 (an g889.2 (an g890 (an g891.1 (an g891.2 (an g892 trivial)))))))))))) (by kernel_rfl) (.cons rfl (MLe.ownLen (enc := encI) (d := 0) (f := (c185e2 p0 p1 p3 s1 s17)) (RowIs.updR (RowIs.upd RowIs.elems ((c185e1 p0 p1 p3).getD (Int.toNat s17) 0) rfl) (by omega) ((c185e1 p0 p1 p3).getD (Int.toNat s1) 0) rfl)) .nil) (.cons rfl (BLe.typed (RowIs.updR (RowIs.upd RowIs.elems ((c185e1 p0 p1 p3).getD (Int.toNat s17) 0) rfl) (by omega) ((c185e1 p0 p1 p3).getD (Int.toNat s1) 0) rfl)) .nil) ?_)
      refine DW.seq (RD hnt (nn 3 []) [] [(10, pI (w64 (s1 + 1)))] [] [] trivial ?_)
      refine DW.seq (RD hnt (nn 3 []) [] [(11, pI (w64 (s17 - 1)))] [] [] trivial ?_)
      refine DW.seq (DW.block ?_)
      refine DW.whileO (fun (s25 : (List Int) × Int × Int) => mkSt [(0, ow 0 s25.1.length), (1, pI p1), (10, pI s25.2.1), (11, pI s25.2.2)] [(0, ob0 (roI s25.1))]) hm Conv.eqK ?_
      intro s25 n25 hm
      unfold partitionOrdered_slices_intL25 at hm
      refine DW.block ?_
      refine DW.seq (DW.block ?_)
      refine DW.whileO (fun (s29 : Int) => mkSt [(0, ow 0 s25.1.length), (1, pI p1), (10, pI s29), (11, pI s25.2.2)] [(0, ob0 (roI s25.1))]) hm .refl ?_
      intro s29 n29 hm
      unfold partitionOrdered_slices_intL29 at hm
      refine DW.seq (DW.seq ?_)
      refine DW.join (ι := Bool) (fun (y52 : Bool) => mkSt [(0, ow 0 s25.1.length), (1, pI p1), (10, pI s29), (11, pI s25.2.2), (112, pB y52)] [(0, ob0 (roI s25.1))]) (fun y52 => (partitionOrdered_slices_intJ52 p1 s25 n25 s29 n29) y52 = some RES) ?_ ?_
      ·intro y52 hm
       unfold partitionOrdered_slices_intJ52 at hm
       refine condM hm ?_ ?_
       ·intro h1088 hm
        refine DW.skip ?_
        refine DW.block ?_
        refine RD hnt (nn 3 []) [112] [(10, pI (w64 (s29 + 1)))] [] [] trivial ?_
        refine DW.done ?_
        show DW _ _ _ _ _
        exact joinDone (w64 (s29 + 1)) hm Conv.eqK
       ·intro h1088 hm
        refine DW.exit ?_
        refine joinQ_exit ?_
        refine KQ_exit ?_
        refine blockQ_exit ?_
        show DW _ _ _ _ _
        refine DW.seq (DW.block ?_)
        refine DW.whileO (fun (s31 : Int) => mkSt [(0, ow 0 s25.1.length), (1, pI p1), (10, pI s29), (11, pI s31)] [(0, ob0 (roI s25.1))]) hm Conv.t0 ?_
        intro s31 n31 hm
        unfold partitionOrdered_slices_intL31 at hm
        refine DW.seq (DW.seq ?_)
        refine DW.join (ι := Bool) (fun (y54 : Bool) => mkSt [(0, ow 0 s25.1.length), (1, pI p1), (10, pI s29), (11, pI s31), (129, pB y54)] [(0, ob0 (roI s25.1))]) (fun y54 => (partitionOrdered_slices_intJ54 p1 s25 n25 s29 s31 n31) y54 = some RES) ?_ ?_
        ·intro y54 hm
         unfold partitionOrdered_slices_intJ54 at hm
         refine condM hm ?_ ?_
         ·intro h1119 hm
          refine DW.skip ?_
          refine DW.block ?_
          refine RD hnt (nn 3 []) [129] [(11, pI (w64 (s31 - 1)))] [] [] trivial ?_
          refine DW.done ?_
          show DW _ _ _ _ _
          exact joinDone (w64 (s31 - 1)) hm Conv.eqK
         ·intro h1119 hm
          refine DW.exit ?_
          refine joinQ_exit ?_
          refine KQ_exit ?_
          refine blockQ_exit ?_
          show DW _ _ _ _ _
          refine DW.seq (DW.seq (RD hnt (nn 3 []) [129] [(134, pB (decide (s29 > s31)))] [] [] trivial ?_))
          refine condM hm ?_ ?_
          ·intro h1120 hm
           refine DW.exit ?_
           refine blockQ_other (by decide) ?_
           refine KQ_exit ?_
           refine joinQ_exit ?_
           refine KQ_exit ?_
           refine blockQ_exit ?_
           show DW _ _ _ _ _
           obtain ⟨g1121, g1122, g1123, g1124, hm⟩ := go4 hm
           obtain ⟨g1125, g1126, g1127, g1128, hm⟩ := go4 hm
           refine DW.seq (RN hnt (nn 16 []) [(11, pI s31)] [(0, ob0 (roI ((s25.1.set (Int.toNat s31) (s25.1.getD (Int.toNat p1) 0)).set (Int.toNat p1) (s25.1.getD (Int.toNat s31) 0))))] [] [(0, .row 1 s25.1.length (updF (updF (elI s25.1) (Int.toNat s31) [vi (s25.1.getD (Int.toNat p1) 0)]) (Int.toNat p1) (setRange ((updF (elI s25.1) (Int.toNat s31) [vi (s25.1.getD (Int.toNat p1) 0)]) (Int.toNat p1)) 0 [vi (s25.1.getD (Int.toNat s31) 0)])))] (an g1121.1 (an g1121.2 (an g1122 (an g1123.1 (an g1123.2 (an g1124 (an g1125.1 (an g1125.2 (an g1126 (an g1127.1 (an g1127.2 (an g1128 trivial)))))))))))) (by kernel_rfl) .nil (.cons rfl (BLe.typed (RowIs.updR (RowIs.upd RowIs.elems (s25.1.getD (Int.toNat p1) 0) rfl) (by omega) (s25.1.getD (Int.toNat s31) 0) rfl)) .nil) ?_)
           refine DW.seq (RD hnt (nn 3 []) [11] [(8, pI s31), (9, pB false)] [] [] trivial ?_)
           refine DW.ret ?_
           obtain rfl := Option.some.inj hm
           exact retK [roI ((s25.1.set (Int.toNat s31) (s25.1.getD (Int.toNat p1) 0)).set (Int.toNat p1) (s25.1.getD (Int.toNat s31) 0))] [] (.p (.tup [vi s31, vb false]))
          ·intro h1120 hm
           refine DW.skip ?_
           obtain ⟨g1129, g1130, g1131, g1132, hm⟩ := go4 hm
           obtain ⟨g1133, g1134, g1135, g1136, hm⟩ := go4 hm
           refine DW.seq (RN hnt (nn 16 []) [(0, ow 0 (c185e5 s25 s29 s31).length), (1, pI p1), (10, pI s29), (11, pI s31)] [(0, ob0 (roI (c185e5 s25 s29 s31)))] [(0, ow 0 s25.1.length)] [(0, .row 1 s25.1.length (c185e4 s25 s29 s31))] (an g1129.1 (an g1129.2 (an g1130 (an g1131.1 (an g1131.2 (an g1132 (an g1133.1 (an g1133.2 (an g1134 (an g1135.1 (an g1135.2 (an g1136 trivial)))))))))))) (by kernel_rfl) (.cons rfl (MLe.ownLen (enc := encI) (d := 0) (f := (c185e4 s25 s29 s31)) (RowIs.updR (RowIs.upd RowIs.elems (s25.1.getD (Int.toNat s31) 0) rfl) (by omega) (s25.1.getD (Int.toNat s29) 0) rfl)) .nil) (.cons rfl (BLe.typed (RowIs.updR (RowIs.upd RowIs.elems (s25.1.getD (Int.toNat s31) 0) rfl) (by omega) (s25.1.getD (Int.toNat s29) 0) rfl)) .nil) ?_)
           refine DW.seq (RD hnt (nn 3 []) [] [(10, pI (w64 (s29 + 1)))] [] [] trivial ?_)
           refine RD hnt (nn 3 []) [] [(11, pI (w64 (s31 - 1)))] [] [] trivial ?_
           refine DW.done ?_
           show DW _ _ _ _ _
           exact joinDone ((c185e5 s25 s29 s31), (w64 (s29 + 1)), (w64 (s31 - 1))) hm Conv.eqK
        ·rcases bt (decide (s29 ≤ s31)) with h1113 | h1113
         ·replace hm := if_t h1113 hm
          obtain ⟨g1114, g1115, g1116, g1117, hm⟩ := go4 hm
          obtain ⟨r1118, hr1118, hm⟩ := bind_open hm
          refine RD hnt (nn 12 (.call 183 [] true (pB r1118) [] [] :: .no :: pT :: [])) [] [(129, pB (!r1118))] [] [] (an3 h1113 (an g1114.1 (an g1114.2 (an h1113 (an g1115 (an3 h1113 (an g1116.1 (an g1116.2 (an h1113 (an g1117 (an h1113 (an (Less_cmp_intSpec (s25.1.getD (Int.toNat s31) 0) (s25.1.getD (Int.toNat p1) 0) r1118 hr1118) (an2 h1113 trivial))))))))))))) ?_
          exact joinDone (!r1118) hm Conv.eqK
         ·replace hm := if_f h1113 hm
          refine RD hnt (nn 4 (sk 10 (pF :: []))) [] [(129, pB false)] [] [] (an5 h1113 (an6 h1113 trivial)) ?_
          exact joinDone false hm Conv.eqK
      ·rcases bt (decide (s29 ≤ s25.2.2)) with h1082 | h1082
       ·replace hm := if_t h1082 hm
        obtain ⟨g1083, g1084, g1085, g1086, hm⟩ := go4 hm
        obtain ⟨r1087, hr1087, hm⟩ := bind_open hm
        refine RD hnt (nn 12 (.call 183 [] true (pB r1087) [] [] :: pT :: [])) [] [(112, pB r1087)] [] [] (an3 h1082 (an g1083.1 (an g1083.2 (an h1082 (an g1084 (an3 h1082 (an g1085.1 (an g1085.2 (an h1082 (an g1086 (an h1082 (an (Less_cmp_intSpec (s25.1.getD (Int.toNat s29) 0) (s25.1.getD (Int.toNat p1) 0) r1087 hr1087) (an h1082 trivial))))))))))))) ?_
        exact joinDone r1087 hm Conv.eqK
       ·replace hm := if_f h1082 hm
        refine RD hnt (nn 4 (sk 9 (pF :: []))) [] [(112, pB false)] [] [] (an4 h1082 (an6 h1082 trivial)) ?_
        exact joinDone false hm Conv.eqK
   ·rcases bt (decide (s1 ≤ s17)) with h869 | h869
    ·replace hm := if_t h869 hm
     obtain ⟨g870, g871, g872, g873, hm⟩ := go4 hm
     obtain ⟨r874, hr874, hm⟩ := bind_open hm
     refine RD hnt (nn 12 (.call 183 [] true (pB r874) [] [] :: .no :: pT :: [])) [] [(60, pB (!r874))] [] [] (an3 h869 (an g870.1 (an g870.2 (an h869 (an g871 (an3 h869 (an g872.1 (an g872.2 (an h869 (an g873 (an h869 (an (Less_cmp_intSpec ((c185e1 p0 p1 p3).getD (Int.toNat s17) 0) ((c185e1 p0 p1 p3).getD (Int.toNat p1) 0) r874 hr874) (an2 h869 trivial))))))))))))) ?_
     exact joinDone (!r874) hm Conv.eqK
    ·replace hm := if_f h869 hm
     refine RD hnt (nn 4 (sk 10 (pF :: []))) [] [(60, pB false)] [] [] (an5 h869 (an6 h869 trivial)) ?_
     exact joinDone false hm Conv.eqK
 ·rcases bt (decide (s1 ≤ (w64 (p2 - 1)))) with h582 | h582
  ·replace hm := if_t h582 hm
   obtain ⟨g583, g584, g585, g586, hm⟩ := go4 hm
   obtain ⟨r587, hr587, hm⟩ := bind_open hm
   refine RD hnt (nn 12 (.call 183 [] true (pB r587) [] [] :: pT :: [])) [] [(43, pB r587)] [] [] (an3 h582 (an g583.1 (an g583.2 (an h582 (an g584 (an3 h582 (an g585.1 (an g585.2 (an h582 (an g586 (an h582 (an (Less_cmp_intSpec ((c185e1 p0 p1 p3).getD (Int.toNat s1) 0) ((c185e1 p0 p1 p3).getD (Int.toNat p1) 0) r587 hr587) (an h582 trivial))))))))))))) ?_
   exact joinDone r587 hm Conv.eqK
  ·replace hm := if_f h582 hm
   refine RD hnt (nn 4 (sk 9 (pF :: []))) [] [(43, pB false)] [] [] (an4 h582 (an6 h582 trivial)) ?_
   exact joinDone false hm Conv.eqK

theorem nextPowerOfTwo_slicesSpec (p0 : Int) (RES : Int) (hm : nextPowerOfTwo_slices p0 = some RES) : Spec Tryz.prog 191 [pI p0] [] (.p (vk .u64 RES)) [] [] := by
 unfold nextPowerOfTwo_slices at hm
 refine SO Tryz.func191 rfl rfl [(0, pI p0)] [] ?_
 intro cx hnt
 refine DW.seq (RK hnt (.no :: []) [(0, pI p0)] [] trivial ?_)
 obtain ⟨r1, hr1, hm⟩ := bind_open hm
 obtain ⟨g2, hm⟩ := guard_open hm
 refine DW.seq (RK hnt (nn 2 (.call 169 [] true (pI r1) [] [] :: nn 2 [])) [(2, .p (vk .u64 (kshl .u64 1 r1)))] [] (an (Len_bitsSpec (IntKind.u64.wrap p0) r1 hr1) (an g2 trivial)) ?_)
 refine DW.ret ?_
 obtain rfl := Option.some.inj hm
 exact retK [] [] (.p (vk .u64 (kshl .u64 1 r1)))

theorem Next_xorshift_slicesSpec (p0 : Int) (RES : Int × Int) (hm : Next_xorshift_slices p0 = some RES) : Spec Tryz.prog 192 [rr 0] [.box [.p (vk .u64 p0)]] (.p (vk .u64 RES.1)) [.box [.p (vk .u64 RES.2)]] [] := by
 unfold Next_xorshift_slices at hm
 refine SO Tryz.func192 rfl rfl [(0, rr 0)] [(0, bx [.p (vk .u64 p0)])] ?_
 intro cx hnt
 refine DW.seq (RD hnt (.no :: []) [] [] [] [] trivial ?_)
 refine DW.seq (RK hnt (nn 10 []) [(0, rr 0)] [(0, bx [.p (vk .u64 (kxor .u64 p0 (kshl .u64 p0 13)))])] (an (by decide : (0 : Int) ≤ 13) trivial) ?_)
 refine DW.seq (RK hnt (nn 10 []) [(0, rr 0)] [(0, bx [.p (vk .u64 (kxor .u64 (kxor .u64 p0 (kshl .u64 p0 13)) (kshr .u64 (kxor .u64 p0 (kshl .u64 p0 13)) 7)))])] (an (by decide : (0 : Int) ≤ 7) trivial) ?_)
 refine DW.seq (RK hnt (nn 10 []) [(0, rr 0)] [(0, bx [.p (vk .u64 (kxor .u64 (kxor .u64 (kxor .u64 p0 (kshl .u64 p0 13)) (kshr .u64 (kxor .u64 p0 (kshl .u64 p0 13)) 7)) (kshl .u64 (kxor .u64 (kxor .u64 p0 (kshl .u64 p0 13)) (kshr .u64 (kxor .u64 p0 (kshl .u64 p0 13)) 7)) 17)))])] (an (by decide : (0 : Int) ≤ 17) trivial) ?_)
 refine DW.seq (RD hnt (nn 4 []) [0] [(2, .p (vk .u64 (kxor .u64 (kxor .u64 (kxor .u64 p0 (kshl .u64 p0 13)) (kshr .u64 (kxor .u64 p0 (kshl .u64 p0 13)) 7)) (kshl .u64 (kxor .u64 (kxor .u64 p0 (kshl .u64 p0 13)) (kshr .u64 (kxor .u64 p0 (kshl .u64 p0 13)) 7)) 17))))] [] [] trivial ?_)
 refine DW.ret ?_
 obtain rfl := Option.some.inj hm
 exact retK [.box [.p (vk .u64 (kxor .u64 (kxor .u64 (kxor .u64 p0 (kshl .u64 p0 13)) (kshr .u64 (kxor .u64 p0 (kshl .u64 p0 13)) 7)) (kshl .u64 (kxor .u64 (kxor .u64 p0 (kshl .u64 p0 13)) (kshr .u64 (kxor .u64 p0 (kshl .u64 p0 13)) 7)) 17)))]] [] (.p (vk .u64 (kxor .u64 (kxor .u64 (kxor .u64 p0 (kshl .u64 p0 13)) (kshr .u64 (kxor .u64 p0 (kshl .u64 p0 13)) 7)) (kshl .u64 (kxor .u64 (kxor .u64 p0 (kshl .u64 p0 13)) (kshr .u64 (kxor .u64 p0 (kshl .u64 p0 13)) 7)) 17))))

abbrev c179e1 (s1 : (List Int) × Int × Int) (p1 : Int) (y2 : Int) := (updF (updF (elI s1.1) (Int.toNat s1.2.2) [vi (s1.1.getD (Int.toNat (w64 (p1 + y2))) 0)]) (Int.toNat (w64 (p1 + y2))) (setRange ((updF (elI s1.1) (Int.toNat s1.2.2) [vi (s1.1.getD (Int.toNat (w64 (p1 + y2))) 0)]) (Int.toNat (w64 (p1 + y2)))) 0 [vi (s1.1.getD (Int.toNat s1.2.2) 0)]))
abbrev c179e2 (s1 : (List Int) × Int × Int) (p1 : Int) (y2 : Int) := ((s1.1.set (Int.toNat s1.2.2) (s1.1.getD (Int.toNat (w64 (p1 + y2))) 0)).set (Int.toNat (w64 (p1 + y2))) (s1.1.getD (Int.toNat s1.2.2) 0))
abbrev c179e3 (r15 : Int × Int) (r2 : Int) := (w64 (kand .u64 r15.1 (IntKind.u64.wrap (r2 - 1))))
theorem breakPatternsOrdered_slices_intSpec (p0 : List Int) (p1 : Int) (p2 : Int) (RES : List Int) (hm : breakPatternsOrdered_slices_int p0 p1 p2 = some RES) : Spec Tryz.prog 179 [ow 0 p0.length, pI p1, pI p2] [roI p0] (.p (.tup [])) [roI RES] [] := by
 unfold breakPatternsOrdered_slices_int at hm
 refine SO Tryz.func179 rfl rfl [(0, ow 0 p0.length), (1, pI p1), (2, pI p2)] [(0, ob0 (roI p0))] ?_
 intro cx hnt
 refine DW.seq (RD hnt (nn 4 []) [2] [(6, pI (w64 (p2 - p1)))] [] [] trivial ?_)
 refine DW.seq (RD hnt (nn 2 []) [] [(15, pB (decide ((w64 (p2 - p1)) ≥ 8)))] [] [] trivial ?_)
 refine condM hm ?_ ?_
 ·intro h1 hm
  refine DW.seq (RD hnt (nn 4 []) [15] [(7, rr 1056)] [] [(1056, bx [.p (vk .u64 (IntKind.u64.wrap (w64 (p2 - p1))))])] trivial ?_)
  obtain ⟨r2, hr2, hm⟩ := bind_open hm
  refine DW.seq (RD hnt (.no :: .call 191 [] true (.p (vk .u64 r2)) [] [] :: .no :: []) [] [(8, .p (vk .u64 r2))] [] [] (an (nextPowerOfTwo_slicesSpec (w64 (p2 - p1)) r2 hr2) trivial) ?_)
  refine DW.seq (RD hnt (nn 7 []) [] [(9, pI (w64 ((w64 (p1 + (w64 ((w64 (Int.tdiv (w64 (p2 - p1)) 4)) * 2)))) - 1)))] [] [] (an (by decide : (4 : Int) ≠ 0) trivial) ?_)
  refine DW.block ?_
  refine DW.whileO (fun (s1 : (List Int) × Int × Int) => mkSt [(0, ow 0 s1.1.length), (1, pI p1), (6, pI (w64 (p2 - p1))), (7, rr 1056), (8, .p (vk .u64 r2)), (9, pI s1.2.2)] [(0, ob0 (roI s1.1)), (1056, bx [.p (vk .u64 s1.2.1)])]) hm Conv.eqK ?_
  intro s1 n1 hm
  unfold breakPatternsOrdered_slices_intL1 at hm
  refine DW.seq (DW.seq (RD hnt (nn 8 []) [] [(33, pB (decide (s1.2.2 ≤ (w64 ((w64 (p1 + (w64 ((w64 (Int.tdiv (w64 (p2 - p1)) 4)) * 2)))) + 1)))))] [] [] (an (by decide : (4 : Int) ≠ 0) trivial) ?_))
  refine condM hm ?_ ?_
  ·intro h14 hm
   refine DW.skip ?_
   refine DW.seq (DW.block ?_)
   obtain ⟨r15, hr15, hm⟩ := bind_open hm
   refine DW.seq (RD hnt (.call 192 [1056] true (.p (vk .u64 r15.1)) [.box [.p (vk .u64 r15.2)]] [] :: nn 5 []) [33] [(10, pI (c179e3 r15 r2))] [] [(1056, bx [.p (vk .u64 r15.2)])] (an (Next_xorshift_slicesSpec s1.2.1 r15 hr15) (an trivial trivial)) ?_)
   refine DW.seq (DW.seq (RD hnt (nn 3 []) [] [(43, pB (decide ((c179e3 r15 r2) ≥ (w64 (p2 - p1)))))] [] [] trivial ?_))
   refine DW.join (ι := Int) (fun (y2 : Int) => mkSt [(0, ow 0 s1.1.length), (1, pI p1), (6, pI (w64 (p2 - p1))), (7, rr 1056), (8, .p (vk .u64 r2)), (9, pI s1.2.2), (10, pI y2)] [(0, ob0 (roI s1.1)), (1056, bx [.p (vk .u64 r15.2)])]) (fun y2 => (breakPatternsOrdered_slices_intJ2 p1 s1 n1 r15) y2 = some RES) ?_ ?_
   ·intro y2 hm
    unfold breakPatternsOrdered_slices_intJ2 at hm
    obtain ⟨g17, g18, g19, g20, hm⟩ := go4 hm
    obtain ⟨g21, g22, g23, g24, hm⟩ := go4 hm
    refine RN hnt (nn 20 []) [(0, ow 0 (c179e2 s1 p1 y2).length), (1, pI p1), (6, pI (w64 (p2 - p1))), (7, rr 1056), (8, .p (vk .u64 r2)), (9, pI s1.2.2)] [(0, ob0 (roI (c179e2 s1 p1 y2))), (1056, bx [.p (vk .u64 r15.2)])] [(0, ow 0 s1.1.length)] [(0, .row 1 s1.1.length (c179e1 s1 p1 y2))] (an g17.1 (an g17.2 (an g18 (an g19.1 (an g19.2 (an g20 (an g21.1 (an g21.2 (an g22 (an g23.1 (an g23.2 (an g24 trivial)))))))))))) (by kernel_rfl) (.cons rfl (MLe.ownLen (enc := encI) (d := 0) (f := (c179e1 s1 p1 y2)) (RowIs.updR (RowIs.upd RowIs.elems (s1.1.getD (Int.toNat (w64 (p1 + y2))) 0) rfl) (by omega) (s1.1.getD (Int.toNat s1.2.2) 0) rfl)) .nil) (.cons rfl (BLe.typed (RowIs.updR (RowIs.upd RowIs.elems (s1.1.getD (Int.toNat (w64 (p1 + y2))) 0) rfl) (by omega) (s1.1.getD (Int.toNat s1.2.2) 0) rfl)) .nil) ?_
    refine DW.done ?_
    show DW _ _ _ _ _
    refine RD hnt (nn 3 []) [] [(9, pI (w64 (s1.2.2 + 1)))] [] [] trivial ?_
    exact joinDone ((c179e2 s1 p1 y2), r15.2, (w64 (s1.2.2 + 1))) hm Conv.eqK
   ·refine condM hm ?_ ?_
    ·intro h16 hm
     refine RD hnt (nn 4 []) [43] [(10, pI (w64 ((c179e3 r15 r2) - (w64 (p2 - p1)))))] [] [] trivial ?_
     exact joinDone (w64 ((c179e3 r15 r2) - (w64 (p2 - p1)))) hm Conv.eqK
    ·intro h16 hm
     refine DW.skip ?_
     exact joinDone (c179e3 r15 r2) hm Conv.t0
  ·intro h14 hm
   refine DW.exit ?_
   refine joinQ_exit ?_
   refine KQ_exit ?_
   refine blockQ_exit ?_
   show DW _ _ _ _ _
   refine DW.done ?_
   obtain rfl := Option.some.inj hm
   exact endK [roI s1.1] [] (.p (.tup []))
 ·intro h1 hm
  refine DW.skip ?_
  refine DW.done ?_
  obtain rfl := Option.some.inj hm
  exact endK [roI p0] [] (.p (.tup []))

abbrev c168e1 (s1 : (List Int) × Int × Int × Int × Bool × Bool) : Nat × MV := (10, pI (w64 (s1.2.2.1 - s1.2.1)))
abbrev c168e2 (s1 : (List Int) × Int × Int × Int × Bool × Bool) := (w64 (Int.tdiv (w64 (s1.2.2.1 - s1.2.1)) 8))
theorem pdqsortOrdered_slices_intBSpec (rec : (List Int) → Int → Int → Int → Option (List Int)) (ih : ∀ (p0 : List Int) (p1 : Int) (p2 : Int) (p3 : Int) (RES : List Int), rec p0 p1 p2 p3 = some RES → Spec Tryz.prog 168 [ow 0 p0.length, pI p1, pI p2, pI p3] [roI p0] (.p (.tup [])) [roI RES] []) (p0 : List Int) (p1 : Int) (p2 : Int) (p3 : Int) (RES : List Int) (hm : pdqsortOrdered_slices_intB rec p0 p1 p2 p3 = some RES) : Spec Tryz.prog 168 [ow 0 p0.length, pI p1, pI p2, pI p3] [roI p0] (.p (.tup [])) [roI RES] [] := by
 unfold pdqsortOrdered_slices_intB at hm
 refine SO Tryz.func168 rfl rfl [(0, ow 0 p0.length), (1, pI p1), (2, pI p2), (3, pI p3)] [(0, ob0 (roI p0))] ?_
 intro cx hnt
 refine DW.seq (RD hnt (.no :: []) [] [(8, pB true)] [] [] trivial ?_)
 refine DW.seq (RD hnt (.no :: []) [] [(9, pB true)] [] [] trivial ?_)
 refine DW.block ?_
 refine DW.whileO (fun (s1 : (List Int) × Int × Int × Int × Bool × Bool) => mkSt [(0, ow 0 s1.1.length), (1, pI s1.2.1), (2, pI s1.2.2.1), (3, pI s1.2.2.2.1), (8, pB s1.2.2.2.2.1), (9, pB s1.2.2.2.2.2)] [(0, ob0 (roI s1.1))]) hm Conv.eqK ?_
 intro s1 n1 hm
 unfold pdqsortOrdered_slices_intL1 at hm
 refine DW.block ?_
 refine DW.seq (RD hnt (nn 4 []) [] [(c168e1 s1)] [] [] trivial ?_)
 refine DW.seq (DW.seq (RD hnt (nn 2 []) [] [(23, pB (decide ((w64 (s1.2.2.1 - s1.2.1)) ≤ 12)))] [] [] trivial ?_))
 refine condM hm ?_ ?_
 ·intro h66 hm
  obtain ⟨r67, hr67, hm⟩ := bind_open hm
  obtain ⟨g68, hm⟩ := guard_open hm
  refine DW.seq (RK hnt (nn 3 (.call 177 [0] true (.p (.tup [])) [roI r67] [] :: [])) [] [(0, ob0 (roI r67))] (an (insertionSortOrdered_slices_intSpec s1.1 s1.2.1 s1.2.2.1 r67 hr67) (an (⟨rfl, g68⟩ : Body.same (roI s1.1) (roI r67)) trivial)) ?_)
  refine DW.ret ?_
  obtain rfl := Option.some.inj hm
  exact retK [roI r67] [] (.p (.tup []))
 ·intro h66 hm
  refine DW.skip ?_
  refine DW.seq (DW.seq (RD hnt (nn 2 []) [23] [(29, pB (s1.2.2.2.1 == 0))] [] [] trivial ?_))
  refine condM hm ?_ ?_
  ·intro h69 hm
   obtain ⟨r70, hr70, hm⟩ := bind_open hm
   obtain ⟨g71, hm⟩ := guard_open hm
   refine DW.seq (RK hnt (nn 3 (.call 178 [0] true (.p (.tup [])) [roI r70] [] :: [])) [] [(0, ob0 (roI r70))] (an (heapSortOrdered_slices_intSpec s1.1 s1.2.1 s1.2.2.1 r70 hr70) (an (⟨rfl, g71⟩ : Body.same (roI s1.1) (roI r70)) trivial)) ?_)
   refine DW.ret ?_
   obtain rfl := Option.some.inj hm
   exact retK [roI r70] [] (.p (.tup []))
  ·intro h69 hm
   refine DW.skip ?_
   refine DW.seq (DW.seq (RD hnt (nn 2 []) [29] [(35, pB (!s1.2.2.2.2.1))] [] [] trivial ?_))
   refine DW.join (ι := (List Int) × Int) (fun (y8 : (List Int) × Int) => mkSt [(0, ow 0 y8.1.length), (1, pI s1.2.1), (2, pI s1.2.2.1), (3, pI y8.2), (8, pB s1.2.2.2.2.1), (9, pB s1.2.2.2.2.2), (c168e1 s1)] [(0, ob0 (roI y8.1))]) (fun y8 => (pdqsortOrdered_slices_intJ8 rec s1 n1) y8 = some RES) ?_ ?_
   ·intro y8 hm
    unfold pdqsortOrdered_slices_intJ8 at hm
    obtain ⟨r75, hr75, hm⟩ := bind_open hm
    refine DW.seq (RD hnt (nn 3 (.call 180 [] true (.p (.tup [vi r75.1, vi r75.2])) [] [] :: nn 5 [])) [] [(11, pI r75.1), (12, pI r75.2)] [] [] (an (choosePivotOrdered_slices_intSpec y8.1 s1.2.1 s1.2.2.1 r75 hr75) trivial) ?_)
    refine DW.seq (DW.seq (RD hnt (nn 2 []) [] [(50, pB (r75.2 == 2))] [] [] trivial ?_))
    refine DW.join (ι := (List Int) × Int × Int) (fun (y9 : (List Int) × Int × Int) => mkSt [(0, ow 0 y9.1.length), (1, pI s1.2.1), (2, pI s1.2.2.1), (3, pI y8.2), (8, pB s1.2.2.2.2.1), (9, pB s1.2.2.2.2.2), (c168e1 s1), (11, pI y9.2.1), (12, pI y9.2.2)] [(0, ob0 (roI y9.1))]) (fun y9 => (pdqsortOrdered_slices_intJ9 rec s1 n1 y8) y9 = some RES) ?_ ?_
    ·intro y9 hm
     unfold pdqsortOrdered_slices_intJ9 at hm
     refine DW.seq (DW.seq (DW.regJ (sl2 := [(0, ow 0 y9.1.length), (1, pI s1.2.1), (2, pI s1.2.2.1), (3, pI y8.2), (8, pB s1.2.2.2.2.1), (9, pB s1.2.2.2.2.2), (c168e1 s1), (11, pI y9.2.1), (68, pB ((s1.2.2.2.2.1 && s1.2.2.2.2.2) && (y9.2.2 == 1)))]) (ob2 := [(0, ob0 (roI y9.1))]) ?_ ?_))
     ·rcases bt s1.2.2.2.2.1 with h79 | h79
      ·rcases bt s1.2.2.2.2.2 with h80 | h80
       ·exact RT hnt (nn 3 (pT :: nn 3 (pT :: []))) [(68, pB (y9.2.2 == 1))] (an2 h79 (an3 h80 trivial)) (by kernel_rfl) (.cons rfl (.of_eq (by rw [h79, h80]; try rfl)) .nil)
       ·exact RT hnt (nn 3 (pT :: .no :: sk 2 (pF :: []))) [(68, pB false)] (an2 h79 (an3 h80 trivial)) (by kernel_rfl) (.cons rfl (.of_eq (by rw [h79, h80]; try rfl)) .nil)
      ·exact RT hnt (nn 2 (.skip :: pF :: .no :: sk 2 (pF :: []))) [(68, pB false)] (an2 h79 (an3 ff trivial)) (by kernel_rfl) (.cons rfl (.of_eq (by rw [h79]; try rfl)) .nil)
     ·refine DW.join (ι := List Int) (fun (y10 : List Int) => mkSt [(0, ow 0 y10.length), (1, pI s1.2.1), (2, pI s1.2.2.1), (3, pI y8.2), (8, pB s1.2.2.2.2.1), (9, pB s1.2.2.2.2.2), (c168e1 s1), (11, pI y9.2.1)] [(0, ob0 (roI y10))]) (fun y10 => (pdqsortOrdered_slices_intJ10 rec s1 n1 y8 y9) y10 = some RES) ?_ ?_
      ·intro y10 hm
       unfold pdqsortOrdered_slices_intJ10 at hm
       refine DW.seq (DW.seq ?_)
       refine DW.join (ι := Bool) (fun (y11 : Bool) => mkSt [(0, ow 0 y10.length), (1, pI s1.2.1), (2, pI s1.2.2.1), (3, pI y8.2), (8, pB s1.2.2.2.2.1), (9, pB s1.2.2.2.2.2), (c168e1 s1), (11, pI y9.2.1), (87, pB y11)] [(0, ob0 (roI y10))]) (fun y11 => (pdqsortOrdered_slices_intJ11 rec s1 n1 y8 y9 y10) y11 = some RES) ?_ ?_
       ·intro y11 hm
        unfold pdqsortOrdered_slices_intJ11 at hm
        refine condM hm ?_ ?_
        ·intro h91 hm
         obtain ⟨r92, hr92, hm⟩ := bind_open hm
         obtain ⟨g93, hm⟩ := guard_open hm
         refine DW.seq (RN hnt (nn 4 (.call 184 [0] true (pI r92.1) [roI r92.2] [] :: .no :: [])) [(0, ow 0 r92.2.length), (2, pI s1.2.2.1), (3, pI y8.2), (8, pB s1.2.2.2.2.1), (9, pB s1.2.2.2.2.2), (13, pI r92.1)] [(0, ob0 (roI r92.2))] [(0, ow 0 y10.length)] [] (an (partitionEqualOrdered_slices_intSpec y10 s1.2.1 s1.2.2.1 y9.2.1 r92 hr92) (an (⟨rfl, g93⟩ : Body.same (roI y10) (roI r92.2)) trivial)) (by kernel_rfl) (.cons rfl (MLe.of_eq (congrArg (MV.own 0 0 0) g93)) .nil) .nil ?_)
         refine DW.seq (RD hnt (nn 2 []) [13] [(1, pI r92.1)] [] [] trivial ?_)
         refine DW.exit ?_
         refine blockQ_exit ?_
         show DW _ _ _ _ _
         exact joinDone (r92.2, r92.1, s1.2.2.1, y8.2, s1.2.2.2.2.1, s1.2.2.2.2.2) hm Conv.eqK
        ·intro h91 hm
         refine DW.skip ?_
         obtain ⟨r94, hr94, hm⟩ := bind_open hm
         obtain ⟨g95, hm⟩ := guard_open hm
         refine DW.seq (RN hnt (nn 4 (.call 185 [0] true (.p (.tup [vi r94.1, vb r94.2.1])) [roI r94.2.2] [] :: nn 5 [])) [(0, ow 0 r94.2.2.length), (1, pI s1.2.1), (2, pI s1.2.2.1), (3, pI y8.2), (c168e1 s1), (14, pI r94.1), (15, pB r94.2.1)] [(0, ob0 (roI r94.2.2))] [(0, ow 0 y10.length)] [] (an (partitionOrdered_slices_intSpec y10 s1.2.1 s1.2.2.1 y9.2.1 r94 hr94) (an (⟨rfl, g95⟩ : Body.same (roI y10) (roI r94.2.2)) trivial)) (by kernel_rfl) (.cons rfl (MLe.of_eq (congrArg (MV.own 0 0 0) g95)) .nil) .nil ?_)
         refine DW.seq (RD hnt (nn 2 []) [15] [(9, pB r94.2.1)] [] [] trivial ?_)
         refine DW.seq (RD hnt (nn 8 []) [] [(16, pI (w64 (r94.1 - s1.2.1))), (17, pI (w64 (s1.2.2.1 - r94.1)))] [] [] trivial ?_)
         refine DW.seq (RD hnt (nn 3 []) [10] [(18, pI (c168e2 s1))] [] [] (an (by decide : (8 : Int) ≠ 0) trivial) ?_)
         refine DW.seq (RD hnt (nn 3 []) [] [(113, pB (decide ((w64 (r94.1 - s1.2.1)) < (w64 (s1.2.2.1 - r94.1)))))] [] [] trivial ?_)
         refine condM hm ?_ ?_
         ·intro h96 hm
          refine DW.seq (RD hnt (nn 4 []) [16, 17, 18, 113] [(8, pB (decide ((w64 (r94.1 - s1.2.1)) ≥ (c168e2 s1))))] [] [] trivial ?_)
          obtain ⟨r97, hr97, hm⟩ := bind_open hm
          obtain ⟨g98, hm⟩ := guard_open hm
          refine DW.seq (RN hnt (nn 4 (.call 168 [0] true (.p (.tup [])) [roI r97] [] :: [])) [(0, ow 0 r97.length), (2, pI s1.2.2.1), (3, pI y8.2), (8, pB (decide ((w64 (r94.1 - s1.2.1)) ≥ (c168e2 s1)))), (9, pB r94.2.1), (14, pI r94.1)] [(0, ob0 (roI r97))] [(0, ow 0 r94.2.2.length)] [] (an (ih r94.2.2 s1.2.1 r94.1 y8.2 r97 hr97) (an (⟨rfl, g98⟩ : Body.same (roI r94.2.2) (roI r97)) trivial)) (by kernel_rfl) (.cons rfl (MLe.of_eq (congrArg (MV.own 0 0 0) g98)) .nil) .nil ?_)
          refine RD hnt (nn 3 []) [14] [(1, pI (w64 (r94.1 + 1)))] [] [] trivial ?_
          refine DW.done ?_
          show DW _ _ _ _ _
          exact joinDone (r97, (w64 (r94.1 + 1)), s1.2.2.1, y8.2, (decide ((w64 (r94.1 - s1.2.1)) ≥ (c168e2 s1))), r94.2.1) hm Conv.eqK
         ·intro h96 hm
          refine DW.seq (RD hnt (nn 4 []) [16, 17, 18, 113] [(8, pB (decide ((w64 (s1.2.2.1 - r94.1)) ≥ (c168e2 s1))))] [] [] trivial ?_)
          obtain ⟨r99, hr99, hm⟩ := bind_open hm
          obtain ⟨g100, hm⟩ := guard_open hm
          refine DW.seq (RN hnt (nn 5 (.call 168 [0] true (.p (.tup [])) [roI r99] [] :: [])) [(0, ow 0 r99.length), (1, pI s1.2.1), (3, pI y8.2), (8, pB (decide ((w64 (s1.2.2.1 - r94.1)) ≥ (c168e2 s1)))), (9, pB r94.2.1), (14, pI r94.1)] [(0, ob0 (roI r99))] [(0, ow 0 r94.2.2.length)] [] (an (ih r94.2.2 (w64 (r94.1 + 1)) s1.2.2.1 y8.2 r99 hr99) (an (⟨rfl, g100⟩ : Body.same (roI r94.2.2) (roI r99)) trivial)) (by kernel_rfl) (.cons rfl (MLe.of_eq (congrArg (MV.own 0 0 0) g100)) .nil) .nil ?_)
          refine RD hnt (nn 2 []) [14] [(2, pI r94.1)] [] [] trivial ?_
          refine DW.done ?_
          show DW _ _ _ _ _
          exact joinDone (r99, s1.2.1, r94.1, y8.2, (decide ((w64 (s1.2.2.1 - r94.1)) ≥ (c168e2 s1))), r94.2.1) hm Conv.eqK
       ·rcases bt (decide (s1.2.1 > 0)) with h85 | h85
        ·replace hm := if_t h85 hm
         obtain ⟨g86, g87, g88, g89, hm⟩ := go4 hm
         obtain ⟨r90, hr90, hm⟩ := bind_open hm
         refine RD hnt (nn 12 (.call 183 [] true (pB r90) [] [] :: .no :: pT :: [])) [] [(87, pB (!r90))] [] [] (an4 h85 (an g86.1 (an g86.2 (an h85 (an g87 (an3 h85 (an g88.1 (an g88.2 (an h85 (an g89 (an h85 (an (Less_cmp_intSpec (y10.getD (Int.toNat (w64 (s1.2.1 - 1))) 0) (y10.getD (Int.toNat y9.2.1) 0) r90 hr90) (an2 h85 trivial))))))))))))) ?_
         exact joinDone (!r90) hm Conv.eqK
        ·replace hm := if_f h85 hm
         refine RD hnt (nn 3 (sk 11 (pF :: []))) [] [(87, pB false)] [] [] (an6 h85 (an6 h85 trivial)) ?_
         exact joinDone false hm Conv.eqK
      ·refine condM hm ?_ ?_
       ·intro h81 hm
        obtain ⟨r82, hr82, hm⟩ := bind_open hm
        obtain ⟨g83, hm⟩ := guard_open hm
        refine DW.seq (RN hnt (nn 3 (.call 182 [0] true (pB r82.1) [roI r82.2] [] :: [])) [(0, ow 0 r82.2.length), (1, pI s1.2.1), (2, pI s1.2.2.1), (3, pI y8.2), (8, pB s1.2.2.2.2.1), (9, pB s1.2.2.2.2.2), (c168e1 s1), (11, pI y9.2.1), (72, pB r82.1)] [(0, ob0 (roI r82.2))] [(0, ow 0 y9.1.length)] [] (an (partialInsertionSortOrdered_slices_intSpec y9.1 s1.2.1 s1.2.2.1 r82 hr82) (an (⟨rfl, g83⟩ : Body.same (roI y9.1) (roI r82.2)) trivial)) (by kernel_rfl) (.cons rfl (MLe.of_eq (congrArg (MV.own 0 0 0) g83)) .nil) .nil ?_)
        refine condM hm ?_ ?_
        ·intro h84 hm
         refine DW.ret ?_
         obtain rfl := Option.some.inj hm
         exact retK [roI r82.2] [] (.p (.tup []))
        ·intro h84 hm
         refine DW.skip ?_
         exact joinDone r82.2 hm Conv.t0
       ·intro h81 hm
        refine DW.skip ?_
        exact joinDone y9.1 hm Conv.t0
    ·refine condM hm ?_ ?_
     ·intro h76 hm
      obtain ⟨r77, hr77, hm⟩ := bind_open hm
      obtain ⟨g78, hm⟩ := guard_open hm
      refine DW.seq (RN hnt (nn 3 (.call 181 [0] true (.p (.tup [])) [roI r77] [] :: [])) [(0, ow 0 r77.length), (1, pI s1.2.1), (2, pI s1.2.2.1), (3, pI y8.2), (8, pB s1.2.2.2.2.1), (9, pB s1.2.2.2.2.2), (c168e1 s1), (11, pI r75.1)] [(0, ob0 (roI r77))] [(0, ow 0 y8.1.length)] [] (an (reverseRangeOrdered_slices_intSpec y8.1 s1.2.1 s1.2.2.1 r77 hr77) (an (⟨rfl, g78⟩ : Body.same (roI y8.1) (roI r77)) trivial)) (by kernel_rfl) (.cons rfl (MLe.of_eq (congrArg (MV.own 0 0 0) g78)) .nil) .nil ?_)
      refine DW.seq (RD hnt (nn 7 []) [] [(11, pI (w64 ((w64 (s1.2.2.1 - 1)) - (w64 (r75.1 - s1.2.1)))))] [] [] trivial ?_)
      refine RD hnt (.no :: []) [] [(12, pI 1)] [] [] trivial ?_
      exact joinDone (r77, (w64 ((w64 (s1.2.2.1 - 1)) - (w64 (r75.1 - s1.2.1)))), 1) hm Conv.eqK
     ·intro h76 hm
      refine DW.skip ?_
      exact joinDone (y8.1, r75.1, r75.2) hm Conv.t0
   ·refine condM hm ?_ ?_
    ·intro h72 hm
     obtain ⟨r73, hr73, hm⟩ := bind_open hm
     obtain ⟨g74, hm⟩ := guard_open hm
     refine DW.seq (RN hnt (nn 3 (.call 179 [0] true (.p (.tup [])) [roI r73] [] :: [])) [(0, ow 0 r73.length), (1, pI s1.2.1), (2, pI s1.2.2.1), (3, pI s1.2.2.2.1), (8, pB s1.2.2.2.2.1), (9, pB s1.2.2.2.2.2), (c168e1 s1)] [(0, ob0 (roI r73))] [(0, ow 0 s1.1.length)] [] (an (breakPatternsOrdered_slices_intSpec s1.1 s1.2.1 s1.2.2.1 r73 hr73) (an (⟨rfl, g74⟩ : Body.same (roI s1.1) (roI r73)) trivial)) (by kernel_rfl) (.cons rfl (MLe.of_eq (congrArg (MV.own 0 0 0) g74)) .nil) .nil ?_)
     refine RD hnt (nn 3 []) [] [(3, pI (w64 (s1.2.2.2.1 - 1)))] [] [] trivial ?_
     exact joinDone (r73, (w64 (s1.2.2.2.1 - 1))) hm Conv.eqK
    ·intro h72 hm
     refine DW.skip ?_
     exact joinDone (s1.1, s1.2.2.2.1) hm Conv.t0
theorem pdqsortOrdered_slices_intFSpec : ∀ (n : Nat) (p0 : List Int) (p1 : Int) (p2 : Int) (p3 : Int) (RES : List Int), pdqsortOrdered_slices_intF n p0 p1 p2 p3 = some RES → Spec Tryz.prog 168 [ow 0 p0.length, pI p1, pI p2, pI p3] [roI p0] (.p (.tup [])) [roI RES] []
  | 0, p0, p1, p2, p3, RES, hm => by simp [pdqsortOrdered_slices_intF] at hm
  | n + 1, p0, p1, p2, p3, RES, hm => pdqsortOrdered_slices_intBSpec (pdqsortOrdered_slices_intF n) (pdqsortOrdered_slices_intFSpec n) p0 p1 p2 p3 RES hm
theorem pdqsortOrdered_slices_intSpec (p0 : List Int) (p1 : Int) (p2 : Int) (p3 : Int) (RES : List Int) (hm : pdqsortOrdered_slices_int p0 p1 p2 p3 = some RES) : Spec Tryz.prog 168 [ow 0 p0.length, pI p1, pI p2, pI p3] [roI p0] (.p (.tup [])) [roI RES] [] := pdqsortOrdered_slices_intFSpec FUEL p0 p1 p2 p3 RES hm

theorem Sort_slices_intSpec (p0 : List Int) (RES : List Int) (hm : Sort_slices_int p0 = some RES) : Spec Tryz.prog 155 [ow 0 p0.length] [roI p0] (.p (.tup [])) [roI RES] [] := by
 unfold Sort_slices_int at hm
 refine SO Tryz.func155 rfl rfl [(0, ow 0 p0.length)] [(0, ob0 (roI p0))] ?_
 intro cx hnt
 refine DW.seq (RD hnt (nn 3 []) [] [(2, pI ((p0.length : Nat) : Int))] [] [] trivial ?_)
 obtain ⟨r1, hr1, hm⟩ := bind_open hm
 obtain ⟨r2, hr2, hm⟩ := bind_open hm
 obtain ⟨g3, hm⟩ := guard_open hm
 refine RK hnt (nn 4 (.call 169 [] true (pI r1) [] [] :: .call 168 [0] true (.p (.tup [])) [roI r2] [] :: [])) [] [(0, ob0 (roI r2))] (an (Len_bitsSpec (IntKind.u64.wrap ((p0.length : Nat) : Int)) r1 hr1) (an (pdqsortOrdered_slices_intSpec p0 0 ((p0.length : Nat) : Int) r1 r2 hr2) (an (⟨rfl, g3⟩ : Body.same (roI p0) (roI r2)) trivial))) ?_
 refine DW.done ?_
 obtain rfl := Option.some.inj hm
 exact endK [roI r2] [] (.p (.tup []))

abbrev c156e1 (s4 : (List Int) × Int) (k1 : Int) (k4 : Int) := (s4.1.getD (addN (Int.toNat k1) (Int.toNat k4)) 0)
abbrev c156e2 (k1 : Int) (p0 : List Int) : Nat × MV := (4, .own 0 0 (Int.toNat k1) (subN p0.length (Int.toNat k1)))
abbrev c156e3 (s4 : (List Int) × Int) := (fillL s4.1 (Int.toNat s4.2) (subN s4.1.length (Int.toNat s4.2)) 0)
theorem Compact_slices_intSpec (p0 : List Int) (RES : Nat × (List Int)) (hm : Compact_slices_int p0 = some RES) : Spec Tryz.prog 156 [ow 0 p0.length] [roI p0] (ow 0 RES.1) [roI RES.2] [] := by
 unfold Compact_slices_int at hm
 refine SO Tryz.func156 rfl rfl [(0, ow 0 p0.length)] [(0, ob0 (roI p0))] ?_
 intro cx hnt
 refine DW.seq (RD hnt (.no :: []) [] [] [] [] trivial ?_)
 refine DW.seq (DW.seq (RD hnt (nn 3 []) [] [(8, pB (decide (((p0.length : Nat) : Int) < 2)))] [] [] trivial ?_))
 refine condM hm ?_ ?_
 ·intro h1 hm
  refine DW.seq (RK hnt (nn 2 []) [(2, ow 0 p0.length)] [(0, ob0 (roI p0))] trivial ?_)
  refine DW.ret ?_
  obtain rfl := Option.some.inj hm
  exact retK [roI p0] [] (ow 0 p0.length)
 ·intro h1 hm
  refine DW.skip ?_
  refine DW.seq (DW.seq (RD hnt (.no :: []) [8] [(3, pI 1)] [] [] trivial ?_))
  refine DW.block ?_
  obtain ⟨hc1, hm⟩ := guard_open hm
  refine DW.forO (fun (k1 : Int) (s1 : Unit) => mkSt [(0, ow 0 p0.length), (3, pI k1)] [(0, ob0 (roI p0))]) (lo := 1) (hi := ((p0.length : Nat) : Int)) hm Conv.eqK ?_
  intro k1 s1 n1 hk1 hs1 he1
  refine DW.seq (DW.seq (RD hnt (nn 4 []) [] [(13, pB (decide (k1 < ((p0.length : Nat) : Int))))] [] [] trivial ?_))
  refine condK (decide (k1 < ((p0.length : Nat) : Int))) ?_ ?_
  ·intro h94
   have hlt1 : k1 < ((p0.length : Nat) : Int) := by have := of_decide_eq_true h94; omega
   have hm := hs1 hlt1
   unfold Compact_slices_intL1 at hm
   refine DW.skip ?_
   refine DW.seq (DW.block ?_)
   obtain ⟨g95, g96, g97, g98, hm⟩ := go4 hm
   refine DW.seq (RD hnt (nn 10 []) [13] [(25, pB ((p0.getD (Int.toNat k1) 0) == (p0.getD (Int.toNat (w64 (k1 - 1))) 0)))] [] [] (an g95.1 (an g95.2 (an g96 (an g97.1 (an g97.2 (an g98 trivial)))))) ?_)
   refine condM hm ?_ ?_
   ·intro h99 hm
    obtain ⟨g100, hm⟩ := guard_open hm
    refine DW.seq (RD hnt (nn 4 []) [25] [(c156e2 k1 p0)] [] [] (an (by omega : (0 : Int) ≤ k1) (an (by omega : k1 ≤ ((p0.length : Nat) : Int)) (an (by omega : ((p0.length : Nat) : Int) ≤ ((p0.length : Nat) : Int)) trivial))) ?_)
    refine DW.seq (DW.seq (RD hnt (.no :: []) [] [(5, pI 1)] [] [] trivial ?_))
    refine DW.block ?_
    obtain ⟨hc4, hm⟩ := guard_open hm
    refine DW.forO (fun (k4 : Int) (s4 : (List Int) × Int) => mkSt [(0, ow 0 s4.1.length), (3, pI s4.2), (c156e2 k1 p0), (5, pI k4)] [(0, ob0 (roI s4.1))]) (lo := 1) (hi := (((subN p0.length (Int.toNat k1)) : Nat) : Int)) hm Conv.eqK ?_
    intro k4 s4 n4 hk4 hs4 he4
    refine DW.seq (DW.seq (RD hnt (nn 4 []) [] [(32, pB (decide (k4 < (((subN p0.length (Int.toNat k1)) : Nat) : Int))))] [] [] trivial ?_))
    refine condK (decide (k4 < (((subN p0.length (Int.toNat k1)) : Nat) : Int))) ?_ ?_
    ·intro h127
     have hlt4 : k4 < (((subN p0.length (Int.toNat k1)) : Nat) : Int) := by have := of_decide_eq_true h127; omega
     have hm := hs4 hlt4
     unfold Compact_slices_intL4 at hm
     refine DW.skip ?_
     refine DW.seq ?_
     refine DW.join (ι := (List Int) × Int) (fun (y9 : (List Int) × Int) => mkSt [(0, ow 0 y9.1.length), (3, pI y9.2), (c156e2 k1 p0), (5, pI k4)] [(0, ob0 (roI y9.1))]) (fun y9 => (Compact_slices_intJ9 n4) y9 = some RES) ?_ ?_
     ·intro y9 hm
      unfold Compact_slices_intJ9 at hm
      refine RD hnt (nn 3 []) [] [(5, pI (w64 (k4 + 1)))] [] [] trivial ?_
      exact joinDone (y9.1, y9.2) ⟨hlt4, hm⟩ (Conv.tp [(5, pI (w64 (k4 + 1)))] [] (by kernel_rfl) (.cons rfl (.of_eq (congrArg pI (w64_for (lo := 1) (hi := (((subN p0.length (Int.toNat k1)) : Nat) : Int)) (by omega) hk4 hlt4 (by omega)))) .nil) .nil)
     ·refine DW.block ?_
      obtain ⟨g128, g129, g130, g131, hm⟩ := go4 hm
      refine DW.seq (RD hnt (nn 10 []) [32] [(44, pB ((c156e1 s4 k1 k4) != (s4.1.getD (addN (Int.toNat k1) (Int.toNat (w64 (k4 - 1)))) 0)))] [] [] (an g128.1 (an g128.2 (an g129 (an g130.1 (an g130.2 (an g131 trivial)))))) ?_)
      refine condM hm ?_ ?_
      ·intro h132 hm
       obtain ⟨g133, g134, g135, g136, hm⟩ := go4 hm
       refine DW.seq (RN hnt (nn 8 []) [(0, ow 0 (s4.1.set (Int.toNat s4.2) (c156e1 s4 k1 k4)).length), (3, pI s4.2), (c156e2 k1 p0), (5, pI k4)] [(0, ob0 (roI (s4.1.set (Int.toNat s4.2) (c156e1 s4 k1 k4))))] [(0, ow 0 s4.1.length)] [(0, .row 1 s4.1.length (updF (elI s4.1) (Int.toNat s4.2) [vi (c156e1 s4 k1 k4)]))] (an g133.1 (an g133.2 (an g134 (an g135.1 (an g135.2 (an g136 trivial)))))) (by kernel_rfl) (.cons rfl (MLe.ownLen (enc := encI) (d := 0) (f := (updF (elI s4.1) (Int.toNat s4.2) [vi (c156e1 s4 k1 k4)])) (RowIs.upd RowIs.elems (c156e1 s4 k1 k4) rfl)) .nil) (.cons rfl (BLe.typed (RowIs.upd RowIs.elems (c156e1 s4 k1 k4) rfl)) .nil) ?_)
       refine RD hnt (nn 3 []) [] [(3, pI (w64 (s4.2 + 1)))] [] [] trivial ?_
       exact blockDone ((s4.1.set (Int.toNat s4.2) (c156e1 s4 k1 k4)), (w64 (s4.2 + 1))) hm Conv.eqK
      ·intro h132 hm
       refine DW.skip ?_
       exact blockDone (s4.1, s4.2) hm Conv.t0
    ·intro h127
     have hge4 : ¬ k4 < (((subN p0.length (Int.toNat k1)) : Nat) : Int) := by have := of_decide_eq_false h127; omega
     have hm := he4 hge4
     unfold Compact_slices_intD4 at hm
     refine DW.exit ?_
     refine joinQ_exit ?_
     refine KQ_exit ?_
     refine blockQ_exit ?_
     show DW _ _ _ _ _
     obtain ⟨g137, g138, hm⟩ := go2 hm
     refine DW.seq (RN hnt (nn 4 []) [(0, ow 0 (c156e3 s4).length), (3, pI s4.2)] [(0, ob0 (roI (c156e3 s4)))] [(0, ow 0 s4.1.length)] [(0, .row 1 s4.1.length (overF (elI s4.1) (Int.toNat s4.2) (subN s4.1.length (Int.toNat s4.2)) (fun _ => [vi 0])))] (an (by omega : (0 : Int) ≤ s4.2) (an (by omega : s4.2 ≤ ((s4.1.length : Nat) : Int)) (an (by omega : ((s4.1.length : Nat) : Int) ≤ ((s4.1.length : Nat) : Int)) (an g138 trivial)))) (by kernel_rfl) (.cons rfl (MLe.ownLen (enc := encI) (d := 0) (f := (overF (elI s4.1) (Int.toNat s4.2) (subN s4.1.length (Int.toNat s4.2)) (fun _ => [vi 0]))) (RowIs.fill RowIs.elems 0 rfl (by first | exact g138 | omega))) .nil) (.cons rfl (BLe.typed (RowIs.fill RowIs.elems 0 rfl (by first | exact g138 | omega))) .nil) ?_)
     obtain ⟨g139, hm⟩ := guard_open hm
     refine DW.seq (RD hnt (nn 4 []) [0, 3] [(2, ow 0 (Int.toNat s4.2))] [] [] (an (by omega : (0 : Int) ≤ 0) (an (by omega : (0 : Int) ≤ s4.2) (an (by omega : s4.2 ≤ (((fillL s4.1 (Int.toNat s4.2) (subN s4.1.length (Int.toNat s4.2)) 0).length : Nat) : Int)) trivial))) ?_)
     refine DW.ret ?_
     obtain rfl := Option.some.inj hm
     exact retK [roI (c156e3 s4)] [] (ow 0 (Int.toNat s4.2))
   ·intro h99 hm
    refine DW.skip ?_
    refine DW.done ?_
    show DW _ _ _ _ _
    refine RD hnt (nn 3 []) [25] [(3, pI (w64 (k1 + 1)))] [] [] trivial ?_
    exact joinDone () ⟨hlt1, hm⟩ (Conv.tp [(3, pI (w64 (k1 + 1)))] [] (by kernel_rfl) (.cons rfl (.of_eq (congrArg pI (w64_for (lo := 1) (hi := ((p0.length : Nat) : Int)) (by omega) hk1 hlt1 (by omega)))) .nil) .nil)
  ·intro h94
   have hge1 : ¬ k1 < ((p0.length : Nat) : Int) := by have := of_decide_eq_false h94; omega
   have hm := he1 hge1
   unfold Compact_slices_intD1 at hm
   refine DW.exit ?_
   refine joinQ_exit ?_
   refine KQ_exit ?_
   refine blockQ_exit ?_
   show DW _ _ _ _ _
   refine DW.seq (RK hnt (nn 2 []) [(2, ow 0 p0.length)] [(0, ob0 (roI p0))] trivial ?_)
   refine DW.ret ?_
   obtain rfl := Option.some.inj hm
   exact retK [roI p0] [] (ow 0 p0.length)

abbrev c112e1 (p0 : Hierarchy) : Nat × MV := (12, pI ((p0.tasks.length : Nat) : Int))
theorem Those_crewQThreadsFa_crewQID_crewSpec (p0 : Hierarchy) (p1c0 : Int) (RES : List Int) (hm : Those_crewQThreadsFa_crewQID_crew p0 p1c0 = some RES) : Spec Tryz.prog 112 [.p (.agg (encHierarchy p0)), .fn 147 [rr 0], .p (.fn 148 [])] [.box [pI p1c0]] (.p (slI RES)) [.box [pI p1c0]] [] := by
 unfold Those_crewQThreadsFa_crewQID_crew at hm
 refine SO Tryz.func112 rfl rfl [(0, .p (.agg (encHierarchy p0))), (1, .fn 147 [rr 0]), (2, .p (.fn 148 []))] [(0, bx [pI p1c0])] ?_
 intro cx hnt
 refine DW.seq (RD hnt (nn 2 []) [0] [(3, rr 1024)] [] [(1024, bx (pm (encHierarchy p0)))] trivial ?_)
 refine DW.seq (RD hnt (.no :: []) [] [(7, .p (.sl .nil 0 0 (fun _ => [])))] [] [] trivial ?_)
 refine DW.seq (DW.seq (RD hnt (nn 4 []) [3] [(11, .p (slTask p0.tasks)), (c112e1 p0), (13, pI 0)] [1024] [] trivial ?_))
 refine DW.block ?_
 obtain ⟨hc1, hm⟩ := guard_open hm
 refine DW.rangeO (fun (k1 : Nat) (s1 : List Int) => mkSt [(1, .fn 147 [rr 0]), (2, .p (.fn 148 [])), (7, ow 1200 s1.length), (11, .p (slTask p0.tasks)), (c112e1 p0), (13, pI ((k1 : Nat) : Int))] [(0, bx [pI p1c0]), (1200, ob0 (roI s1))]) dTask hm (Conv.trans (τ := mkSt [(1, .fn 147 [rr 0]), (2, .p (.fn 148 [])), (7, .p (.sl .nil 0 0 (fun _ => []))), (11, .p (slTask p0.tasks)), (c112e1 p0), (13, pI 0)] [(0, bx [pI p1c0])]) Conv.eqK (Conv.trans (τ := mkSt [(1, .fn 147 [rr 0]), (2, .p (.fn 148 [])), (7, ow 1200 0), (11, .p (slTask p0.tasks)), (c112e1 p0), (13, pI 0)] ((1200, ⟨0, .row 1 0 (elems encI 0 [])⟩) :: [(0, bx [pI p1c0])])) (Conv.adopt 1200 1 (elems encI 0 []) rfl rfl (.cons (.one (.rfl _)) (.cons (.one (.rfl _)) (.cons (.one (.nil _ _)) (.cons (.one (.rfl _)) (.cons (.one (.rfl _)) (.cons (.one (.rfl _)) (.rfl _))))))) (.rfl _)) Conv.t0)) ?_
 intro k1 s1 n1 hk1 hs1 he1
 refine DW.seq (RD hnt (.no :: []) [] [(14, pB (decide (((k1 : Nat) : Int) < ((p0.tasks.length : Nat) : Int))))] [] [] trivial ?_)
 refine DW.seq (condK (decide (((k1 : Nat) : Int) < ((p0.tasks.length : Nat) : Int))) ?_ ?_)
 ·intro h22
  have hlt1 : k1 < p0.tasks.length := by have := of_decide_eq_true h22; omega
  have hm := hs1 hlt1
  unfold Those_crewQThreadsFa_crewQID_crewL1 at hm
  refine DW.skip ?_
  refine DW.seq ?_
  refine DW.join (ι := List Int) (fun (y3 : List Int) => mkSt [(1, .fn 147 [rr 0]), (2, .p (.fn 148 [])), (7, ow 1200 y3.length), (11, .p (slTask p0.tasks)), (c112e1 p0), (13, pI ((k1 : Nat) : Int))] [(0, bx [pI p1c0]), (1200, ob0 (roI y3))]) (fun y3 => (Those_crewQThreadsFa_crewQID_crewJ3 n1) y3 = some RES) ?_ ?_
  ·intro y3 hm
   unfold Those_crewQThreadsFa_crewQID_crewJ3 at hm
   refine RD hnt (nn 2 []) [] [(13, pI (w64 (((k1 : Nat) : Int) + 1)))] [] [] trivial ?_
   exact joinDone y3 ⟨hlt1, hm⟩ (Conv.tp [(13, pI (w64 (((k1 : Nat) : Int) + 1)))] [] (by kernel_rfl) (.cons rfl (.of_eq (congrArg pI (w64_succ hlt1 hc1))) .nil) .nil)
  ·refine DW.block ?_
   refine DW.seq (RD hnt (nn 4 []) [14] [(9, rr 1072)] [] [(1072, bx (pm (encTask (p0.tasks.getD k1 (default : Task)))))] (an (nn0 k1) (an (ltc hlt1) trivial)) ?_)
   obtain ⟨r23, hr23, hm⟩ := bind_open hm
   refine DW.seq (RD hnt (nn 2 (.call 147 [0] true (pB r23) [.box [pI p1c0]] [] :: [])) [] [(19, pB r23)] [] [] (an (ThreadsFa_crewSpec (p0.tasks.getD k1 (default : Task)) p1c0 r23 hr23) (an trivial trivial)) ?_)
   refine condM hm ?_ ?_
   ·intro h24 hm
    obtain ⟨r25, hr25, hm⟩ := bind_open hm
    obtain ⟨g26, hm⟩ := guard_open hm
    refine RN hnt (nn 3 (.call 148 [] true (pI r25) [] [] :: nn 3 [])) [(1, .fn 147 [rr 0]), (2, .p (.fn 148 [])), (7, ow 1200 (s1 ++ [r25]).length), (11, .p (slTask p0.tasks)), (c112e1 p0), (13, pI ((k1 : Nat) : Int))] [(0, bx [pI p1c0]), (1200, ob0 (roI (s1 ++ [r25])))] [(7, ow 1200 (s1.length + 1))] [(1200, .row 1 (s1.length + 1) (catF s1.length (elI s1) (cut 1 [vi r25])))] (an (ID_crewSpec (p0.tasks.getD k1 (default : Task)) r25 hr25) (an (by omega : (s1.length + 1) * 8 ≤ 140737488355328) trivial)) (by kernel_rfl) (.cons rfl (MLe.ownLen (enc := encI) (d := 0) (f := (catF s1.length (elI s1) (cut 1 [vi r25]))) (RowIs.cat RowIs.elems (RowIs.lit (enc := encI) (d := 0) (n := 1) (f := (cut 1 [vi r25])) [r25] rfl (fun | 0, _ => rfl | n + 1, h => absurd h (by omega))))) .nil) (.cons rfl (BLe.typed (RowIs.cat RowIs.elems (RowIs.lit (enc := encI) (d := 0) (n := 1) (f := (cut 1 [vi r25])) [r25] rfl (fun | 0, _ => rfl | n + 1, h => absurd h (by omega))))) .nil) ?_
    exact blockDone (s1 ++ [r25]) hm .refl
   ·intro h24 hm
    refine DW.skip ?_
    exact blockDone s1 hm Conv.t0
 ·intro h22
  have hge1 : ¬ k1 < p0.tasks.length := by have := of_decide_eq_false h22; omega
  have hm := he1 hge1
  unfold Those_crewQThreadsFa_crewQID_crewD1 at hm
  refine DW.exit ?_
  refine joinQ_exit ?_
  refine KQ_exit ?_
  refine blockQ_exit ?_
  show DW _ _ _ _ _
  obtain ⟨r27, hr27, hm⟩ := bind_open hm
  obtain ⟨g28, hm⟩ := guard_open hm
  refine DW.seq (RN hnt (.no :: .call 155 [1200] true (.p (.tup [])) [roI r27] [] :: []) [(7, ow 1200 r27.length)] [(0, bx [pI p1c0]), (1200, ob0 (roI r27))] [(7, ow 1200 s1.length)] [] (an (Sort_slices_intSpec s1 r27 hr27) (an (⟨rfl, g28⟩ : Body.same (roI s1) (roI r27)) trivial)) (by kernel_rfl) (.cons rfl (MLe.of_eq (congrArg (MV.own 1200 0 0) g28)) .nil) .nil ?_)
  obtain ⟨r29, hr29, hm⟩ := bind_open hm
  obtain ⟨g30, g31, hm⟩ := go2 hm
  refine DW.seq (RD hnt (.no :: .call 156 [1200] true (ow 0 r29.1) [roI r29.2] [] :: .no :: []) [7] [(6, ow 1200 r29.1)] [] [(1200, ob0 (roI r29.2))] (an (Compact_slices_intSpec r27 r29 hr29) (an (⟨rfl, g30⟩ : Body.same (roI r27) (roI r29.2)) trivial)) ?_)
  refine DW.conv (τ := mkSt [(6, .p (slI (r29.2.take r29.1)))] [(0, bx [pI p1c0])]) (Conv.trans (τ := mkSt [(6, .p (.sl .unk 1 r29.1 (elI r29.2)))] [(0, bx [pI p1c0])]) (Conv.freezes [1200] (by kernel_rfl)) (Conv.tp [(6, .p (.sl .unk 1 r29.1 (elI r29.2)))] [] (by kernel_rfl) (.cons rfl (MLe.typed (RowIs.take RowIs.elems (by first | omega | (simp only [subN_eq, addN_eq] at *; omega)))) .nil) .nil)) ?_
  refine DW.ret ?_
  obtain rfl := Option.some.inj hm
  exact retK [.box [pI p1c0]] [] (.p (slI (r29.2.take r29.1)))

theorem Threads_crewSpec (p0 : Hierarchy) (p1 : Int) (RES : List Int) (hm : Threads_crew p0 p1 = some RES) : Spec Tryz.prog 99 [.p (.agg (encHierarchy p0)), pI p1] [] (.p (slI RES)) [] [] := by
 unfold Threads_crew at hm
 refine SO Tryz.func99 rfl rfl [(0, .p (.agg (encHierarchy p0))), (1, pI p1)] [] ?_
 intro cx hnt
 refine DW.seq (RK hnt (nn 3 []) [(2, rr 1016), (3, rr 1024)] [(1016, bx (pm (encHierarchy p0))), (1024, bx [pI p1])] trivial ?_)
 obtain ⟨r1, hr1, hm⟩ := bind_open hm
 refine DW.seq (RK hnt (nn 2 (.call 112 [1024] true (.p (slI r1)) [.box [pI p1]] [] :: .no :: [])) [(4, .p (slI r1))] [] (an (Those_crewQThreadsFa_crewQID_crewSpec p0 p1 r1 hr1) (an trivial trivial)) ?_)
 refine DW.ret ?_
 obtain rfl := Option.some.inj hm
 exact retK [] [] (.p (slI r1))

theorem Threads_memberSpec (p0 : Hierarchy) (p1 : Int) (RES : List Int) (hm : Threads_member p0 p1 = some RES) : Spec Tryz.prog 44 [.p (.agg (encHierarchy p0)), pI p1] [] (.p (slI RES)) [] [] := by
 unfold Threads_member at hm
 refine SO Tryz.func44 rfl rfl [(0, .p (.agg (encHierarchy p0))), (1, pI p1)] [] ?_
 intro cx hnt
 refine DW.seq (RK hnt (nn 2 []) [(1, pI p1), (2, rr 1016)] [(1016, bx (pm (encHierarchy p0)))] trivial ?_)
 obtain ⟨r1, hr1, hm⟩ := bind_open hm
 obtain ⟨r2, hr2, hm⟩ := bind_open hm
 refine DW.seq (RK hnt (.no :: .call 100 [] true (.p (.agg (encHierarchy r1))) [] [] :: .no :: .call 99 [] true (.p (slI r2)) [] [] :: .no :: []) [(4, .p (slI r2))] [] (an (checked_memberSpec p0 r1 hr1) (an (Threads_crewSpec r1 p1 r2 hr2) trivial)) ?_)
 refine DW.ret ?_
 obtain rfl := Option.some.inj hm
 exact retK [] [] (.p (slI r2))

theorem TasksFa_crewSpec (p0 : Task) (p1 : Int) (RES : Bool) (hm : TasksFa_crew p0 p1 = some RES) : Spec Tryz.prog 151 [.p (.agg (encTask p0)), rr 0] [.box [pI p1]] (pB RES) [.box [pI p1]] [] := by
 unfold TasksFa_crew at hm
 refine SO Tryz.func151 rfl rfl [(0, .p (.agg (encTask p0))), (1, rr 0)] [(0, bx [pI p1])] ?_
 intro cx hnt
 refine DW.seq (RD hnt (nn 2 []) [0] [(2, rr 1016)] [] [(1016, bx (pm (encTask p0)))] trivial ?_)
 refine DW.seq (RK hnt (nn 5 []) [(3, pB (p0.group == p1))] [(0, bx [pI p1])] trivial ?_)
 refine DW.ret ?_
 obtain rfl := Option.some.inj hm
 exact retK [.box [pI p1]] [] (pB (p0.group == p1))

abbrev c112e1 (p0 : Hierarchy) : Nat × MV := (12, pI ((p0.tasks.length : Nat) : Int))
theorem Those_crewQTasksFa_crewQID_crewSpec (p0 : Hierarchy) (p1c0 : Int) (RES : List Int) (hm : Those_crewQTasksFa_crewQID_crew p0 p1c0 = some RES) : Spec Tryz.prog 112 [.p (.agg (encHierarchy p0)), .fn 151 [rr 0], .p (.fn 148 [])] [.box [pI p1c0]] (.p (slI RES)) [.box [pI p1c0]] [] := by
 unfold Those_crewQTasksFa_crewQID_crew at hm
 refine SO Tryz.func112 rfl rfl [(0, .p (.agg (encHierarchy p0))), (1, .fn 151 [rr 0]), (2, .p (.fn 148 []))] [(0, bx [pI p1c0])] ?_
 intro cx hnt
 refine DW.seq (RD hnt (nn 2 []) [0] [(3, rr 1024)] [] [(1024, bx (pm (encHierarchy p0)))] trivial ?_)
 refine DW.seq (RD hnt (.no :: []) [] [(7, .p (.sl .nil 0 0 (fun _ => [])))] [] [] trivial ?_)
 refine DW.seq (DW.seq (RD hnt (nn 4 []) [3] [(11, .p (slTask p0.tasks)), (c112e1 p0), (13, pI 0)] [1024] [] trivial ?_))
 refine DW.block ?_
 obtain ⟨hc1, hm⟩ := guard_open hm
 refine DW.rangeO (fun (k1 : Nat) (s1 : List Int) => mkSt [(1, .fn 151 [rr 0]), (2, .p (.fn 148 [])), (7, ow 1200 s1.length), (11, .p (slTask p0.tasks)), (c112e1 p0), (13, pI ((k1 : Nat) : Int))] [(0, bx [pI p1c0]), (1200, ob0 (roI s1))]) dTask hm (Conv.trans (τ := mkSt [(1, .fn 151 [rr 0]), (2, .p (.fn 148 [])), (7, .p (.sl .nil 0 0 (fun _ => []))), (11, .p (slTask p0.tasks)), (c112e1 p0), (13, pI 0)] [(0, bx [pI p1c0])]) Conv.eqK (Conv.trans (τ := mkSt [(1, .fn 151 [rr 0]), (2, .p (.fn 148 [])), (7, ow 1200 0), (11, .p (slTask p0.tasks)), (c112e1 p0), (13, pI 0)] ((1200, ⟨0, .row 1 0 (elems encI 0 [])⟩) :: [(0, bx [pI p1c0])])) (Conv.adopt 1200 1 (elems encI 0 []) rfl rfl (.cons (.one (.rfl _)) (.cons (.one (.rfl _)) (.cons (.one (.nil _ _)) (.cons (.one (.rfl _)) (.cons (.one (.rfl _)) (.cons (.one (.rfl _)) (.rfl _))))))) (.rfl _)) Conv.t0)) ?_
 intro k1 s1 n1 hk1 hs1 he1
 refine DW.seq (RD hnt (.no :: []) [] [(14, pB (decide (((k1 : Nat) : Int) < ((p0.tasks.length : Nat) : Int))))] [] [] trivial ?_)
 refine DW.seq (condK (decide (((k1 : Nat) : Int) < ((p0.tasks.length : Nat) : Int))) ?_ ?_)
 ·intro h22
  have hlt1 : k1 < p0.tasks.length := by have := of_decide_eq_true h22; omega
  have hm := hs1 hlt1
  unfold Those_crewQTasksFa_crewQID_crewL1 at hm
  refine DW.skip ?_
  refine DW.seq ?_
  refine DW.join (ι := List Int) (fun (y3 : List Int) => mkSt [(1, .fn 151 [rr 0]), (2, .p (.fn 148 [])), (7, ow 1200 y3.length), (11, .p (slTask p0.tasks)), (c112e1 p0), (13, pI ((k1 : Nat) : Int))] [(0, bx [pI p1c0]), (1200, ob0 (roI y3))]) (fun y3 => (Those_crewQTasksFa_crewQID_crewJ3 n1) y3 = some RES) ?_ ?_
  ·intro y3 hm
   unfold Those_crewQTasksFa_crewQID_crewJ3 at hm
   refine RD hnt (nn 2 []) [] [(13, pI (w64 (((k1 : Nat) : Int) + 1)))] [] [] trivial ?_
   exact joinDone y3 ⟨hlt1, hm⟩ (Conv.tp [(13, pI (w64 (((k1 : Nat) : Int) + 1)))] [] (by kernel_rfl) (.cons rfl (.of_eq (congrArg pI (w64_succ hlt1 hc1))) .nil) .nil)
  ·refine DW.block ?_
   refine DW.seq (RD hnt (nn 4 []) [14] [(9, rr 1072)] [] [(1072, bx (pm (encTask (p0.tasks.getD k1 (default : Task)))))] (an (nn0 k1) (an (ltc hlt1) trivial)) ?_)
   obtain ⟨r23, hr23, hm⟩ := bind_open hm
   refine DW.seq (RD hnt (nn 2 (.call 151 [0] true (pB r23) [.box [pI p1c0]] [] :: [])) [] [(19, pB r23)] [] [] (an (TasksFa_crewSpec (p0.tasks.getD k1 (default : Task)) p1c0 r23 hr23) (an trivial trivial)) ?_)
   refine condM hm ?_ ?_
   ·intro h24 hm
    obtain ⟨r25, hr25, hm⟩ := bind_open hm
    obtain ⟨g26, hm⟩ := guard_open hm
    refine RN hnt (nn 3 (.call 148 [] true (pI r25) [] [] :: nn 3 [])) [(1, .fn 151 [rr 0]), (2, .p (.fn 148 [])), (7, ow 1200 (s1 ++ [r25]).length), (11, .p (slTask p0.tasks)), (c112e1 p0), (13, pI ((k1 : Nat) : Int))] [(0, bx [pI p1c0]), (1200, ob0 (roI (s1 ++ [r25])))] [(7, ow 1200 (s1.length + 1))] [(1200, .row 1 (s1.length + 1) (catF s1.length (elI s1) (cut 1 [vi r25])))] (an (ID_crewSpec (p0.tasks.getD k1 (default : Task)) r25 hr25) (an (by omega : (s1.length + 1) * 8 ≤ 140737488355328) trivial)) (by kernel_rfl) (.cons rfl (MLe.ownLen (enc := encI) (d := 0) (f := (catF s1.length (elI s1) (cut 1 [vi r25]))) (RowIs.cat RowIs.elems (RowIs.lit (enc := encI) (d := 0) (n := 1) (f := (cut 1 [vi r25])) [r25] rfl (fun | 0, _ => rfl | n + 1, h => absurd h (by omega))))) .nil) (.cons rfl (BLe.typed (RowIs.cat RowIs.elems (RowIs.lit (enc := encI) (d := 0) (n := 1) (f := (cut 1 [vi r25])) [r25] rfl (fun | 0, _ => rfl | n + 1, h => absurd h (by omega))))) .nil) ?_
    exact blockDone (s1 ++ [r25]) hm .refl
   ·intro h24 hm
    refine DW.skip ?_
    exact blockDone s1 hm Conv.t0
 ·intro h22
  have hge1 : ¬ k1 < p0.tasks.length := by have := of_decide_eq_false h22; omega
  have hm := he1 hge1
  unfold Those_crewQTasksFa_crewQID_crewD1 at hm
  refine DW.exit ?_
  refine joinQ_exit ?_
  refine KQ_exit ?_
  refine blockQ_exit ?_
  show DW _ _ _ _ _
  obtain ⟨r27, hr27, hm⟩ := bind_open hm
  obtain ⟨g28, hm⟩ := guard_open hm
  refine DW.seq (RN hnt (.no :: .call 155 [1200] true (.p (.tup [])) [roI r27] [] :: []) [(7, ow 1200 r27.length)] [(0, bx [pI p1c0]), (1200, ob0 (roI r27))] [(7, ow 1200 s1.length)] [] (an (Sort_slices_intSpec s1 r27 hr27) (an (⟨rfl, g28⟩ : Body.same (roI s1) (roI r27)) trivial)) (by kernel_rfl) (.cons rfl (MLe.of_eq (congrArg (MV.own 1200 0 0) g28)) .nil) .nil ?_)
  obtain ⟨r29, hr29, hm⟩ := bind_open hm
  obtain ⟨g30, g31, hm⟩ := go2 hm
  refine DW.seq (RD hnt (.no :: .call 156 [1200] true (ow 0 r29.1) [roI r29.2] [] :: .no :: []) [7] [(6, ow 1200 r29.1)] [] [(1200, ob0 (roI r29.2))] (an (Compact_slices_intSpec r27 r29 hr29) (an (⟨rfl, g30⟩ : Body.same (roI r27) (roI r29.2)) trivial)) ?_)
  refine DW.conv (τ := mkSt [(6, .p (slI (r29.2.take r29.1)))] [(0, bx [pI p1c0])]) (Conv.trans (τ := mkSt [(6, .p (.sl .unk 1 r29.1 (elI r29.2)))] [(0, bx [pI p1c0])]) (Conv.freezes [1200] (by kernel_rfl)) (Conv.tp [(6, .p (.sl .unk 1 r29.1 (elI r29.2)))] [] (by kernel_rfl) (.cons rfl (MLe.typed (RowIs.take RowIs.elems (by first | omega | (simp only [subN_eq, addN_eq] at *; omega)))) .nil) .nil)) ?_
  refine DW.ret ?_
  obtain rfl := Option.some.inj hm
  exact retK [.box [pI p1c0]] [] (.p (slI (r29.2.take r29.1)))

theorem Tasks_crewSpec (p0 : Hierarchy) (p1 : Int) (RES : List Int) (hm : Tasks_crew p0 p1 = some RES) : Spec Tryz.prog 103 [.p (.agg (encHierarchy p0)), pI p1] [] (.p (slI RES)) [] [] := by
 unfold Tasks_crew at hm
 refine SO Tryz.func103 rfl rfl [(0, .p (.agg (encHierarchy p0))), (1, pI p1)] [] ?_
 intro cx hnt
 refine DW.seq (RK hnt (nn 3 []) [(2, rr 1016), (3, rr 1024)] [(1016, bx (pm (encHierarchy p0))), (1024, bx [pI p1])] trivial ?_)
 obtain ⟨r1, hr1, hm⟩ := bind_open hm
 refine DW.seq (RK hnt (nn 2 (.call 112 [1024] true (.p (slI r1)) [.box [pI p1]] [] :: .no :: [])) [(4, .p (slI r1))] [] (an (Those_crewQTasksFa_crewQID_crewSpec p0 p1 r1 hr1) (an trivial trivial)) ?_)
 refine DW.ret ?_
 obtain rfl := Option.some.inj hm
 exact retK [] [] (.p (slI r1))

theorem Tasks_memberSpec (p0 : Hierarchy) (p1 : Int) (RES : List Int) (hm : Tasks_member p0 p1 = some RES) : Spec Tryz.prog 46 [.p (.agg (encHierarchy p0)), pI p1] [] (.p (slI RES)) [] [] := by
 unfold Tasks_member at hm
 refine SO Tryz.func46 rfl rfl [(0, .p (.agg (encHierarchy p0))), (1, pI p1)] [] ?_
 intro cx hnt
 refine DW.seq (RK hnt (nn 2 []) [(1, pI p1), (2, rr 1016)] [(1016, bx (pm (encHierarchy p0)))] trivial ?_)
 obtain ⟨r1, hr1, hm⟩ := bind_open hm
 obtain ⟨r2, hr2, hm⟩ := bind_open hm
 refine DW.seq (RK hnt (.no :: .call 100 [] true (.p (.agg (encHierarchy r1))) [] [] :: .no :: .call 103 [] true (.p (slI r2)) [] [] :: .no :: []) [(4, .p (slI r2))] [] (an (checked_memberSpec p0 r1 hr1) (an (Tasks_crewSpec r1 p1 r2 hr2) trivial)) ?_)
 refine DW.ret ?_
 obtain rfl := Option.some.inj hm
 exact retK [] [] (.p (slI r2))

theorem Find_memberSpec (p0 : Hierarchy) (p1 : Int) (RES : Task × Bool) (hm : Find_member p0 p1 = some RES) : Spec Tryz.prog 48 [.p (.agg (encHierarchy p0)), pI p1] [] (.p (.tup [.agg (encTask RES.1), vb RES.2])) [] [] := by
 unfold Find_member at hm
 refine SO Tryz.func48 rfl rfl [(0, .p (.agg (encHierarchy p0))), (1, pI p1)] [] ?_
 intro cx hnt
 refine DW.seq (RK hnt (nn 3 []) [(1, pI p1), (2, rr 1016), (4, rr 1032)] [(1016, bx (pm (encHierarchy p0))), (1032, bx [pI 0, pI 0, pI 0, pI 0])] trivial ?_)
 obtain ⟨r1, hr1, hm⟩ := bind_open hm
 obtain ⟨r2, hr2, hm⟩ := bind_open hm
 refine DW.seq (RK hnt (.no :: .call 100 [] true (.p (.agg (encHierarchy r1))) [] [] :: .no :: .call 104 [] true (.p (.tup [.agg (encTask r2.1), vb r2.2])) [] [] :: nn 4 []) [(4, rr 1032), (5, pB r2.2)] [(1032, bx (pm (encTask r2.1)))] (an (checked_memberSpec p0 r1 hr1) (an (Find_crewSpec r1 p1 r2 hr2) trivial)) ?_)
 refine DW.ret ?_
 obtain rfl := Option.some.inj hm
 exact retK [] [] (.p (.tup [.agg (encTask r2.1), vb r2.2]))
end Go.Dm


/- Go functions compute their models, printed by a program. -/
namespace Go.Dm
open Go.Proofs
set_option linter.unusedVariables false
abbrev c8e1 (r5 : Hierarchy × Dice) : Nat × Obj := (1032, bx (pm (encHierarchy r5.1)))
abbrev c8e2 (r5 : Hierarchy × Dice) : Nat × Obj := (1176, bx (pm (encDice r5.2)))
theorem MemberThreads_law6Spec (p0 : List Int) (RES : Bool) (hm : MemberThreads_law6 p0 = some RES) : Spec Tryz.prog 8 [.p (slI p0)] [] (pB RES) [] [] := by
 unfold MemberThreads_law6 at hm
 refine SO Tryz.func8 rfl rfl [(0, .p (slI p0))] [] ?_
 intro cx hnt
 refine DW.seq (RK hnt (.no :: []) [(0, .p (slI p0))] [] trivial ?_)
 obtain ⟨r1, hr1, hm⟩ := bind_open hm
 refine DW.seq (DW.seq (RD hnt (.no :: .call 14 [] true (pB r1) [] [] :: .no :: []) [] [(19, pB (!r1))] [] [] (an (Light_madeSpec p0 r1 hr1) trivial) ?_))
 refine condM hm ?_ ?_
 ·intro h2 hm
  obtain ⟨r3, hr3, hm⟩ := bind_open hm
  refine DW.seq (RK hnt (.call 42 [] true (pB r3) [] [] :: .no :: []) [(2, pB r3)] [] (an (sane_law6Spec r3 hr3) trivial) ?_)
  refine DW.ret ?_
  obtain rfl := Option.some.inj hm
  exact retK [] [] (pB r3)
 ·intro h2 hm
  refine DW.skip ?_
  obtain ⟨r4, hr4, hm⟩ := bind_open hm
  refine DW.seq (RK hnt (.no :: .call 16 [] true (rr 0) [] [.box (pm (encDice r4))] :: .no :: []) [(3, rr 1176)] [(1176, bx (pm (encDice r4)))] (an (Roll_madeSpec p0 r4 hr4) trivial) ?_)
  obtain ⟨r5, hr5, hm⟩ := bind_open hm
  refine DW.seq (RK hnt (.no :: .call 17 [1176] true (.p (.agg (encHierarchy r5.1))) [.box (pm (encDice r5.2))] [] :: nn 2 []) [(3, rr 1176), (4, rr 1032)] [(c8e1 r5), (c8e2 r5)] (an (Hierarchy_Dice_madeSpec r4 6 9 r5 hr5) (an trivial trivial)) ?_)
  refine DW.seq (RD hnt (nn 2 []) [] [(5, pI 0), (6, pI 0)] [] [] trivial ?_)
  refine DW.seq (DW.seq (RD hnt (nn 4 []) [] [(27, pI ((r5.1.tasks.length : Nat) : Int)), (28, pI 0)] [] [] trivial ?_))
  refine DW.block ?_
  obtain ⟨hc1, hm⟩ := guard_open hm
  refine DW.rangeO (fun (k1 : Nat) (s1 : Int) => mkSt [(3, rr 1176), (4, rr 1032), (5, pI s1), (6, pI 0), (27, pI ((r5.1.tasks.length : Nat) : Int)), (28, pI ((k1 : Nat) : Int))] [(c8e1 r5), (c8e2 r5)]) dTask hm Conv.eqK ?_
  intro k1 s1 n1 hk1 hs1 he1
  refine DW.seq (RD hnt (.no :: []) [] [(29, pB (decide (((k1 : Nat) : Int) < ((r5.1.tasks.length : Nat) : Int))))] [] [] trivial ?_)
  refine DW.seq (condK (decide (((k1 : Nat) : Int) < ((r5.1.tasks.length : Nat) : Int))) ?_ ?_)
  ·intro h130
   have hlt1 : k1 < r5.1.tasks.length := by have := of_decide_eq_true h130; omega
   have hm := hs1 hlt1
   unfold MemberThreads_law6L1 at hm
   refine DW.skip ?_
   refine DW.seq ?_
   refine DW.join (ι := Int) (fun (y15 : Int) => mkSt [(3, rr 1176), (4, rr 1032), (5, pI y15), (6, pI 0), (27, pI ((r5.1.tasks.length : Nat) : Int)), (28, pI ((k1 : Nat) : Int))] [(c8e1 r5), (c8e2 r5)]) (fun y15 => (MemberThreads_law6J15 n1) y15 = some RES) ?_ ?_
   ·intro y15 hm
    unfold MemberThreads_law6J15 at hm
    refine RD hnt (nn 2 []) [] [(28, pI (w64 (((k1 : Nat) : Int) + 1)))] [] [] trivial ?_
    exact joinDone y15 ⟨hlt1, hm⟩ (Conv.tp [(28, pI (w64 (((k1 : Nat) : Int) + 1)))] [] (by kernel_rfl) (.cons rfl (.of_eq (congrArg pI (w64_succ hlt1 hc1))) .nil) .nil)
   ·refine DW.block ?_
    refine DW.seq (RD hnt (nn 2 []) [29] [(7, pI ((k1 : Nat) : Int))] [] [] trivial ?_)
    refine DW.seq (RD hnt (nn 13 []) [] [(43, pB ((r5.1.tasks.getD k1 (default : Task)).id == (r5.1.tasks.getD k1 (default : Task)).process))] [] [] (an (nn0 k1) (an (ltc hlt1) (an (nn0 k1) (an (ltc hlt1) trivial)))) ?_)
    refine condM hm ?_ ?_
    ·intro h131 hm
     obtain ⟨r132, hr132, hm⟩ := bind_open hm
     refine RD hnt (nn 8 (.call 44 [] true (.p (slI r132)) [] [] :: nn 3 [])) [7, 43] [(5, pI (w64 (s1 + ((r132.length : Nat) : Int))))] [] [] (an (nn0 k1) (an (ltc hlt1) (an (Threads_memberSpec r5.1 (r5.1.tasks.getD k1 (default : Task)).id r132 hr132) trivial))) ?_
     exact blockDone (w64 (s1 + ((r132.length : Nat) : Int))) hm Conv.eqK
    ·intro h131 hm
     refine DW.skip ?_
     exact blockDone s1 hm Conv.t0
  ·intro h130
   have hge1 : ¬ k1 < r5.1.tasks.length := by have := of_decide_eq_false h130; omega
   have hm := he1 hge1
   unfold MemberThreads_law6D1 at hm
   refine DW.exit ?_
   refine joinQ_exit ?_
   refine KQ_exit ?_
   refine blockQ_exit ?_
   show DW _ _ _ _ _
   refine DW.seq (DW.seq (RD hnt (nn 5 []) [27, 28, 29] [(59, pI ((r5.1.tree.nodes.length : Nat) : Int)), (60, pI 0)] [] [] trivial ?_))
   refine DW.block ?_
   obtain ⟨hc4, hm⟩ := guard_open hm
   refine DW.rangeO (fun (k4 : Nat) (s4 : Int) => mkSt [(3, rr 1176), (4, rr 1032), (5, pI s1), (6, pI s4), (59, pI ((r5.1.tree.nodes.length : Nat) : Int)), (60, pI ((k4 : Nat) : Int))] [(c8e1 r5), (c8e2 r5)]) dNode hm Conv.eqK ?_
   intro k4 s4 n4 hk4 hs4 he4
   refine DW.seq (RD hnt (.no :: []) [] [(61, pB (decide (((k4 : Nat) : Int) < ((r5.1.tree.nodes.length : Nat) : Int))))] [] [] trivial ?_)
   refine DW.seq (condK (decide (((k4 : Nat) : Int) < ((r5.1.tree.nodes.length : Nat) : Int))) ?_ ?_)
   ·intro h171
    have hlt4 : k4 < r5.1.tree.nodes.length := by have := of_decide_eq_true h171; omega
    have hm := hs4 hlt4
    unfold MemberThreads_law6L4 at hm
    refine DW.skip ?_
    refine DW.seq (DW.block ?_)
    refine DW.seq (RD hnt (nn 2 []) [61] [(8, pI ((k4 : Nat) : Int))] [] [] trivial ?_)
    obtain ⟨r172, hr172, hm⟩ := bind_open hm
    refine RD hnt (nn 9 (.call 46 [] true (.p (slI r172)) [] [] :: nn 3 [])) [8] [(6, pI (w64 (s4 + ((r172.length : Nat) : Int))))] [] [] (an (nn0 k4) (an (ltc hlt4) (an (Tasks_memberSpec r5.1 (r5.1.tree.nodes.getD k4 (default : Node)).id r172 hr172) trivial))) ?_
    refine DW.done ?_
    show DW _ _ _ _ _
    refine RD hnt (nn 2 []) [] [(60, pI (w64 (((k4 : Nat) : Int) + 1)))] [] [] trivial ?_
    exact joinDone (w64 (s4 + ((r172.length : Nat) : Int))) ⟨hlt4, hm⟩ (Conv.tp [(60, pI (w64 (((k4 : Nat) : Int) + 1)))] [] (by kernel_rfl) (.cons rfl (.of_eq (congrArg pI (w64_succ hlt4 hc4))) .nil) .nil)
   ·intro h171
    have hge4 : ¬ k4 < r5.1.tree.nodes.length := by have := of_decide_eq_false h171; omega
    have hm := he4 hge4
    unfold MemberThreads_law6D4 at hm
    refine DW.exit ?_
    refine joinQ_exit ?_
    refine KQ_exit ?_
    refine blockQ_exit ?_
    show DW _ _ _ _ _
    refine DW.seq (DW.seq (DW.regJ (sl2 := [(3, rr 1176), (4, rr 1032), (87, pB ((s1 != ((r5.1.tasks.length : Nat) : Int)) || (s4 != ((r5.1.tasks.length : Nat) : Int))))]) (ob2 := [(c8e1 r5), (c8e2 r5)]) ?_ ?_))
    ·rcases bt (s1 != ((r5.1.tasks.length : Nat) : Int)) with h173 | h173
     ·exact RT hnt (nn 6 (sk 5 (pT :: []))) [(87, pB true)] (an6 h173 trivial) (by kernel_rfl) (.cons rfl (.of_eq (by rw [h173]; try rfl)) .nil)
     ·exact RT hnt (nn 11 (pF :: [])) [(87, pB (s4 != ((r5.1.tasks.length : Nat) : Int)))] (an6 h173 trivial) (by kernel_rfl) (.cons rfl (.of_eq (by rw [h173]; try rfl)) .nil)
    ·refine condM hm ?_ ?_
     ·intro h174 hm
      refine DW.seq (RK hnt (.no :: []) [(2, pB false)] [] trivial ?_)
      refine DW.ret ?_
      obtain rfl := Option.some.inj hm
      exact retK [] [] (pB false)
     ·intro h174 hm
      refine DW.skip ?_
      obtain ⟨r175, hr175, hm⟩ := bind_open hm
      refine DW.seq (RD hnt (nn 2 (.call 47 [1176] true (pI r175.1) [.box (pm (encDice r175.2))] [] :: .no :: [])) [3, 87] [(9, pI r175.1)] [1176] [] (an (Task_Dice_madeSpec r5.2 r5.1 r175 hr175) (an trivial trivial)) ?_)
      obtain ⟨r176, hr176, hm⟩ := bind_open hm
      refine DW.seq (RD hnt (nn 2 (.call 48 [] true (.p (.tup [.agg (encTask r176.1), vb r176.2])) [] [] :: nn 6 [])) [] [(10, rr 1080), (11, pB r176.2)] [] [(1080, bx (pm (encTask r176.1)))] (an (Find_memberSpec r5.1 r175.1 r176 hr176) trivial) ?_)
      obtain ⟨r177, hr177, hm⟩ := bind_open hm
      refine DW.seq (RD hnt (nn 2 (.call 49 [] true (.tup [.agg [ow 0 r177.1.tree.nodes.length, pI r177.1.tree.next, ow 1 r177.1.tasks.length, pI r177.1.next], pI r177.2.1, pI r177.2.2]) [] [roNode r177.1.tree.nodes, roTask r177.1.tasks] :: nn 8 [])) [4] [(12, rr 1096), (13, pI r177.2.1), (14, pI r177.2.2)] [1032] [(1096, bx [ow 1800 r177.1.tree.nodes.length, pI r177.1.tree.next, ow 1801 r177.1.tasks.length, pI r177.1.next]), (1800, ob0 (roNode r177.1.tree.nodes)), (1801, ob0 (roTask r177.1.tasks))] (an (Clone_memberSpec r5.1 r175.1 r177 hr177) trivial) ?_)
      refine DW.seq (DW.seq (RD hnt (nn 2 []) [11] [(105, pB (!r176.2))] [] [] trivial ?_))
      refine condM hm ?_ ?_
      ·intro h178 hm
       refine DW.seq ?_
       refine DW.join (ι := Bool) (fun (y20 : Bool) => mkSt [(2, pB y20)] []) (fun y20 => MemberThreads_law6J20 y20 = some RES) ?_ ?_
       ·intro y20 hm
        unfold MemberThreads_law6J20 at hm
        refine DW.ret ?_
        obtain rfl := Option.some.inj hm
        exact retK [] [] (pB y20)
       ·rcases bt (r177.2.2 == 4) with h179 | h179
        ·replace hm := if_t h179 hm
         obtain ⟨r180, hr180, hm⟩ := bind_open hm
         refine RK hnt (nn 3 (.call 42 [] true (pB r180) [] [] :: pT :: .no :: [])) [(2, pB r180)] [] (an h179 (an (sane_law6Spec r180 hr180) (an h179 trivial))) ?_
         exact joinDone r180 hm .refl
        ·replace hm := if_f h179 hm
         refine RK hnt (nn 3 (.skip :: pF :: .no :: [])) [(2, pB false)] [] (an2 h179 trivial) ?_
         exact joinDone false hm .refl
      ·intro h178 hm
       refine DW.skip ?_
       obtain ⟨r181, hr181, hm⟩ := bind_open hm
       refine DW.seq (RD hnt (nn 2 (.call 48 [] true (.p (.tup [.agg (encTask r181.1), vb r181.2])) [] [] :: nn 6 [])) [12, 105] [(15, rr 1120), (16, pB r181.2)] [1096, 1800, 1801] [(1120, bx (pm (encTask r181.1)))] (an (Find_memberSpec r177.1 r177.2.1 r181 hr181) trivial) ?_)
       refine DW.seq ?_
       refine DW.join (ι := Bool) (fun (y21 : Bool) => mkSt [(2, pB y21)] []) (fun y21 => MemberThreads_law6J21 y21 = some RES) ?_ ?_
       ·intro y21 hm
        unfold MemberThreads_law6J21 at hm
        refine DW.ret ?_
        obtain rfl := Option.some.inj hm
        exact retK [] [] (pB y21)
       ·rcases bt (r177.2.2 == 0) with h182 | h182
        ·replace hm := if_t h182 hm
         rcases bt r181.2 with h183 | h183
         ·replace hm := if_t h183 hm
          rcases bt (r181.1.process == r176.1.process) with h184 | h184
          ·replace hm := if_t h184 hm
           rcases bt (r181.1.group == r176.1.group) with h185 | h185
           ·replace hm := if_t h185 hm
            rcases bt (r181.1.user == r176.1.user) with h186 | h186
            ·replace hm := if_t h186 hm
             rcases bt (r177.2.1 != r175.1) with h187 | h187
             ·replace hm := if_t h187 hm
              obtain ⟨r188, hr188, hm⟩ := bind_open hm
              refine RK hnt (nn 4 (pT :: nn 6 (pT :: nn 6 (pT :: nn 6 (pT :: nn 4 (pT :: .no :: .call 42 [] true (pB r188) [] [] :: pT :: .no :: [])))))) [(2, pB r188)] [] (an2 h182 (an6 h183 (an6 h184 (an6 h185 (an4 h186 (an h187 (an (sane_law6Spec r188 hr188) (an h187 trivial)))))))) ?_
              exact joinDone r188 hm .refl
             ·replace hm := if_f h187 hm
              refine RK hnt (nn 4 (pT :: nn 6 (pT :: nn 6 (pT :: nn 6 (pT :: nn 4 (pT :: .no :: .skip :: pF :: .no :: [])))))) [(2, pB false)] [] (an2 h182 (an6 h183 (an6 h184 (an6 h185 (an4 h186 (an2 h187 trivial)))))) ?_
              exact joinDone false hm .refl
            ·replace hm := if_f h186 hm
             refine RK hnt (nn 4 (pT :: nn 6 (pT :: nn 6 (pT :: nn 6 (pT :: .no :: sk 3 (pF :: .no :: .skip :: pF :: .no :: [])))))) [(2, pB false)] [] (an2 h182 (an6 h183 (an6 h184 (an6 h185 (an4 h186 (an2 ff trivial)))))) ?_
             exact joinDone false hm .refl
           ·replace hm := if_f h185 hm
            refine RK hnt (nn 4 (pT :: nn 6 (pT :: nn 6 (pT :: .no :: sk 5 (pF :: .no :: sk 3 (pF :: .no :: .skip :: pF :: .no :: [])))))) [(2, pB false)] [] (an2 h182 (an6 h183 (an6 h184 (an6 h185 (an6 ff trivial))))) ?_
            exact joinDone false hm .refl
          ·replace hm := if_f h184 hm
           refine RK hnt (nn 4 (pT :: nn 6 (pT :: .no :: sk 5 (pF :: .no :: sk 5 (pF :: .no :: sk 3 (pF :: .no :: .skip :: pF :: .no :: [])))))) [(2, pB false)] [] (an2 h182 (an6 h183 (an6 h184 (an6 ff (an6 ff trivial))))) ?_
           exact joinDone false hm .refl
         ·replace hm := if_f h183 hm
          refine RK hnt (nn 4 (pT :: .no :: sk 5 (pF :: .no :: sk 5 (pF :: .no :: sk 5 (pF :: .no :: sk 3 (pF :: .no :: .skip :: pF :: .no :: [])))))) [(2, pB false)] [] (an2 h182 (an6 h183 (an6 ff (an6 ff (an6 ff trivial))))) ?_
          exact joinDone false hm .refl
        ·replace hm := if_f h182 hm
         refine RK hnt (nn 3 (.skip :: pF :: .no :: sk 5 (pF :: .no :: sk 5 (pF :: .no :: sk 5 (pF :: .no :: sk 3 (pF :: .no :: .skip :: pF :: .no :: [])))))) [(2, pB false)] [] (an2 h182 (an6 ff (an6 ff (an6 ff (an6 ff trivial))))) ?_
         exact joinDone false hm .refl
end Go.Dm

