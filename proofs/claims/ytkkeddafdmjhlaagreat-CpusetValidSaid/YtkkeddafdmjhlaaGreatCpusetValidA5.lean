/- Go functions compute their models, printed by a program. -/
import Derived.Test.YtkkeddafdmjhlaaGreatCpusetValidA4
set_option linter.unusedVariables false
set_option linter.unusedSimpArgs false
namespace Go.Dm
open Go.Proofs
set_option linter.unusedVariables false
abbrev c3e1 (r5 : List Ac) := (Bo (Xd r5) 1 [vi (r5.getD 1 Be).group,vi (r5.getD 1 Be).settings.pidsMax,vi (r5.getD 1 Be).settings.weight,vi (r5.getD 1 Be).settings.quota,vi (r5.getD 1 Be).settings.period,vi (r5.getD 1 Be).settings.burst,vi (r5.getD 1 Be).settings.clampMin,vi (r5.getD 1 Be).settings.clampMax,slI [2,3],slI (r5.getD 1 Be).settings.mems,vi (r5.getD 1 Be).settings.partition,vi (r5.getD 1 Be).settings.memory.min,vi (r5.getD 1 Be).settings.memory.low,vi (r5.getD 1 Be).settings.memory.high,vi (r5.getD 1 Be).settings.memory.max,vi (r5.getD 1 Be).settings.memory.swapMax,vb (r5.getD 1 Be).settings.memory.together,Co (r5.getD 1 Be).settings.devices])
abbrev c3e2 (r5 : List Ac) := ({ group := (r5.getD 1 Be).group,settings := ({ pidsMax := (r5.getD 1 Be).settings.pidsMax,weight := (r5.getD 1 Be).settings.weight,quota := (r5.getD 1 Be).settings.quota,period := (r5.getD 1 Be).settings.period,burst := (r5.getD 1 Be).settings.burst,clampMin := (r5.getD 1 Be).settings.clampMin,clampMax := (r5.getD 1 Be).settings.clampMax,cpus := [2,3],mems := (r5.getD 1 Be).settings.mems,partition := (r5.getD 1 Be).settings.partition,memory := (r5.getD 1 Be).settings.memory,devices := (r5.getD 1 Be).settings.devices } : Ao) } : Ac)
abbrev c3e3 (r10 : List Ac) := ({ group := (r10.getD 1 Be).group,settings := ({ pidsMax := (r10.getD 1 Be).settings.pidsMax,weight := (r10.getD 1 Be).settings.weight,quota := (r10.getD 1 Be).settings.quota,period := (r10.getD 1 Be).settings.period,burst := (r10.getD 1 Be).settings.burst,clampMin := (r10.getD 1 Be).settings.clampMin,clampMax := (r10.getD 1 Be).settings.clampMax,cpus := (r10.getD 1 Be).settings.cpus,mems := (r10.getD 1 Be).settings.mems,partition := 1,memory := (r10.getD 1 Be).settings.memory,devices := (r10.getD 1 Be).settings.devices } : Ao) } : Ac)
theorem Zy (RES : Bool) (hm : Nu = some RES) : Spec Tryz.prog 9 [] [] (pB RES) [] [] := by
 unfold Nu at hm
 refine SO Tryz.func9 rfl rfl [] [] ?_
 intro cx hnt
 refine Sq (RK hnt (.no :: []) [] [] tv ?_)
 obtain ⟨r1,hr1,hm⟩ := bo hm
 obtain ⟨r2,hr2,hm⟩ := bo hm
 refine Sq (RK hnt (o4 [] true r1 :: o5 [] true r2 :: nn 8 []) [(1,rr 1008),(2,pI r2.2.1)] [(1008,bx [ow 1080 r2.1.nodes.length,pI r2.1.next]),(1080,ob0 (Cs r2.1.nodes))] (an (Abx r1 hr1) (an (Xe r1 1 (bs [97]) r2 hr2) (an ((fun _ => rfl) : ∀ i,((Uq r2.1.nodes) i).all PV.flat = true) tv))) ?_)
 obtain ⟨r3,hr3,hm⟩ := bo hm
 refine Sq (RD hnt (.no :: o5 [] true r3 :: nn 7 []) [] [(4,pI r3.2.1)] [1080] [(1008,bx [ow 1128 r3.1.nodes.length,pI r3.1.next]),(1128,ob0 (Cs r3.1.nodes))] (an (Xe r2.1 1 (bs [98]) r3 hr3) (an ((fun _ => rfl) : ∀ i,((Uq r3.1.nodes) i).all PV.flat = true) tv)) ?_)
 refine Sq (DW.cv [] [] [1128] [(1008,bx (pm (Ak r3.1)))] (Conv.frz [1128]) ?_)
 obtain ⟨r5,hr5,hm⟩ := bo hm
 refine RD hnt (.no :: o15 [] true r5 :: .no :: []) [] [(6,ow 1168 r5.length)] [] [(1168,ob0 (Ep r5))] (an (AeG r3.1 r5 hr5) tv) ?_
 obtain ⟨g8,g9,hm⟩ := go2 hm
 obtain ⟨r10,hr10,hm⟩ := bo hm
 obtain ⟨g11,g12,hm⟩ := go2 hm
 obtain ⟨r13,hr13,hm⟩ := bo hm
 refine Sq (RN hnt (nn 2 (.frz 2 (elems Az 0 [2,3]) :: nn 8 [])) [(1,rr 1008),(2,pI r2.2.1),(4,pI r3.2.1),(6,ow 1168 r13.length)] [(1008,bx (pm (Ak r3.1))),(1168,ob0 (Ep r13))] [(6,ow 1168 r5.length)] [(1168,.row 18 r5.length (Bo (c3e1 r5) 1 (setRange ((c3e1 r5) 1) 10 [vi 1])))] (an ((RowIs.asP (enc := Az) (d := 0) (L := [2,3]) (RowIs.lit (enc := Az) (d := 0) (n := 2) (f := (cut 1 [vi 2,vi 3])) [2,3] rfl (fun | 0,_ => rfl | 1,_ => rfl | n + 2,h => absurd h (by omega)))) : 2 = 2 ∧ ∀ i,i < 2 → (cut 1 [vi 2,vi 3]) i = (elems Az 0 [2,3]) i) (an (nn0 1) (an (ltc g8) (an g9 (an (nn0 1) (an (ltc g11) (an g12 tv))))))) (by kernel_rfl) (.cons rfl (MLe.ownLen (enc := Gl) (d := Be) (f := (Bo (c3e1 r5) 1 (setRange ((c3e1 r5) 1) 10 [vi 1]))) (RowIs.named hr13 (RowIs.updR (RowIs.named hr10 (RowIs.upd RowIs.elems (c3e2 r5) rfl)) (by omega) (c3e3 r10) rfl))) .nil) (.cons rfl (BLe.typed (RowIs.named hr13 (RowIs.updR (RowIs.named hr10 (RowIs.upd RowIs.elems (c3e2 r5) rfl)) (by omega) (c3e3 r10) rfl))) .nil) ?_)
 refine Sq (RN hnt (nn 2 []) [(1,rr 1008),(2,pI r2.2.1),(4,pI r3.2.1),(6,ow 1168 r13.length),(7,ow 1248 [0,1,2,3].length)] [(1008,bx (pm (Ak r3.1))),(1168,ob0 (Ep r13)),(1248,ob0 (roI [0,1,2,3]))] [(7,ow 1248 4)] [(1248,.row 1 4 (cut 1 [vi 0,vi 1,vi 2,vi 3]))] tv (by kernel_rfl) (.cons rfl (MLe.ownLen (enc := Az) (d := 0) (f := (cut 1 [vi 0,vi 1,vi 2,vi 3])) (RowIs.lit (enc := Az) (d := 0) (n := 4) (f := (cut 1 [vi 0,vi 1,vi 2,vi 3])) [0,1,2,3] rfl (fun | 0,_ => rfl | 1,_ => rfl | 2,_ => rfl | 3,_ => rfl | n + 4,h => absurd h (by omega)))) .nil) (.cons rfl (BLe.typed (RowIs.lit (enc := Az) (d := 0) (n := 4) (f := (cut 1 [vi 0,vi 1,vi 2,vi 3])) [0,1,2,3] rfl (fun | 0,_ => rfl | 1,_ => rfl | 2,_ => rfl | 3,_ => rfl | n + 4,h => absurd h (by omega)))) .nil) ?_)
 obtain ⟨r14,hr14,hm⟩ := bo hm
 obtain ⟨r15,hr15,hm⟩ := bo hm
 refine Sq ?_
 refine Jn (ι := Bool) (fun (y1 : Bool) => Ae [(0,pB y1)] []) (fun y1 => Lh y1 = some RES) ?_ ?_
 ·intro y1 hm
  unfold Lh at hm
  obtain rfl := sj hm
  exact DW.ret (Am [] [] (pB y1))
 ·rcases bt r15 with h16 | h16
  ·replace hm := Bc h16 hm
   obtain ⟨r17,hr17,hm⟩ := bo hm
   obtain ⟨r18,hr18,hm⟩ := bo hm
   rcases bt r18 with h19 | h19
   ·replace hm := Bc h19 hm
    obtain ⟨r20,hr20,hm⟩ := bo hm
    obtain ⟨r21,hr21,hm⟩ := bo hm
    rcases bt r21 with h22 | h22
    ·replace hm := Bc h22 hm
     obtain ⟨r23,hr23,hm⟩ := bo hm
     refine RK hnt (nn 4 (o23 [] true r14 :: .no :: o92 [] true r15 :: nn 5 (o23 [] true r17 :: .no :: o92 [] true r18 :: pT :: nn 4 (o23 [] true r20 :: .no :: o92 [] true r21 :: pT :: nn 5 (o93 [] true r23 :: pT :: .no :: []))))) [(0,pB r23)] [] (an (Du r3.1 r13 [0,1,2,3] r2.2.1 r14 hr14) (an ((fun _ => rfl) : ∀ i,((elI r14) i).all PV.flat = true) (an (Spec.args (xs := [.p (slI r14),.p (.sl .unk 1 2 (cut 1 [vi 2,vi 3]))]) (Fs r14 [2,3] r15 hr15) (.cons .rfl (.cons (.p (PLe.typed (RowIs.lit (enc := Az) (d := 0) (n := 2) (f := (cut 1 [vi 2,vi 3])) [2,3] rfl (fun | 0,_ => rfl | 1,_ => rfl | n + 2,h => absurd h (by omega))))) .nil))) (an5 h16 (an (Du r3.1 r13 [0,1,2,3] r3.2.1 r17 hr17) (an ((fun _ => rfl) : ∀ i,((elI r17) i).all PV.flat = true) (an2 h16 (an (Spec.args (xs := [.p (slI r17),.p (.sl .unk 1 2 (cut 1 [vi 0,vi 1]))]) (Fs r17 [0,1] r18 hr18) (.cons .rfl (.cons (.p (PLe.typed (RowIs.lit (enc := Az) (d := 0) (n := 2) (f := (cut 1 [vi 0,vi 1])) [0,1] rfl (fun | 0,_ => rfl | 1,_ => rfl | n + 2,h => absurd h (by omega))))) .nil))) (an h16 (an4 h19 (an (Du r3.1 r13 [0,1,2,3] 1 r20 hr20) (an ((fun _ => rfl) : ∀ i,((elI r20) i).all PV.flat = true) (an2 h19 (an (Spec.args (xs := [.p (slI r20),.p (.sl .unk 1 2 (cut 1 [vi 0,vi 1]))]) (Fs r20 [0,1] r21 hr21) (.cons .rfl (.cons (.p (PLe.typed (RowIs.lit (enc := Az) (d := 0) (n := 2) (f := (cut 1 [vi 0,vi 1])) [0,1] rfl (fun | 0,_ => rfl | 1,_ => rfl | n + 2,h => absurd h (by omega))))) .nil))) (an h19 (an5 h22 (an (Aam r3.1 r13 [0,1,2,3] r2.2.1 r23 hr23) (an h22 tv)))))))))))))))))) ?_
     exact jD r23 hm .refl
    ·replace hm := Bd h22 hm
     refine RK hnt (nn 4 (o23 [] true r14 :: .no :: o92 [] true r15 :: nn 5 (o23 [] true r17 :: .no :: o92 [] true r18 :: pT :: nn 4 (o23 [] true r20 :: .no :: o92 [] true r21 :: pT :: .no :: sk 5 (pF :: .no :: []))))) [(0,pB false)] [] (an (Du r3.1 r13 [0,1,2,3] r2.2.1 r14 hr14) (an ((fun _ => rfl) : ∀ i,((elI r14) i).all PV.flat = true) (an (Spec.args (xs := [.p (slI r14),.p (.sl .unk 1 2 (cut 1 [vi 2,vi 3]))]) (Fs r14 [2,3] r15 hr15) (.cons .rfl (.cons (.p (PLe.typed (RowIs.lit (enc := Az) (d := 0) (n := 2) (f := (cut 1 [vi 2,vi 3])) [2,3] rfl (fun | 0,_ => rfl | 1,_ => rfl | n + 2,h => absurd h (by omega))))) .nil))) (an5 h16 (an (Du r3.1 r13 [0,1,2,3] r3.2.1 r17 hr17) (an ((fun _ => rfl) : ∀ i,((elI r17) i).all PV.flat = true) (an2 h16 (an (Spec.args (xs := [.p (slI r17),.p (.sl .unk 1 2 (cut 1 [vi 0,vi 1]))]) (Fs r17 [0,1] r18 hr18) (.cons .rfl (.cons (.p (PLe.typed (RowIs.lit (enc := Az) (d := 0) (n := 2) (f := (cut 1 [vi 0,vi 1])) [0,1] rfl (fun | 0,_ => rfl | 1,_ => rfl | n + 2,h => absurd h (by omega))))) .nil))) (an h16 (an4 h19 (an (Du r3.1 r13 [0,1,2,3] 1 r20 hr20) (an ((fun _ => rfl) : ∀ i,((elI r20) i).all PV.flat = true) (an2 h19 (an (Spec.args (xs := [.p (slI r20),.p (.sl .unk 1 2 (cut 1 [vi 0,vi 1]))]) (Fs r20 [0,1] r21 hr21) (.cons .rfl (.cons (.p (PLe.typed (RowIs.lit (enc := Az) (d := 0) (n := 2) (f := (cut 1 [vi 0,vi 1])) [0,1] rfl (fun | 0,_ => rfl | 1,_ => rfl | n + 2,h => absurd h (by omega))))) .nil))) (an h19 (an6 h22 tv)))))))))))))))) ?_
     exact jD false hm .refl
   ·replace hm := Bd h19 hm
    refine RK hnt (nn 4 (o23 [] true r14 :: .no :: o92 [] true r15 :: nn 5 (o23 [] true r17 :: .no :: o92 [] true r18 :: pT :: .no :: sk 6 (pF :: .no :: sk 5 (pF :: .no :: []))))) [(0,pB false)] [] (an (Du r3.1 r13 [0,1,2,3] r2.2.1 r14 hr14) (an ((fun _ => rfl) : ∀ i,((elI r14) i).all PV.flat = true) (an (Spec.args (xs := [.p (slI r14),.p (.sl .unk 1 2 (cut 1 [vi 2,vi 3]))]) (Fs r14 [2,3] r15 hr15) (.cons .rfl (.cons (.p (PLe.typed (RowIs.lit (enc := Az) (d := 0) (n := 2) (f := (cut 1 [vi 2,vi 3])) [2,3] rfl (fun | 0,_ => rfl | 1,_ => rfl | n + 2,h => absurd h (by omega))))) .nil))) (an5 h16 (an (Du r3.1 r13 [0,1,2,3] r3.2.1 r17 hr17) (an ((fun _ => rfl) : ∀ i,((elI r17) i).all PV.flat = true) (an2 h16 (an (Spec.args (xs := [.p (slI r17),.p (.sl .unk 1 2 (cut 1 [vi 0,vi 1]))]) (Fs r17 [0,1] r18 hr18) (.cons .rfl (.cons (.p (PLe.typed (RowIs.lit (enc := Az) (d := 0) (n := 2) (f := (cut 1 [vi 0,vi 1])) [0,1] rfl (fun | 0,_ => rfl | 1,_ => rfl | n + 2,h => absurd h (by omega))))) .nil))) (an h16 (an h19 (an6 h19 (an6 ff tv)))))))))))) ?_
    exact jD false hm .refl
  ·replace hm := Bd h16 hm
   refine RK hnt (nn 4 (o23 [] true r14 :: .no :: o92 [] true r15 :: .no :: sk 7 (pF :: .no :: sk 6 (pF :: .no :: sk 5 (pF :: .no :: []))))) [(0,pB false)] [] (an (Du r3.1 r13 [0,1,2,3] r2.2.1 r14 hr14) (an ((fun _ => rfl) : ∀ i,((elI r14) i).all PV.flat = true) (an (Spec.args (xs := [.p (slI r14),.p (.sl .unk 1 2 (cut 1 [vi 2,vi 3]))]) (Fs r14 [2,3] r15 hr15) (.cons .rfl (.cons (.p (PLe.typed (RowIs.lit (enc := Az) (d := 0) (n := 2) (f := (cut 1 [vi 2,vi 3])) [2,3] rfl (fun | 0,_ => rfl | 1,_ => rfl | n + 2,h => absurd h (by omega))))) .nil))) (an2 h16 (an6 h16 (an ff (an6 ff (an6 ff tv)))))))) ?_
   exact jD false hm .refl
abbrev o3 (ks : List Nat) (b : Bool) (RES : Bool) (sm : List Nat := []) : Orc := .call 9 ks b (pB RES) [] [] sm

theorem Aeu (p0 : List Int) (RES : Ag) (hm : Abs p0 = some RES) : Spec Tryz.prog 10 [.p (slI p0)] [] (rr 0) [] [.box (pm (Al RES))] := by
 unfold Abs at hm
 refine SO Tryz.func10 rfl rfl [(0,.p (slI p0))] [] ?_
 intro cx hnt
 refine Sq (RK hnt (.no :: []) [(0,.p (slI p0))] [] tv ?_)
 refine Sq (RK hnt (nn 4 []) [(2,rr 1040)] [(1040,bx [.p (slI p0),pI 0])] tv ?_)
 obtain rfl := sj hm
 exact DW.ret (Am [.box [.p (slI p0),pI 0]] [1040] (rr 0))
abbrev o95 (ks : List Nat) (b : Bool) (RES : Ag) (sm : List Nat := []) : Orc := .call 10 ks b (rr 0) [] [.box (pm (Al RES))] sm

abbrev c97e1 (p0 : Ag) := (p0.l.getD (Int.toNat (w64 ((w64 (p0.atF + 1)) - 1))) 0)
theorem Cr (p0 : Ag) (p1 : Int) (RES : Int × Ag) (hm : Cl p0 p1 = some RES) : Spec Tryz.prog 25 [rr 0,pI p1] [.box (pm (Al p0))] (pI RES.1) [.box (pm (Al RES.2))] [] := by
 unfold Cl at hm
 refine SO Tryz.func25 rfl rfl [(0,rr 0),(1,pI p1)] [(0,bx (pm (Al p0)))] ?_
 intro cx hnt
 refine Sq (RD hnt (.no :: []) [] [] [] [] tv ?_)
 refine Sq (Sq (DW.regJ (sl2 := [(0,rr 0),(1,pI p1),(19,pB ((decide (p0.atF ≥ ((p0.l.length : Nat) : Int))) || (decide (p1 < 1))))]) (ob2 := [(0,bx (pm (Al p0)))]) ?_ ?_))
 ·rcases bt (decide (p0.atF ≥ ((p0.l.length : Nat) : Int))) with h1 | h1
  ·exact RT hnt (nn 11 (sk 2 (pT :: []))) [(19,pB true)] (an3 h1 tv) (by kernel_rfl) (.cons rfl (.of_eq (by rw [h1]; try rfl)) .nil)
  ·exact RT hnt (nn 13 (pF :: [])) [(19,pB (decide (p1 < 1)))] (an3 h1 tv) (by kernel_rfl) (.cons rfl (.of_eq (by rw [h1]; try rfl)) .nil)
 ·refine Aq hm ?_ ?_
  ·intro h2 hm
   refine Sq (RD hnt (.no :: []) [0,1,19] [(4,pI 0)] [] [] tv ?_)
   obtain rfl := sj hm
   exact DW.ret (Am [.box (pm (Al p0))] [] (pI 0))
  ·intro h2 hm
   refine Sk ?_
   refine Sq (RD hnt (nn 8 []) [19] [] [] [(0,bx [.p (slI p0.l),pI (w64 (p0.atF + 1))])] tv ?_)
   obtain ⟨g3,g4,hm⟩ := go2 hm
   refine Sq (RD hnt (nn 14 []) [0] [(5,pI (Int.tmod (c97e1 p0) p1))] [] [] (an g3.1 (an g3.2 (an g4 tv))) ?_)
   refine Sq (Sq (RD hnt (nn 2 []) [] [(41,pB (decide ((Int.tmod (c97e1 p0) p1) < 0)))] [] [] tv ?_))
   refine Jn (ι := Int) (fun (y1 : Int) => Ae [(5,pI y1)] [(0,bx [.p (slI p0.l),pI (w64 (p0.atF + 1))])]) (fun y1 => (Lg p0) y1 = some RES) ?_ ?_
   ·intro y1 hm
    unfold Lg at hm
    refine Sq (RD hnt (nn 2 []) [5] [(4,pI y1)] [] [] tv ?_)
    obtain rfl := sj hm
    exact DW.ret (Am [.box [.p (slI p0.l),pI (w64 (p0.atF + 1))]] [] (pI y1))
   ·refine Aq hm ?_ ?_
    ·intro h5 hm
     refine RD hnt (nn 4 []) [1,41] [(5,pI (w64 ((Int.tmod (c97e1 p0) p1) + p1)))] [] [] tv ?_
     exact jD (w64 ((Int.tmod (c97e1 p0) p1) + p1)) hm Conv.eqK
    ·intro h5 hm
     refine Sk ?_
     exact jD (Int.tmod (c97e1 p0) p1) hm Conv.t0
abbrev o97 (ks : List Nat) (b : Bool) (RES : Int × Ag) (sm : List Nat := []) : Orc := .call 25 ks b (pI RES.1) [.box (pm (Al RES.2))] [] sm

theorem Abi (p0 : Ag) (RES : ByteArray × Ag) (hm : Na p0 = some RES) : Spec Tryz.prog 46 [rr 0] [.box (pm (Al p0))] (pS RES.1) [.box (pm (Al RES.2))] [] := by
 unfold Na at hm
 refine SO Tryz.func46 rfl rfl [(0,rr 0)] [(0,bx (pm (Al p0)))] ?_
 intro cx hnt
 refine Sq (RD hnt (.no :: []) [] [] [] [] tv ?_)
 obtain ⟨r3,hr3,hm⟩ := bo hm
 obtain ⟨g4,g5,hm⟩ := go2 hm
 refine Sq (RK hnt (.asR (ow 1024 [(bs [97]),(bs [98]),(bs [99]),(bs [119,101,98]),(bs [100,98,45,49]),(bs [88,95,57])].length) [(bs [97]),(bs [98]),(bs [99]),(bs [119,101,98]),(bs [100,98,45,49]),(bs [88,95,57])].length (elems encS ByteArray.empty [(bs [97]),(bs [98]),(bs [99]),(bs [119,101,98]),(bs [100,98,45,49]),(bs [88,95,57])]) :: .no :: o97 [0] true r3 :: nn 3 []) [(2,pS ([(bs [97]),(bs [98]),(bs [99]),(bs [119,101,98]),(bs [100,98,45,49]),(bs [88,95,57])].getD (Int.toNat r3.1) ByteArray.empty))] [(0,bx (pm (Al r3.2)))] (an (congrArg (MV.own 1024 0 0) (RowIs.asP (enc := encS) (d := ByteArray.empty) (L := [(bs [97]),(bs [98]),(bs [99]),(bs [119,101,98]),(bs [100,98,45,49]),(bs [88,95,57])]) (RowIs.lit (enc := encS) (d := ByteArray.empty) (n := 6) (f := (cut 1 [vs (bs [97]),vs (bs [98]),vs (bs [99]),vs (bs [119,101,98]),vs (bs [100,98,45,49]),vs (bs [88,95,57])])) [(bs [97]),(bs [98]),(bs [99]),(bs [119,101,98]),(bs [100,98,45,49]),(bs [88,95,57])] rfl (fun | 0,_ => rfl | 1,_ => rfl | 2,_ => rfl | 3,_ => rfl | 4,_ => rfl | 5,_ => rfl | n + 6,h => absurd h (by omega)))).1) (an (RowIs.asP (enc := encS) (d := ByteArray.empty) (L := [(bs [97]),(bs [98]),(bs [99]),(bs [119,101,98]),(bs [100,98,45,49]),(bs [88,95,57])]) (RowIs.lit (enc := encS) (d := ByteArray.empty) (n := 6) (f := (cut 1 [vs (bs [97]),vs (bs [98]),vs (bs [99]),vs (bs [119,101,98]),vs (bs [100,98,45,49]),vs (bs [88,95,57])])) [(bs [97]),(bs [98]),(bs [99]),(bs [119,101,98]),(bs [100,98,45,49]),(bs [88,95,57])] rfl (fun | 0,_ => rfl | 1,_ => rfl | 2,_ => rfl | 3,_ => rfl | 4,_ => rfl | 5,_ => rfl | n + 6,h => absurd h (by omega)))) (an (Cr p0 6 r3 hr3) (an tv (an g4.1 (an g4.2 (an g5 tv))))))) ?_)
 obtain rfl := sj hm
 exact DW.ret (Am [.box (pm (Al r3.2))] [] (pS ([(bs [97]),(bs [98]),(bs [99]),(bs [119,101,98]),(bs [100,98,45,49]),(bs [88,95,57])].getD (Int.toNat r3.1) ByteArray.empty)))
abbrev o98 (ks : List Nat) (b : Bool) (RES : ByteArray × Ag) (sm : List Nat := []) : Orc := .call 46 ks b (pS RES.1) [.box (pm (Al RES.2))] [] sm

theorem Gc (p0 : Ag) (p1 : Int) (RES : Bool × Ag) (hm : Fc p0 p1 = some RES) : Spec Tryz.prog 27 [rr 0,pI p1] [.box (pm (Al p0))] (pB RES.1) [.box (pm (Al RES.2))] [] := by
 unfold Fc at hm
 refine SO Tryz.func27 rfl rfl [(0,rr 0),(1,pI p1)] [(0,bx (pm (Al p0)))] ?_
 intro cx hnt
 refine Sq (RD hnt (.no :: []) [] [] [] [] tv ?_)
 obtain ⟨r1,hr1,hm⟩ := bo hm
 refine Sq (RK hnt (nn 2 (o97 [0] true r1 :: nn 4 [])) [(4,pB (r1.1 == (w64 (p1 - 1))))] [(0,bx (pm (Al r1.2)))] (an (Cr p0 p1 r1 hr1) (an tv tv)) ?_)
 obtain rfl := sj hm
 exact DW.ret (Am [.box (pm (Al r1.2))] [] (pB (r1.1 == (w64 (p1 - 1)))))
abbrev o99 (ks : List Nat) (b : Bool) (RES : Bool × Ag) (sm : List Nat := []) : Orc := .call 27 ks b (pB RES.1) [.box (pm (Al RES.2))] [] sm

abbrev Qu (p0 : Ab) (k1 : Nat) := (p0.nodes.getD k1 (default : Ah))
theorem Acb (p0 : Ab) (p1 : Int) (RES : List Int) (hm : Of p0 p1 = some RES) : Spec Tryz.prog 88 [.p (.agg (Ak p0)),pI p1] [] (ow 0 RES.length) [] [roI RES] := by
 unfold Of at hm
 refine SO Tryz.func88 rfl rfl [(0,.p (.agg (Ak p0))),(1,pI p1)] [] ?_
 intro cx hnt
 refine Sq (RK hnt (nn 2 []) [(1,pI p1),(2,rr 1016)] [(1016,bx (pm (Ak p0)))] tv ?_)
 obtain ⟨r1,hr1,hm⟩ := bo hm
 refine Sq (Sq (RD hnt (nn 2 (o10 [] true r1 :: .no :: [])) [] [(10,pB (!r1))] [] [] (an (Tc p0 p1 r1 hr1) tv) ?_))
 refine Aq hm ?_ ?_
 ·intro h2 hm
  refine Sq (RK hnt (.no :: []) [(4,.p (.sl .nil 0 0 (fun _ => [])))] [] tv ?_)
  refine DW.cv [] [(4,ow 100000 0)] [] [(100000,ob0 (roI []))] (Conv.ads [(.s 4,100000,1,elems Az 0 [])]) ?_
  obtain rfl := sj hm
  exact DW.ret (Am [roI []] [100000] (ow 0 0))
 ·intro h2 hm
  refine Sk ?_
  refine Sq (RD hnt (.no :: []) [10] [(5,.p (.sl .nil 0 0 (fun _ => [])))] [] [] tv ?_)
  refine Sq (Sq (RD hnt (.no :: []) [] [(6,pI 0)] [] [] tv ?_))
  refine Bk ?_
  obtain ⟨hc1,hm⟩ := go1 hm
  refine DW.rangeO (fun (k1 : Nat) (s1 : List Int) => Ae [(1,pI p1),(2,rr 1016),(5,ow 1272 s1.length),(6,pI ((k1 : Nat) : Int))] [(1016,bx (pm (Ak p0))),(1272,ob0 (roI s1))]) Dk hm (Conv.ads [(.s 5,1272,1,elems Az 0 [])]) ?_
  intro k1 s1 n1 hk1 hs1 he1
  refine Sq (Sq (RD hnt (nn 5 []) [] [(15,pB (decide (((k1 : Nat) : Int) < ((p0.nodes.length : Nat) : Int))))] [] [] tv ?_))
  refine Ej (decide (((k1 : Nat) : Int) < ((p0.nodes.length : Nat) : Int))) ?_ ?_
  ·intro h12
   have hlt1 : k1 < p0.nodes.length := by have := of_decide_eq_true h12; omega
   have hm := hs1 hlt1
   unfold Sz at hm
   refine Sk ?_
   refine Sq ?_
   refine Jn (ι := List Int) (fun (y3 : List Int) => Ae [(1,pI p1),(2,rr 1016),(5,ow 1272 y3.length),(6,pI ((k1 : Nat) : Int))] [(1016,bx (pm (Ak p0))),(1272,ob0 (roI y3))]) (fun y3 => (Lt n1) y3 = some RES) ?_ ?_
   ·intro y3 hm
    unfold Lt at hm
    refine RD hnt (nn 3 []) [] [(6,pI (w64 (((k1 : Nat) : Int) + 1)))] [] [] tv ?_
    exact jD y3 ⟨hlt1,hm⟩ (Conv.tp [(6,pI (w64 (((k1 : Nat) : Int) + 1)))] [] (by kernel_rfl) (.cons rfl (.of_eq (congrArg pI (Da hlt1 hc1))) .nil) .nil)
   ·refine Bk ?_
    refine Sq (RD hnt (nn 8 []) [15] [(25,pB ((Qu p0 k1).parent == p1))] [] [] (an (nn0 k1) (an (ltc hlt1) tv)) ?_)
    refine Aq hm ?_ ?_
    ·intro h13 hm
     obtain ⟨g14,hm⟩ := go1 hm
     refine RN hnt (nn 10 []) [(1,pI p1),(2,rr 1016),(5,ow 1272 (s1 ++ [(Qu p0 k1).id]).length),(6,pI ((k1 : Nat) : Int))] [(1016,bx (pm (Ak p0))),(1272,ob0 (roI (s1 ++ [(Qu p0 k1).id])))] [(5,ow 1272 (s1.length + 1))] [(1272,.row 1 (s1.length + 1) (Em s1.length (elI s1) (cut 1 [vi (Qu p0 k1).id])))] (an (nn0 k1) (an (ltc hlt1) (an (by omega : (s1.length + 1) * 8 ≤ 140737488355328) tv))) (by kernel_rfl) (.cons rfl (MLe.ownLen (enc := Az) (d := 0) (f := (Em s1.length (elI s1) (cut 1 [vi (Qu p0 k1).id]))) (RowIs.cat RowIs.elems (RowIs.lit (enc := Az) (d := 0) (n := 1) (f := (cut 1 [vi (Qu p0 k1).id])) [(Qu p0 k1).id] rfl (fun | 0,_ => rfl | n + 1,h => absurd h (by omega))))) .nil) (.cons rfl (BLe.typed (RowIs.cat RowIs.elems (RowIs.lit (enc := Az) (d := 0) (n := 1) (f := (cut 1 [vi (Qu p0 k1).id])) [(Qu p0 k1).id] rfl (fun | 0,_ => rfl | n + 1,h => absurd h (by omega))))) .nil) ?_
     exact bD (s1 ++ [(Qu p0 k1).id]) hm .refl
    ·intro h13 hm
     refine Sk ?_
     exact bD s1 hm Conv.t0
  ·intro h12
   have hge1 : ¬ k1 < p0.nodes.length := by have := of_decide_eq_false h12; omega
   have hm := he1 hge1
   unfold Yu at hm
   refine DW.exit ?_
   refine Ap ?_
   refine Au ?_
   refine Aj ?_
   show DW _ _ _ _ _
   refine Sq (RK hnt (nn 2 []) [(4,ow 1272 s1.length)] [(1272,ob0 (roI s1))] tv ?_)
   obtain rfl := sj hm
   exact DW.ret (Am [roI s1] [1272] (ow 0 s1.length))
abbrev o101 (ks : List Nat) (b : Bool) (RES : List Int) (sm : List Nat := []) : Orc := .call 88 ks b (ow 0 RES.length) [] [roI RES] sm

abbrev Ew (p0 : Ab) (k1 : Nat) := (p0.nodes.getD k1 (default : Ah))
abbrev Adh : Nat × Obj := (1032,bx [.p (.sl .nil 0 0 (fun _ => [])),pI 0])
abbrev AcY : Nat × Obj := (1032,bx [ow 100000 0,pI 0])
theorem Adf (p0 : Ab) (p1 : Int) (RES : Ab × Int) (hm : Qt p0 p1 = some RES) : Spec Tryz.prog 47 [.p (.agg (Ak p0)),pI p1] [] (.tup [.agg [ow 0 RES.1.nodes.length,pI RES.1.next],pI RES.2]) [] [Cs RES.1.nodes] := by
 unfold Qt at hm
 refine SO Tryz.func47 rfl rfl [(0,.p (.agg (Ak p0))),(1,pI p1)] [] ?_
 intro cx hnt
 refine Sq (RK hnt (nn 3 []) [(1,pI p1),(2,rr 1016),(4,rr 1032)] [(1016,bx (pm (Ak p0))),(Adh)] tv ?_)
 refine Sq (Bk ?_)
 obtain ⟨r1,hr1,hm⟩ := bo hm
 refine Sq (RD hnt (.no :: o6 [] true r1 :: nn 2 []) [] [(8,pB (!r1))] [] [] (an (Mr p0 r1 hr1) tv) ?_)
 refine Aq hm ?_ ?_
 ·intro h2 hm
  refine Sq (RD hnt (nn 3 []) [1,2,8] [(5,pI 1)] [1016] [] tv ?_)
  refine DW.cv [] [] [] [(AcY),(100000,ob0 (Cs []))] (Conv.ads [(.o 1032 0,100000,6,elems Ca Dk [])]) ?_
  obtain rfl := sj hm
  exact DW.ret (Am [Cs []] [100000] (.tup [.agg [ow 0 0,pI 0],pI 1]))
 ·intro h2 hm
  obtain ⟨r3,hr3,hm⟩ := bo hm
  refine Sq (RD hnt (nn 2 (o10 [] true r3 :: nn 2 [])) [8] [(13,pB (!r3))] [] [] (an (Tc p0 p1 r3 hr3) tv) ?_)
  refine Aq hm ?_ ?_
  ·intro h4 hm
   refine Sq (RD hnt (nn 3 []) [1,2,13] [(5,pI 4)] [1016] [] tv ?_)
   refine DW.cv [] [] [] [(AcY),(100000,ob0 (Cs []))] (Conv.ads [(.o 1032 0,100000,6,elems Ca Dk [])]) ?_
   obtain rfl := sj hm
   exact DW.ret (Am [Cs []] [100000] (.tup [.agg [ow 0 0,pI 0],pI 4]))
  ·intro h4 hm
   refine Sq (RD hnt (nn 3 []) [13] [(19,pB (p1 == 1))] [] [] tv ?_)
   refine Aq hm ?_ ?_
   ·intro h5 hm
    refine Sq (RD hnt (nn 3 []) [1,2,19] [(5,pI 9)] [1016] [] tv ?_)
    refine DW.cv [] [] [] [(AcY),(100000,ob0 (Cs []))] (Conv.ads [(.o 1032 0,100000,6,elems Ca Dk [])]) ?_
    obtain rfl := sj hm
    exact DW.ret (Am [Cs []] [100000] (.tup [.agg [ow 0 0,pI 0],pI 9]))
   ·intro h5 hm
    obtain ⟨r6,hr6,hm⟩ := bo hm
    refine Sq (RD hnt (nn 2 (o101 [] true r6 :: nn 3 [])) [19] [(23,pB (decide (((r6.length : Nat) : Int) > 0)))] [] [] (an (Acb p0 p1 r6 hr6) tv) ?_)
    refine Aq hm ?_ ?_
    ·intro h7 hm
     refine Sq (RD hnt (nn 3 []) [1,2,23] [(5,pI 6)] [1016] [] tv ?_)
     refine DW.cv [] [] [] [(AcY),(100000,ob0 (Cs []))] (Conv.ads [(.o 1032 0,100000,6,elems Ca Dk [])]) ?_
     obtain rfl := sj hm
     exact DW.ret (Am [Cs []] [100000] (.tup [.agg [ow 0 0,pI 0],pI 6]))
    ·intro h7 hm
     refine Sk ?_
     refine DW.done ?_
     show DW _ _ _ _ _
     refine Sq (RD hnt (nn 5 []) [23] [(6,rr 1048)] [] [(1048,bx [.p (.sl .nil 0 0 (fun _ => [])),pI p0.next])] tv ?_)
     refine Sq (Sq (RD hnt (.no :: []) [] [(7,pI 0)] [] [] tv ?_))
     refine Bk ?_
     obtain ⟨hc1,hm⟩ := go1 hm
     refine DW.rangeO (fun (k1 : Nat) (s1 : List Ah) => Ae [(1,pI p1),(2,rr 1016),(4,rr 1032),(6,rr 1048),(7,pI ((k1 : Nat) : Int))] [(1016,bx (pm (Ak p0))),(Adh),(1048,bx [ow 1448 s1.length,pI p0.next]),(1448,ob0 (Cs s1))]) Dk hm (Conv.ads [(.o 1048 0,1448,6,elems Ca Dk [])]) ?_
     intro k1 s1 n1 hk1 hs1 he1
     refine Sq (Sq (RD hnt (nn 5 []) [] [(37,pB (decide (((k1 : Nat) : Int) < ((p0.nodes.length : Nat) : Int))))] [] [] tv ?_))
     refine Ej (decide (((k1 : Nat) : Int) < ((p0.nodes.length : Nat) : Int))) ?_ ?_
     ·intro h17
      have hlt1 : k1 < p0.nodes.length := by have := of_decide_eq_true h17; omega
      have hm := hs1 hlt1
      unfold Ri at hm
      refine Sk ?_
      refine Sq ?_
      refine Jn (ι := List Ah) (fun (y3 : List Ah) => Ae [(1,pI p1),(2,rr 1016),(4,rr 1032),(6,rr 1048),(7,pI ((k1 : Nat) : Int))] [(1016,bx (pm (Ak p0))),(Adh),(1048,bx [ow 1448 y3.length,pI p0.next]),(1448,ob0 (Cs y3))]) (fun y3 => (Nz n1) y3 = some RES) ?_ ?_
      ·intro y3 hm
       unfold Nz at hm
       refine RD hnt (nn 3 []) [] [(7,pI (w64 (((k1 : Nat) : Int) + 1)))] [] [] tv ?_
       exact jD y3 ⟨hlt1,hm⟩ (Conv.tp [(7,pI (w64 (((k1 : Nat) : Int) + 1)))] [] (by kernel_rfl) (.cons rfl (.of_eq (congrArg pI (Da hlt1 hc1))) .nil) .nil)
      ·refine Bk ?_
       refine Sq (RD hnt (nn 8 []) [37] [(47,pB ((Ew p0 k1).id != p1))] [] [] (an (nn0 k1) (an (ltc hlt1) tv)) ?_)
       refine Aq hm ?_ ?_
       ·intro h18 hm
        obtain ⟨g19,hm⟩ := go1 hm
        refine RN hnt (nn 11 []) [(1,pI p1),(2,rr 1016),(4,rr 1032),(6,rr 1048),(7,pI ((k1 : Nat) : Int))] [(1016,bx (pm (Ak p0))),(Adh),(1048,bx [ow 1448 (s1 ++ [(Ew p0 k1)]).length,pI p0.next]),(1448,ob0 (Cs (s1 ++ [(Ew p0 k1)])))] [] [(1048,.box [ow 1448 (s1.length + 1),pI p0.next]),(1448,.row 6 (s1.length + 1) (Em s1.length (Uq s1) (cut 6 [vi (Ew p0 k1).id,vi (Ew p0 k1).parent,vs (Ew p0 k1).name,vi (Ew p0 k1).control,vi (Ew p0 k1).kind,vi (Ew p0 k1).owner])))] (an (nn0 k1) (an (ltc hlt1) (an (by omega : (s1.length + 1) * 56 ≤ 140737488355328) tv))) (by kernel_rfl) .nil (.cons rfl (.box (.cons (MLe.ownLen (enc := Ca) (d := Dk) (f := (Em s1.length (Uq s1) (cut 6 [vi (Ew p0 k1).id,vi (Ew p0 k1).parent,vs (Ew p0 k1).name,vi (Ew p0 k1).control,vi (Ew p0 k1).kind,vi (Ew p0 k1).owner]))) (RowIs.cat RowIs.elems (RowIs.lit (enc := Ca) (d := Dk) (n := 1) (f := (cut 6 [vi (Ew p0 k1).id,vi (Ew p0 k1).parent,vs (Ew p0 k1).name,vi (Ew p0 k1).control,vi (Ew p0 k1).kind,vi (Ew p0 k1).owner])) [(Ew p0 k1)] rfl (fun | 0,_ => rfl | n + 1,h => absurd h (by omega))))) (.cons .rfl .nil))) (.cons rfl (BLe.typed (RowIs.cat RowIs.elems (RowIs.lit (enc := Ca) (d := Dk) (n := 1) (f := (cut 6 [vi (Ew p0 k1).id,vi (Ew p0 k1).parent,vs (Ew p0 k1).name,vi (Ew p0 k1).control,vi (Ew p0 k1).kind,vi (Ew p0 k1).owner])) [(Ew p0 k1)] rfl (fun | 0,_ => rfl | n + 1,h => absurd h (by omega))))) .nil)) ?_
        exact bD (s1 ++ [(Ew p0 k1)]) hm .refl
       ·intro h18 hm
        refine Sk ?_
        exact bD s1 hm Conv.t0
     ·intro h17
      have hge1 : ¬ k1 < p0.nodes.length := by have := of_decide_eq_false h17; omega
      have hm := he1 hge1
      unfold Rf at hm
      refine DW.exit ?_
      refine Ap ?_
      refine Au ?_
      refine Aj ?_
      show DW _ _ _ _ _
      refine Sq (RK hnt (nn 3 []) [(4,rr 1032),(5,pI 0)] [(1032,bx [ow 1448 s1.length,pI p0.next]),(1448,ob0 (Cs s1))] tv ?_)
      obtain rfl := sj hm
      exact DW.ret (Am [Cs s1] [1448] (.tup [.agg [ow 0 s1.length,pI p0.next],pI 0]))
abbrev o100 (ks : List Nat) (b : Bool) (RES : Ab × Int) (sm : List Nat := []) : Orc := .call 47 ks b (.tup [.agg [ow 0 RES.1.nodes.length,pI RES.1.next],pI RES.2]) [] [Cs RES.1.nodes] sm

abbrev c96e1 : Nat × Obj := (1032,bx [.p (.sl .nil 0 0 (fun _ => [])),pI 0])
theorem AaY (p0 : Ag) (p1 : Int) (RES : Ab × Ag) (hm : Ml p0 p1 = some RES) : Spec Tryz.prog 11 [rr 0,pI p1] [.box (pm (Al p0))] (.p (.agg (Ak RES.1))) [.box (pm (Al RES.2))] [] := by
 unfold Ml at hm
 refine SO Tryz.func11 rfl rfl [(0,rr 0),(1,pI p1)] [(0,bx (pm (Al p0)))] ?_
 intro cx hnt
 refine Sq (RD hnt (.no :: []) [] [(4,rr 1032)] [] [(c96e1)] tv ?_)
 obtain ⟨r1,hr1,hm⟩ := bo hm
 refine Sq (RD hnt (o4 [] true r1 :: nn 2 []) [] [(5,rr 1040)] [] [(1040,bx [ow 1104 r1.nodes.length,pI r1.next]),(1104,ob0 (Cs r1.nodes))] (an (Abx r1 hr1) tv) ?_)
 obtain ⟨r2,hr2,hm⟩ := bo hm
 refine Sq (Sq (RD hnt (nn 3 (o97 [0] true r2 :: .no :: [])) [1] [(6,pI r2.1)] [] [(0,bx (pm (Al r2.2)))] (an (Cr p0 (w64 (p1 + 1)) r2 hr2) (an tv tv)) ?_))
 refine Bk ?_
 refine DW.whileO (fun (s1 : Ag × Ab × Int) => Ae [(0,rr 0),(4,rr 1032),(5,rr 1040),(6,pI s1.2.2)] [(0,bx (pm (Al s1.1))),(c96e1),(1040,bx (pm (Ak s1.2.1)))]) hm (Conv.frz [1104]) ?_
 intro s1 n1 hm
 unfold Rn at hm
 refine Sq (Sq (RD hnt (nn 2 []) [] [(19,pB (decide (s1.2.2 > 0)))] [] [] tv ?_))
 refine Aq hm ?_ ?_
 ·intro h18 hm
  refine Sk ?_
  refine Sq ?_
  refine Jn (ι := Ag × Ab) (fun (y3 : Ag × Ab) => Ae [(0,rr 0),(4,rr 1032),(5,rr 1040),(6,pI s1.2.2)] [(0,bx (pm (Al y3.1))),(c96e1),(1040,bx (pm (Ak y3.2)))]) (fun y3 => (Ie s1 n1) y3 = some RES) ?_ ?_
  ·intro y3 hm
   unfold Ie at hm
   refine RD hnt (nn 3 []) [] [(6,pI (w64 (s1.2.2 - 1)))] [] [] tv ?_
   exact jD (y3.1,y3.2,(w64 (s1.2.2 - 1))) hm Conv.eqK
  ·refine Bk ?_
   obtain ⟨r19,hr19,hm⟩ := bo hm
   obtain ⟨g20,hm⟩ := go1 hm
   refine Sq (RD hnt (nn 6 (o97 [0] true r19 :: nn 4 [])) [19] [(7,pI (s1.2.1.nodes.getD (Int.toNat r19.1) Dk).id)] [] [(0,bx (pm (Al r19.2)))] (an (Cr s1.1 ((s1.2.1.nodes.length : Nat) : Int) r19 hr19) (an tv (an g20.1 (an g20.2 tv)))) ?_)
   obtain ⟨r21,hr21,hm⟩ := bo hm
   obtain ⟨r22,hr22,hm⟩ := bo hm
   refine Sq (Sq (RD hnt (nn 3 (o98 [0] true r21 :: o5 [] true r22 :: nn 8 [])) [7] [(8,rr 1064),(10,pI r22.2.2)] [] [(0,bx (pm (Al r21.2))),(1064,bx [ow 1296 r22.1.nodes.length,pI r22.1.next]),(1296,ob0 (Cs r22.1.nodes))] (an (Abi r19.2 r21 hr21) (an tv (an (Xe s1.2.1 (s1.2.1.nodes.getD (Int.toNat r19.1) Dk).id r21.1 r22 hr22) tv))) ?_))
   refine Sq (RD hnt (nn 2 []) [10] [(42,pB (r22.2.2 == 0))] [] [] tv ?_)
   refine Jn (ι := Ab) (fun (y4 : Ab) => Ae [(0,rr 0),(4,rr 1032),(5,rr 1040),(6,pI s1.2.2)] [(0,bx (pm (Al r21.2))),(c96e1),(1040,bx (pm (Ak y4)))]) (fun y4 => (Jk s1 n1 r21) y4 = some RES) ?_ ?_
   ·intro y4 hm
    unfold Jk at hm
    obtain ⟨r24,hr24,hm⟩ := bo hm
    refine Sq (RD hnt (.no :: o99 [0] true r24 :: []) [] [(45,pB r24.1)] [] [(0,bx (pm (Al r24.2)))] (an (Gc r21.2 6 r24 hr24) (an tv tv)) ?_)
    refine Aq hm ?_ ?_
    ·intro h25 hm
     obtain ⟨r26,hr26,hm⟩ := bo hm
     obtain ⟨g27,hm⟩ := go1 hm
     obtain ⟨r28,hr28,hm⟩ := bo hm
     refine Sq (RD hnt (nn 7 (o97 [0] true r26 :: nn 3 (o100 [] true r28 :: nn 6 []))) [45] [(11,rr 1088),(12,pI r28.2)] [] [(0,bx (pm (Al r26.2))),(1088,bx [ow 1464 r28.1.nodes.length,pI r28.1.next]),(1464,ob0 (Cs r28.1.nodes))] (an (Cr r24.2 ((y4.nodes.length : Nat) : Int) r26 hr26) (an tv (an g27.1 (an g27.2 (an (Adf y4 (y4.nodes.getD (Int.toNat r26.1) Dk).id r28 hr28) tv))))) ?_)
     refine Sq (RD hnt (nn 2 []) [12] [(62,pB (r28.2 == 0))] [] [] tv ?_)
     refine Aq hm ?_ ?_
     ·intro h29 hm
      refine RD hnt (nn 2 []) [11,62] [] [1088] [(1040,bx [ow 1464 r28.1.nodes.length,pI r28.1.next])] tv ?_
      exact bD (r26.2,r28.1) hm (Conv.frz [1464])
     ·intro h29 hm
      refine Sk ?_
      exact bD (r26.2,y4) hm Conv.t0
    ·intro h25 hm
     refine Sk ?_
     exact bD (r24.2,y4) hm Conv.t0
   ·refine Aq hm ?_ ?_
    ·intro h23 hm
     refine RD hnt (nn 2 []) [8,42] [] [1064] [(1040,bx [ow 1296 r22.1.nodes.length,pI r22.1.next])] tv ?_
     exact jD r22.1 hm (Conv.frz [1296])
    ·intro h23 hm
     refine Sk ?_
     exact jD s1.2.1 hm Conv.t0
 ·intro h18 hm
  refine DW.exit ?_
  refine Ap ?_
  refine Au ?_
  refine Aj ?_
  show DW _ _ _ _ _
  refine Sq (RD hnt (nn 2 []) [0,5,6,19] [] [1040] [(1032,bx (pm (Ak s1.2.1)))] tv ?_)
  obtain rfl := sj hm
  exact DW.ret (Am [.box (pm (Al s1.1))] [] (.p (.agg (Ak s1.2.1))))
abbrev o96 (ks : List Nat) (b : Bool) (RES : Ab × Ag) (sm : List Nat := []) : Orc := .call 11 ks b (.p (.agg (Ak RES.1))) [.box (pm (Al RES.2))] [] sm

theorem Aay (p0 : Ag) (RES : Int × Ag) (hm : Ld p0 = some RES) : Spec Tryz.prog 87 [rr 0] [.box (pm (Al p0))] (pI RES.1) [.box (pm (Al RES.2))] [] := by
 unfold Ld at hm
 refine SO Tryz.func87 rfl rfl [(0,rr 0)] [(0,bx (pm (Al p0)))] ?_
 intro cx hnt
 refine Sq (RD hnt (.no :: []) [] [] [] [] tv ?_)
 obtain ⟨r4,hr4,hm⟩ := bo hm
 obtain ⟨r5,hr5,hm⟩ := bo hm
 obtain ⟨g6,g7,hm⟩ := go2 hm
 refine Sq (RK hnt (.no :: o97 [0] true r4 :: .no :: .asR (ow 1048 [1,100,300,10000,50,200,7,(w64 (1 + r4.1))].length) [1,100,300,10000,50,200,7,(w64 (1 + r4.1))].length (elems Az 0 [1,100,300,10000,50,200,7,(w64 (1 + r4.1))]) :: .no :: o97 [0] true r5 :: nn 3 []) [(2,pI ([1,100,300,10000,50,200,7,(w64 (1 + r4.1))].getD (Int.toNat r5.1) 0))] [(0,bx (pm (Al r5.2)))] (an (Cr p0 1000 r4 hr4) (an tv (an (congrArg (MV.own 1048 0 0) (RowIs.asP (enc := Az) (d := 0) (L := [1,100,300,10000,50,200,7,(w64 (1 + r4.1))]) (RowIs.lit (enc := Az) (d := 0) (n := 8) (f := (cut 1 [vi 1,vi 100,vi 300,vi 10000,vi 50,vi 200,vi 7,vi (w64 (1 + r4.1))])) [1,100,300,10000,50,200,7,(w64 (1 + r4.1))] rfl (fun | 0,_ => rfl | 1,_ => rfl | 2,_ => rfl | 3,_ => rfl | 4,_ => rfl | 5,_ => rfl | 6,_ => rfl | 7,_ => rfl | n + 8,h => absurd h (by omega)))).1) (an (RowIs.asP (enc := Az) (d := 0) (L := [1,100,300,10000,50,200,7,(w64 (1 + r4.1))]) (RowIs.lit (enc := Az) (d := 0) (n := 8) (f := (cut 1 [vi 1,vi 100,vi 300,vi 10000,vi 50,vi 200,vi 7,vi (w64 (1 + r4.1))])) [1,100,300,10000,50,200,7,(w64 (1 + r4.1))] rfl (fun | 0,_ => rfl | 1,_ => rfl | 2,_ => rfl | 3,_ => rfl | 4,_ => rfl | 5,_ => rfl | 6,_ => rfl | 7,_ => rfl | n + 8,h => absurd h (by omega)))) (an (Cr r4.2 8 r5 hr5) (an tv (an g6.1 (an g6.2 (an g7 tv))))))))) ?_)
 obtain rfl := sj hm
 exact DW.ret (Am [.box (pm (Al r5.2))] [] (pI ([1,100,300,10000,50,200,7,(w64 (1 + r4.1))].getD (Int.toNat r5.1) 0)))
abbrev o104 (ks : List Nat) (b : Bool) (RES : Int × Ag) (sm : List Nat := []) : Orc := .call 87 ks b (pI RES.1) [.box (pm (Al RES.2))] [] sm

theorem Qn (p0 : Ag) (p1 : Int) (RES : (List Int) × Ag) (hm : Kb p0 p1 = some RES) : Spec Tryz.prog 49 [rr 0,pI p1] [.box (pm (Al p0))] (ow 1 RES.1.length) [.box (pm (Al RES.2))] [roI RES.1] := by
 unfold Kb at hm
 refine SO Tryz.func49 rfl rfl [(0,rr 0),(1,pI p1)] [(0,bx (pm (Al p0)))] ?_
 intro cx hnt
 refine Sq (RD hnt (.no :: []) [] [] [] [] tv ?_)
 refine Sq (RD hnt (.no :: []) [] [(5,.p (.sl .nil 0 0 (fun _ => [])))] [] [] tv ?_)
 refine Sq (Sq (RD hnt (.no :: []) [] [(6,pI 0)] [] [] tv ?_))
 refine Bk ?_
 obtain ⟨hc1,hm⟩ := go1 hm
 refine DW.forO (fun (k1 : Int) (s1 : Ag × (List Int)) => Ae [(0,rr 0),(1,pI p1),(5,ow 1136 s1.2.length),(6,pI k1)] [(0,bx (pm (Al s1.1))),(1136,ob0 (roI s1.2))]) (lo := 0) (hi := p1) hm (Conv.ads [(.s 5,1136,1,elems Az 0 [])]) ?_
 intro k1 s1 n1 hk1 hs1 he1
 refine Sq (Sq (RD hnt (nn 3 []) [] [(9,pB (decide (k1 < p1)))] [] [] tv ?_))
 refine Ej (decide (k1 < p1)) ?_ ?_
 ·intro h8
  have hlt1 : k1 < p1 := by have := of_decide_eq_true h8; omega
  have hm := hs1 hlt1
  unfold Ta at hm
  refine Sk ?_
  refine Sq ?_
  refine Jn (ι := Ag × (List Int)) (fun (y3 : Ag × (List Int)) => Ae [(0,rr 0),(1,pI p1),(5,ow 1136 y3.2.length),(6,pI k1)] [(0,bx (pm (Al y3.1))),(1136,ob0 (roI y3.2))]) (fun y3 => (Lq n1) y3 = some RES) ?_ ?_
  ·intro y3 hm
   unfold Lq at hm
   refine RD hnt (nn 3 []) [] [(6,pI (w64 (k1 + 1)))] [] [] tv ?_
   exact jD (y3.1,y3.2) ⟨hlt1,hm⟩ (Conv.tp [(6,pI (w64 (k1 + 1)))] [] (by kernel_rfl) (.cons rfl (.of_eq (congrArg pI (Qd (lo := 0) (hi := p1) (by omega) hk1 hlt1 (by omega)))) .nil) .nil)
  ·refine Bk ?_
   obtain ⟨r9,hr9,hm⟩ := bo hm
   refine Sq (RD hnt (.no :: o99 [0] true r9 :: []) [9] [(13,pB r9.1)] [] [(0,bx (pm (Al r9.2)))] (an (Gc s1.1 3 r9 hr9) (an tv tv)) ?_)
   refine Aq hm ?_ ?_
   ·intro h10 hm
    obtain ⟨g11,hm⟩ := go1 hm
    refine RN hnt (nn 5 []) [(0,rr 0),(1,pI p1),(5,ow 1136 (s1.2 ++ [k1]).length),(6,pI k1)] [(0,bx (pm (Al r9.2))),(1136,ob0 (roI (s1.2 ++ [k1])))] [(5,ow 1136 (s1.2.length + 1))] [(1136,.row 1 (s1.2.length + 1) (Em s1.2.length (elI s1.2) (cut 1 [vi k1])))] (an (by omega : (s1.2.length + 1) * 8 ≤ 140737488355328) tv) (by kernel_rfl) (.cons rfl (MLe.ownLen (enc := Az) (d := 0) (f := (Em s1.2.length (elI s1.2) (cut 1 [vi k1]))) (RowIs.cat RowIs.elems (RowIs.lit (enc := Az) (d := 0) (n := 1) (f := (cut 1 [vi k1])) [k1] rfl (fun | 0,_ => rfl | n + 1,h => absurd h (by omega))))) .nil) (.cons rfl (BLe.typed (RowIs.cat RowIs.elems (RowIs.lit (enc := Az) (d := 0) (n := 1) (f := (cut 1 [vi k1])) [k1] rfl (fun | 0,_ => rfl | n + 1,h => absurd h (by omega))))) .nil) ?_
    exact bD (r9.2,(s1.2 ++ [k1])) hm .refl
   ·intro h10 hm
    refine Sk ?_
    exact bD (r9.2,s1.2) hm Conv.t0
 ·intro h8
  have hge1 : ¬ k1 < p1 := by have := of_decide_eq_false h8; omega
  have hm := he1 hge1
  unfold Sj at hm
  refine DW.exit ?_
  refine Ap ?_
  refine Au ?_
  refine Aj ?_
  show DW _ _ _ _ _
  refine Sq (RD hnt (nn 2 []) [0,1,5,6,9] [(4,ow 1136 s1.2.length)] [] [] tv ?_)
  obtain rfl := sj hm
  exact DW.ret (Am [.box (pm (Al s1.1)),roI s1.2] [1136] (ow 1 s1.2.length))
abbrev o105 (ks : List Nat) (b : Bool) (RES : (List Int) × Ag) (sm : List Nat := []) : Orc := .call 49 ks b (ow 1 RES.1.length) [.box (pm (Al RES.2))] [roI RES.1] sm

abbrev Vc : Nat × Obj := (1016,bx [pI 0,pI 0,pI 0,pI 0,pI 0,pI 0,pI 0,.p (.sl .nil 0 0 (fun _ => [])),.p (.sl .nil 0 0 (fun _ => [])),pI 0,pI 0,pI 0,pI 0,pI 0,pI 0,pB false,.p (.sl .nil 0 0 (fun _ => []))])
abbrev Ul (r1 : Ao) : Nat × Obj := (1034,ob0 (Af r1.devices))
theorem Yw (p0 : Ag) (RES : Ao × Ag) (hm : Jv p0 = some RES) : Spec Tryz.prog 32 [rr 0] [.box (pm (Al p0))] (.agg [pI RES.1.pidsMax,pI RES.1.weight,pI RES.1.quota,pI RES.1.period,pI RES.1.burst,pI RES.1.clampMin,pI RES.1.clampMax,.p (slI RES.1.cpus),.p (slI RES.1.mems),pI RES.1.partition,pI RES.1.memory.min,pI RES.1.memory.low,pI RES.1.memory.high,pI RES.1.memory.max,pI RES.1.memory.swapMax,pB RES.1.memory.together,ow 1 RES.1.devices.length]) [.box (pm (Al RES.2))] [Af RES.1.devices] := by
 unfold Jv at hm
 refine SO Tryz.func32 rfl rfl [(0,rr 0)] [(0,bx (pm (Al p0)))] ?_
 intro cx hnt
 refine Sq (RD hnt (.no :: []) [] [(2,rr 1016)] [] [(Vc)] tv ?_)
 obtain ⟨r1,hr1,hm⟩ := bo hm
 refine Sq (RD hnt (o19 [] true r1 :: nn 2 []) [] [(3,rr 1024)] [] [(1024,bx [pI r1.pidsMax,pI r1.weight,pI r1.quota,pI r1.period,pI r1.burst,pI r1.clampMin,pI r1.clampMax,ow 1032 r1.cpus.length,ow 1033 r1.mems.length,pI r1.partition,pI r1.memory.min,pI r1.memory.low,pI r1.memory.high,pI r1.memory.max,pI r1.memory.swapMax,pB r1.memory.together,ow 1034 r1.devices.length]),(1032,ob0 (roI r1.cpus)),(1033,ob0 (roI r1.mems)),(Ul r1)] (an (Mk r1 hr1) tv) ?_)
 obtain ⟨r2,hr2,hm⟩ := bo hm
 refine Sq (Sq (RD hnt (.no :: o99 [0] true r2 :: []) [] [(6,pB r2.1)] [] [(0,bx (pm (Al r2.2)))] (an (Gc p0 2 r2 hr2) (an tv tv)) ?_))
 refine Jn (ι := Ag × Int) (fun (y1 : Ag × Int) => Ae [(0,rr 0),(2,rr 1016),(3,rr 1024)] [(0,bx (pm (Al y1.1))),(Vc),(1024,bx [pI y1.2,pI r1.weight,pI r1.quota,pI r1.period,pI r1.burst,pI r1.clampMin,pI r1.clampMax,ow 1032 r1.cpus.length,ow 1033 r1.mems.length,pI r1.partition,pI r1.memory.min,pI r1.memory.low,pI r1.memory.high,pI r1.memory.max,pI r1.memory.swapMax,pB r1.memory.together,ow 1034 r1.devices.length]),(1032,ob0 (roI r1.cpus)),(1033,ob0 (roI r1.mems)),(Ul r1)]) (fun y1 => (Hh r1) y1 = some RES) ?_ ?_
 ·intro y1 hm
  unfold Hh at hm
  obtain ⟨r5,hr5,hm⟩ := bo hm
  refine Sq (RD hnt (.no :: o104 [0] true r5 :: nn 2 []) [] [] [] [(0,bx (pm (Al r5.2))),(1024,bx [pI y1.2,pI r5.1,pI r1.quota,pI r1.period,pI r1.burst,pI r1.clampMin,pI r1.clampMax,ow 1032 r1.cpus.length,ow 1033 r1.mems.length,pI r1.partition,pI r1.memory.min,pI r1.memory.low,pI r1.memory.high,pI r1.memory.max,pI r1.memory.swapMax,pB r1.memory.together,ow 1034 r1.devices.length])] (an (Aay y1.1 r5 hr5) (an tv tv)) ?_)
  obtain ⟨r6,hr6,hm⟩ := bo hm
  refine Sq (Sq (RD hnt (.no :: o99 [0] true r6 :: []) [] [(14,pB r6.1)] [] [(0,bx (pm (Al r6.2)))] (an (Gc r5.2 2 r6 hr6) (an tv tv)) ?_))
  refine Jn (ι := Ag × Int × Int) (fun (y2 : Ag × Int × Int) => Ae [(0,rr 0),(2,rr 1016),(3,rr 1024)] [(0,bx (pm (Al y2.1))),(Vc),(1024,bx [pI y1.2,pI r5.1,pI y2.2.1,pI r1.period,pI y2.2.2,pI r1.clampMin,pI r1.clampMax,ow 1032 r1.cpus.length,ow 1033 r1.mems.length,pI r1.partition,pI r1.memory.min,pI r1.memory.low,pI r1.memory.high,pI r1.memory.max,pI r1.memory.swapMax,pB r1.memory.together,ow 1034 r1.devices.length]),(1032,ob0 (roI r1.cpus)),(1033,ob0 (roI r1.mems)),(Ul r1)]) (fun y2 => (Hd r1 y1 r5) y2 = some RES) ?_ ?_
  ·intro y2 hm
   unfold Hd at hm
   obtain ⟨r10,hr10,hm⟩ := bo hm
   refine Sq (RD hnt (.no :: o97 [0] true r10 :: nn 3 []) [] [] [] [(0,bx (pm (Al r10.2))),(1024,bx [pI y1.2,pI r5.1,pI y2.2.1,pI (w64 (1 + r10.1)),pI y2.2.2,pI r1.clampMin,pI r1.clampMax,ow 1032 r1.cpus.length,ow 1033 r1.mems.length,pI r1.partition,pI r1.memory.min,pI r1.memory.low,pI r1.memory.high,pI r1.memory.max,pI r1.memory.swapMax,pB r1.memory.together,ow 1034 r1.devices.length])] (an (Cr y2.1 9 r10 hr10) (an tv tv)) ?_)
   obtain ⟨r11,hr11,hm⟩ := bo hm
   obtain ⟨r12,hr12,hm⟩ := bo hm
   refine Sq (RD hnt (.no :: o97 [0] true r11 :: .no :: o97 [0] true r12 :: nn 4 []) [] [] [] [(0,bx (pm (Al r12.2))),(1024,bx [pI y1.2,pI r5.1,pI y2.2.1,pI (w64 (1 + r10.1)),pI y2.2.2,pI r11.1,pI r12.1,ow 1032 r1.cpus.length,ow 1033 r1.mems.length,pI r1.partition,pI r1.memory.min,pI r1.memory.low,pI r1.memory.high,pI r1.memory.max,pI r1.memory.swapMax,pB r1.memory.together,ow 1034 r1.devices.length])] (an (Cr r10.2 10001 r11 hr11) (an tv (an (Cr r11.2 10001 r12 hr12) (an tv tv)))) ?_)
   obtain ⟨r13,hr13,hm⟩ := bo hm
   refine Sq (Sq (RD hnt (.no :: o99 [0] true r13 :: []) [] [(36,pB r13.1)] [] [(0,bx (pm (Al r13.2)))] (an (Gc r12.2 2 r13 hr13) (an tv tv)) ?_))
   refine Jn (ι := Ag × (List Int)) (fun (y3 : Ag × (List Int)) => Ae [(0,rr 0),(2,rr 1016),(3,rr 1024)] [(0,bx (pm (Al y3.1))),(Vc),(1024,bx [pI y1.2,pI r5.1,pI y2.2.1,pI (w64 (1 + r10.1)),pI y2.2.2,pI r11.1,pI r12.1,.p (slI y3.2),ow 1033 r1.mems.length,pI r1.partition,pI r1.memory.min,pI r1.memory.low,pI r1.memory.high,pI r1.memory.max,pI r1.memory.swapMax,pB r1.memory.together,ow 1034 r1.devices.length]),(1033,ob0 (roI r1.mems)),(Ul r1)]) (fun y3 => (Hg r1 y1 r5 y2 r10 r11 r12) y3 = some RES) ?_ ?_
   ·intro y3 hm
    unfold Hg at hm
    obtain ⟨r16,hr16,hm⟩ := bo hm
    refine Sq (Sq (RD hnt (.no :: o99 [0] true r16 :: []) [] [(41,pB r16.1)] [] [(0,bx (pm (Al r16.2)))] (an (Gc y3.1 2 r16 hr16) (an tv tv)) ?_))
    refine Jn (ι := Ag × (List Int)) (fun (y4 : Ag × (List Int)) => Ae [(0,rr 0),(2,rr 1016),(3,rr 1024)] [(0,bx (pm (Al y4.1))),(Vc),(1024,bx [pI y1.2,pI r5.1,pI y2.2.1,pI (w64 (1 + r10.1)),pI y2.2.2,pI r11.1,pI r12.1,.p (slI y3.2),.p (slI y4.2),pI r1.partition,pI r1.memory.min,pI r1.memory.low,pI r1.memory.high,pI r1.memory.max,pI r1.memory.swapMax,pB r1.memory.together,ow 1034 r1.devices.length]),(Ul r1)]) (fun y4 => (Hl r1 y1 r5 y2 r10 r11 r12 y3) y4 = some RES) ?_ ?_
    ·intro y4 hm
     unfold Hl at hm
     obtain ⟨r19,hr19,hm⟩ := bo hm
     refine Sq (Sq (RD hnt (.no :: o99 [0] true r19 :: []) [0] [(46,pB r19.1)] [] [(0,bx (pm (Al r19.2)))] (an (Gc y4.1 3 r19 hr19) (an tv tv)) ?_))
     refine Jn (ι := Int) (fun (y5 : Int) => Ae [(2,rr 1016),(3,rr 1024)] [(0,bx (pm (Al r19.2))),(Vc),(1024,bx [pI y1.2,pI r5.1,pI y2.2.1,pI (w64 (1 + r10.1)),pI y2.2.2,pI r11.1,pI r12.1,.p (slI y3.2),.p (slI y4.2),pI y5,pI r1.memory.min,pI r1.memory.low,pI r1.memory.high,pI r1.memory.max,pI r1.memory.swapMax,pB r1.memory.together,ow 1034 r1.devices.length]),(Ul r1)]) (fun y5 => (Hj r1 y1 r5 y2 r10 r11 r12 y3 y4 r19) y5 = some RES) ?_ ?_
     ·intro y5 hm
      unfold Hj at hm
      refine Sq (RD hnt (nn 2 []) [3] [] [1024] [(1016,bx [pI y1.2,pI r5.1,pI y2.2.1,pI (w64 (1 + r10.1)),pI y2.2.2,pI r11.1,pI r12.1,.p (slI y3.2),.p (slI y4.2),pI y5,pI r1.memory.min,pI r1.memory.low,pI r1.memory.high,pI r1.memory.max,pI r1.memory.swapMax,pB r1.memory.together,ow 1034 r1.devices.length])] tv ?_)
      obtain rfl := sj hm
      exact DW.ret (Am [.box (pm (Al r19.2)),Af r1.devices] [1034] (.agg [pI y1.2,pI r5.1,pI y2.2.1,pI (w64 (1 + r10.1)),pI y2.2.2,pI r11.1,pI r12.1,.p (slI y3.2),.p (slI y4.2),pI y5,pI r1.memory.min,pI r1.memory.low,pI r1.memory.high,pI r1.memory.max,pI r1.memory.swapMax,pB r1.memory.together,ow 1 r1.devices.length]))
     ·refine Aq hm ?_ ?_
      ·intro h20 hm
       refine RD hnt (nn 2 []) [46] [] [] [(1024,bx [pI y1.2,pI r5.1,pI y2.2.1,pI (w64 (1 + r10.1)),pI y2.2.2,pI r11.1,pI r12.1,.p (slI y3.2),.p (slI y4.2),pI 1,pI r1.memory.min,pI r1.memory.low,pI r1.memory.high,pI r1.memory.max,pI r1.memory.swapMax,pB r1.memory.together,ow 1034 r1.devices.length])] tv ?_
       exact jD 1 hm Conv.eqK
      ·intro h20 hm
       refine Sk ?_
       exact jD r1.partition hm Conv.t0
    ·refine Aq hm ?_ ?_
     ·intro h17 hm
      obtain ⟨r18,hr18,hm⟩ := bo hm
      refine RD hnt (.no :: o105 [0] true r18 :: nn 2 []) [41] [] [1033] [(0,bx (pm (Al r18.2))),(1024,bx [pI y1.2,pI r5.1,pI y2.2.1,pI (w64 (1 + r10.1)),pI y2.2.2,pI r11.1,pI r12.1,.p (slI y3.2),ow 1344 r18.1.length,pI r1.partition,pI r1.memory.min,pI r1.memory.low,pI r1.memory.high,pI r1.memory.max,pI r1.memory.swapMax,pB r1.memory.together,ow 1034 r1.devices.length]),(1344,ob0 (roI r18.1))] (an (Qn r16.2 4 r18 hr18) (an tv tv)) ?_
      exact jD (r18.2,r18.1) hm (Conv.frz [1344])
     ·intro h17 hm
      refine Sk ?_
      exact jD (r16.2,r1.mems) hm (Conv.trans (τ := Ae [(0,rr 0),(2,rr 1016),(3,rr 1024),(41,pB r16.1)] [(0,bx (pm (Al r16.2))),(Vc),(1024,bx [pI y1.2,pI r5.1,pI y2.2.1,pI (w64 (1 + r10.1)),pI y2.2.2,pI r11.1,pI r12.1,.p (slI y3.2),.p (slI r1.mems),pI r1.partition,pI r1.memory.min,pI r1.memory.low,pI r1.memory.high,pI r1.memory.max,pI r1.memory.swapMax,pB r1.memory.together,ow 1034 r1.devices.length]),(Ul r1)]) (Conv.frz [1033]) Conv.t0)
   ·refine Aq hm ?_ ?_
    ·intro h14 hm
     obtain ⟨r15,hr15,hm⟩ := bo hm
     refine RD hnt (.no :: o105 [0] true r15 :: nn 2 []) [36] [] [1032] [(0,bx (pm (Al r15.2))),(1024,bx [pI y1.2,pI r5.1,pI y2.2.1,pI (w64 (1 + r10.1)),pI y2.2.2,pI r11.1,pI r12.1,ow 1304 r15.1.length,ow 1033 r1.mems.length,pI r1.partition,pI r1.memory.min,pI r1.memory.low,pI r1.memory.high,pI r1.memory.max,pI r1.memory.swapMax,pB r1.memory.together,ow 1034 r1.devices.length]),(1304,ob0 (roI r15.1))] (an (Qn r13.2 6 r15 hr15) (an tv tv)) ?_
     exact jD (r15.2,r15.1) hm (Conv.frz [1304])
    ·intro h14 hm
     refine Sk ?_
     exact jD (r13.2,r1.cpus) hm (Conv.trans (τ := Ae [(0,rr 0),(2,rr 1016),(3,rr 1024),(36,pB r13.1)] [(0,bx (pm (Al r13.2))),(Vc),(1024,bx [pI y1.2,pI r5.1,pI y2.2.1,pI (w64 (1 + r10.1)),pI y2.2.2,pI r11.1,pI r12.1,.p (slI r1.cpus),ow 1033 r1.mems.length,pI r1.partition,pI r1.memory.min,pI r1.memory.low,pI r1.memory.high,pI r1.memory.max,pI r1.memory.swapMax,pB r1.memory.together,ow 1034 r1.devices.length]),(1033,ob0 (roI r1.mems)),(Ul r1)]) (Conv.frz [1032]) Conv.t0)
  ·refine Aq hm ?_ ?_
   ·intro h7 hm
    obtain ⟨r8,hr8,hm⟩ := bo hm
    refine Sq (RD hnt (.no :: o97 [0] true r8 :: nn 3 []) [14] [] [] [(0,bx (pm (Al r8.2))),(1024,bx [pI y1.2,pI r5.1,pI (w64 (1 + r8.1)),pI r1.period,pI r1.burst,pI r1.clampMin,pI r1.clampMax,ow 1032 r1.cpus.length,ow 1033 r1.mems.length,pI r1.partition,pI r1.memory.min,pI r1.memory.low,pI r1.memory.high,pI r1.memory.max,pI r1.memory.swapMax,pB r1.memory.together,ow 1034 r1.devices.length])] (an (Cr r6.2 9 r8 hr8) (an tv tv)) ?_)
    obtain ⟨r9,hr9,hm⟩ := bo hm
    refine RD hnt (nn 4 (o97 [0] true r9 :: nn 2 [])) [] [] [] [(0,bx (pm (Al r9.2))),(1024,bx [pI y1.2,pI r5.1,pI (w64 (1 + r8.1)),pI r1.period,pI r9.1,pI r1.clampMin,pI r1.clampMax,ow 1032 r1.cpus.length,ow 1033 r1.mems.length,pI r1.partition,pI r1.memory.min,pI r1.memory.low,pI r1.memory.high,pI r1.memory.max,pI r1.memory.swapMax,pB r1.memory.together,ow 1034 r1.devices.length])] (an (Cr r8.2 (w64 ((w64 (1 + r8.1)) + 1)) r9 hr9) (an tv tv)) ?_
    exact jD (r9.2,(w64 (1 + r8.1)),r9.1) hm Conv.eqK
   ·intro h7 hm
    refine Sk ?_
    exact jD (r6.2,r1.quota,r1.burst) hm Conv.t0
 ·refine Aq hm ?_ ?_
  ·intro h3 hm
   obtain ⟨r4,hr4,hm⟩ := bo hm
   refine RD hnt (.no :: o97 [0] true r4 :: nn 2 []) [6] [] [] [(0,bx (pm (Al r4.2))),(1024,bx [pI r4.1,pI r1.weight,pI r1.quota,pI r1.period,pI r1.burst,pI r1.clampMin,pI r1.clampMax,ow 1032 r1.cpus.length,ow 1033 r1.mems.length,pI r1.partition,pI r1.memory.min,pI r1.memory.low,pI r1.memory.high,pI r1.memory.max,pI r1.memory.swapMax,pB r1.memory.together,ow 1034 r1.devices.length])] (an (Cr r2.2 6 r4 hr4) (an tv tv)) ?_
   exact jD (r4.2,r4.1) hm Conv.eqK
  ·intro h3 hm
   refine Sk ?_
   exact jD (r2.2,r1.pidsMax) hm Conv.t0
abbrev o103 (ks : List Nat) (b : Bool) (RES : Ao × Ag) (sm : List Nat := []) : Orc := .call 32 ks b (.agg [pI RES.1.pidsMax,pI RES.1.weight,pI RES.1.quota,pI RES.1.period,pI RES.1.burst,pI RES.1.clampMin,pI RES.1.clampMax,.p (slI RES.1.cpus),.p (slI RES.1.mems),pI RES.1.partition,pI RES.1.memory.min,pI RES.1.memory.low,pI RES.1.memory.high,pI RES.1.memory.max,pI RES.1.memory.swapMax,pB RES.1.memory.together,ow 1 RES.1.devices.length]) [.box (pm (Al RES.2))] [Af RES.1.devices] sm

abbrev Abb (p1 : Ab) (k1 : Nat) (y3 : Ag × Ao) := ({ group := (p1.nodes.getD k1 (default : Ah)).id,settings := y3.2 } : Ac)
theorem Zx (p0 : Ag) (p1 : Ab) (RES : (List Ac) × Ag) (hm : Kl p0 p1 = some RES) : Spec Tryz.prog 12 [rr 0,.p (.agg (Ak p1))] [.box (pm (Al p0))] (ow 1 RES.1.length) [.box (pm (Al RES.2))] [Ep RES.1] := by
 unfold Kl at hm
 refine SO Tryz.func12 rfl rfl [(0,rr 0),(1,.p (.agg (Ak p1)))] [(0,bx (pm (Al p0)))] ?_
 intro cx hnt
 refine Sq (RD hnt (nn 2 []) [1] [(3,rr 1024)] [] [(1024,bx (pm (Ak p1)))] tv ?_)
 refine Sq (RD hnt (.no :: []) [] [(5,.p (.sl .nil 0 0 (fun _ => [])))] [] [] tv ?_)
 refine Sq (Sq (RD hnt (.no :: []) [] [(6,pI 0)] [] [] tv ?_))
 refine Bk ?_
 obtain ⟨hc1,hm⟩ := go1 hm
 refine DW.rangeO (fun (k1 : Nat) (s1 : Ag × (List Ac)) => Ae [(0,rr 0),(3,rr 1024),(5,ow 1240 s1.2.length),(6,pI ((k1 : Nat) : Int))] [(0,bx (pm (Al s1.1))),(1024,bx (pm (Ak p1))),(1240,ob0 (Ep s1.2))]) Dk hm (Conv.ads [(.s 5,1240,18,elems Gl Be [])]) ?_
 intro k1 s1 n1 hk1 hs1 he1
 refine Sq (Sq (RD hnt (nn 5 []) [] [(12,pB (decide (((k1 : Nat) : Int) < ((p1.nodes.length : Nat) : Int))))] [] [] tv ?_))
 refine Ej (decide (((k1 : Nat) : Int) < ((p1.nodes.length : Nat) : Int))) ?_ ?_
 ·intro h14
  have hlt1 : k1 < p1.nodes.length := by have := of_decide_eq_true h14; omega
  have hm := hs1 hlt1
  unfold On at hm
  refine Sk ?_
  refine Sq (Bk ?_)
  obtain ⟨r15,hr15,hm⟩ := bo hm
  refine Sq (RD hnt (o19 [] true r15 :: nn 2 []) [12] [(7,rr 1056)] [] [(1056,bx [pI r15.pidsMax,pI r15.weight,pI r15.quota,pI r15.period,pI r15.burst,pI r15.clampMin,pI r15.clampMax,ow 1120 r15.cpus.length,ow 1121 r15.mems.length,pI r15.partition,pI r15.memory.min,pI r15.memory.low,pI r15.memory.high,pI r15.memory.max,pI r15.memory.swapMax,pB r15.memory.together,ow 1122 r15.devices.length]),(1120,ob0 (roI r15.cpus)),(1121,ob0 (roI r15.mems)),(1122,ob0 (Af r15.devices))] (an (Mk r15 hr15) tv) ?_)
  obtain ⟨r16,hr16,hm⟩ := bo hm
  refine Sq (Sq (RD hnt (.no :: o99 [0] true r16 :: []) [] [(17,pB r16.1)] [] [(0,bx (pm (Al r16.2)))] (an (Gc s1.1 2 r16 hr16) (an tv tv)) ?_))
  refine Jn (ι := Ag × Ao) (fun (y3 : Ag × Ao) => Ae [(0,rr 0),(3,rr 1024),(5,ow 1240 s1.2.length),(6,pI ((k1 : Nat) : Int)),(7,rr 1056)] [(0,bx (pm (Al y3.1))),(1024,bx (pm (Ak p1))),(1056,bx (pm (Dv y3.2))),(1240,ob0 (Ep s1.2))]) (fun y3 => (Hu (p1.nodes.getD k1 (default : Ah)) s1 n1) y3 = some RES) ?_ ?_
  ·intro y3 hm
   unfold Hu at hm
   obtain ⟨g19,hm⟩ := go1 hm
   refine RN hnt (nn 12 []) [(0,rr 0),(3,rr 1024),(5,ow 1240 (s1.2 ++ [(Abb p1 k1 y3)]).length),(6,pI ((k1 : Nat) : Int))] [(0,bx (pm (Al y3.1))),(1024,bx (pm (Ak p1))),(1240,ob0 (Ep (s1.2 ++ [(Abb p1 k1 y3)])))] [(5,ow 1240 (s1.2.length + 1))] [(1240,.row 18 (s1.2.length + 1) (Em s1.2.length (Xd s1.2) (cut 18 [vi (p1.nodes.getD k1 (default : Ah)).id,vi y3.2.pidsMax,vi y3.2.weight,vi y3.2.quota,vi y3.2.period,vi y3.2.burst,vi y3.2.clampMin,vi y3.2.clampMax,slI y3.2.cpus,slI y3.2.mems,vi y3.2.partition,vi y3.2.memory.min,vi y3.2.memory.low,vi y3.2.memory.high,vi y3.2.memory.max,vi y3.2.memory.swapMax,vb y3.2.memory.together,Co y3.2.devices])))] (an (nn0 k1) (an (ltc hlt1) (an (by omega : (s1.2.length + 1) * 192 ≤ 140737488355328) tv))) (by kernel_rfl) (.cons rfl (MLe.ownLen (enc := Gl) (d := Be) (f := (Em s1.2.length (Xd s1.2) (cut 18 [vi (p1.nodes.getD k1 (default : Ah)).id,vi y3.2.pidsMax,vi y3.2.weight,vi y3.2.quota,vi y3.2.period,vi y3.2.burst,vi y3.2.clampMin,vi y3.2.clampMax,slI y3.2.cpus,slI y3.2.mems,vi y3.2.partition,vi y3.2.memory.min,vi y3.2.memory.low,vi y3.2.memory.high,vi y3.2.memory.max,vi y3.2.memory.swapMax,vb y3.2.memory.together,Co y3.2.devices]))) (RowIs.cat RowIs.elems (RowIs.lit (enc := Gl) (d := Be) (n := 1) (f := (cut 18 [vi (p1.nodes.getD k1 (default : Ah)).id,vi y3.2.pidsMax,vi y3.2.weight,vi y3.2.quota,vi y3.2.period,vi y3.2.burst,vi y3.2.clampMin,vi y3.2.clampMax,slI y3.2.cpus,slI y3.2.mems,vi y3.2.partition,vi y3.2.memory.min,vi y3.2.memory.low,vi y3.2.memory.high,vi y3.2.memory.max,vi y3.2.memory.swapMax,vb y3.2.memory.together,Co y3.2.devices])) [(Abb p1 k1 y3)] rfl (fun | 0,_ => rfl | n + 1,h => absurd h (by omega))))) .nil) (.cons rfl (BLe.typed (RowIs.cat RowIs.elems (RowIs.lit (enc := Gl) (d := Be) (n := 1) (f := (cut 18 [vi (p1.nodes.getD k1 (default : Ah)).id,vi y3.2.pidsMax,vi y3.2.weight,vi y3.2.quota,vi y3.2.period,vi y3.2.burst,vi y3.2.clampMin,vi y3.2.clampMax,slI y3.2.cpus,slI y3.2.mems,vi y3.2.partition,vi y3.2.memory.min,vi y3.2.memory.low,vi y3.2.memory.high,vi y3.2.memory.max,vi y3.2.memory.swapMax,vb y3.2.memory.together,Co y3.2.devices])) [(Abb p1 k1 y3)] rfl (fun | 0,_ => rfl | n + 1,h => absurd h (by omega))))) .nil) ?_
   refine DW.done ?_
   show DW _ _ _ _ _
   refine RD hnt (nn 3 []) [] [(6,pI (w64 (((k1 : Nat) : Int) + 1)))] [] [] tv ?_
   exact jD (y3.1,(s1.2 ++ [(Abb p1 k1 y3)])) ⟨hlt1,hm⟩ (Conv.tp [(6,pI (w64 (((k1 : Nat) : Int) + 1)))] [] (by kernel_rfl) (.cons rfl (.of_eq (congrArg pI (Da hlt1 hc1))) .nil) .nil)
  ·refine Aq hm ?_ ?_
   ·intro h17 hm
    obtain ⟨r18,hr18,hm⟩ := bo hm
    refine RD hnt (.no :: o103 [0] true r18 :: .no :: []) [17] [] [1120,1121,1122] [(0,bx (pm (Al r18.2))),(1056,bx [pI r18.1.pidsMax,pI r18.1.weight,pI r18.1.quota,pI r18.1.period,pI r18.1.burst,pI r18.1.clampMin,pI r18.1.clampMax,.p (slI r18.1.cpus),.p (slI r18.1.mems),pI r18.1.partition,pI r18.1.memory.min,pI r18.1.memory.low,pI r18.1.memory.high,pI r18.1.memory.max,pI r18.1.memory.swapMax,pB r18.1.memory.together,ow 1152 r18.1.devices.length]),(1152,ob0 (Af r18.1.devices))] (an (Yw r16.2 r18 hr18) (an tv tv)) ?_
    exact jD (r18.2,r18.1) hm (Conv.frz [1152])
   ·intro h17 hm
    refine Sk ?_
    exact jD (r16.2,r15) hm (Conv.trans (τ := Ae [(0,rr 0),(3,rr 1024),(5,ow 1240 s1.2.length),(6,pI ((k1 : Nat) : Int)),(7,rr 1056),(17,pB r16.1)] [(0,bx (pm (Al r16.2))),(1024,bx (pm (Ak p1))),(1056,bx (pm (Dv r15))),(1240,ob0 (Ep s1.2))]) (Conv.frz [1120,1121,1122]) Conv.t0)
 ·intro h14
  have hge1 : ¬ k1 < p1.nodes.length := by have := of_decide_eq_false h14; omega
  have hm := he1 hge1
  unfold Ot at hm
  refine DW.exit ?_
  refine Ap ?_
  refine Au ?_
  refine Aj ?_
  show DW _ _ _ _ _
  refine Sq (RD hnt (nn 2 []) [0,3,5,6,12] [(4,ow 1240 s1.2.length)] [1024] [] tv ?_)
  obtain rfl := sj hm
  exact DW.ret (Am [.box (pm (Al s1.1)),Ep s1.2] [1240] (ow 1 s1.2.length))
abbrev o102 (ks : List Nat) (b : Bool) (RES : (List Ac) × Ag) (sm : List Nat := []) : Orc := .call 12 ks b (ow 1 RES.1.length) [.box (pm (Al RES.2))] [Ep RES.1] sm

theorem Aag (p0 : Ag) (p1 : Int) (RES : (List Int) × Ag) (hm : Lf p0 p1 = some RES) : Spec Tryz.prog 13 [rr 0,pI p1] [.box (pm (Al p0))] (ow 1 RES.1.length) [.box (pm (Al RES.2))] [roI RES.1] := by
 unfold Lf at hm
 refine SO Tryz.func13 rfl rfl [(0,rr 0),(1,pI p1)] [(0,bx (pm (Al p0)))] ?_
 intro cx hnt
 refine Sq (RD hnt (.no :: []) [] [] [] [] tv ?_)
 obtain ⟨r1,hr1,hm⟩ := bo hm
 refine Sq (Sq (RK hnt (nn 2 (o105 [0] true r1 :: .no :: [])) [(1,pI p1),(5,ow 1080 r1.1.length)] [(0,bx (pm (Al r1.2))),(1080,ob0 (roI r1.1))] (an (Qn p0 p1 r1 hr1) (an tv tv)) ?_))
 refine Sq (RD hnt (nn 3 []) [] [(13,pB (decide (((r1.1.length : Nat) : Int) > 0)))] [] [] tv ?_)
 refine Aq hm ?_ ?_
 ·intro h2 hm
  refine Sq (RD hnt (nn 2 []) [1,5,13] [(4,ow 1080 r1.1.length)] [] [] tv ?_)
  obtain rfl := sj hm
  exact DW.ret (Am [.box (pm (Al r1.2)),roI r1.1] [1080] (ow 1 r1.1.length))
 ·intro h2 hm
  refine Sk ?_
  refine Sq (RD hnt (.no :: []) [5,13] [(6,.p (.sl .nil 0 0 (fun _ => [])))] [1080] [] tv ?_)
  refine Sq (Sq (RD hnt (.no :: []) [] [(7,pI 0)] [] [] tv ?_))
  refine Bk ?_
  obtain ⟨hc1,hm⟩ := go1 hm
  refine DW.forO (fun (k1 : Int) (s1 : List Int) => Ae [(1,pI p1),(6,ow 1184 s1.length),(7,pI k1)] [(0,bx (pm (Al r1.2))),(1184,ob0 (roI s1))]) (lo := 0) (hi := p1) hm (Conv.ads [(.s 6,1184,1,elems Az 0 [])]) ?_
  intro k1 s1 n1 hk1 hs1 he1
  refine Sq (Sq (RD hnt (nn 3 []) [] [(17,pB (decide (k1 < p1)))] [] [] tv ?_))
  refine Ej (decide (k1 < p1)) ?_ ?_
  ·intro h6
   have hlt1 : k1 < p1 := by have := of_decide_eq_true h6; omega
   have hm := hs1 hlt1
   unfold Pl at hm
   refine Sk ?_
   refine Sq (Bk ?_)
   obtain ⟨g7,hm⟩ := go1 hm
   refine RN hnt (nn 5 []) [(1,pI p1),(6,ow 1184 (s1 ++ [k1]).length),(7,pI k1)] [(0,bx (pm (Al r1.2))),(1184,ob0 (roI (s1 ++ [k1])))] [(6,ow 1184 (s1.length + 1))] [(1184,.row 1 (s1.length + 1) (Em s1.length (elI s1) (cut 1 [vi k1])))] (an (by omega : (s1.length + 1) * 8 ≤ 140737488355328) tv) (by kernel_rfl) (.cons rfl (MLe.ownLen (enc := Az) (d := 0) (f := (Em s1.length (elI s1) (cut 1 [vi k1]))) (RowIs.cat RowIs.elems (RowIs.lit (enc := Az) (d := 0) (n := 1) (f := (cut 1 [vi k1])) [k1] rfl (fun | 0,_ => rfl | n + 1,h => absurd h (by omega))))) .nil) (.cons rfl (BLe.typed (RowIs.cat RowIs.elems (RowIs.lit (enc := Az) (d := 0) (n := 1) (f := (cut 1 [vi k1])) [k1] rfl (fun | 0,_ => rfl | n + 1,h => absurd h (by omega))))) .nil) ?_
   refine DW.done ?_
   show DW _ _ _ _ _
   refine RD hnt (nn 3 []) [] [(7,pI (w64 (k1 + 1)))] [] [] tv ?_
   exact jD (s1 ++ [k1]) ⟨hlt1,hm⟩ (Conv.tp [(7,pI (w64 (k1 + 1)))] [] (by kernel_rfl) (.cons rfl (.of_eq (congrArg pI (Qd (lo := 0) (hi := p1) (by omega) hk1 hlt1 (by omega)))) .nil) .nil)
  ·intro h6
   have hge1 : ¬ k1 < p1 := by have := of_decide_eq_false h6; omega
   have hm := he1 hge1
   unfold Pt at hm
   refine DW.exit ?_
   refine Ap ?_
   refine Au ?_
   refine Aj ?_
   show DW _ _ _ _ _
   refine Sq (RD hnt (nn 2 []) [1,6,7,17] [(4,ow 1184 s1.length)] [] [] tv ?_)
   obtain rfl := sj hm
   exact DW.ret (Am [.box (pm (Al r1.2)),roI s1] [1184] (ow 1 s1.length))
abbrev o106 (ks : List Nat) (b : Bool) (RES : (List Int) × Ag) (sm : List Nat := []) : Orc := .call 13 ks b (ow 1 RES.1.length) [.box (pm (Al RES.2))] [roI RES.1] sm

theorem Ti (p0 : List Int) (p1 : Int) (RES : Bool) (hm : Rr p0 p1 = some RES) : Spec Tryz.prog 18 [.p (slI p0),pI p1] [] (pB RES) [] [] := by
 unfold Rr at hm
 refine SO Tryz.func18 rfl rfl [(0,.p (slI p0)),(1,pI p1)] [] ?_
 intro cx hnt
 refine Sq (RD hnt (.no :: []) [] [] [] [] tv ?_)
 refine Sq (Sq (RD hnt (.no :: []) [] [(5,pI 0)] [] [] tv ?_))
 refine Bk ?_
 obtain ⟨hc1,hm⟩ := go1 hm
 refine DW.rangeO (fun (k1 : Nat) (s1 : Unit) => Ae [(0,.p (slI p0)),(1,pI p1),(5,pI ((k1 : Nat) : Int))] []) 0 hm Conv.eqK ?_
 intro k1 s1 n1 hk1 hs1 he1
 refine Sq (Sq (RD hnt (nn 4 []) [] [(9,pB (decide (((k1 : Nat) : Int) < ((p0.length : Nat) : Int))))] [] [] tv ?_))
 refine Ej (decide (((k1 : Nat) : Int) < ((p0.length : Nat) : Int))) ?_ ?_
 ·intro h7
  have hlt1 : k1 < p0.length := by have := of_decide_eq_true h7; omega
  have hm := hs1 hlt1
  unfold Adj at hm
  refine Sk ?_
  refine Sq (Bk ?_)
  refine Sq (RD hnt (nn 6 []) [9] [(17,pB ((p0.getD k1 0) == p1))] [] [] (an (nn0 k1) (an (ltc hlt1) tv)) ?_)
  refine Aq hm ?_ ?_
  ·intro h8 hm
   refine Sq (RK hnt (.no :: []) [(4,pB true)] [] tv ?_)
   obtain rfl := sj hm
   exact DW.ret (Am [] [] (pB true))
  ·intro h8 hm
   refine Sk ?_
   refine DW.done ?_
   show DW _ _ _ _ _
   refine RD hnt (nn 3 []) [17] [(5,pI (w64 (((k1 : Nat) : Int) + 1)))] [] [] tv ?_
   exact jD () ⟨hlt1,hm⟩ (Conv.tp [(5,pI (w64 (((k1 : Nat) : Int) + 1)))] [] (by kernel_rfl) (.cons rfl (.of_eq (congrArg pI (Da hlt1 hc1))) .nil) .nil)
 ·intro h7
  have hge1 : ¬ k1 < p0.length := by have := of_decide_eq_false h7; omega
  have hm := he1 hge1
  unfold AcV at hm
  refine DW.exit ?_
  refine Ap ?_
  refine Au ?_
  refine Aj ?_
  show DW _ _ _ _ _
  refine Sq (RK hnt (.no :: []) [(4,pB false)] [] tv ?_)
  obtain rfl := sj hm
  exact DW.ret (Am [] [] (pB false))
abbrev o107 (ks : List Nat) (b : Bool) (RES : Bool) (sm : List Nat := []) : Orc := .call 18 ks b (pB RES) [] [] sm

abbrev Ur (k1 : Nat) : Nat × MV := (4,pI ((k1 : Nat) : Int))
theorem Pa (p0 : List Int) (RES : List Int) (hm : Kr p0 = some RES) : Spec Tryz.prog 21 [.p (slI p0)] [] (ow 0 RES.length) [] [roI RES] := by
 unfold Kr at hm
 refine SO Tryz.func21 rfl rfl [(0,.p (slI p0))] [] ?_
 intro cx hnt
 refine Sq (RK hnt (.no :: []) [(0,.p (slI p0))] [] tv ?_)
 refine Sq (RD hnt (.no :: []) [] [(3,.p (.sl .nil 0 0 (fun _ => [])))] [] [] tv ?_)
 refine Sq (Sq (RD hnt (.no :: []) [] [(4,pI 0)] [] [] tv ?_))
 refine Bk ?_
 obtain ⟨hc1,hm⟩ := go1 hm
 refine DW.rangeO (fun (k1 : Nat) (s1 : List Int) => Ae [(0,.p (slI p0)),(3,ow 1368 s1.length),(Ur k1)] [(1368,ob0 (roI s1))]) 0 hm (Conv.ads [(.s 3,1368,1,elems Az 0 [])]) ?_
 intro k1 s1 n1 hk1 hs1 he1
 refine Sq (Sq (RD hnt (nn 4 []) [] [(9,pB (decide (((k1 : Nat) : Int) < ((p0.length : Nat) : Int))))] [] [] tv ?_))
 refine Ej (decide (((k1 : Nat) : Int) < ((p0.length : Nat) : Int))) ?_ ?_
 ·intro h72
  have hlt1 : k1 < p0.length := by have := of_decide_eq_true h72; omega
  have hm := hs1 hlt1
  unfold Vi at hm
  refine Sk ?_
  refine Sq ?_
  refine Jn (ι := List Int) (fun (y11 : List Int) => Ae [(0,.p (slI p0)),(3,ow 1368 y11.length),(Ur k1)] [(1368,ob0 (roI y11))]) (fun y11 => (Mx n1) y11 = some RES) ?_ ?_
  ·intro y11 hm
   unfold Mx at hm
   refine RD hnt (nn 3 []) [] [(4,pI (w64 (((k1 : Nat) : Int) + 1)))] [] [] tv ?_
   exact jD y11 ⟨hlt1,hm⟩ (Conv.tp [(4,pI (w64 (((k1 : Nat) : Int) + 1)))] [] (by kernel_rfl) (.cons rfl (.of_eq (congrArg pI (Da hlt1 hc1))) .nil) .nil)
  ·refine Bk ?_
   refine Sq (RD hnt (nn 3 []) [9] [(5,pI ((s1.length : Nat) : Int))] [] [] tv ?_)
   refine Sq (Bk ?_)
   refine DW.whileO (fun (s4 : Int) => Ae [(0,.p (slI p0)),(3,ow 1368 s1.length),(Ur k1),(5,pI s4)] [(1368,ob0 (roI s1))]) hm Conv.eqK ?_
   intro s4 n4 hm
   unfold Rg at hm
   refine Sq (Sq ?_)
   refine Jn (ι := Bool) (fun (y14 : Bool) => Ae [(0,.p (slI p0)),(3,ow 1368 s1.length),(Ur k1),(5,pI s4),(27,pB y14)] [(1368,ob0 (roI s1))]) (fun y14 => (Ku (p0.getD k1 0) s1 n1 s4 n4) y14 = some RES) ?_ ?_
   ·intro y14 hm
    unfold Ku at hm
    refine Aq hm ?_ ?_
    ·intro h90 hm
     refine Sk ?_
     refine Bk ?_
     refine RD hnt (nn 3 []) [27] [(5,pI (w64 (s4 - 1)))] [] [] tv ?_
     refine DW.done ?_
     show DW _ _ _ _ _
     exact jD (w64 (s4 - 1)) hm Conv.eqK
    ·intro h90 hm
     refine DW.exit ?_
     refine Ap ?_
     refine Au ?_
     refine Aj ?_
     show DW _ _ _ _ _
     refine Sq (Sq ?_)
     refine Jn (ι := Bool) (fun (y15 : Bool) => Ae [(0,.p (slI p0)),(3,ow 1368 s1.length),(Ur k1),(5,pI s4),(43,pB y15)] [(1368,ob0 (roI s1))]) (fun y15 => (Kw (p0.getD k1 0) s1 n1 s4) y15 = some RES) ?_ ?_
     ·intro y15 hm
      unfold Kw at hm
      refine Aq hm ?_ ?_
      ·intro h94 hm
       refine DW.exit ?_
       exact Aj (joinKQ s1 hm Conv.t0)
      ·intro h94 hm
       refine Sk ?_
       obtain ⟨g95,hm⟩ := go1 hm
       refine Sq (RN hnt (nn 4 []) [(0,.p (slI p0)),(3,ow 1368 (s1 ++ [0]).length),(Ur k1),(5,pI s4)] [(1368,ob0 (roI (s1 ++ [0])))] [(3,ow 1368 (s1.length + 1))] [(1368,.row 1 (s1.length + 1) (Em s1.length (elI s1) (cut 1 [vi 0])))] (an (by omega : (s1.length + 1) * 8 ≤ 140737488355328) tv) (by kernel_rfl) (.cons rfl (MLe.ownLen (enc := Az) (d := 0) (f := (Em s1.length (elI s1) (cut 1 [vi 0]))) (RowIs.cat RowIs.elems (RowIs.lit (enc := Az) (d := 0) (n := 1) (f := (cut 1 [vi 0])) [0] rfl (fun | 0,_ => rfl | n + 1,h => absurd h (by omega))))) .nil) (.cons rfl (BLe.typed (RowIs.cat RowIs.elems (RowIs.lit (enc := Az) (d := 0) (n := 1) (f := (cut 1 [vi 0])) [0] rfl (fun | 0,_ => rfl | n + 1,h => absurd h (by omega))))) .nil) ?_)
       obtain ⟨g96,g97,g98,hm⟩ := go3 hm
       refine Sq (RN hnt (nn 8 []) [(0,.p (slI p0)),(3,ow 1368 (Lr (s1 ++ [0]) (Int.toNat (w64 (s4 + 1))) (Gq (Cc (s1 ++ [0]).length (Int.toNat s4)) (Cc (s1 ++ [0]).length (Int.toNat (w64 (s4 + 1))))) (((s1 ++ [0]).drop (Int.toNat s4)).take (Cc (s1 ++ [0]).length (Int.toNat s4)))).length),(Ur k1),(5,pI s4)] [(1368,ob0 (roI (Lr (s1 ++ [0]) (Int.toNat (w64 (s4 + 1))) (Gq (Cc (s1 ++ [0]).length (Int.toNat s4)) (Cc (s1 ++ [0]).length (Int.toNat (w64 (s4 + 1))))) (((s1 ++ [0]).drop (Int.toNat s4)).take (Cc (s1 ++ [0]).length (Int.toNat s4))))))] [(3,ow 1368 (s1 ++ [0]).length)] [(1368,.row 1 (s1 ++ [0]).length (Jq (elI (s1 ++ [0])) (Int.toNat (w64 (s4 + 1))) (Gq (Cc (s1 ++ [0]).length (Int.toNat s4)) (Cc (s1 ++ [0]).length (Int.toNat (w64 (s4 + 1))))) (shF (Int.toNat s4) (elI (s1 ++ [0])))))] (an (by omega : (0 : Int) ≤ (w64 (s4 + 1))) (an (by omega : (w64 (s4 + 1)) ≤ (((s1 ++ [0]).length : Nat) : Int)) (an (by omega : (((s1 ++ [0]).length : Nat) : Int) ≤ (((s1 ++ [0]).length : Nat) : Int)) (an (by omega : (0 : Int) ≤ s4) (an (by omega : s4 ≤ (((s1 ++ [0]).length : Nat) : Int)) (an (by omega : (((s1 ++ [0]).length : Nat) : Int) ≤ (((s1 ++ [0]).length : Nat) : Int)) (an g98 tv))))))) (by kernel_rfl) (.cons rfl (MLe.ownLen (enc := Az) (d := 0) (f := (Jq (elI (s1 ++ [0])) (Int.toNat (w64 (s4 + 1))) (Gq (Cc (s1 ++ [0]).length (Int.toNat s4)) (Cc (s1 ++ [0]).length (Int.toNat (w64 (s4 + 1))))) (shF (Int.toNat s4) (elI (s1 ++ [0]))))) (RowIs.over RowIs.elems (RowIs.sub RowIs.elems (by first | omega | (simp only [He,Rx] at *; omega))) (AbW _ _).1 (by have := (AbW (Cc (s1 ++ [0]).length (Int.toNat s4)) (Cc (s1 ++ [0]).length (Int.toNat (w64 (s4 + 1))))).2; omega))) .nil) (.cons rfl (BLe.typed (RowIs.over RowIs.elems (RowIs.sub RowIs.elems (by first | omega | (simp only [He,Rx] at *; omega))) (AbW _ _).1 (by have := (AbW (Cc (s1 ++ [0]).length (Int.toNat s4)) (Cc (s1 ++ [0]).length (Int.toNat (w64 (s4 + 1))))).2; omega))) .nil) ?_)
       generalize (Lr (s1 ++ [0]) (Int.toNat (w64 (s4 + 1))) (Gq (Cc (s1 ++ [0]).length (Int.toNat s4)) (Cc (s1 ++ [0]).length (Int.toNat (w64 (s4 + 1))))) (((s1 ++ [0]).drop (Int.toNat s4)).take (Cc (s1 ++ [0]).length (Int.toNat s4)))) = G1 at hm ⊢
       obtain ⟨g99,g100,hm⟩ := go2 hm
       refine RN hnt (nn 8 []) [(0,.p (slI p0)),(3,ow 1368 (G1.set (Int.toNat s4) (p0.getD k1 0)).length),(Ur k1)] [(1368,ob0 (roI (G1.set (Int.toNat s4) (p0.getD k1 0))))] [(3,ow 1368 G1.length)] [(1368,.row 1 G1.length (Bo (elI G1) (Int.toNat s4) [vi (p0.getD k1 0)]))] (an (nn0 k1) (an (ltc hlt1) (an g99.1 (an g99.2 (an g100 tv))))) (by kernel_rfl) (.cons rfl (MLe.ownLen (enc := Az) (d := 0) (f := (Bo (elI G1) (Int.toNat s4) [vi (p0.getD k1 0)])) (RowIs.upd RowIs.elems (p0.getD k1 0) rfl)) .nil) (.cons rfl (BLe.typed (RowIs.upd RowIs.elems (p0.getD k1 0) rfl)) .nil) ?_
       exact bD (G1.set (Int.toNat s4) (p0.getD k1 0)) hm .refl
     ·rcases bt (decide (s4 > 0)) with h91 | h91
      ·replace hm := Bc h91 hm
       obtain ⟨g92,g93,hm⟩ := go2 hm
       refine RD hnt (nn 13 (pT :: [])) [27] [(43,pB ((s1.getD (Int.toNat (w64 (s4 - 1))) 0) == (p0.getD k1 0)))] [] [] (an4 h91 (an g92.1 (an g92.2 (an h91 (an g93 (an3 h91 (an (nn0 k1) (an (ltc hlt1) (an3 h91 tv))))))))) ?_
       exact jD ((s1.getD (Int.toNat (w64 (s4 - 1))) 0) == (p0.getD k1 0)) hm Conv.eqK
      ·replace hm := Bd h91 hm
       refine RD hnt (nn 3 (sk 10 (pF :: []))) [27] [(43,pB false)] [] [] (an5 h91 (an6 h91 tv)) ?_
       exact jD false hm Conv.eqK
   ·rcases bt (decide (s4 > 0)) with h87 | h87
    ·replace hm := Bc h87 hm
     obtain ⟨g88,g89,hm⟩ := go2 hm
     refine RD hnt (nn 13 (pT :: [])) [] [(27,pB (decide ((p0.getD k1 0) < (s1.getD (Int.toNat (w64 (s4 - 1))) 0))))] [] [] (an3 h87 (an (nn0 k1) (an (ltc hlt1) (an5 h87 (an g88.1 (an g88.2 (an h87 (an g89 (an2 h87 tv))))))))) ?_
     exact jD (decide ((p0.getD k1 0) < (s1.getD (Int.toNat (w64 (s4 - 1))) 0))) hm Conv.eqK
    ·replace hm := Bd h87 hm
     refine RD hnt (nn 3 (sk 10 (pF :: []))) [] [(27,pB false)] [] [] (an5 h87 (an6 h87 tv)) ?_
     exact jD false hm Conv.eqK
 ·intro h72
  have hge1 : ¬ k1 < p0.length := by have := of_decide_eq_false h72; omega
  have hm := he1 hge1
  unfold AaH at hm
  refine DW.exit ?_
  refine Ap ?_
  refine Au ?_
  refine Aj ?_
  show DW _ _ _ _ _
  refine Sq (RK hnt (nn 2 []) [(2,ow 1368 s1.length)] [(1368,ob0 (roI s1))] tv ?_)
  obtain rfl := sj hm
  exact DW.ret (Am [roI s1] [1368] (ow 0 s1.length))
abbrev o110 (ks : List Nat) (b : Bool) (RES : List Int) (sm : List Nat := []) : Orc := .call 21 ks b (ow 0 RES.length) [] [roI RES] sm

theorem AdH (p0 : List Int) (p1 : List Int) (RES : List Int) (hm : Sr p0 p1 = some RES) : Spec Tryz.prog 56 [.p (slI p0),.p (slI p1)] [] (ow 0 RES.length) [] [roI RES] := by
 unfold Sr at hm
 refine SO Tryz.func56 rfl rfl [(0,.p (slI p0)),(1,.p (slI p1))] [] ?_
 intro cx hnt
 refine Sq (RD hnt (.no :: []) [] [] [] [] tv ?_)
 refine Sq (RD hnt (.no :: []) [] [(5,.p (.sl .nil 0 0 (fun _ => [])))] [] [] tv ?_)
 refine Sq (Sq (RD hnt (.no :: []) [] [(6,pI 0)] [] [] tv ?_))
 refine Bk ?_
 obtain ⟨hc1,hm⟩ := go1 hm
 refine DW.rangeO (fun (k1 : Nat) (s1 : List Int) => Ae [(0,.p (slI p0)),(1,.p (slI p1)),(5,ow 1208 s1.length),(6,pI ((k1 : Nat) : Int))] [(1208,ob0 (roI s1))]) 0 hm (Conv.ads [(.s 5,1208,1,elems Az 0 [])]) ?_
 intro k1 s1 n1 hk1 hs1 he1
 refine Sq (Sq (RD hnt (nn 4 []) [] [(10,pB (decide (((k1 : Nat) : Int) < ((p0.length : Nat) : Int))))] [] [] tv ?_))
 refine Ej (decide (((k1 : Nat) : Int) < ((p0.length : Nat) : Int))) ?_ ?_
 ·intro h15
  have hlt1 : k1 < p0.length := by have := of_decide_eq_true h15; omega
  have hm := hs1 hlt1
  unfold Wl at hm
  refine Sk ?_
  refine Sq ?_
  refine Jn (ι := List Int) (fun (y3 : List Int) => Ae [(0,.p (slI p0)),(1,.p (slI p1)),(5,ow 1208 y3.length),(6,pI ((k1 : Nat) : Int))] [(1208,ob0 (roI y3))]) (fun y3 => (Pj n1) y3 = some RES) ?_ ?_
  ·intro y3 hm
   unfold Pj at hm
   refine RD hnt (nn 3 []) [] [(6,pI (w64 (((k1 : Nat) : Int) + 1)))] [] [] tv ?_
   exact jD y3 ⟨hlt1,hm⟩ (Conv.tp [(6,pI (w64 (((k1 : Nat) : Int) + 1)))] [] (by kernel_rfl) (.cons rfl (.of_eq (congrArg pI (Da hlt1 hc1))) .nil) .nil)
  ·refine Bk ?_
   obtain ⟨r16,hr16,hm⟩ := bo hm
   refine Sq (RD hnt (nn 5 (o107 [] true r16 :: .no :: [])) [10] [(19,pB (!r16))] [] [] (an (nn0 k1) (an (ltc hlt1) (an (Ti p1 (p0.getD k1 0) r16 hr16) tv))) ?_)
   refine Aq hm ?_ ?_
   ·intro h17 hm
    obtain ⟨g18,hm⟩ := go1 hm
    refine RN hnt (nn 8 []) [(0,.p (slI p0)),(1,.p (slI p1)),(5,ow 1208 (s1 ++ [(p0.getD k1 0)]).length),(6,pI ((k1 : Nat) : Int))] [(1208,ob0 (roI (s1 ++ [(p0.getD k1 0)])))] [(5,ow 1208 (s1.length + 1))] [(1208,.row 1 (s1.length + 1) (Em s1.length (elI s1) (cut 1 [vi (p0.getD k1 0)])))] (an (nn0 k1) (an (ltc hlt1) (an (by omega : (s1.length + 1) * 8 ≤ 140737488355328) tv))) (by kernel_rfl) (.cons rfl (MLe.ownLen (enc := Az) (d := 0) (f := (Em s1.length (elI s1) (cut 1 [vi (p0.getD k1 0)]))) (RowIs.cat RowIs.elems (RowIs.lit (enc := Az) (d := 0) (n := 1) (f := (cut 1 [vi (p0.getD k1 0)])) [(p0.getD k1 0)] rfl (fun | 0,_ => rfl | n + 1,h => absurd h (by omega))))) .nil) (.cons rfl (BLe.typed (RowIs.cat RowIs.elems (RowIs.lit (enc := Az) (d := 0) (n := 1) (f := (cut 1 [vi (p0.getD k1 0)])) [(p0.getD k1 0)] rfl (fun | 0,_ => rfl | n + 1,h => absurd h (by omega))))) .nil) ?_
    exact bD (s1 ++ [(p0.getD k1 0)]) hm .refl
   ·intro h17 hm
    refine Sk ?_
    exact bD s1 hm Conv.t0
 ·intro h15
  have hge1 : ¬ k1 < p0.length := by have := of_decide_eq_false h15; omega
  have hm := he1 hge1
  unfold Tf at hm
  refine DW.exit ?_
  refine Ap ?_
  refine Au ?_
  refine Aj ?_
  show DW _ _ _ _ _
  refine Sq (DW.cv [] [(5,.p (slI s1))] [1208] [] (Conv.frz [1208]) ?_)
  obtain ⟨r20,hr20,hm⟩ := bo hm
  refine RK hnt (.no :: o110 [] true r20 :: .no :: []) [(4,ow 1224 r20.length)] [(1224,ob0 (roI r20))] (an (Pa s1 r20 hr20) tv) ?_
  obtain rfl := sj hm
  exact DW.ret (Am [roI r20] [1224] (ow 0 r20.length))
abbrev o109 (ks : List Nat) (b : Bool) (RES : List Int) (sm : List Nat := []) : Orc := .call 56 ks b (ow 0 RES.length) [] [roI RES] sm

theorem Yl (p0 : List Int) (p1 : List Int) (RES : Bool) (hm : Md p0 p1 = some RES) : Spec Tryz.prog 19 [.p (slI p0),.p (slI p1)] [] (pB RES) [] [] := by
 unfold Md at hm
 refine SO Tryz.func19 rfl rfl [(0,.p (slI p0)),(1,.p (slI p1))] [] ?_
 intro cx hnt
 refine Sq (RD hnt (.no :: []) [] [] [] [] tv ?_)
 obtain ⟨r1,hr1,hm⟩ := bo hm
 refine Sq (RK hnt (nn 2 (o109 [] true r1 :: nn 3 [])) [(4,pB (((r1.length : Nat) : Int) == 0))] [] (an (AdH p0 p1 r1 hr1) tv) ?_)
 obtain rfl := sj hm
 exact DW.ret (Am [] [] (pB (((r1.length : Nat) : Int) == 0)))
abbrev o108 (ks : List Nat) (b : Bool) (RES : Bool) (sm : List Nat := []) : Orc := .call 19 ks b (pB RES) [] [] sm

abbrev c1e1 (r5 : Ab × Ag) : Nat × Obj := (1032,bx (pm (Ak r5.1)))
theorem Zq (p0 : List Int) (RES : Bool) (hm : Kh p0 = some RES) : Spec Tryz.prog 3 [.p (slI p0)] [] (pB RES) [] [] := by
 unfold Kh at hm
 refine SO Tryz.func3 rfl rfl [(0,.p (slI p0))] [] ?_
 intro cx hnt
 refine Sq (RK hnt (.no :: []) [(0,.p (slI p0))] [] tv ?_)
 obtain ⟨r1,hr1,hm⟩ := bo hm
 refine Sq (Sq (RD hnt (.no :: o2 [] true r1 :: .no :: []) [] [(16,pB (!r1))] [] [] (an (AdB p0 r1 hr1) tv) ?_))
 refine Aq hm ?_ ?_
 ·intro h2 hm
  obtain ⟨r3,hr3,hm⟩ := bo hm
  refine Sq (RK hnt (o3 [] true r3 :: .no :: []) [(2,pB r3)] [] (an (Zy r3 hr3) tv) ?_)
  obtain rfl := sj hm
  exact DW.ret (Am [] [] (pB r3))
 ·intro h2 hm
  refine Sk ?_
  obtain ⟨r4,hr4,hm⟩ := bo hm
  refine Sq (RK hnt (.no :: o95 [] true r4 :: .no :: []) [(3,rr 1152)] [(1152,bx (pm (Al r4)))] (an (Aeu p0 r4 hr4) tv) ?_)
  obtain ⟨r5,hr5,hm⟩ := bo hm
  refine Sq (RK hnt (.no :: o96 [1152] true r5 :: nn 2 []) [(3,rr 1152),(4,rr 1032)] [(c1e1 r5),(1152,bx (pm (Al r5.2)))] (an (AaY r4 8 r5 hr5) (an tv tv)) ?_)
  obtain ⟨r6,hr6,hm⟩ := bo hm
  refine Sq (RD hnt (nn 2 (o102 [1152] true r6 :: .no :: [])) [] [(5,ow 1192 r6.1.length)] [] [(1152,bx (pm (Al r6.2))),(1192,ob0 (Ep r6.1))] (an (Zx r5.2 r5.1 r6 hr6) (an tv tv)) ?_)
  obtain ⟨r7,hr7,hm⟩ := bo hm
  refine Sq (RD hnt (.no :: o106 [1152] true r7 :: .no :: []) [3] [(6,ow 1208 r7.1.length)] [1152] [(1208,ob0 (roI r7.1))] (an (Aag r6.2 6 r7 hr7) (an tv tv)) ?_)
  refine Sq (DW.cv [] [(5,.p (Ax r6.1))] [1192] [] (Conv.frz [1192]) ?_)
  refine DW.cv [] [(6,.p (slI r7.1))] [1208] [] (Conv.frz [1208]) ?_
  obtain ⟨r10,hr10,hm⟩ := bo hm
  refine RD hnt (nn 3 (o94 [] true r10 :: .no :: [])) [] [(7,ow 1240 r10.length)] [] [(1240,ob0 (roI r10))] (an (Rw r5.1 r6.1 r7.1 r10 hr10) tv) ?_
  obtain ⟨r11,hr11,hm⟩ := bo hm
  obtain ⟨g12,hm⟩ := go1 hm
  refine Sq (RN hnt (nn 3 (o23 [] true r11 :: nn 2 [])) [(4,rr 1032),(5,.p (Ax r6.1)),(6,.p (slI r7.1)),(7,ow 1240 r10.length),(8,ow 1280 r11.length)] [(c1e1 r5),(1240,ob0 (roI r10)),(1280,ob0 (roI r11))] [] [(1280,.row 1 r11.length (elI r11))] (an (Du r5.1 r6.1 r7.1 1 r11 hr11) (an (by omega : r11.length * 8 ≤ 140737488355328) tv)) (by kernel_rfl) .nil (.cons rfl (BLe.typed RowIs.elems) .nil) ?_)
  refine Sq (Sq (RD hnt (nn 3 []) [] [(36,ow 1240 r10.length),(37,pI ((r10.length : Nat) : Int)),(38,pI 0)] [] [] tv ?_))
  refine Bk ?_
  obtain ⟨hc1,hm⟩ := go1 hm
  refine DW.rangeO (fun (k1 : Nat) (s1 : List Int) => Ae [(4,rr 1032),(5,.p (Ax r6.1)),(6,.p (slI r7.1)),(7,ow 1240 r10.length),(8,ow 1280 s1.length),(36,ow 1240 r10.length),(37,pI ((r10.length : Nat) : Int)),(38,pI ((k1 : Nat) : Int))] [(c1e1 r5),(1240,ob0 (roI r10)),(1280,ob0 (roI s1))]) 0 hm Conv.eqK ?_
  intro k1 s1 n1 hk1 hs1 he1
  refine Sq (RD hnt (.no :: []) [] [(39,pB (decide (((k1 : Nat) : Int) < ((r10.length : Nat) : Int))))] [] [] tv ?_)
  refine Sq (Ej (decide (((k1 : Nat) : Int) < ((r10.length : Nat) : Int))) ?_ ?_)
  ·intro h61
   have hlt1 : k1 < r10.length := by have := of_decide_eq_true h61; omega
   have hm := hs1 hlt1
   unfold Oy at hm
   refine Sk ?_
   refine Sq (Bk ?_)
   refine Sq (RD hnt (nn 3 []) [39] [(10,pI (r10.getD k1 0))] [] [] (an (nn0 k1) (an (ltc hlt1) (an (by omega : k1 < r10.length) tv))) ?_)
   obtain ⟨r62,hr62,hm⟩ := bo hm
   refine Sq (RD hnt (nn 2 (o11 [] true r62 :: nn 6 [])) [] [(11,rr 1088),(12,pB r62.2)] [] [(1088,bx (pm (Ca r62.1)))] (an (AaL r5.1 (r10.getD k1 0) r62 hr62) tv) ?_)
   obtain ⟨r63,hr63,hm⟩ := bo hm
   refine Sq (RD hnt (nn 2 (o17 [] true r63 :: nn 2 [])) [] [(13,rr 1104)] [] [(1104,bx [pI r63.pidsMax,pI r63.weight,pI r63.quota,pI r63.period,pI r63.burst,pI r63.clampMin,pI r63.clampMax,ow 1400 r63.cpus.length,ow 1401 r63.mems.length,pI r63.partition,pI r63.memory.min,pI r63.memory.low,pI r63.memory.high,pI r63.memory.max,pI r63.memory.swapMax,pB r63.memory.together,ow 1402 r63.devices.length]),(1400,ob0 (roI r63.cpus)),(1401,ob0 (roI r63.mems)),(1402,ob0 (Af r63.devices))] (an (Aen r6.1 (r10.getD k1 0) r63 hr63) tv) ?_)
   refine Sq (Sq ?_)
   refine Jn (ι := Bool) (fun (y5 : Bool) => Ae [(4,rr 1032),(5,.p (Ax r6.1)),(6,.p (slI r7.1)),(7,ow 1240 r10.length),(8,ow 1280 s1.length),(10,pI (r10.getD k1 0)),(36,ow 1240 r10.length),(37,pI ((r10.length : Nat) : Int)),(38,pI ((k1 : Nat) : Int)),(80,pB y5)] [(c1e1 r5),(1240,ob0 (roI r10)),(1280,ob0 (roI s1))]) (fun y5 => (Dw r5 r6 r7 (r10.getD k1 0) s1 n1) y5 = some RES) ?_ ?_
   ·intro y5 hm
    unfold Dw at hm
    refine Aq hm ?_ ?_
    ·intro h74 hm
     refine Sq (RK hnt (.no :: []) [(2,pB false)] [] tv ?_)
     obtain rfl := sj hm
     exact DW.ret (Am [] [] (pB false))
    ·intro h74 hm
     refine Sk ?_
     obtain ⟨r75,hr75,hm⟩ := bo hm
     obtain ⟨g76,hm⟩ := go1 hm
     refine RN hnt (nn 5 (o23 [] true r75 :: nn 2 [])) [(4,rr 1032),(5,.p (Ax r6.1)),(6,.p (slI r7.1)),(7,ow 1240 r10.length),(8,ow 1280 (s1 ++ r75).length),(36,ow 1240 r10.length),(37,pI ((r10.length : Nat) : Int)),(38,pI ((k1 : Nat) : Int))] [(c1e1 r5),(1240,ob0 (roI r10)),(1280,ob0 (roI (s1 ++ r75)))] [(8,ow 1280 (s1.length + r75.length))] [(1280,.row 1 (s1.length + r75.length) (Em s1.length (elI s1) (elI r75)))] (an (Du r5.1 r6.1 r7.1 (r10.getD k1 0) r75 hr75) (an (by omega : (s1.length + r75.length) * 8 ≤ 140737488355328) tv)) (by kernel_rfl) (.cons rfl (MLe.ownLen (enc := Az) (d := 0) (f := (Em s1.length (elI s1) (elI r75))) (RowIs.cat RowIs.elems RowIs.elems)) .nil) (.cons rfl (BLe.typed (RowIs.cat RowIs.elems RowIs.elems)) .nil) ?_
     refine DW.done ?_
     show DW _ _ _ _ _
     refine RD hnt (nn 2 []) [] [(38,pI (w64 (((k1 : Nat) : Int) + 1)))] [] [] tv ?_
     exact jD (s1 ++ r75) ⟨hlt1,hm⟩ (Conv.tp [(38,pI (w64 (((k1 : Nat) : Int) + 1)))] [] (by kernel_rfl) (.cons rfl (.of_eq (congrArg pI (Da hlt1 hc1))) .nil) .nil)
   ·rcases bt (!r62.2) with h64 | h64
    ·replace hm := Bc h64 hm
     refine RD hnt (nn 3 (sk 10 (pT :: .no :: sk 3 (pT :: .no :: sk 9 (pT :: []))))) [11,12,13] [(80,pB true)] [1088,1104,1400,1401,1402] [] (an6 h64 (an2 tt (an6 tt (an6 tt tv)))) ?_
     exact jD true hm Conv.eqK
    ·replace hm := Bd h64 hm
     rcases bt (r62.1.parent != 1) with h65 | h65
     ·replace hm := Bc h65 hm
      obtain ⟨r66,hr66,hm⟩ := bo hm
      rcases bt (!r66) with h67 | h67
      ·replace hm := Bc h67 hm
       refine RD hnt (nn 10 (o107 [] true r66 :: .no :: pT :: pF :: .no :: sk 3 (pT :: .no :: sk 9 (pT :: [])))) [11,12,13] [(80,pB true)] [1088,1104,1400,1401,1402] [] (an4 h64 (an4 h65 (an (Ti r10 r62.1.parent r66 hr66) (an h65 (an h64 (an h65 (an h64 (an4 h67 (an4 tt (an6 tt tv)))))))))) ?_
       exact jD true hm Conv.eqK
      ·replace hm := Bd h67 hm
       rcases bt (r63.partition != 1) with h68 | h68
       ·replace hm := Bc h68 hm
        refine RD hnt (nn 10 (o107 [] true r66 :: .no :: pT :: pF :: nn 4 (pF :: .no :: sk 9 (pT :: [])))) [11,12,13] [(80,pB true)] [1088,1104,1400,1401,1402] [] (an4 h64 (an4 h65 (an (Ti r10 r62.1.parent r66 hr66) (an h65 (an h64 (an h65 (an h64 (an4 h67 (an4 h68 (an6 h68 tv)))))))))) ?_
        exact jD true hm Conv.eqK
       ·replace hm := Bd h68 hm
        obtain ⟨r69,hr69,hm⟩ := bo hm
        obtain ⟨r70,hr70,hm⟩ := bo hm
        refine RD hnt (nn 10 (o107 [] true r66 :: .no :: pT :: pF :: nn 4 (pF :: nn 5 (o23 [] true r69 :: nn 2 (o108 [] true r70 :: .no :: pF :: []))))) [11,12,13] [(80,pB (!r70))] [1088,1104,1400,1401,1402] [] (an4 h64 (an4 h65 (an (Ti r10 r62.1.parent r66 hr66) (an h65 (an h64 (an h65 (an h64 (an4 h67 (an5 h68 (an (Du r5.1 r6.1 r7.1 (r10.getD k1 0) r69 hr69) (an3 h68 (an (Yl r69 r63.cpus r70 hr70) (an2 h68 tv))))))))))))) ?_
        exact jD (!r70) hm Conv.eqK
     ·replace hm := Bd h65 hm
      rcases bt (r63.partition != 1) with h71 | h71
      ·replace hm := Bc h71 hm
       refine RD hnt (nn 7 (sk 5 (pF :: pF :: nn 4 (pF :: .no :: sk 9 (pT :: []))))) [11,12,13] [(80,pB true)] [1088,1104,1400,1401,1402] [] (an4 h64 (an5 h65 (an h64 (an h65 (an h64 (an4 ff (an4 h71 (an6 h71 tv)))))))) ?_
       exact jD true hm Conv.eqK
      ·replace hm := Bd h71 hm
       obtain ⟨r72,hr72,hm⟩ := bo hm
       obtain ⟨r73,hr73,hm⟩ := bo hm
       refine RD hnt (nn 7 (sk 5 (pF :: pF :: nn 4 (pF :: nn 5 (o23 [] true r72 :: nn 2 (o108 [] true r73 :: .no :: pF :: [])))))) [11,12,13] [(80,pB (!r73))] [1088,1104,1400,1401,1402] [] (an4 h64 (an5 h65 (an h64 (an h65 (an h64 (an4 ff (an5 h71 (an (Du r5.1 r6.1 r7.1 (r10.getD k1 0) r72 hr72) (an3 h71 (an (Yl r72 r63.cpus r73 hr73) (an2 h71 tv))))))))))) ?_
       exact jD (!r73) hm Conv.eqK
  ·intro h61
   have hge1 : ¬ k1 < r10.length := by have := of_decide_eq_false h61; omega
   have hm := he1 hge1
   unfold Ou at hm
   refine DW.exit ?_
   refine Ap ?_
   refine Au ?_
   refine Aj ?_
   show DW _ _ _ _ _
   refine Sq (DW.cv [] [(8,.p (slI s1))] [1280] [] (Conv.frz [1280]) ?_)
   obtain ⟨r78,hr78,hm⟩ := bo hm
   obtain ⟨r79,hr79,hm⟩ := bo hm
   refine Jn (ι := Bool) (fun (y6 : Bool) => Ae [(2,pB y6)] []) (fun y6 => Hs y6 = some RES) ?_ ?_
   ·intro y6 hm
    unfold Hs at hm
    obtain rfl := sj hm
    exact DW.ret (Am [] [] (pB y6))
   ·rcases bt r79 with h80 | h80
    ·replace hm := Bc h80 hm
     rcases bt (((s1.length : Nat) : Int) == ((r7.1.length : Nat) : Int)) with h81 | h81
     ·replace hm := Bc h81 hm
      obtain ⟨r82,hr82,hm⟩ := bo hm
      refine RK hnt (.no :: o110 [] true r78 :: .no :: o92 [] true r79 :: nn 6 (pT :: .no :: o3 [] true r82 :: pT :: .no :: [])) [(2,pB r82)] [] (an (Pa s1 r78 hr78) (an (Fs r78 r7.1 r79 hr79) (an6 h80 (an h81 (an (Zy r82 hr82) (an h81 tv)))))) ?_
      exact jD r82 hm .refl
     ·replace hm := Bd h81 hm
      refine RK hnt (.no :: o110 [] true r78 :: .no :: o92 [] true r79 :: nn 6 (pT :: .no :: .skip :: pF :: .no :: [])) [(2,pB false)] [] (an (Pa s1 r78 hr78) (an (Fs r78 r7.1 r79 hr79) (an6 h80 (an2 h81 tv)))) ?_
      exact jD false hm .refl
    ·replace hm := Bd h80 hm
     refine RK hnt (.no :: o110 [] true r78 :: .no :: o92 [] true r79 :: .no :: sk 5 (pF :: .no :: .skip :: pF :: .no :: [])) [(2,pB false)] [] (an (Pa s1 r78 hr78) (an (Fs r78 r7.1 r79 hr79) (an6 h80 (an2 ff tv)))) ?_
     exact jD false hm .refl
abbrev o1 (ks : List Nat) (b : Bool) (RES : Bool) (sm : List Nat := []) : Orc := .call 3 ks b (pB RES) [] [] sm
end Go.Dm

