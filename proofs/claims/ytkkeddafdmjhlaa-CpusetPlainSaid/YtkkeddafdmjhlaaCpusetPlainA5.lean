/- Go functions compute their models, printed by a program. -/
import Derived.Test.YtkkeddafdmjhlaaCpusetPlainA4
set_option linter.unusedVariables false
set_option linter.unusedSimpArgs false
namespace Go.Dm
open Go.Proofs
set_option linter.unusedVariables false
abbrev c3e1 (r5 : List Ab) := (Bn (Zp r5) 1 [vi (r5.getD 1 Bc).group,vi (r5.getD 1 Bc).settings.pidsMax,vi (r5.getD 1 Bc).settings.weight,vi (r5.getD 1 Bc).settings.quota,vi (r5.getD 1 Bc).settings.period,vi (r5.getD 1 Bc).settings.burst,vi (r5.getD 1 Bc).settings.clampMin,vi (r5.getD 1 Bc).settings.clampMax,slI [2,3],slI (r5.getD 1 Bc).settings.mems,vi (r5.getD 1 Bc).settings.partition,vi (r5.getD 1 Bc).settings.memory.min,vi (r5.getD 1 Bc).settings.memory.low,vi (r5.getD 1 Bc).settings.memory.high,vi (r5.getD 1 Bc).settings.memory.max,vi (r5.getD 1 Bc).settings.memory.swapMax,vb (r5.getD 1 Bc).settings.memory.together,Dp (r5.getD 1 Bc).settings.devices])
abbrev c3e2 (r5 : List Ab) := ({ group := (r5.getD 1 Bc).group,settings := ({ pidsMax := (r5.getD 1 Bc).settings.pidsMax,weight := (r5.getD 1 Bc).settings.weight,quota := (r5.getD 1 Bc).settings.quota,period := (r5.getD 1 Bc).settings.period,burst := (r5.getD 1 Bc).settings.burst,clampMin := (r5.getD 1 Bc).settings.clampMin,clampMax := (r5.getD 1 Bc).settings.clampMax,cpus := [2,3],mems := (r5.getD 1 Bc).settings.mems,partition := (r5.getD 1 Bc).settings.partition,memory := (r5.getD 1 Bc).settings.memory,devices := (r5.getD 1 Bc).settings.devices } : As) } : Ab)
abbrev c3e3 (r10 : List Ab) := ({ group := (r10.getD 1 Bc).group,settings := ({ pidsMax := (r10.getD 1 Bc).settings.pidsMax,weight := (r10.getD 1 Bc).settings.weight,quota := (r10.getD 1 Bc).settings.quota,period := (r10.getD 1 Bc).settings.period,burst := (r10.getD 1 Bc).settings.burst,clampMin := (r10.getD 1 Bc).settings.clampMin,clampMax := (r10.getD 1 Bc).settings.clampMax,cpus := (r10.getD 1 Bc).settings.cpus,mems := (r10.getD 1 Bc).settings.mems,partition := 1,memory := (r10.getD 1 Bc).settings.memory,devices := (r10.getD 1 Bc).settings.devices } : As) } : Ab)
theorem Za (RES : Bool) (hm : Nc = some RES) : Spec Try.prog 5 [] [] (pB RES) [] [] := by
 unfold Nc at hm
 refine SO Try.func5 rfl rfl [] [] ?_
 intro cx hnt
 refine Sq (RK hnt (.no :: []) [] [] tv ?_)
 obtain ⟨r1,hr1,hm⟩ := bo hm
 obtain ⟨r2,hr2,hm⟩ := bo hm
 refine Sq (RK hnt (o4 [] true r1 :: o5 [] true r2 :: nn 8 []) [(1,rr 1008),(2,pI r2.2.1)] [(1008,bx [ow 1080 r2.1.nodes.length,pI r2.1.next]),(1080,ob0 (Cq r2.1.nodes))] (an (Abd r1 hr1) (an (Wc r1 1 (bs [97]) r2 hr2) (an ((fun _ => rfl) : ∀ i,((Ub r2.1.nodes) i).all PV.flat = true) tv))) ?_)
 obtain ⟨r3,hr3,hm⟩ := bo hm
 refine Sq (RD hnt (.no :: o5 [] true r3 :: nn 7 []) [] [(4,pI r3.2.1)] [1080] [(1008,bx [ow 1128 r3.1.nodes.length,pI r3.1.next]),(1128,ob0 (Cq r3.1.nodes))] (an (Wc r2.1 1 (bs [98]) r3 hr3) (an ((fun _ => rfl) : ∀ i,((Ub r3.1.nodes) i).all PV.flat = true) tv)) ?_)
 refine Sq (DW.cv [] [] [1128] [(1008,bx (pm (Am r3.1)))] (Conv.frz [1128]) ?_)
 obtain ⟨r5,hr5,hm⟩ := bo hm
 refine RD hnt (.no :: o15 [] true r5 :: .no :: []) [] [(6,ow 1168 r5.length)] [] [(1168,ob0 (Du r5))] (an (Aae r3.1 r5 hr5) tv) ?_
 obtain ⟨g8,g9,hm⟩ := go2 hm
 obtain ⟨r10,hr10,hm⟩ := bo hm
 obtain ⟨g11,g12,hm⟩ := go2 hm
 obtain ⟨r13,hr13,hm⟩ := bo hm
 refine Sq (RN hnt (nn 2 (.frz 2 (elems Bb 0 [2,3]) :: nn 8 [])) [(1,rr 1008),(2,pI r2.2.1),(4,pI r3.2.1),(6,ow 1168 r13.length)] [(1008,bx (pm (Am r3.1))),(1168,ob0 (Du r13))] [(6,ow 1168 r5.length)] [(1168,.row 18 r5.length (Bn (c3e1 r5) 1 (setRange ((c3e1 r5) 1) 10 [vi 1])))] (an ((RowIs.asP (enc := Bb) (d := 0) (L := [2,3]) (RowIs.lit (enc := Bb) (d := 0) (n := 2) (f := (cut 1 [vi 2,vi 3])) [2,3] rfl (fun | 0,_ => rfl | 1,_ => rfl | n + 2,h => absurd h (by omega)))) : 2 = 2 ∧ ∀ i,i < 2 → (cut 1 [vi 2,vi 3]) i = (elems Bb 0 [2,3]) i) (an (nn0 1) (an (ltc g8) (an g9 (an (nn0 1) (an (ltc g11) (an g12 tv))))))) (by kernel_rfl) (.cons rfl (MLe.ownLen (enc := Hy) (d := Bc) (f := (Bn (c3e1 r5) 1 (setRange ((c3e1 r5) 1) 10 [vi 1]))) (RowIs.named hr13 (RowIs.updR (RowIs.named hr10 (RowIs.upd RowIs.elems (c3e2 r5) rfl)) (by omega) (c3e3 r10) rfl))) .nil) (.cons rfl (BLe.typed (RowIs.named hr13 (RowIs.updR (RowIs.named hr10 (RowIs.upd RowIs.elems (c3e2 r5) rfl)) (by omega) (c3e3 r10) rfl))) .nil) ?_)
 refine Sq (RN hnt (nn 2 []) [(1,rr 1008),(2,pI r2.2.1),(4,pI r3.2.1),(6,ow 1168 r13.length),(7,ow 1248 [0,1,2,3].length)] [(1008,bx (pm (Am r3.1))),(1168,ob0 (Du r13)),(1248,ob0 (roI [0,1,2,3]))] [(7,ow 1248 4)] [(1248,.row 1 4 (cut 1 [vi 0,vi 1,vi 2,vi 3]))] tv (by kernel_rfl) (.cons rfl (MLe.ownLen (enc := Bb) (d := 0) (f := (cut 1 [vi 0,vi 1,vi 2,vi 3])) (RowIs.lit (enc := Bb) (d := 0) (n := 4) (f := (cut 1 [vi 0,vi 1,vi 2,vi 3])) [0,1,2,3] rfl (fun | 0,_ => rfl | 1,_ => rfl | 2,_ => rfl | 3,_ => rfl | n + 4,h => absurd h (by omega)))) .nil) (.cons rfl (BLe.typed (RowIs.lit (enc := Bb) (d := 0) (n := 4) (f := (cut 1 [vi 0,vi 1,vi 2,vi 3])) [0,1,2,3] rfl (fun | 0,_ => rfl | 1,_ => rfl | 2,_ => rfl | 3,_ => rfl | n + 4,h => absurd h (by omega)))) .nil) ?_)
 obtain ⟨r14,hr14,hm⟩ := bo hm
 obtain ⟨r15,hr15,hm⟩ := bo hm
 refine Sq ?_
 refine Jn (ι := Bool) (fun (y1 : Bool) => Ae [(0,pB y1)] []) (fun y1 => Kz y1 = some RES) ?_ ?_
 ·intro y1 hm
  unfold Kz at hm
  obtain rfl := sj hm
  exact DW.ret (Ak [] [] (pB y1))
 ·rcases bt r15 with h16 | h16
  ·replace hm := Bf h16 hm
   obtain ⟨r17,hr17,hm⟩ := bo hm
   obtain ⟨r18,hr18,hm⟩ := bo hm
   rcases bt r18 with h19 | h19
   ·replace hm := Bf h19 hm
    obtain ⟨r20,hr20,hm⟩ := bo hm
    obtain ⟨r21,hr21,hm⟩ := bo hm
    rcases bt r21 with h22 | h22
    ·replace hm := Bf h22 hm
     obtain ⟨r23,hr23,hm⟩ := bo hm
     refine RK hnt (nn 4 (o23 [] true r14 :: .no :: o92 [] true r15 :: nn 5 (o23 [] true r17 :: .no :: o92 [] true r18 :: pT :: nn 4 (o23 [] true r20 :: .no :: o92 [] true r21 :: pT :: nn 5 (o93 [] true r23 :: pT :: .no :: []))))) [(0,pB r23)] [] (an (Ec r3.1 r13 [0,1,2,3] r2.2.1 r14 hr14) (an ((fun _ => rfl) : ∀ i,((elI r14) i).all PV.flat = true) (an (Spec.args (xs := [.p (slI r14),.p (.sl .unk 1 2 (cut 1 [vi 2,vi 3]))]) (Fz r14 [2,3] r15 hr15) (.cons .rfl (.cons (.p (PLe.typed (RowIs.lit (enc := Bb) (d := 0) (n := 2) (f := (cut 1 [vi 2,vi 3])) [2,3] rfl (fun | 0,_ => rfl | 1,_ => rfl | n + 2,h => absurd h (by omega))))) .nil))) (an5 h16 (an (Ec r3.1 r13 [0,1,2,3] r3.2.1 r17 hr17) (an ((fun _ => rfl) : ∀ i,((elI r17) i).all PV.flat = true) (an2 h16 (an (Spec.args (xs := [.p (slI r17),.p (.sl .unk 1 2 (cut 1 [vi 0,vi 1]))]) (Fz r17 [0,1] r18 hr18) (.cons .rfl (.cons (.p (PLe.typed (RowIs.lit (enc := Bb) (d := 0) (n := 2) (f := (cut 1 [vi 0,vi 1])) [0,1] rfl (fun | 0,_ => rfl | 1,_ => rfl | n + 2,h => absurd h (by omega))))) .nil))) (an h16 (an4 h19 (an (Ec r3.1 r13 [0,1,2,3] 1 r20 hr20) (an ((fun _ => rfl) : ∀ i,((elI r20) i).all PV.flat = true) (an2 h19 (an (Spec.args (xs := [.p (slI r20),.p (.sl .unk 1 2 (cut 1 [vi 0,vi 1]))]) (Fz r20 [0,1] r21 hr21) (.cons .rfl (.cons (.p (PLe.typed (RowIs.lit (enc := Bb) (d := 0) (n := 2) (f := (cut 1 [vi 0,vi 1])) [0,1] rfl (fun | 0,_ => rfl | 1,_ => rfl | n + 2,h => absurd h (by omega))))) .nil))) (an h19 (an5 h22 (an (Zs r3.1 r13 [0,1,2,3] r2.2.1 r23 hr23) (an h22 tv)))))))))))))))))) ?_
     exact jD r23 hm .refl
    ·replace hm := Bg h22 hm
     refine RK hnt (nn 4 (o23 [] true r14 :: .no :: o92 [] true r15 :: nn 5 (o23 [] true r17 :: .no :: o92 [] true r18 :: pT :: nn 4 (o23 [] true r20 :: .no :: o92 [] true r21 :: pT :: .no :: sk 5 (pF :: .no :: []))))) [(0,pB false)] [] (an (Ec r3.1 r13 [0,1,2,3] r2.2.1 r14 hr14) (an ((fun _ => rfl) : ∀ i,((elI r14) i).all PV.flat = true) (an (Spec.args (xs := [.p (slI r14),.p (.sl .unk 1 2 (cut 1 [vi 2,vi 3]))]) (Fz r14 [2,3] r15 hr15) (.cons .rfl (.cons (.p (PLe.typed (RowIs.lit (enc := Bb) (d := 0) (n := 2) (f := (cut 1 [vi 2,vi 3])) [2,3] rfl (fun | 0,_ => rfl | 1,_ => rfl | n + 2,h => absurd h (by omega))))) .nil))) (an5 h16 (an (Ec r3.1 r13 [0,1,2,3] r3.2.1 r17 hr17) (an ((fun _ => rfl) : ∀ i,((elI r17) i).all PV.flat = true) (an2 h16 (an (Spec.args (xs := [.p (slI r17),.p (.sl .unk 1 2 (cut 1 [vi 0,vi 1]))]) (Fz r17 [0,1] r18 hr18) (.cons .rfl (.cons (.p (PLe.typed (RowIs.lit (enc := Bb) (d := 0) (n := 2) (f := (cut 1 [vi 0,vi 1])) [0,1] rfl (fun | 0,_ => rfl | 1,_ => rfl | n + 2,h => absurd h (by omega))))) .nil))) (an h16 (an4 h19 (an (Ec r3.1 r13 [0,1,2,3] 1 r20 hr20) (an ((fun _ => rfl) : ∀ i,((elI r20) i).all PV.flat = true) (an2 h19 (an (Spec.args (xs := [.p (slI r20),.p (.sl .unk 1 2 (cut 1 [vi 0,vi 1]))]) (Fz r20 [0,1] r21 hr21) (.cons .rfl (.cons (.p (PLe.typed (RowIs.lit (enc := Bb) (d := 0) (n := 2) (f := (cut 1 [vi 0,vi 1])) [0,1] rfl (fun | 0,_ => rfl | 1,_ => rfl | n + 2,h => absurd h (by omega))))) .nil))) (an h19 (an6 h22 tv)))))))))))))))) ?_
     exact jD false hm .refl
   ·replace hm := Bg h19 hm
    refine RK hnt (nn 4 (o23 [] true r14 :: .no :: o92 [] true r15 :: nn 5 (o23 [] true r17 :: .no :: o92 [] true r18 :: pT :: .no :: sk 6 (pF :: .no :: sk 5 (pF :: .no :: []))))) [(0,pB false)] [] (an (Ec r3.1 r13 [0,1,2,3] r2.2.1 r14 hr14) (an ((fun _ => rfl) : ∀ i,((elI r14) i).all PV.flat = true) (an (Spec.args (xs := [.p (slI r14),.p (.sl .unk 1 2 (cut 1 [vi 2,vi 3]))]) (Fz r14 [2,3] r15 hr15) (.cons .rfl (.cons (.p (PLe.typed (RowIs.lit (enc := Bb) (d := 0) (n := 2) (f := (cut 1 [vi 2,vi 3])) [2,3] rfl (fun | 0,_ => rfl | 1,_ => rfl | n + 2,h => absurd h (by omega))))) .nil))) (an5 h16 (an (Ec r3.1 r13 [0,1,2,3] r3.2.1 r17 hr17) (an ((fun _ => rfl) : ∀ i,((elI r17) i).all PV.flat = true) (an2 h16 (an (Spec.args (xs := [.p (slI r17),.p (.sl .unk 1 2 (cut 1 [vi 0,vi 1]))]) (Fz r17 [0,1] r18 hr18) (.cons .rfl (.cons (.p (PLe.typed (RowIs.lit (enc := Bb) (d := 0) (n := 2) (f := (cut 1 [vi 0,vi 1])) [0,1] rfl (fun | 0,_ => rfl | 1,_ => rfl | n + 2,h => absurd h (by omega))))) .nil))) (an h16 (an h19 (an6 h19 (an6 ff tv)))))))))))) ?_
    exact jD false hm .refl
  ·replace hm := Bg h16 hm
   refine RK hnt (nn 4 (o23 [] true r14 :: .no :: o92 [] true r15 :: .no :: sk 7 (pF :: .no :: sk 6 (pF :: .no :: sk 5 (pF :: .no :: []))))) [(0,pB false)] [] (an (Ec r3.1 r13 [0,1,2,3] r2.2.1 r14 hr14) (an ((fun _ => rfl) : ∀ i,((elI r14) i).all PV.flat = true) (an (Spec.args (xs := [.p (slI r14),.p (.sl .unk 1 2 (cut 1 [vi 2,vi 3]))]) (Fz r14 [2,3] r15 hr15) (.cons .rfl (.cons (.p (PLe.typed (RowIs.lit (enc := Bb) (d := 0) (n := 2) (f := (cut 1 [vi 2,vi 3])) [2,3] rfl (fun | 0,_ => rfl | 1,_ => rfl | n + 2,h => absurd h (by omega))))) .nil))) (an2 h16 (an6 h16 (an ff (an6 ff (an6 ff tv)))))))) ?_
   exact jD false hm .refl
abbrev o3 (ks : List Nat) (b : Bool) (RES : Bool) (sm : List Nat := []) : Orc := .call 5 ks b (pB RES) [] [] sm

theorem AdZ (p0 : List Int) (RES : Aw) (hm : AaJ p0 = some RES) : Spec Try.prog 6 [.p (slI p0)] [] (rr 0) [] [.box (pm (Au RES))] := by
 unfold AaJ at hm
 refine SO Try.func6 rfl rfl [(0,.p (slI p0))] [] ?_
 intro cx hnt
 refine Sq (RK hnt (.no :: []) [(0,.p (slI p0))] [] tv ?_)
 refine Sq (RK hnt (nn 4 []) [(2,rr 1040)] [(1040,bx [.p (slI p0),pI 0])] tv ?_)
 obtain rfl := sj hm
 exact DW.ret (Ak [.box [.p (slI p0),pI 0]] [1040] (rr 0))
abbrev o95 (ks : List Nat) (b : Bool) (RES : Aw) (sm : List Nat := []) : Orc := .call 6 ks b (rr 0) [] [.box (pm (Au RES))] sm

abbrev c97e1 (p0 : Aw) := (p0.l.getD (Int.toNat (w64 ((w64 (p0.atF + 1)) - 1))) 0)
theorem Jl (p0 : Aw) (p1 : Int) (RES : Int × Aw) (hm : Gd p0 p1 = some RES) : Spec Try.prog 19 [rr 0,pI p1] [.box (pm (Au p0))] (pI RES.1) [.box (pm (Au RES.2))] [] := by
 unfold Gd at hm
 refine SO Try.func19 rfl rfl [(0,rr 0),(1,pI p1)] [(0,bx (pm (Au p0)))] ?_
 intro cx hnt
 refine Sq (RD hnt (.no :: []) [] [] [] [] tv ?_)
 refine Sq (Sq (DW.regJ (sl2 := [(0,rr 0),(1,pI p1),(19,pB ((decide (p0.atF ≥ ((p0.l.length : Nat) : Int))) || (decide (p1 < 1))))]) (ob2 := [(0,bx (pm (Au p0)))]) ?_ ?_))
 ·rcases bt (decide (p0.atF ≥ ((p0.l.length : Nat) : Int))) with h1 | h1
  ·exact RT hnt (nn 11 (sk 2 (pT :: []))) [(19,pB true)] (an3 h1 tv) (by kernel_rfl) (.cons rfl (.of_eq (by rw [h1]; try rfl)) .nil)
  ·exact RT hnt (nn 13 (pF :: [])) [(19,pB (decide (p1 < 1)))] (an3 h1 tv) (by kernel_rfl) (.cons rfl (.of_eq (by rw [h1]; try rfl)) .nil)
 ·refine An hm ?_ ?_
  ·intro h2 hm
   refine Sq (RD hnt (.no :: []) [0,1,19] [(4,pI 0)] [] [] tv ?_)
   obtain rfl := sj hm
   exact DW.ret (Ak [.box (pm (Au p0))] [] (pI 0))
  ·intro h2 hm
   refine Sk ?_
   refine Sq (RD hnt (nn 8 []) [19] [] [] [(0,bx [.p (slI p0.l),pI (w64 (p0.atF + 1))])] tv ?_)
   obtain ⟨g3,g4,hm⟩ := go2 hm
   refine Sq (RD hnt (nn 14 []) [0] [(5,pI (Int.tmod (c97e1 p0) p1))] [] [] (an g3.1 (an g3.2 (an g4 tv))) ?_)
   refine Sq (Sq (RD hnt (nn 2 []) [] [(41,pB (decide ((Int.tmod (c97e1 p0) p1) < 0)))] [] [] tv ?_))
   refine Jn (ι := Int) (fun (y1 : Int) => Ae [(5,pI y1)] [(0,bx [.p (slI p0.l),pI (w64 (p0.atF + 1))])]) (fun y1 => (Ks p0) y1 = some RES) ?_ ?_
   ·intro y1 hm
    unfold Ks at hm
    refine Sq (RD hnt (nn 2 []) [5] [(4,pI y1)] [] [] tv ?_)
    obtain rfl := sj hm
    exact DW.ret (Ak [.box [.p (slI p0.l),pI (w64 (p0.atF + 1))]] [] (pI y1))
   ·refine An hm ?_ ?_
    ·intro h5 hm
     refine RD hnt (nn 4 []) [1,41] [(5,pI (w64 ((Int.tmod (c97e1 p0) p1) + p1)))] [] [] tv ?_
     exact jD (w64 ((Int.tmod (c97e1 p0) p1) + p1)) hm Conv.eqK
    ·intro h5 hm
     refine Sk ?_
     exact jD (Int.tmod (c97e1 p0) p1) hm Conv.t0
abbrev o97 (ks : List Nat) (b : Bool) (RES : Int × Aw) (sm : List Nat := []) : Orc := .call 19 ks b (pI RES.1) [.box (pm (Au RES.2))] [] sm

theorem Aaq (p0 : Aw) (RES : ByteArray × Aw) (hm : Mj p0 = some RES) : Spec Try.prog 20 [rr 0] [.box (pm (Au p0))] (pS RES.1) [.box (pm (Au RES.2))] [] := by
 unfold Mj at hm
 refine SO Try.func20 rfl rfl [(0,rr 0)] [(0,bx (pm (Au p0)))] ?_
 intro cx hnt
 refine Sq (RD hnt (.no :: []) [] [] [] [] tv ?_)
 obtain ⟨r3,hr3,hm⟩ := bo hm
 obtain ⟨g4,g5,hm⟩ := go2 hm
 refine Sq (RK hnt (.asR (ow 1024 [(bs [97]),(bs [98]),(bs [99]),(bs [119,101,98]),(bs [100,98,45,49]),(bs [88,95,57])].length) [(bs [97]),(bs [98]),(bs [99]),(bs [119,101,98]),(bs [100,98,45,49]),(bs [88,95,57])].length (elems encS ByteArray.empty [(bs [97]),(bs [98]),(bs [99]),(bs [119,101,98]),(bs [100,98,45,49]),(bs [88,95,57])]) :: .no :: o97 [0] true r3 :: nn 3 []) [(2,pS ([(bs [97]),(bs [98]),(bs [99]),(bs [119,101,98]),(bs [100,98,45,49]),(bs [88,95,57])].getD (Int.toNat r3.1) ByteArray.empty))] [(0,bx (pm (Au r3.2)))] (an (congrArg (MV.own 1024 0 0) (RowIs.asP (enc := encS) (d := ByteArray.empty) (L := [(bs [97]),(bs [98]),(bs [99]),(bs [119,101,98]),(bs [100,98,45,49]),(bs [88,95,57])]) (RowIs.lit (enc := encS) (d := ByteArray.empty) (n := 6) (f := (cut 1 [vs (bs [97]),vs (bs [98]),vs (bs [99]),vs (bs [119,101,98]),vs (bs [100,98,45,49]),vs (bs [88,95,57])])) [(bs [97]),(bs [98]),(bs [99]),(bs [119,101,98]),(bs [100,98,45,49]),(bs [88,95,57])] rfl (fun | 0,_ => rfl | 1,_ => rfl | 2,_ => rfl | 3,_ => rfl | 4,_ => rfl | 5,_ => rfl | n + 6,h => absurd h (by omega)))).1) (an (RowIs.asP (enc := encS) (d := ByteArray.empty) (L := [(bs [97]),(bs [98]),(bs [99]),(bs [119,101,98]),(bs [100,98,45,49]),(bs [88,95,57])]) (RowIs.lit (enc := encS) (d := ByteArray.empty) (n := 6) (f := (cut 1 [vs (bs [97]),vs (bs [98]),vs (bs [99]),vs (bs [119,101,98]),vs (bs [100,98,45,49]),vs (bs [88,95,57])])) [(bs [97]),(bs [98]),(bs [99]),(bs [119,101,98]),(bs [100,98,45,49]),(bs [88,95,57])] rfl (fun | 0,_ => rfl | 1,_ => rfl | 2,_ => rfl | 3,_ => rfl | 4,_ => rfl | 5,_ => rfl | n + 6,h => absurd h (by omega)))) (an (Jl p0 6 r3 hr3) (an tv (an g4.1 (an g4.2 (an g5 tv))))))) ?_)
 obtain rfl := sj hm
 exact DW.ret (Ak [.box (pm (Au r3.2))] [] (pS ([(bs [97]),(bs [98]),(bs [99]),(bs [119,101,98]),(bs [100,98,45,49]),(bs [88,95,57])].getD (Int.toNat r3.1) ByteArray.empty)))
abbrev o98 (ks : List Nat) (b : Bool) (RES : ByteArray × Aw) (sm : List Nat := []) : Orc := .call 20 ks b (pS RES.1) [.box (pm (Au RES.2))] [] sm

theorem Lh (p0 : Aw) (p1 : Int) (RES : Bool × Aw) (hm : Jd p0 p1 = some RES) : Spec Try.prog 12 [rr 0,pI p1] [.box (pm (Au p0))] (pB RES.1) [.box (pm (Au RES.2))] [] := by
 unfold Jd at hm
 refine SO Try.func12 rfl rfl [(0,rr 0),(1,pI p1)] [(0,bx (pm (Au p0)))] ?_
 intro cx hnt
 refine Sq (RD hnt (.no :: []) [] [] [] [] tv ?_)
 obtain ⟨r1,hr1,hm⟩ := bo hm
 refine Sq (RK hnt (nn 2 (o97 [0] true r1 :: nn 4 [])) [(4,pB (r1.1 == (w64 (p1 - 1))))] [(0,bx (pm (Au r1.2)))] (an (Jl p0 p1 r1 hr1) (an tv tv)) ?_)
 obtain rfl := sj hm
 exact DW.ret (Ak [.box (pm (Au r1.2))] [] (pB (r1.1 == (w64 (p1 - 1)))))
abbrev o99 (ks : List Nat) (b : Bool) (RES : Bool × Aw) (sm : List Nat := []) : Orc := .call 12 ks b (pB RES.1) [.box (pm (Au RES.2))] [] sm

abbrev Qh (p0 : Ac) (k1 : Nat) := (p0.nodes.getD k1 (default : Ai))
theorem Abx (p0 : Ac) (p1 : Int) (RES : List Int) (hm : Nt p0 p1 = some RES) : Spec Try.prog 35 [.p (.agg (Am p0)),pI p1] [] (ow 0 RES.length) [] [roI RES] := by
 unfold Nt at hm
 refine SO Try.func35 rfl rfl [(0,.p (.agg (Am p0))),(1,pI p1)] [] ?_
 intro cx hnt
 refine Sq (RK hnt (nn 2 []) [(1,pI p1),(2,rr 1016)] [(1016,bx (pm (Am p0)))] tv ?_)
 obtain ⟨r1,hr1,hm⟩ := bo hm
 refine Sq (Sq (RD hnt (nn 2 (o10 [] true r1 :: .no :: [])) [] [(10,pB (!r1))] [] [] (an (So p0 p1 r1 hr1) tv) ?_))
 refine An hm ?_ ?_
 ·intro h2 hm
  refine Sq (RK hnt (.no :: []) [(4,.p (.sl .nil 0 0 (fun _ => [])))] [] tv ?_)
  refine DW.cv [] [(4,ow 100000 0)] [] [(100000,ob0 (roI []))] (Conv.ads [(.s 4,100000,1,elems Bb 0 [])]) ?_
  obtain rfl := sj hm
  exact DW.ret (Ak [roI []] [100000] (ow 0 0))
 ·intro h2 hm
  refine Sk ?_
  refine Sq (RD hnt (.no :: []) [10] [(5,.p (.sl .nil 0 0 (fun _ => [])))] [] [] tv ?_)
  refine Sq (Sq (RD hnt (.no :: []) [] [(6,pI 0)] [] [] tv ?_))
  refine Bk ?_
  obtain ⟨hc1,hm⟩ := go1 hm
  refine DW.rangeO (fun (k1 : Nat) (s1 : List Int) => Ae [(1,pI p1),(2,rr 1016),(5,ow 1272 s1.length),(6,pI ((k1 : Nat) : Int))] [(1016,bx (pm (Am p0))),(1272,ob0 (roI s1))]) De hm (Conv.ads [(.s 5,1272,1,elems Bb 0 [])]) ?_
  intro k1 s1 n1 hk1 hs1 he1
  refine Sq (Sq (RD hnt (nn 5 []) [] [(15,pB (decide (((k1 : Nat) : Int) < ((p0.nodes.length : Nat) : Int))))] [] [] tv ?_))
  refine Dr (decide (((k1 : Nat) : Int) < ((p0.nodes.length : Nat) : Int))) ?_ ?_
  ·intro h12
   have hlt1 : k1 < p0.nodes.length := by have := of_decide_eq_true h12; omega
   have hm := hs1 hlt1
   unfold Sj at hm
   refine Sk ?_
   refine Sq ?_
   refine Jn (ι := List Int) (fun (y3 : List Int) => Ae [(1,pI p1),(2,rr 1016),(5,ow 1272 y3.length),(6,pI ((k1 : Nat) : Int))] [(1016,bx (pm (Am p0))),(1272,ob0 (roI y3))]) (fun y3 => (Lg n1) y3 = some RES) ?_ ?_
   ·intro y3 hm
    unfold Lg at hm
    refine RD hnt (nn 3 []) [] [(6,pI (w64 (((k1 : Nat) : Int) + 1)))] [] [] tv ?_
    exact jD y3 ⟨hlt1,hm⟩ (Conv.tp [(6,pI (w64 (((k1 : Nat) : Int) + 1)))] [] (by kernel_rfl) (.cons rfl (.of_eq (congrArg pI (Cs hlt1 hc1))) .nil) .nil)
   ·refine Bk ?_
    refine Sq (RD hnt (nn 8 []) [15] [(25,pB ((Qh p0 k1).parent == p1))] [] [] (an (nn0 k1) (an (ltc hlt1) tv)) ?_)
    refine An hm ?_ ?_
    ·intro h13 hm
     obtain ⟨g14,hm⟩ := go1 hm
     refine RN hnt (nn 10 []) [(1,pI p1),(2,rr 1016),(5,ow 1272 (s1 ++ [(Qh p0 k1).id]).length),(6,pI ((k1 : Nat) : Int))] [(1016,bx (pm (Am p0))),(1272,ob0 (roI (s1 ++ [(Qh p0 k1).id])))] [(5,ow 1272 (s1.length + 1))] [(1272,.row 1 (s1.length + 1) (Et s1.length (elI s1) (cut 1 [vi (Qh p0 k1).id])))] (an (nn0 k1) (an (ltc hlt1) (an (by omega : (s1.length + 1) * 8 ≤ 140737488355328) tv))) (by kernel_rfl) (.cons rfl (MLe.ownLen (enc := Bb) (d := 0) (f := (Et s1.length (elI s1) (cut 1 [vi (Qh p0 k1).id]))) (RowIs.cat RowIs.elems (RowIs.lit (enc := Bb) (d := 0) (n := 1) (f := (cut 1 [vi (Qh p0 k1).id])) [(Qh p0 k1).id] rfl (fun | 0,_ => rfl | n + 1,h => absurd h (by omega))))) .nil) (.cons rfl (BLe.typed (RowIs.cat RowIs.elems (RowIs.lit (enc := Bb) (d := 0) (n := 1) (f := (cut 1 [vi (Qh p0 k1).id])) [(Qh p0 k1).id] rfl (fun | 0,_ => rfl | n + 1,h => absurd h (by omega))))) .nil) ?_
     exact bD (s1 ++ [(Qh p0 k1).id]) hm .refl
    ·intro h13 hm
     refine Sk ?_
     exact bD s1 hm Conv.t0
  ·intro h12
   have hge1 : ¬ k1 < p0.nodes.length := by have := of_decide_eq_false h12; omega
   have hm := he1 hge1
   unfold Xn at hm
   refine DW.exit ?_
   refine Al ?_
   refine Ar ?_
   refine Af ?_
   show DW _ _ _ _ _
   refine Sq (RK hnt (nn 2 []) [(4,ow 1272 s1.length)] [(1272,ob0 (roI s1))] tv ?_)
   obtain rfl := sj hm
   exact DW.ret (Ak [roI s1] [1272] (ow 0 s1.length))
abbrev o101 (ks : List Nat) (b : Bool) (RES : List Int) (sm : List Nat := []) : Orc := .call 35 ks b (ow 0 RES.length) [] [roI RES] sm

abbrev Ep (p0 : Ac) (k1 : Nat) := (p0.nodes.getD k1 (default : Ai))
abbrev AcC : Nat × Obj := (1032,bx [.p (.sl .nil 0 0 (fun _ => [])),pI 0])
abbrev AcA : Nat × Obj := (1032,bx [ow 100000 0,pI 0])
theorem Add (p0 : Ac) (p1 : Int) (RES : Ac × Int) (hm : Ql p0 p1 = some RES) : Spec Try.prog 21 [.p (.agg (Am p0)),pI p1] [] (.tup [.agg [ow 0 RES.1.nodes.length,pI RES.1.next],pI RES.2]) [] [Cq RES.1.nodes] := by
 unfold Ql at hm
 refine SO Try.func21 rfl rfl [(0,.p (.agg (Am p0))),(1,pI p1)] [] ?_
 intro cx hnt
 refine Sq (RK hnt (nn 3 []) [(1,pI p1),(2,rr 1016),(4,rr 1032)] [(1016,bx (pm (Am p0))),(AcC)] tv ?_)
 refine Sq (Bk ?_)
 obtain ⟨r1,hr1,hm⟩ := bo hm
 refine Sq (RD hnt (.no :: o6 [] true r1 :: nn 2 []) [] [(8,pB (!r1))] [] [] (an (Mr p0 r1 hr1) tv) ?_)
 refine An hm ?_ ?_
 ·intro h2 hm
  refine Sq (RD hnt (nn 3 []) [1,2,8] [(5,pI 1)] [1016] [] tv ?_)
  refine DW.cv [] [] [] [(AcA),(100000,ob0 (Cq []))] (Conv.ads [(.o 1032 0,100000,6,elems Bw De [])]) ?_
  obtain rfl := sj hm
  exact DW.ret (Ak [Cq []] [100000] (.tup [.agg [ow 0 0,pI 0],pI 1]))
 ·intro h2 hm
  obtain ⟨r3,hr3,hm⟩ := bo hm
  refine Sq (RD hnt (nn 2 (o10 [] true r3 :: nn 2 [])) [8] [(13,pB (!r3))] [] [] (an (So p0 p1 r3 hr3) tv) ?_)
  refine An hm ?_ ?_
  ·intro h4 hm
   refine Sq (RD hnt (nn 3 []) [1,2,13] [(5,pI 4)] [1016] [] tv ?_)
   refine DW.cv [] [] [] [(AcA),(100000,ob0 (Cq []))] (Conv.ads [(.o 1032 0,100000,6,elems Bw De [])]) ?_
   obtain rfl := sj hm
   exact DW.ret (Ak [Cq []] [100000] (.tup [.agg [ow 0 0,pI 0],pI 4]))
  ·intro h4 hm
   refine Sq (RD hnt (nn 3 []) [13] [(19,pB (p1 == 1))] [] [] tv ?_)
   refine An hm ?_ ?_
   ·intro h5 hm
    refine Sq (RD hnt (nn 3 []) [1,2,19] [(5,pI 9)] [1016] [] tv ?_)
    refine DW.cv [] [] [] [(AcA),(100000,ob0 (Cq []))] (Conv.ads [(.o 1032 0,100000,6,elems Bw De [])]) ?_
    obtain rfl := sj hm
    exact DW.ret (Ak [Cq []] [100000] (.tup [.agg [ow 0 0,pI 0],pI 9]))
   ·intro h5 hm
    obtain ⟨r6,hr6,hm⟩ := bo hm
    refine Sq (RD hnt (nn 2 (o101 [] true r6 :: nn 3 [])) [19] [(23,pB (decide (((r6.length : Nat) : Int) > 0)))] [] [] (an (Abx p0 p1 r6 hr6) tv) ?_)
    refine An hm ?_ ?_
    ·intro h7 hm
     refine Sq (RD hnt (nn 3 []) [1,2,23] [(5,pI 6)] [1016] [] tv ?_)
     refine DW.cv [] [] [] [(AcA),(100000,ob0 (Cq []))] (Conv.ads [(.o 1032 0,100000,6,elems Bw De [])]) ?_
     obtain rfl := sj hm
     exact DW.ret (Ak [Cq []] [100000] (.tup [.agg [ow 0 0,pI 0],pI 6]))
    ·intro h7 hm
     refine Sk ?_
     refine DW.done ?_
     show DW _ _ _ _ _
     refine Sq (RD hnt (nn 5 []) [23] [(6,rr 1048)] [] [(1048,bx [.p (.sl .nil 0 0 (fun _ => [])),pI p0.next])] tv ?_)
     refine Sq (Sq (RD hnt (.no :: []) [] [(7,pI 0)] [] [] tv ?_))
     refine Bk ?_
     obtain ⟨hc1,hm⟩ := go1 hm
     refine DW.rangeO (fun (k1 : Nat) (s1 : List Ai) => Ae [(1,pI p1),(2,rr 1016),(4,rr 1032),(6,rr 1048),(7,pI ((k1 : Nat) : Int))] [(1016,bx (pm (Am p0))),(AcC),(1048,bx [ow 1448 s1.length,pI p0.next]),(1448,ob0 (Cq s1))]) De hm (Conv.ads [(.o 1048 0,1448,6,elems Bw De [])]) ?_
     intro k1 s1 n1 hk1 hs1 he1
     refine Sq (Sq (RD hnt (nn 5 []) [] [(37,pB (decide (((k1 : Nat) : Int) < ((p0.nodes.length : Nat) : Int))))] [] [] tv ?_))
     refine Dr (decide (((k1 : Nat) : Int) < ((p0.nodes.length : Nat) : Int))) ?_ ?_
     ·intro h17
      have hlt1 : k1 < p0.nodes.length := by have := of_decide_eq_true h17; omega
      have hm := hs1 hlt1
      unfold Qt at hm
      refine Sk ?_
      refine Sq ?_
      refine Jn (ι := List Ai) (fun (y3 : List Ai) => Ae [(1,pI p1),(2,rr 1016),(4,rr 1032),(6,rr 1048),(7,pI ((k1 : Nat) : Int))] [(1016,bx (pm (Am p0))),(AcC),(1048,bx [ow 1448 y3.length,pI p0.next]),(1448,ob0 (Cq y3))]) (fun y3 => (Nx n1) y3 = some RES) ?_ ?_
      ·intro y3 hm
       unfold Nx at hm
       refine RD hnt (nn 3 []) [] [(7,pI (w64 (((k1 : Nat) : Int) + 1)))] [] [] tv ?_
       exact jD y3 ⟨hlt1,hm⟩ (Conv.tp [(7,pI (w64 (((k1 : Nat) : Int) + 1)))] [] (by kernel_rfl) (.cons rfl (.of_eq (congrArg pI (Cs hlt1 hc1))) .nil) .nil)
      ·refine Bk ?_
       refine Sq (RD hnt (nn 8 []) [37] [(47,pB ((Ep p0 k1).id != p1))] [] [] (an (nn0 k1) (an (ltc hlt1) tv)) ?_)
       refine An hm ?_ ?_
       ·intro h18 hm
        obtain ⟨g19,hm⟩ := go1 hm
        refine RN hnt (nn 11 []) [(1,pI p1),(2,rr 1016),(4,rr 1032),(6,rr 1048),(7,pI ((k1 : Nat) : Int))] [(1016,bx (pm (Am p0))),(AcC),(1048,bx [ow 1448 (s1 ++ [(Ep p0 k1)]).length,pI p0.next]),(1448,ob0 (Cq (s1 ++ [(Ep p0 k1)])))] [] [(1048,.box [ow 1448 (s1.length + 1),pI p0.next]),(1448,.row 6 (s1.length + 1) (Et s1.length (Ub s1) (cut 6 [vi (Ep p0 k1).id,vi (Ep p0 k1).parent,vs (Ep p0 k1).name,vi (Ep p0 k1).control,vi (Ep p0 k1).kind,vi (Ep p0 k1).owner])))] (an (nn0 k1) (an (ltc hlt1) (an (by omega : (s1.length + 1) * 56 ≤ 140737488355328) tv))) (by kernel_rfl) .nil (.cons rfl (.box (.cons (MLe.ownLen (enc := Bw) (d := De) (f := (Et s1.length (Ub s1) (cut 6 [vi (Ep p0 k1).id,vi (Ep p0 k1).parent,vs (Ep p0 k1).name,vi (Ep p0 k1).control,vi (Ep p0 k1).kind,vi (Ep p0 k1).owner]))) (RowIs.cat RowIs.elems (RowIs.lit (enc := Bw) (d := De) (n := 1) (f := (cut 6 [vi (Ep p0 k1).id,vi (Ep p0 k1).parent,vs (Ep p0 k1).name,vi (Ep p0 k1).control,vi (Ep p0 k1).kind,vi (Ep p0 k1).owner])) [(Ep p0 k1)] rfl (fun | 0,_ => rfl | n + 1,h => absurd h (by omega))))) (.cons .rfl .nil))) (.cons rfl (BLe.typed (RowIs.cat RowIs.elems (RowIs.lit (enc := Bw) (d := De) (n := 1) (f := (cut 6 [vi (Ep p0 k1).id,vi (Ep p0 k1).parent,vs (Ep p0 k1).name,vi (Ep p0 k1).control,vi (Ep p0 k1).kind,vi (Ep p0 k1).owner])) [(Ep p0 k1)] rfl (fun | 0,_ => rfl | n + 1,h => absurd h (by omega))))) .nil)) ?_
        exact bD (s1 ++ [(Ep p0 k1)]) hm .refl
       ·intro h18 hm
        refine Sk ?_
        exact bD s1 hm Conv.t0
     ·intro h17
      have hge1 : ¬ k1 < p0.nodes.length := by have := of_decide_eq_false h17; omega
      have hm := he1 hge1
      unfold Qr at hm
      refine DW.exit ?_
      refine Al ?_
      refine Ar ?_
      refine Af ?_
      show DW _ _ _ _ _
      refine Sq (RK hnt (nn 3 []) [(4,rr 1032),(5,pI 0)] [(1032,bx [ow 1448 s1.length,pI p0.next]),(1448,ob0 (Cq s1))] tv ?_)
      obtain rfl := sj hm
      exact DW.ret (Ak [Cq s1] [1448] (.tup [.agg [ow 0 s1.length,pI p0.next],pI 0]))
abbrev o100 (ks : List Nat) (b : Bool) (RES : Ac × Int) (sm : List Nat := []) : Orc := .call 21 ks b (.tup [.agg [ow 0 RES.1.nodes.length,pI RES.1.next],pI RES.2]) [] [Cq RES.1.nodes] sm

abbrev c96e1 : Nat × Obj := (1032,bx [.p (.sl .nil 0 0 (fun _ => [])),pI 0])
theorem AaG (p0 : Aw) (p1 : Int) (RES : Ac × Aw) (hm : Mb p0 p1 = some RES) : Spec Try.prog 7 [rr 0,pI p1] [.box (pm (Au p0))] (.p (.agg (Am RES.1))) [.box (pm (Au RES.2))] [] := by
 unfold Mb at hm
 refine SO Try.func7 rfl rfl [(0,rr 0),(1,pI p1)] [(0,bx (pm (Au p0)))] ?_
 intro cx hnt
 refine Sq (RD hnt (.no :: []) [] [(4,rr 1032)] [] [(c96e1)] tv ?_)
 obtain ⟨r1,hr1,hm⟩ := bo hm
 refine Sq (RD hnt (o4 [] true r1 :: nn 2 []) [] [(5,rr 1040)] [] [(1040,bx [ow 1104 r1.nodes.length,pI r1.next]),(1104,ob0 (Cq r1.nodes))] (an (Abd r1 hr1) tv) ?_)
 obtain ⟨r2,hr2,hm⟩ := bo hm
 refine Sq (Sq (RD hnt (nn 3 (o97 [0] true r2 :: .no :: [])) [1] [(6,pI r2.1)] [] [(0,bx (pm (Au r2.2)))] (an (Jl p0 (w64 (p1 + 1)) r2 hr2) (an tv tv)) ?_))
 refine Bk ?_
 refine DW.whileO (fun (s1 : Aw × Ac × Int) => Ae [(0,rr 0),(4,rr 1032),(5,rr 1040),(6,pI s1.2.2)] [(0,bx (pm (Au s1.1))),(c96e1),(1040,bx (pm (Am s1.2.1)))]) hm (Conv.frz [1104]) ?_
 intro s1 n1 hm
 unfold Qx at hm
 refine Sq (Sq (RD hnt (nn 2 []) [] [(19,pB (decide (s1.2.2 > 0)))] [] [] tv ?_))
 refine An hm ?_ ?_
 ·intro h18 hm
  refine Sk ?_
  refine Sq ?_
  refine Jn (ι := Aw × Ac) (fun (y3 : Aw × Ac) => Ae [(0,rr 0),(4,rr 1032),(5,rr 1040),(6,pI s1.2.2)] [(0,bx (pm (Au y3.1))),(c96e1),(1040,bx (pm (Am y3.2)))]) (fun y3 => (Ho s1 n1) y3 = some RES) ?_ ?_
  ·intro y3 hm
   unfold Ho at hm
   refine RD hnt (nn 3 []) [] [(6,pI (w64 (s1.2.2 - 1)))] [] [] tv ?_
   exact jD (y3.1,y3.2,(w64 (s1.2.2 - 1))) hm Conv.eqK
  ·refine Bk ?_
   obtain ⟨r19,hr19,hm⟩ := bo hm
   obtain ⟨g20,hm⟩ := go1 hm
   refine Sq (RD hnt (nn 6 (o97 [0] true r19 :: nn 4 [])) [19] [(7,pI (s1.2.1.nodes.getD (Int.toNat r19.1) De).id)] [] [(0,bx (pm (Au r19.2)))] (an (Jl s1.1 ((s1.2.1.nodes.length : Nat) : Int) r19 hr19) (an tv (an g20.1 (an g20.2 tv)))) ?_)
   obtain ⟨r21,hr21,hm⟩ := bo hm
   obtain ⟨r22,hr22,hm⟩ := bo hm
   refine Sq (Sq (RD hnt (nn 3 (o98 [0] true r21 :: o5 [] true r22 :: nn 8 [])) [7] [(8,rr 1064),(10,pI r22.2.2)] [] [(0,bx (pm (Au r21.2))),(1064,bx [ow 1296 r22.1.nodes.length,pI r22.1.next]),(1296,ob0 (Cq r22.1.nodes))] (an (Aaq r19.2 r21 hr21) (an tv (an (Wc s1.2.1 (s1.2.1.nodes.getD (Int.toNat r19.1) De).id r21.1 r22 hr22) tv))) ?_))
   refine Sq (RD hnt (nn 2 []) [10] [(42,pB (r22.2.2 == 0))] [] [] tv ?_)
   refine Jn (ι := Ac) (fun (y4 : Ac) => Ae [(0,rr 0),(4,rr 1032),(5,rr 1040),(6,pI s1.2.2)] [(0,bx (pm (Au r21.2))),(c96e1),(1040,bx (pm (Am y4)))]) (fun y4 => (Ix s1 n1 r21) y4 = some RES) ?_ ?_
   ·intro y4 hm
    unfold Ix at hm
    obtain ⟨r24,hr24,hm⟩ := bo hm
    refine Sq (RD hnt (.no :: o99 [0] true r24 :: []) [] [(45,pB r24.1)] [] [(0,bx (pm (Au r24.2)))] (an (Lh r21.2 6 r24 hr24) (an tv tv)) ?_)
    refine An hm ?_ ?_
    ·intro h25 hm
     obtain ⟨r26,hr26,hm⟩ := bo hm
     obtain ⟨g27,hm⟩ := go1 hm
     obtain ⟨r28,hr28,hm⟩ := bo hm
     refine Sq (RD hnt (nn 7 (o97 [0] true r26 :: nn 3 (o100 [] true r28 :: nn 6 []))) [45] [(11,rr 1088),(12,pI r28.2)] [] [(0,bx (pm (Au r26.2))),(1088,bx [ow 1464 r28.1.nodes.length,pI r28.1.next]),(1464,ob0 (Cq r28.1.nodes))] (an (Jl r24.2 ((y4.nodes.length : Nat) : Int) r26 hr26) (an tv (an g27.1 (an g27.2 (an (Add y4 (y4.nodes.getD (Int.toNat r26.1) De).id r28 hr28) tv))))) ?_)
     refine Sq (RD hnt (nn 2 []) [12] [(62,pB (r28.2 == 0))] [] [] tv ?_)
     refine An hm ?_ ?_
     ·intro h29 hm
      refine RD hnt (nn 2 []) [11,62] [] [1088] [(1040,bx [ow 1464 r28.1.nodes.length,pI r28.1.next])] tv ?_
      exact bD (r26.2,r28.1) hm (Conv.frz [1464])
     ·intro h29 hm
      refine Sk ?_
      exact bD (r26.2,y4) hm Conv.t0
    ·intro h25 hm
     refine Sk ?_
     exact bD (r24.2,y4) hm Conv.t0
   ·refine An hm ?_ ?_
    ·intro h23 hm
     refine RD hnt (nn 2 []) [8,42] [] [1064] [(1040,bx [ow 1296 r22.1.nodes.length,pI r22.1.next])] tv ?_
     exact jD r22.1 hm (Conv.frz [1296])
    ·intro h23 hm
     refine Sk ?_
     exact jD s1.2.1 hm Conv.t0
 ·intro h18 hm
  refine DW.exit ?_
  refine Al ?_
  refine Ar ?_
  refine Af ?_
  show DW _ _ _ _ _
  refine Sq (RD hnt (nn 2 []) [0,5,6,19] [] [1040] [(1032,bx (pm (Am s1.2.1)))] tv ?_)
  obtain rfl := sj hm
  exact DW.ret (Ak [.box (pm (Au s1.1))] [] (.p (.agg (Am s1.2.1))))
abbrev o96 (ks : List Nat) (b : Bool) (RES : Ac × Aw) (sm : List Nat := []) : Orc := .call 7 ks b (.p (.agg (Am RES.1))) [.box (pm (Au RES.2))] [] sm

theorem AbD (p0 : Aw) (p1 : Int) (RES : (List Int) × Aw) (hm : Is p0 p1 = some RES) : Spec Try.prog 13 [rr 0,pI p1] [.box (pm (Au p0))] (ow 1 RES.1.length) [.box (pm (Au RES.2))] [roI RES.1] := by
 unfold Is at hm
 refine SO Try.func13 rfl rfl [(0,rr 0),(1,pI p1)] [(0,bx (pm (Au p0)))] ?_
 intro cx hnt
 refine Sq (RD hnt (.no :: []) [] [] [] [] tv ?_)
 refine Sq (RD hnt (.no :: []) [] [(5,.p (.sl .nil 0 0 (fun _ => [])))] [] [] tv ?_)
 refine Sq (Sq (RD hnt (.no :: []) [] [(6,pI 0)] [] [] tv ?_))
 refine Bk ?_
 obtain ⟨hc1,hm⟩ := go1 hm
 refine DW.forO (fun (k1 : Int) (s1 : Aw × (List Int)) => Ae [(0,rr 0),(1,pI p1),(5,ow 1136 s1.2.length),(6,pI k1)] [(0,bx (pm (Au s1.1))),(1136,ob0 (roI s1.2))]) (lo := 0) (hi := p1) hm (Conv.ads [(.s 5,1136,1,elems Bb 0 [])]) ?_
 intro k1 s1 n1 hk1 hs1 he1
 refine Sq (Sq (RD hnt (nn 3 []) [] [(9,pB (decide (k1 < p1)))] [] [] tv ?_))
 refine Dr (decide (k1 < p1)) ?_ ?_
 ·intro h8
  have hlt1 : k1 < p1 := by have := of_decide_eq_true h8; omega
  have hm := hs1 hlt1
  unfold Ov at hm
  refine Sk ?_
  refine Sq ?_
  refine Jn (ι := Aw × (List Int)) (fun (y3 : Aw × (List Int)) => Ae [(0,rr 0),(1,pI p1),(5,ow 1136 y3.2.length),(6,pI k1)] [(0,bx (pm (Au y3.1))),(1136,ob0 (roI y3.2))]) (fun y3 => (Ic n1) y3 = some RES) ?_ ?_
  ·intro y3 hm
   unfold Ic at hm
   refine RD hnt (nn 3 []) [] [(6,pI (w64 (k1 + 1)))] [] [] tv ?_
   exact jD (y3.1,y3.2) ⟨hlt1,hm⟩ (Conv.tp [(6,pI (w64 (k1 + 1)))] [] (by kernel_rfl) (.cons rfl (.of_eq (congrArg pI (Mu (lo := 0) (hi := p1) (by omega) hk1 hlt1 (by omega)))) .nil) .nil)
  ·refine Bk ?_
   obtain ⟨r9,hr9,hm⟩ := bo hm
   refine Sq (RD hnt (.no :: o99 [0] true r9 :: []) [9] [(13,pB r9.1)] [] [(0,bx (pm (Au r9.2)))] (an (Lh s1.1 3 r9 hr9) (an tv tv)) ?_)
   refine An hm ?_ ?_
   ·intro h10 hm
    obtain ⟨g11,hm⟩ := go1 hm
    refine RN hnt (nn 5 []) [(0,rr 0),(1,pI p1),(5,ow 1136 (s1.2 ++ [k1]).length),(6,pI k1)] [(0,bx (pm (Au r9.2))),(1136,ob0 (roI (s1.2 ++ [k1])))] [(5,ow 1136 (s1.2.length + 1))] [(1136,.row 1 (s1.2.length + 1) (Et s1.2.length (elI s1.2) (cut 1 [vi k1])))] (an (by omega : (s1.2.length + 1) * 8 ≤ 140737488355328) tv) (by kernel_rfl) (.cons rfl (MLe.ownLen (enc := Bb) (d := 0) (f := (Et s1.2.length (elI s1.2) (cut 1 [vi k1]))) (RowIs.cat RowIs.elems (RowIs.lit (enc := Bb) (d := 0) (n := 1) (f := (cut 1 [vi k1])) [k1] rfl (fun | 0,_ => rfl | n + 1,h => absurd h (by omega))))) .nil) (.cons rfl (BLe.typed (RowIs.cat RowIs.elems (RowIs.lit (enc := Bb) (d := 0) (n := 1) (f := (cut 1 [vi k1])) [k1] rfl (fun | 0,_ => rfl | n + 1,h => absurd h (by omega))))) .nil) ?_
    exact bD (r9.2,(s1.2 ++ [k1])) hm .refl
   ·intro h10 hm
    refine Sk ?_
    exact bD (r9.2,s1.2) hm Conv.t0
 ·intro h8
  have hge1 : ¬ k1 < p1 := by have := of_decide_eq_false h8; omega
  have hm := he1 hge1
  unfold Ox at hm
  refine DW.exit ?_
  refine Al ?_
  refine Ar ?_
  refine Af ?_
  show DW _ _ _ _ _
  refine Sq (RD hnt (nn 2 []) [0,1,5,6,9] [(4,ow 1136 s1.2.length)] [] [] tv ?_)
  obtain rfl := sj hm
  exact DW.ret (Ak [.box (pm (Au s1.1)),roI s1.2] [1136] (ow 1 s1.2.length))
abbrev o103 (ks : List Nat) (b : Bool) (RES : (List Int) × Aw) (sm : List Nat := []) : Orc := .call 13 ks b (ow 1 RES.1.length) [.box (pm (Au RES.2))] [roI RES.1] sm

theorem Zr (p0 : Aw) (p1 : Int) (RES : (List Int) × Aw) (hm : Kt p0 p1 = some RES) : Spec Try.prog 9 [rr 0,pI p1] [.box (pm (Au p0))] (ow 1 RES.1.length) [.box (pm (Au RES.2))] [roI RES.1] := by
 unfold Kt at hm
 refine SO Try.func9 rfl rfl [(0,rr 0),(1,pI p1)] [(0,bx (pm (Au p0)))] ?_
 intro cx hnt
 refine Sq (RD hnt (.no :: []) [] [] [] [] tv ?_)
 obtain ⟨r1,hr1,hm⟩ := bo hm
 refine Sq (Sq (RK hnt (nn 2 (o103 [0] true r1 :: .no :: [])) [(1,pI p1),(5,ow 1080 r1.1.length)] [(0,bx (pm (Au r1.2))),(1080,ob0 (roI r1.1))] (an (AbD p0 p1 r1 hr1) (an tv tv)) ?_))
 refine Sq (RD hnt (nn 3 []) [] [(13,pB (decide (((r1.1.length : Nat) : Int) > 0)))] [] [] tv ?_)
 refine An hm ?_ ?_
 ·intro h2 hm
  refine Sq (RD hnt (nn 2 []) [1,5,13] [(4,ow 1080 r1.1.length)] [] [] tv ?_)
  obtain rfl := sj hm
  exact DW.ret (Ak [.box (pm (Au r1.2)),roI r1.1] [1080] (ow 1 r1.1.length))
 ·intro h2 hm
  refine Sk ?_
  refine Sq (RD hnt (.no :: []) [5,13] [(6,.p (.sl .nil 0 0 (fun _ => [])))] [1080] [] tv ?_)
  refine Sq (Sq (RD hnt (.no :: []) [] [(7,pI 0)] [] [] tv ?_))
  refine Bk ?_
  obtain ⟨hc1,hm⟩ := go1 hm
  refine DW.forO (fun (k1 : Int) (s1 : List Int) => Ae [(1,pI p1),(6,ow 1184 s1.length),(7,pI k1)] [(0,bx (pm (Au r1.2))),(1184,ob0 (roI s1))]) (lo := 0) (hi := p1) hm (Conv.ads [(.s 6,1184,1,elems Bb 0 [])]) ?_
  intro k1 s1 n1 hk1 hs1 he1
  refine Sq (Sq (RD hnt (nn 3 []) [] [(17,pB (decide (k1 < p1)))] [] [] tv ?_))
  refine Dr (decide (k1 < p1)) ?_ ?_
  ·intro h6
   have hlt1 : k1 < p1 := by have := of_decide_eq_true h6; omega
   have hm := hs1 hlt1
   unfold Ph at hm
   refine Sk ?_
   refine Sq (Bk ?_)
   obtain ⟨g7,hm⟩ := go1 hm
   refine RN hnt (nn 5 []) [(1,pI p1),(6,ow 1184 (s1 ++ [k1]).length),(7,pI k1)] [(0,bx (pm (Au r1.2))),(1184,ob0 (roI (s1 ++ [k1])))] [(6,ow 1184 (s1.length + 1))] [(1184,.row 1 (s1.length + 1) (Et s1.length (elI s1) (cut 1 [vi k1])))] (an (by omega : (s1.length + 1) * 8 ≤ 140737488355328) tv) (by kernel_rfl) (.cons rfl (MLe.ownLen (enc := Bb) (d := 0) (f := (Et s1.length (elI s1) (cut 1 [vi k1]))) (RowIs.cat RowIs.elems (RowIs.lit (enc := Bb) (d := 0) (n := 1) (f := (cut 1 [vi k1])) [k1] rfl (fun | 0,_ => rfl | n + 1,h => absurd h (by omega))))) .nil) (.cons rfl (BLe.typed (RowIs.cat RowIs.elems (RowIs.lit (enc := Bb) (d := 0) (n := 1) (f := (cut 1 [vi k1])) [k1] rfl (fun | 0,_ => rfl | n + 1,h => absurd h (by omega))))) .nil) ?_
   refine DW.done ?_
   show DW _ _ _ _ _
   refine RD hnt (nn 3 []) [] [(7,pI (w64 (k1 + 1)))] [] [] tv ?_
   exact jD (s1 ++ [k1]) ⟨hlt1,hm⟩ (Conv.tp [(7,pI (w64 (k1 + 1)))] [] (by kernel_rfl) (.cons rfl (.of_eq (congrArg pI (Mu (lo := 0) (hi := p1) (by omega) hk1 hlt1 (by omega)))) .nil) .nil)
  ·intro h6
   have hge1 : ¬ k1 < p1 := by have := of_decide_eq_false h6; omega
   have hm := he1 hge1
   unfold Pn at hm
   refine DW.exit ?_
   refine Al ?_
   refine Ar ?_
   refine Af ?_
   show DW _ _ _ _ _
   refine Sq (RD hnt (nn 2 []) [1,6,7,17] [(4,ow 1184 s1.length)] [] [] tv ?_)
   obtain rfl := sj hm
   exact DW.ret (Ak [.box (pm (Au r1.2)),roI s1] [1184] (ow 1 s1.length))
abbrev o102 (ks : List Nat) (b : Bool) (RES : (List Int) × Aw) (sm : List Nat := []) : Orc := .call 9 ks b (ow 1 RES.1.length) [.box (pm (Au RES.2))] [roI RES.1] sm

theorem Aau (p0 : Aw) (p1 : Int) (RES : (List Int) × Aw) (hm : Is p0 p1 = some RES) : Spec Try.prog 13 [rr 0,pI p1] [.box (pm (Au p0))] (.p (slI RES.1)) [.box (pm (Au RES.2))] [] := by
 unfold Is at hm
 refine SO Try.func13 rfl rfl [(0,rr 0),(1,pI p1)] [(0,bx (pm (Au p0)))] ?_
 intro cx hnt
 refine Sq (RD hnt (.no :: []) [] [] [] [] tv ?_)
 refine Sq (RD hnt (.no :: []) [] [(5,.p (.sl .nil 0 0 (fun _ => [])))] [] [] tv ?_)
 refine Sq (Sq (RD hnt (.no :: []) [] [(6,pI 0)] [] [] tv ?_))
 refine Bk ?_
 obtain ⟨hc1,hm⟩ := go1 hm
 refine DW.forO (fun (k1 : Int) (s1 : Aw × (List Int)) => Ae [(0,rr 0),(1,pI p1),(5,ow 1136 s1.2.length),(6,pI k1)] [(0,bx (pm (Au s1.1))),(1136,ob0 (roI s1.2))]) (lo := 0) (hi := p1) hm (Conv.ads [(.s 5,1136,1,elems Bb 0 [])]) ?_
 intro k1 s1 n1 hk1 hs1 he1
 refine Sq (Sq (RD hnt (nn 3 []) [] [(9,pB (decide (k1 < p1)))] [] [] tv ?_))
 refine Dr (decide (k1 < p1)) ?_ ?_
 ·intro h8
  have hlt1 : k1 < p1 := by have := of_decide_eq_true h8; omega
  have hm := hs1 hlt1
  unfold Ov at hm
  refine Sk ?_
  refine Sq ?_
  refine Jn (ι := Aw × (List Int)) (fun (y3 : Aw × (List Int)) => Ae [(0,rr 0),(1,pI p1),(5,ow 1136 y3.2.length),(6,pI k1)] [(0,bx (pm (Au y3.1))),(1136,ob0 (roI y3.2))]) (fun y3 => (Ic n1) y3 = some RES) ?_ ?_
  ·intro y3 hm
   unfold Ic at hm
   refine RD hnt (nn 3 []) [] [(6,pI (w64 (k1 + 1)))] [] [] tv ?_
   exact jD (y3.1,y3.2) ⟨hlt1,hm⟩ (Conv.tp [(6,pI (w64 (k1 + 1)))] [] (by kernel_rfl) (.cons rfl (.of_eq (congrArg pI (Mu (lo := 0) (hi := p1) (by omega) hk1 hlt1 (by omega)))) .nil) .nil)
  ·refine Bk ?_
   obtain ⟨r9,hr9,hm⟩ := bo hm
   refine Sq (RD hnt (.no :: o99 [0] true r9 :: []) [9] [(13,pB r9.1)] [] [(0,bx (pm (Au r9.2)))] (an (Lh s1.1 3 r9 hr9) (an tv tv)) ?_)
   refine An hm ?_ ?_
   ·intro h10 hm
    obtain ⟨g11,hm⟩ := go1 hm
    refine RN hnt (nn 5 []) [(0,rr 0),(1,pI p1),(5,ow 1136 (s1.2 ++ [k1]).length),(6,pI k1)] [(0,bx (pm (Au r9.2))),(1136,ob0 (roI (s1.2 ++ [k1])))] [(5,ow 1136 (s1.2.length + 1))] [(1136,.row 1 (s1.2.length + 1) (Et s1.2.length (elI s1.2) (cut 1 [vi k1])))] (an (by omega : (s1.2.length + 1) * 8 ≤ 140737488355328) tv) (by kernel_rfl) (.cons rfl (MLe.ownLen (enc := Bb) (d := 0) (f := (Et s1.2.length (elI s1.2) (cut 1 [vi k1]))) (RowIs.cat RowIs.elems (RowIs.lit (enc := Bb) (d := 0) (n := 1) (f := (cut 1 [vi k1])) [k1] rfl (fun | 0,_ => rfl | n + 1,h => absurd h (by omega))))) .nil) (.cons rfl (BLe.typed (RowIs.cat RowIs.elems (RowIs.lit (enc := Bb) (d := 0) (n := 1) (f := (cut 1 [vi k1])) [k1] rfl (fun | 0,_ => rfl | n + 1,h => absurd h (by omega))))) .nil) ?_
    exact bD (r9.2,(s1.2 ++ [k1])) hm .refl
   ·intro h10 hm
    refine Sk ?_
    exact bD (r9.2,s1.2) hm Conv.t0
 ·intro h8
  have hge1 : ¬ k1 < p1 := by have := of_decide_eq_false h8; omega
  have hm := he1 hge1
  unfold Ox at hm
  refine DW.exit ?_
  refine Al ?_
  refine Ar ?_
  refine Af ?_
  show DW _ _ _ _ _
  refine Sq (RD hnt (nn 2 []) [0,1,5,6,9] [(4,ow 1136 s1.2.length)] [] [] tv ?_)
  obtain rfl := sj hm
  exact DW.ret (Ak [.box (pm (Au s1.1))] [] (.p (slI s1.2)))
abbrev o104 (ks : List Nat) (b : Bool) (RES : (List Int) × Aw) (sm : List Nat := []) : Orc := .call 13 ks b (.p (slI RES.1)) [.box (pm (Au RES.2))] [] sm

theorem AeU (p0 : List Int) (p1 : Int) (RES : Bool) (hm : Wb p0 p1 = some RES) : Spec Try.prog 26 [.p (slI p0),pI p1] [] (pB RES) [] [] := by
 unfold Wb at hm
 refine SO Try.func26 rfl rfl [(0,.p (slI p0)),(1,pI p1)] [] ?_
 intro cx hnt
 refine Sq (RD hnt (.no :: []) [] [] [] [] tv ?_)
 refine Sq (Sq (RD hnt (.no :: []) [] [(5,pI 0)] [] [] tv ?_))
 refine Bk ?_
 obtain ⟨hc1,hm⟩ := go1 hm
 refine DW.rangeO (fun (k1 : Nat) (s1 : Unit) => Ae [(0,.p (slI p0)),(1,pI p1),(5,pI ((k1 : Nat) : Int))] []) 0 hm Conv.eqK ?_
 intro k1 s1 n1 hk1 hs1 he1
 refine Sq (Sq (RD hnt (nn 4 []) [] [(9,pB (decide (((k1 : Nat) : Int) < ((p0.length : Nat) : Int))))] [] [] tv ?_))
 refine Dr (decide (((k1 : Nat) : Int) < ((p0.length : Nat) : Int))) ?_ ?_
 ·intro h7
  have hlt1 : k1 < p0.length := by have := of_decide_eq_true h7; omega
  have hm := hs1 hlt1
  unfold Acx at hm
  refine Sk ?_
  refine Sq (Bk ?_)
  refine Sq (RD hnt (nn 6 []) [9] [(17,pB ((p0.getD k1 0) == p1))] [] [] (an (nn0 k1) (an (ltc hlt1) tv)) ?_)
  refine An hm ?_ ?_
  ·intro h8 hm
   refine Sq (RK hnt (.no :: []) [(4,pB true)] [] tv ?_)
   obtain rfl := sj hm
   exact DW.ret (Ak [] [] (pB true))
  ·intro h8 hm
   refine Sk ?_
   refine DW.done ?_
   show DW _ _ _ _ _
   refine RD hnt (nn 3 []) [17] [(5,pI (w64 (((k1 : Nat) : Int) + 1)))] [] [] tv ?_
   exact jD () ⟨hlt1,hm⟩ (Conv.tp [(5,pI (w64 (((k1 : Nat) : Int) + 1)))] [] (by kernel_rfl) (.cons rfl (.of_eq (congrArg pI (Cs hlt1 hc1))) .nil) .nil)
 ·intro h7
  have hge1 : ¬ k1 < p0.length := by have := of_decide_eq_false h7; omega
  have hm := he1 hge1
  unfold Acy at hm
  refine DW.exit ?_
  refine Al ?_
  refine Ar ?_
  refine Af ?_
  show DW _ _ _ _ _
  refine Sq (RK hnt (.no :: []) [(4,pB false)] [] tv ?_)
  obtain rfl := sj hm
  exact DW.ret (Ak [] [] (pB false))
abbrev o106 (ks : List Nat) (b : Bool) (RES : Bool) (sm : List Nat := []) : Orc := .call 26 ks b (pB RES) [] [] sm

abbrev Ug (k1 : Nat) : Nat × MV := (4,pI ((k1 : Nat) : Int))
theorem AcN (p0 : List Int) (RES : List Int) (hm : Og p0 = some RES) : Spec Try.prog 27 [.p (slI p0)] [] (ow 0 RES.length) [] [roI RES] := by
 unfold Og at hm
 refine SO Try.func27 rfl rfl [(0,.p (slI p0))] [] ?_
 intro cx hnt
 refine Sq (RK hnt (.no :: []) [(0,.p (slI p0))] [] tv ?_)
 refine Sq (RD hnt (.no :: []) [] [(3,.p (.sl .nil 0 0 (fun _ => [])))] [] [] tv ?_)
 refine Sq (Sq (RD hnt (.no :: []) [] [(4,pI 0)] [] [] tv ?_))
 refine Bk ?_
 obtain ⟨hc1,hm⟩ := go1 hm
 refine DW.rangeO (fun (k1 : Nat) (s1 : List Int) => Ae [(0,.p (slI p0)),(3,ow 1368 s1.length),(Ug k1)] [(1368,ob0 (roI s1))]) 0 hm (Conv.ads [(.s 3,1368,1,elems Bb 0 [])]) ?_
 intro k1 s1 n1 hk1 hs1 he1
 refine Sq (Sq (RD hnt (nn 4 []) [] [(9,pB (decide (((k1 : Nat) : Int) < ((p0.length : Nat) : Int))))] [] [] tv ?_))
 refine Dr (decide (((k1 : Nat) : Int) < ((p0.length : Nat) : Int))) ?_ ?_
 ·intro h72
  have hlt1 : k1 < p0.length := by have := of_decide_eq_true h72; omega
  have hm := hs1 hlt1
  unfold Uq at hm
  refine Sk ?_
  refine Sq ?_
  refine Jn (ι := List Int) (fun (y11 : List Int) => Ae [(0,.p (slI p0)),(3,ow 1368 y11.length),(Ug k1)] [(1368,ob0 (roI y11))]) (fun y11 => (Mh n1) y11 = some RES) ?_ ?_
  ·intro y11 hm
   unfold Mh at hm
   refine RD hnt (nn 3 []) [] [(4,pI (w64 (((k1 : Nat) : Int) + 1)))] [] [] tv ?_
   exact jD y11 ⟨hlt1,hm⟩ (Conv.tp [(4,pI (w64 (((k1 : Nat) : Int) + 1)))] [] (by kernel_rfl) (.cons rfl (.of_eq (congrArg pI (Cs hlt1 hc1))) .nil) .nil)
  ·refine Bk ?_
   refine Sq (RD hnt (nn 3 []) [9] [(5,pI ((s1.length : Nat) : Int))] [] [] tv ?_)
   refine Sq (Bk ?_)
   refine DW.whileO (fun (s4 : Int) => Ae [(0,.p (slI p0)),(3,ow 1368 s1.length),(Ug k1),(5,pI s4)] [(1368,ob0 (roI s1))]) hm Conv.eqK ?_
   intro s4 n4 hm
   unfold Qu at hm
   refine Sq (Sq ?_)
   refine Jn (ι := Bool) (fun (y14 : Bool) => Ae [(0,.p (slI p0)),(3,ow 1368 s1.length),(Ug k1),(5,pI s4),(27,pB y14)] [(1368,ob0 (roI s1))]) (fun y14 => (Kq (p0.getD k1 0) s1 n1 s4 n4) y14 = some RES) ?_ ?_
   ·intro y14 hm
    unfold Kq at hm
    refine An hm ?_ ?_
    ·intro h90 hm
     refine Sk ?_
     refine Bk ?_
     refine RD hnt (nn 3 []) [27] [(5,pI (w64 (s4 - 1)))] [] [] tv ?_
     refine DW.done ?_
     show DW _ _ _ _ _
     exact jD (w64 (s4 - 1)) hm Conv.eqK
    ·intro h90 hm
     refine DW.exit ?_
     refine Al ?_
     refine Ar ?_
     refine Af ?_
     show DW _ _ _ _ _
     refine Sq (Sq ?_)
     refine Jn (ι := Bool) (fun (y15 : Bool) => Ae [(0,.p (slI p0)),(3,ow 1368 s1.length),(Ug k1),(5,pI s4),(43,pB y15)] [(1368,ob0 (roI s1))]) (fun y15 => (Kp (p0.getD k1 0) s1 n1 s4) y15 = some RES) ?_ ?_
     ·intro y15 hm
      unfold Kp at hm
      refine An hm ?_ ?_
      ·intro h94 hm
       refine DW.exit ?_
       exact Af (joinKQ s1 hm Conv.t0)
      ·intro h94 hm
       refine Sk ?_
       obtain ⟨g95,hm⟩ := go1 hm
       refine Sq (RN hnt (nn 4 []) [(0,.p (slI p0)),(3,ow 1368 (s1 ++ [0]).length),(Ug k1),(5,pI s4)] [(1368,ob0 (roI (s1 ++ [0])))] [(3,ow 1368 (s1.length + 1))] [(1368,.row 1 (s1.length + 1) (Et s1.length (elI s1) (cut 1 [vi 0])))] (an (by omega : (s1.length + 1) * 8 ≤ 140737488355328) tv) (by kernel_rfl) (.cons rfl (MLe.ownLen (enc := Bb) (d := 0) (f := (Et s1.length (elI s1) (cut 1 [vi 0]))) (RowIs.cat RowIs.elems (RowIs.lit (enc := Bb) (d := 0) (n := 1) (f := (cut 1 [vi 0])) [0] rfl (fun | 0,_ => rfl | n + 1,h => absurd h (by omega))))) .nil) (.cons rfl (BLe.typed (RowIs.cat RowIs.elems (RowIs.lit (enc := Bb) (d := 0) (n := 1) (f := (cut 1 [vi 0])) [0] rfl (fun | 0,_ => rfl | n + 1,h => absurd h (by omega))))) .nil) ?_)
       obtain ⟨g96,g97,g98,hm⟩ := go3 hm
       refine Sq (RN hnt (nn 8 []) [(0,.p (slI p0)),(3,ow 1368 (Le (s1 ++ [0]) (Int.toNat (w64 (s4 + 1))) (Gi (Cc (s1 ++ [0]).length (Int.toNat s4)) (Cc (s1 ++ [0]).length (Int.toNat (w64 (s4 + 1))))) (((s1 ++ [0]).drop (Int.toNat s4)).take (Cc (s1 ++ [0]).length (Int.toNat s4)))).length),(Ug k1),(5,pI s4)] [(1368,ob0 (roI (Le (s1 ++ [0]) (Int.toNat (w64 (s4 + 1))) (Gi (Cc (s1 ++ [0]).length (Int.toNat s4)) (Cc (s1 ++ [0]).length (Int.toNat (w64 (s4 + 1))))) (((s1 ++ [0]).drop (Int.toNat s4)).take (Cc (s1 ++ [0]).length (Int.toNat s4))))))] [(3,ow 1368 (s1 ++ [0]).length)] [(1368,.row 1 (s1 ++ [0]).length (Ji (elI (s1 ++ [0])) (Int.toNat (w64 (s4 + 1))) (Gi (Cc (s1 ++ [0]).length (Int.toNat s4)) (Cc (s1 ++ [0]).length (Int.toNat (w64 (s4 + 1))))) (shF (Int.toNat s4) (elI (s1 ++ [0])))))] (an (by omega : (0 : Int) ≤ (w64 (s4 + 1))) (an (by omega : (w64 (s4 + 1)) ≤ (((s1 ++ [0]).length : Nat) : Int)) (an (by omega : (((s1 ++ [0]).length : Nat) : Int) ≤ (((s1 ++ [0]).length : Nat) : Int)) (an (by omega : (0 : Int) ≤ s4) (an (by omega : s4 ≤ (((s1 ++ [0]).length : Nat) : Int)) (an (by omega : (((s1 ++ [0]).length : Nat) : Int) ≤ (((s1 ++ [0]).length : Nat) : Int)) (an g98 tv))))))) (by kernel_rfl) (.cons rfl (MLe.ownLen (enc := Bb) (d := 0) (f := (Ji (elI (s1 ++ [0])) (Int.toNat (w64 (s4 + 1))) (Gi (Cc (s1 ++ [0]).length (Int.toNat s4)) (Cc (s1 ++ [0]).length (Int.toNat (w64 (s4 + 1))))) (shF (Int.toNat s4) (elI (s1 ++ [0]))))) (RowIs.over RowIs.elems (RowIs.sub RowIs.elems (by first | omega | (simp only [Gy,Rh] at *; omega))) (Abg _ _).1 (by have := (Abg (Cc (s1 ++ [0]).length (Int.toNat s4)) (Cc (s1 ++ [0]).length (Int.toNat (w64 (s4 + 1))))).2; omega))) .nil) (.cons rfl (BLe.typed (RowIs.over RowIs.elems (RowIs.sub RowIs.elems (by first | omega | (simp only [Gy,Rh] at *; omega))) (Abg _ _).1 (by have := (Abg (Cc (s1 ++ [0]).length (Int.toNat s4)) (Cc (s1 ++ [0]).length (Int.toNat (w64 (s4 + 1))))).2; omega))) .nil) ?_)
       generalize (Le (s1 ++ [0]) (Int.toNat (w64 (s4 + 1))) (Gi (Cc (s1 ++ [0]).length (Int.toNat s4)) (Cc (s1 ++ [0]).length (Int.toNat (w64 (s4 + 1))))) (((s1 ++ [0]).drop (Int.toNat s4)).take (Cc (s1 ++ [0]).length (Int.toNat s4)))) = G1 at hm ⊢
       obtain ⟨g99,g100,hm⟩ := go2 hm
       refine RN hnt (nn 8 []) [(0,.p (slI p0)),(3,ow 1368 (G1.set (Int.toNat s4) (p0.getD k1 0)).length),(Ug k1)] [(1368,ob0 (roI (G1.set (Int.toNat s4) (p0.getD k1 0))))] [(3,ow 1368 G1.length)] [(1368,.row 1 G1.length (Bn (elI G1) (Int.toNat s4) [vi (p0.getD k1 0)]))] (an (nn0 k1) (an (ltc hlt1) (an g99.1 (an g99.2 (an g100 tv))))) (by kernel_rfl) (.cons rfl (MLe.ownLen (enc := Bb) (d := 0) (f := (Bn (elI G1) (Int.toNat s4) [vi (p0.getD k1 0)])) (RowIs.upd RowIs.elems (p0.getD k1 0) rfl)) .nil) (.cons rfl (BLe.typed (RowIs.upd RowIs.elems (p0.getD k1 0) rfl)) .nil) ?_
       exact bD (G1.set (Int.toNat s4) (p0.getD k1 0)) hm .refl
     ·rcases bt (decide (s4 > 0)) with h91 | h91
      ·replace hm := Bf h91 hm
       obtain ⟨g92,g93,hm⟩ := go2 hm
       refine RD hnt (nn 13 (pT :: [])) [27] [(43,pB ((s1.getD (Int.toNat (w64 (s4 - 1))) 0) == (p0.getD k1 0)))] [] [] (an4 h91 (an g92.1 (an g92.2 (an h91 (an g93 (an3 h91 (an (nn0 k1) (an (ltc hlt1) (an3 h91 tv))))))))) ?_
       exact jD ((s1.getD (Int.toNat (w64 (s4 - 1))) 0) == (p0.getD k1 0)) hm Conv.eqK
      ·replace hm := Bg h91 hm
       refine RD hnt (nn 3 (sk 10 (pF :: []))) [27] [(43,pB false)] [] [] (an5 h91 (an6 h91 tv)) ?_
       exact jD false hm Conv.eqK
   ·rcases bt (decide (s4 > 0)) with h87 | h87
    ·replace hm := Bf h87 hm
     obtain ⟨g88,g89,hm⟩ := go2 hm
     refine RD hnt (nn 13 (pT :: [])) [] [(27,pB (decide ((p0.getD k1 0) < (s1.getD (Int.toNat (w64 (s4 - 1))) 0))))] [] [] (an3 h87 (an (nn0 k1) (an (ltc hlt1) (an5 h87 (an g88.1 (an g88.2 (an h87 (an g89 (an2 h87 tv))))))))) ?_
     exact jD (decide ((p0.getD k1 0) < (s1.getD (Int.toNat (w64 (s4 - 1))) 0))) hm Conv.eqK
    ·replace hm := Bg h87 hm
     refine RD hnt (nn 3 (sk 10 (pF :: []))) [] [(27,pB false)] [] [] (an5 h87 (an6 h87 tv)) ?_
     exact jD false hm Conv.eqK
 ·intro h72
  have hge1 : ¬ k1 < p0.length := by have := of_decide_eq_false h72; omega
  have hm := he1 hge1
  unfold Aaf at hm
  refine DW.exit ?_
  refine Al ?_
  refine Ar ?_
  refine Af ?_
  show DW _ _ _ _ _
  refine Sq (RK hnt (nn 2 []) [(2,ow 1368 s1.length)] [(1368,ob0 (roI s1))] tv ?_)
  obtain rfl := sj hm
  exact DW.ret (Ak [roI s1] [1368] (ow 0 s1.length))
abbrev o107 (ks : List Nat) (b : Bool) (RES : List Int) (sm : List Nat := []) : Orc := .call 27 ks b (ow 0 RES.length) [] [roI RES] sm

theorem AaO (p0 : List Int) (p1 : List Int) (RES : List Int) (hm : Ms p0 p1 = some RES) : Spec Try.prog 14 [.p (slI p0),.p (slI p1)] [] (ow 0 RES.length) [] [roI RES] := by
 unfold Ms at hm
 refine SO Try.func14 rfl rfl [(0,.p (slI p0)),(1,.p (slI p1))] [] ?_
 intro cx hnt
 refine Sq (RD hnt (.no :: []) [] [] [] [] tv ?_)
 refine Sq (RD hnt (.no :: []) [] [(5,.p (.sl .nil 0 0 (fun _ => [])))] [] [] tv ?_)
 refine Sq (Sq (RD hnt (.no :: []) [] [(6,pI 0)] [] [] tv ?_))
 refine Bk ?_
 obtain ⟨hc1,hm⟩ := go1 hm
 refine DW.rangeO (fun (k1 : Nat) (s1 : List Int) => Ae [(0,.p (slI p0)),(1,.p (slI p1)),(5,ow 1200 s1.length),(6,pI ((k1 : Nat) : Int))] [(1200,ob0 (roI s1))]) 0 hm (Conv.ads [(.s 5,1200,1,elems Bb 0 [])]) ?_
 intro k1 s1 n1 hk1 hs1 he1
 refine Sq (Sq (RD hnt (nn 4 []) [] [(10,pB (decide (((k1 : Nat) : Int) < ((p0.length : Nat) : Int))))] [] [] tv ?_))
 refine Dr (decide (((k1 : Nat) : Int) < ((p0.length : Nat) : Int))) ?_ ?_
 ·intro h15
  have hlt1 : k1 < p0.length := by have := of_decide_eq_true h15; omega
  have hm := hs1 hlt1
  unfold Re at hm
  refine Sk ?_
  refine Sq ?_
  refine Jn (ι := List Int) (fun (y3 : List Int) => Ae [(0,.p (slI p0)),(1,.p (slI p1)),(5,ow 1200 y3.length),(6,pI ((k1 : Nat) : Int))] [(1200,ob0 (roI y3))]) (fun y3 => (Kv n1) y3 = some RES) ?_ ?_
  ·intro y3 hm
   unfold Kv at hm
   refine RD hnt (nn 3 []) [] [(6,pI (w64 (((k1 : Nat) : Int) + 1)))] [] [] tv ?_
   exact jD y3 ⟨hlt1,hm⟩ (Conv.tp [(6,pI (w64 (((k1 : Nat) : Int) + 1)))] [] (by kernel_rfl) (.cons rfl (.of_eq (congrArg pI (Cs hlt1 hc1))) .nil) .nil)
  ·refine Bk ?_
   obtain ⟨r16,hr16,hm⟩ := bo hm
   refine Sq (RD hnt (nn 5 (o106 [] true r16 :: [])) [10] [(18,pB r16)] [] [] (an (nn0 k1) (an (ltc hlt1) (an (AeU p1 (p0.getD k1 0) r16 hr16) tv))) ?_)
   refine An hm ?_ ?_
   ·intro h17 hm
    obtain ⟨g18,hm⟩ := go1 hm
    refine RN hnt (nn 8 []) [(0,.p (slI p0)),(1,.p (slI p1)),(5,ow 1200 (s1 ++ [(p0.getD k1 0)]).length),(6,pI ((k1 : Nat) : Int))] [(1200,ob0 (roI (s1 ++ [(p0.getD k1 0)])))] [(5,ow 1200 (s1.length + 1))] [(1200,.row 1 (s1.length + 1) (Et s1.length (elI s1) (cut 1 [vi (p0.getD k1 0)])))] (an (nn0 k1) (an (ltc hlt1) (an (by omega : (s1.length + 1) * 8 ≤ 140737488355328) tv))) (by kernel_rfl) (.cons rfl (MLe.ownLen (enc := Bb) (d := 0) (f := (Et s1.length (elI s1) (cut 1 [vi (p0.getD k1 0)]))) (RowIs.cat RowIs.elems (RowIs.lit (enc := Bb) (d := 0) (n := 1) (f := (cut 1 [vi (p0.getD k1 0)])) [(p0.getD k1 0)] rfl (fun | 0,_ => rfl | n + 1,h => absurd h (by omega))))) .nil) (.cons rfl (BLe.typed (RowIs.cat RowIs.elems (RowIs.lit (enc := Bb) (d := 0) (n := 1) (f := (cut 1 [vi (p0.getD k1 0)])) [(p0.getD k1 0)] rfl (fun | 0,_ => rfl | n + 1,h => absurd h (by omega))))) .nil) ?_
    exact bD (s1 ++ [(p0.getD k1 0)]) hm .refl
   ·intro h17 hm
    refine Sk ?_
    exact bD s1 hm Conv.t0
 ·intro h15
  have hge1 : ¬ k1 < p0.length := by have := of_decide_eq_false h15; omega
  have hm := he1 hge1
  unfold Nb at hm
  refine DW.exit ?_
  refine Al ?_
  refine Ar ?_
  refine Af ?_
  show DW _ _ _ _ _
  refine Sq (DW.cv [] [(5,.p (slI s1))] [1200] [] (Conv.frz [1200]) ?_)
  obtain ⟨r20,hr20,hm⟩ := bo hm
  refine RK hnt (.no :: o107 [] true r20 :: .no :: []) [(4,ow 1216 r20.length)] [(1216,ob0 (roI r20))] (an (AcN s1 r20 hr20) tv) ?_
  obtain rfl := sj hm
  exact DW.ret (Ak [roI r20] [1216] (ow 0 r20.length))
abbrev o105 (ks : List Nat) (b : Bool) (RES : List Int) (sm : List Nat := []) : Orc := .call 14 ks b (ow 0 RES.length) [] [roI RES] sm

abbrev Im (s10 : Aw × (List Ab)) (k10 : Int) := (s10.2.getD (Int.toNat k10) Bc)
abbrev c1e2 (s10 : Aw × (List Ab)) (k10 : Int) (r322 : (List Int) × Aw) := (Bn (Zp s10.2) (Int.toNat k10) [vi (Im s10 k10).group,vi (Im s10 k10).settings.pidsMax,vi (Im s10 k10).settings.weight,vi (Im s10 k10).settings.quota,vi (Im s10 k10).settings.period,vi (Im s10 k10).settings.burst,vi (Im s10 k10).settings.clampMin,vi (Im s10 k10).settings.clampMax,slI r322.1,slI (Im s10 k10).settings.mems,vi (Im s10 k10).settings.partition,vi (Im s10 k10).settings.memory.min,vi (Im s10 k10).settings.memory.low,vi (Im s10 k10).settings.memory.high,vi (Im s10 k10).settings.memory.max,vi (Im s10 k10).settings.memory.swapMax,vb (Im s10 k10).settings.memory.together,Dp (Im s10 k10).settings.devices])
abbrev c1e3 (s10 : Aw × (List Ab)) (k10 : Int) (r322 : (List Int) × Aw) := ({ group := (Im s10 k10).group,settings := ({ pidsMax := (Im s10 k10).settings.pidsMax,weight := (Im s10 k10).settings.weight,quota := (Im s10 k10).settings.quota,period := (Im s10 k10).settings.period,burst := (Im s10 k10).settings.burst,clampMin := (Im s10 k10).settings.clampMin,clampMax := (Im s10 k10).settings.clampMax,cpus := r322.1,mems := (Im s10 k10).settings.mems,partition := (Im s10 k10).settings.partition,memory := (Im s10 k10).settings.memory,devices := (Im s10 k10).settings.devices } : As) } : Ab)
abbrev c1e4 (r5 : Ac × Aw) : Nat × Obj := (1032,bx (pm (Am r5.1)))
abbrev c1e5 (r5 : Ac × Aw) (k13 : Nat) := (r5.1.nodes.getD k13 (default : Ai))
abbrev c1e6 (r5 : Ac × Aw) : Nat × MV := (62,pI ((r5.1.nodes.length : Nat) : Int))
theorem Zb (p0 : List Int) (RES : Bool) (hm : Jz p0 = some RES) : Spec Try.prog 3 [.p (slI p0)] [] (pB RES) [] [] := by
 unfold Jz at hm
 refine SO Try.func3 rfl rfl [(0,.p (slI p0))] [] ?_
 intro cx hnt
 refine Sq (RK hnt (.no :: []) [(0,.p (slI p0))] [] tv ?_)
 obtain ⟨r1,hr1,hm⟩ := bo hm
 refine Sq (Sq (RD hnt (.no :: o2 [] true r1 :: .no :: []) [] [(15,pB (!r1))] [] [] (an (Adj p0 r1 hr1) tv) ?_))
 refine An hm ?_ ?_
 ·intro h2 hm
  obtain ⟨r3,hr3,hm⟩ := bo hm
  refine Sq (RK hnt (o3 [] true r3 :: .no :: []) [(2,pB r3)] [] (an (Za r3 hr3) tv) ?_)
  obtain rfl := sj hm
  exact DW.ret (Ak [] [] (pB r3))
 ·intro h2 hm
  refine Sk ?_
  obtain ⟨r4,hr4,hm⟩ := bo hm
  refine Sq (RK hnt (.no :: o95 [] true r4 :: .no :: []) [(3,rr 1144)] [(1144,bx (pm (Au r4)))] (an (AdZ p0 r4 hr4) tv) ?_)
  obtain ⟨r5,hr5,hm⟩ := bo hm
  refine Sq (RK hnt (.no :: o96 [1144] true r5 :: nn 2 []) [(3,rr 1144),(4,rr 1032)] [(c1e4 r5),(1144,bx (pm (Au r5.2)))] (an (AaG r4 7 r5 hr5) (an tv tv)) ?_)
  obtain ⟨r6,hr6,hm⟩ := bo hm
  refine Sq (RD hnt (.no :: o15 [] true r6 :: .no :: []) [] [(5,ow 1176 r6.length)] [] [(1176,ob0 (Du r6))] (an (Aae r5.1 r6 hr6) tv) ?_)
  obtain ⟨r7,hr7,hm⟩ := bo hm
  refine Sq (RD hnt (.no :: o102 [1144] true r7 :: .no :: []) [] [(6,ow 1192 r7.1.length)] [] [(1144,bx (pm (Au r7.2))),(1192,ob0 (roI r7.1))] (an (Zr r5.2 8 r7 hr7) (an tv tv)) ?_)
  refine Sq (Sq (RD hnt (nn 4 []) [] [(27,pI ((r5.1.nodes.length : Nat) : Int)),(28,pI 0)] [] [] tv ?_))
  refine Bk ?_
  obtain ⟨hc1,hm⟩ := go1 hm
  refine DW.rangeO (fun (k1 : Nat) (s1 : Unit) => Ae [(3,rr 1144),(4,rr 1032),(5,ow 1176 r6.length),(6,ow 1192 r7.1.length),(27,pI ((r5.1.nodes.length : Nat) : Int)),(28,pI ((k1 : Nat) : Int))] [(c1e4 r5),(1144,bx (pm (Au r7.2))),(1176,ob0 (Du r6)),(1192,ob0 (roI r7.1))]) De hm Conv.eqK ?_
  intro k1 s1 n1 hk1 hs1 he1
  refine Sq (RD hnt (.no :: []) [] [(29,pB (decide (((k1 : Nat) : Int) < ((r5.1.nodes.length : Nat) : Int))))] [] [] tv ?_)
  refine Sq (Dr (decide (((k1 : Nat) : Int) < ((r5.1.nodes.length : Nat) : Int))) ?_ ?_)
  ·intro h210
   have hlt1 : k1 < r5.1.nodes.length := by have := of_decide_eq_true h210; omega
   have hm := hs1 hlt1
   unfold Oj at hm
   refine Sk ?_
   refine Sq (Bk ?_)
   refine Sq (RD hnt (nn 2 []) [29] [(7,pI ((k1 : Nat) : Int))] [] [] tv ?_)
   obtain ⟨r211,hr211,hm⟩ := bo hm
   obtain ⟨r212,hr212,hm⟩ := bo hm
   refine Sq (RD hnt (nn 9 (o23 [] true r211 :: .no :: o92 [] true r212 :: .no :: [])) [7] [(43,pB (!r212))] [] [] (an (nn0 k1) (an (ltc hlt1) (an (Ec r5.1 r6 r7.1 (r5.1.nodes.getD k1 (default : Ai)).id r211 hr211) (an ((fun _ => rfl) : ∀ i,((elI r211) i).all PV.flat = true) (an (Fz r211 r7.1 r212 hr212) tv))))) ?_)
   refine An hm ?_ ?_
   ·intro h213 hm
    refine Sq (RK hnt (.no :: []) [(2,pB false)] [] tv ?_)
    obtain rfl := sj hm
    exact DW.ret (Ak [] [] (pB false))
   ·intro h213 hm
    refine Sk ?_
    refine DW.done ?_
    show DW _ _ _ _ _
    refine RD hnt (nn 2 []) [43] [(28,pI (w64 (((k1 : Nat) : Int) + 1)))] [] [] tv ?_
    exact jD () ⟨hlt1,hm⟩ (Conv.tp [(28,pI (w64 (((k1 : Nat) : Int) + 1)))] [] (by kernel_rfl) (.cons rfl (.of_eq (congrArg pI (Cs hlt1 hc1))) .nil) .nil)
  ·intro h210
   have hge1 : ¬ k1 < r5.1.nodes.length := by have := of_decide_eq_false h210; omega
   have hm := he1 hge1
   unfold Om at hm
   refine DW.exit ?_
   refine Al ?_
   refine Ar ?_
   refine Af ?_
   show DW _ _ _ _ _
   refine Sq (Sq (RD hnt (nn 3 []) [27,28,29] [(46,pI ((r6.length : Nat) : Int)),(47,pI 0)] [] [] tv ?_))
   refine Bk ?_
   obtain ⟨hc10,hm⟩ := go1 hm
   refine DW.forO (fun (k10 : Int) (s10 : Aw × (List Ab)) => Ae [(3,rr 1144),(4,rr 1032),(5,ow 1176 s10.2.length),(6,ow 1192 r7.1.length),(46,pI ((r6.length : Nat) : Int)),(47,pI k10)] [(c1e4 r5),(1144,bx (pm (Au s10.1))),(1176,ob0 (Du s10.2)),(1192,ob0 (roI r7.1))]) (lo := 0) (hi := ((r6.length : Nat) : Int)) hm Conv.eqK ?_
   intro k10 s10 n10 hk10 hs10 he10
   refine Sq (RD hnt (.no :: []) [] [(48,pB (decide (k10 < ((r6.length : Nat) : Int))))] [] [] tv ?_)
   refine Sq (Dr (decide (k10 < ((r6.length : Nat) : Int))) ?_ ?_)
   ·intro h316
    have hlt10 : k10 < ((r6.length : Nat) : Int) := by have := of_decide_eq_true h316; omega
    have hm := hs10 hlt10
    unfold No at hm
    refine Sk ?_
    refine Sq ?_
    refine Jn (ι := Aw × (List Ab)) (fun (y57 : Aw × (List Ab)) => Ae [(3,rr 1144),(4,rr 1032),(5,ow 1176 y57.2.length),(6,ow 1192 r7.1.length),(46,pI ((r6.length : Nat) : Int)),(47,pI k10)] [(c1e4 r5),(1144,bx (pm (Au y57.1))),(1176,ob0 (Du y57.2)),(1192,ob0 (roI r7.1))]) (fun y57 => (Ih n10) y57 = some RES) ?_ ?_
    ·intro y57 hm
     unfold Ih at hm
     refine RD hnt (nn 2 []) [] [(47,pI (w64 (k10 + 1)))] [] [] tv ?_
     exact jD (y57.1,y57.2) ⟨hlt10,hm⟩ (Conv.tp [(47,pI (w64 (k10 + 1)))] [] (by kernel_rfl) (.cons rfl (.of_eq (congrArg pI (Mu (lo := 0) (hi := ((r6.length : Nat) : Int)) (by omega) hk10 hlt10 (by omega)))) .nil) .nil)
    ·refine Bk ?_
     refine Sq (RD hnt (nn 2 []) [48] [(8,pI k10)] [] [] tv ?_)
     obtain ⟨r317,hr317,hm⟩ := bo hm
     refine Sq (RD hnt (.no :: o99 [1144] true r317 :: []) [] [(51,pB r317.1)] [] [(1144,bx (pm (Au r317.2)))] (an (Lh s10.1 2 r317 hr317) (an tv tv)) ?_)
     refine An hm ?_ ?_
     ·intro h318 hm
      obtain ⟨r322,hr322,hm⟩ := bo hm
      obtain ⟨g323,g324,hm⟩ := go2 hm
      obtain ⟨r325,hr325,hm⟩ := bo hm
      refine RN hnt (nn 3 (o104 [1144] true r322 :: nn 4 [])) [(3,rr 1144),(4,rr 1032),(5,ow 1176 r325.length),(6,ow 1192 r7.1.length),(46,pI ((r6.length : Nat) : Int)),(47,pI k10)] [(c1e4 r5),(1144,bx (pm (Au r322.2))),(1176,ob0 (Du r325)),(1192,ob0 (roI r7.1))] [(5,ow 1176 s10.2.length)] [(1176,.row 18 s10.2.length (c1e2 s10 k10 r322))] (an (Aau r317.2 8 r322 hr322) (an tv (an g323.1 (an g323.2 (an g324 tv))))) (by kernel_rfl) (.cons rfl (MLe.ownLen (enc := Hy) (d := Bc) (f := (c1e2 s10 k10 r322)) (RowIs.named hr325 (RowIs.upd RowIs.elems (c1e3 s10 k10 r322) rfl))) .nil) (.cons rfl (BLe.typed (RowIs.named hr325 (RowIs.upd RowIs.elems (c1e3 s10 k10 r322) rfl))) .nil) ?_
      exact bD (r322.2,r325) hm .refl
     ·intro h318 hm
      refine Sk ?_
      exact bD (r317.2,s10.2) hm Conv.t0
   ·intro h316
    have hge10 : ¬ k10 < ((r6.length : Nat) : Int) := by have := of_decide_eq_false h316; omega
    have hm := he10 hge10
    unfold Np at hm
    refine DW.exit ?_
    refine Al ?_
    refine Ar ?_
    refine Af ?_
    show DW _ _ _ _ _
    refine Sq (Sq (RD hnt (nn 4 []) [3,46,47,48] [(c1e6 r5),(63,pI 0)] [1144] [] tv ?_))
    refine Bk ?_
    obtain ⟨hc13,hm⟩ := go1 hm
    refine DW.rangeO (fun (k13 : Nat) (s13 : Unit) => Ae [(4,rr 1032),(5,ow 1176 s10.2.length),(6,ow 1192 r7.1.length),(c1e6 r5),(63,pI ((k13 : Nat) : Int))] [(c1e4 r5),(1176,ob0 (Du s10.2)),(1192,ob0 (roI r7.1))]) De hm Conv.eqK ?_
    intro k13 s13 n13 hk13 hs13 he13
    refine Sq (RD hnt (.no :: []) [] [(64,pB (decide (((k13 : Nat) : Int) < ((r5.1.nodes.length : Nat) : Int))))] [] [] tv ?_)
    refine Sq (Dr (decide (((k13 : Nat) : Int) < ((r5.1.nodes.length : Nat) : Int))) ?_ ?_)
    ·intro h354
     have hlt13 : k13 < r5.1.nodes.length := by have := of_decide_eq_true h354; omega
     have hm := hs13 hlt13
     unfold Na at hm
     refine Sk ?_
     refine Sq ?_
     refine Jn (ι := Unit) (fun (y64 : Unit) => Ae [(4,rr 1032),(5,ow 1176 s10.2.length),(6,ow 1192 r7.1.length),(c1e6 r5),(63,pI ((k13 : Nat) : Int))] [(c1e4 r5),(1176,ob0 (Du s10.2)),(1192,ob0 (roI r7.1))]) (fun y64 => (Gv n13) y64 = some RES) ?_ ?_
     ·intro y64 hm
      unfold Gv at hm
      refine RD hnt (nn 2 []) [] [(63,pI (w64 (((k13 : Nat) : Int) + 1)))] [] [] tv ?_
      exact jD () ⟨hlt13,hm⟩ (Conv.tp [(63,pI (w64 (((k13 : Nat) : Int) + 1)))] [] (by kernel_rfl) (.cons rfl (.of_eq (congrArg pI (Cs hlt13 hc13))) .nil) .nil)
     ·refine Bk ?_
      refine Sq (RD hnt (nn 2 []) [64] [(9,pI ((k13 : Nat) : Int))] [] [] tv ?_)
      refine Sq (RD hnt (nn 7 []) [] [(10,rr 1080)] [] [(1080,bx (pm (Bw (c1e5 r5 k13))))] (an (nn0 k13) (an (ltc hlt13) tv)) ?_)
      refine Sq (Sq (RD hnt (nn 3 []) [] [(73,pB ((c1e5 r5 k13).id == 1))] [] [] tv ?_))
      refine An hm ?_ ?_
      ·intro h355 hm
       refine DW.exit ?_
       exact Af (joinKQ () hm Conv.t0)
      ·intro h355 hm
       refine Sk ?_
       obtain ⟨r356,hr356,hm⟩ := bo hm
       refine Sq (RD hnt (nn 5 (o23 [] true r356 :: .no :: [])) [73] [(11,ow 1632 r356.length)] [] [(1632,ob0 (roI r356))] (an (Ec r5.1 s10.2 r7.1 (c1e5 r5 k13).parent r356 hr356) (an ((fun _ => rfl) : ∀ i,((elI r356) i).all PV.flat = true) tv)) ?_)
       obtain ⟨g357,g358,hm⟩ := go2 hm
       obtain ⟨r359,hr359,hm⟩ := bo hm
       refine Sq (RD hnt (nn 7 (o105 [] true r359 :: .no :: [])) [9] [(12,ow 1696 r359.length)] [] [(1696,ob0 (roI r359))] (an (nn0 k13) (an (ltc g357) (an g358 (an (AaO (s10.2.getD k13 Bc).settings.cpus r356 r359 hr359) (an ((fun _ => rfl) : ∀ i,((elI r359) i).all PV.flat = true) tv))))) ?_)
       refine Sq (Sq (RD hnt (nn 3 []) [] [(90,pB (((r359.length : Nat) : Int) == 0))] [] [] tv ?_))
       refine Jn (ι := List Int) (fun (y65 : List Int) => Ae [(4,rr 1032),(5,ow 1176 s10.2.length),(6,ow 1192 r7.1.length),(10,rr 1080),(12,ow 1632 y65.length),(c1e6 r5),(63,pI ((k13 : Nat) : Int))] [(c1e4 r5),(1080,bx (pm (Bw (c1e5 r5 k13)))),(1176,ob0 (Du s10.2)),(1192,ob0 (roI r7.1)),(1632,ob0 (roI y65))]) (fun y65 => (Gt r5 r7 s10 (c1e5 r5 k13) n13) y65 = some RES) ?_ ?_
       ·intro y65 hm
        unfold Gt at hm
        obtain ⟨r361,hr361,hm⟩ := bo hm
        obtain ⟨r362,hr362,hm⟩ := bo hm
        refine Sq (RD hnt (nn 5 (o23 [] true r361 :: .no :: o92 [] true r362 :: .no :: [])) [10,12] [(100,pB (!r362))] [1080,1632] [] (an (Ec r5.1 s10.2 r7.1 (c1e5 r5 k13).id r361 hr361) (an ((fun _ => rfl) : ∀ i,((elI r361) i).all PV.flat = true) (an (Fz r361 y65 r362 hr362) tv))) ?_)
        refine An hm ?_ ?_
        ·intro h363 hm
         refine Sq (RK hnt (.no :: []) [(2,pB false)] [] tv ?_)
         obtain rfl := sj hm
         exact DW.ret (Ak [] [] (pB false))
        ·intro h363 hm
         refine Sk ?_
         exact bD () hm Conv.t0
       ·refine An hm ?_ ?_
        ·intro h360 hm
         refine RD hnt (nn 2 []) [11,90] [(12,ow 1632 r356.length)] [1696] [] tv ?_
         exact jD r356 hm Conv.eqK
        ·intro h360 hm
         refine Sk ?_
         exact jD r359 hm (Conv.trans (τ := Ae [(4,rr 1032),(5,ow 1176 s10.2.length),(6,ow 1192 r7.1.length),(10,rr 1080),(12,ow 1696 r359.length),(c1e6 r5),(63,pI ((k13 : Nat) : Int))] [(c1e4 r5),(1080,bx (pm (Bw (c1e5 r5 k13)))),(1176,ob0 (Du s10.2)),(1192,ob0 (roI r7.1)),(1696,ob0 (roI r359))]) Conv.t0 (Conv.rns [(1696,1632)]))
    ·intro h354
     have hge13 : ¬ k13 < r5.1.nodes.length := by have := of_decide_eq_false h354; omega
     have hm := he13 hge13
     unfold Nf at hm
     refine DW.exit ?_
     refine Al ?_
     refine Ar ?_
     refine Af ?_
     show DW _ _ _ _ _
     obtain ⟨r364,hr364,hm⟩ := bo hm
     refine Sq ?_
     refine Jn (ι := Bool) (fun (y66 : Bool) => Ae [(2,pB y66)] []) (fun y66 => Ij y66 = some RES) ?_ ?_
     ·intro y66 hm
      unfold Ij at hm
      obtain rfl := sj hm
      exact DW.ret (Ak [] [] (pB y66))
     ·rcases bt (((r364.length : Nat) : Int) == 0) with h365 | h365
      ·replace hm := Bf h365 hm
       obtain ⟨r366,hr366,hm⟩ := bo hm
       refine RK hnt (nn 3 (o94 [] true r364 :: nn 3 (o3 [] true r366 :: pT :: .no :: []))) [(2,pB r366)] [] (an (Mt r5.1 s10.2 r7.1 r364 hr364) (an ((fun _ => rfl) : ∀ i,((elI r364) i).all PV.flat = true) (an h365 (an (Za r366 hr366) (an h365 tv))))) ?_
       exact jD r366 hm .refl
      ·replace hm := Bg h365 hm
       refine RK hnt (nn 3 (o94 [] true r364 :: nn 3 (.skip :: pF :: .no :: []))) [(2,pB false)] [] (an (Mt r5.1 s10.2 r7.1 r364 hr364) (an ((fun _ => rfl) : ∀ i,((elI r364) i).all PV.flat = true) (an2 h365 tv))) ?_
       exact jD false hm .refl
abbrev o1 (ks : List Nat) (b : Bool) (RES : Bool) (sm : List Nat := []) : Orc := .call 3 ks b (pB RES) [] [] sm
end Go.Dm

