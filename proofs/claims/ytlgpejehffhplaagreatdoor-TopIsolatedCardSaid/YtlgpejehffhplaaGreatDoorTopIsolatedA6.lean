/- slices.Insert of one element into a row of one element, as a contract of the data machine; functions without a body; what closed runs ask of the program. -/
import Derived.Test.YtlgpejehffhplaaGreatDoorTopIsolatedA4
import Derived.Test.YtlgpejehffhplaaGreatDoorTopIsolatedA5
set_option linter.unusedVariables false
set_option linter.unusedSimpArgs false
namespace Go.Dm
open Go.Proofs
theorem row3 {U : Bs} {objs : Ay} {S : Nat -> Prop} {w : World} {l : Loc} {g : Nat -> List PV} (h : ObjRel U objs S w l (.row 3 1 g)) :
  ∃ b o cap cur e x0 x1 x2,l = .row b o cap /\ w.heap[b]? = some (.cells cur e (0,0)) /\ o + cap * 3 <= cur.size /\ 1 <= cap /\
   cur[o]? = some x0 /\ cur[o + 1]? = some x1 /\ cur[o + 2]? = some x2 /\ x0.oneCell' = true /\ x1.oneCell' = true /\ x2.oneCell' = true := by
 rcases h with ⟨_,h0⟩ | ⟨b,o,cap,cur,e,hl,h1,h2,h3,h4⟩
 ·omega
 obtain ⟨hlen,hh⟩ := h4 0 (by omega)
 obtain ⟨p0,p1,p2,hg⟩ : ∃ p0 p1 p2,g 0 = [p0,p1,p2] := by
  match hq : g 0,hlen with
  | [p0,p1,p2],_ => exact ⟨p0,p1,p2,rfl⟩
 rw [hg] at hh
 obtain ⟨u0,a0,c0,_⟩ := hh 0 p0 rfl
 obtain ⟨u1,a1,c1,_⟩ := hh 1 p1 rfl
 obtain ⟨u2,a2,c2,_⟩ := hh 2 p2 rfl
 exact ⟨b,o,cap,cur,e,u0,u1,u2,hl,h1,h2,h3,by simpa using a0,by simpa using a1,by simpa using a2,c0,c1,c2⟩
theorem own3 {U : Bs} {objs : Ay} {S : Nat -> Prop} {w : World} {v : Value} {k b o cap : Nat} {g : Nat -> List PV} (ho : objs k = some ⟨0,.row 3 1 g⟩) (hb : U k = .row b o cap) (hc : 1 <= cap) (h : RelV U objs S w v (.own k 0 0 1)) :
  v = .slice (some ⟨b,o,none⟩) 1 cap := by
 obtain ⟨base,c,rfl,q,h1,_,h2⟩ := h.inv_own
 rw [ho] at h1
 have hq := Option.some.inj h1
 subst hq
 have h3 := h2 rfl
 rw [hb] at h3
 obtain ⟨_,b',o',e1,e2,e3⟩ := h3
 have e2 : c = cap := by omega
 subst e2
 obtain ⟨rfl,e4⟩ := e3 (by omega)
 have : o' = o := by omega
 subst this
 rw [e1]
 rfl
theorem dead2 {k : Nat} {bd : Body} (h : (([.dead,.dead] : List Body) ++ [])[k]? = some bd) : bd = .dead := by
 match k,h with
 | 0,h => exact (Option.some.inj h).symm
 | 1,h => exact (Option.some.inj h).symm
 | k + 2,h => simp at h
theorem Ago : AqA Tryz.prog [460] := by
 intro f hf g1 g2
 obtain rfl : f = 460 := by
  unfold elem elem at hf
  cases hq : Nat.beq f 460 with
  | true => exact Nat.eq_of_beq_eq_true hq
  | false => simp [hq] at hf
 refine ⟨⟨Tryz.f460,Tryz.func460,by decide,rfl⟩,fun w Av U vs hp => ?_⟩
 obtain ⟨v0,v1,v2,rfl⟩ : ∃ v0 v1 v2,vs = #[v0,v1,v2] := by
  have hl := hp.len
  match vs,hl with
  | ⟨[v0,v1,v2]⟩,_ => exact ⟨v0,v1,v2,rfl⟩
 obtain ⟨b,o,cap,cur,e,x0,x1,x2,hl,h1,h2,h3,q0,q1,q2,c0,c1,c2⟩ := row3 (hp.ob 0 _ rfl)
 obtain ⟨vb,vo,vc,vcur,ve,y0,y1,y2,vl,w1,w2,w3,r0,r1,r2,d0,d1,d2⟩ := row3 (hp.ob 1 _ rfl)
 have e0 : v0 = .slice (some ⟨b,o,none⟩) 1 cap := own3 (k := 0) rfl hl h3 (hp.args 0 _ rfl)
 have e2 : v2 = .slice (some ⟨vb,vo,none⟩) 1 vc := own3 (k := 1) rfl vl w3 (hp.args 2 _ rfl)
 have e1 : v1 = .int .i64 0 := (hp.args 1 _ rfl).inv_v.1
 subst e0 e1 e2
 have hne : vb ≠ b := by
  intro hh
  subst hh
  exact hp.inj 0 1 _ _ vb rfl rfl trivial trivial (by decide) (by rw [hl]; rfl) (by rw [vl]; rfl)
 have hcell : ∀ j v,cur[o + j]? = some v -> w.cell? ⟨b,o + j,none⟩ = some v := fun j v hv => by simp [World.cell?,h1,hv]
 have vcell : ∀ j v,vcur[vo + j]? = some v -> w.cell? ⟨vb,vo + j,none⟩ = some v := fun j v hv => by simp [World.cell?,w1,hv]
 have hcs : ∀ (j : Nat) v,[x0,x1,x2][j]? = some v -> w.cell? ⟨b,o + j,none⟩ = some v := by
  intro j v hv
  match j,hv with
  | 0,hv => obtain rfl := Option.some.inj hv; exact hcell 0 _ q0
  | 1,hv => obtain rfl := Option.some.inj hv; exact hcell 1 _ q1
  | 2,hv => obtain rfl := Option.some.inj hv; exact hcell 2 _ q2
  | n + 3,hv => simp at hv
 have hvs : ∀ (j : Nat) v,[y0,y1,y2][j]? = some v -> w.cell? ⟨vb,vo + j,none⟩ = some v := by
  intro j v hv
  match j,hv with
  | 0,hv => obtain rfl := Option.some.inj hv; exact vcell 0 _ r0
  | 1,hv => obtain rfl := Option.some.inj hv; exact vcell 1 _ r1
  | 2,hv => obtain rfl := Option.some.inj hv; exact vcell 2 _ r2
  | n + 3,hv => simp at hv
 have hc1 : ∀ v ∈ [x0,x1,x2],v.oneCell' = true := by
  intro v hv
  simp only [List.mem_cons,List.not_mem_nil,or_false] at hv
  rcases hv with rfl | rfl | rfl <;> assumption
 have hv1 : ∀ v ∈ [y0,y1,y2],v.oneCell' = true := by
  intro v hv
  simp only [List.mem_cons,List.not_mem_nil,or_false] at hv
  rcases hv with rfl | rfl | rfl <;> assumption
 have post : ∀ (v : Value) (w' : World),Kept (fun q => ∃ (k : Nat) (bd : Body),([.row 3 1 g1,.row 3 1 g2] : List Body)[k]? = some bd /\ bd.live /\ (U k).block = some q) w w' ->
   Post w Av U [.row 3 1 g1,.row 3 1 g2] w' U v .any [.dead,.dead] [] := fun v w' hk => by
  refine ⟨hk,fun k bd _ hb hlv => ?_,rfl,.any _,fun k bd hb => ?_,fun k bd q hb hlv => ?_,fun k k' bd bd' q hb _ hlv => ?_⟩
  ·have hb := dead2 (by simpa using hb)
   subst hb
   exact hlv.elim
  ·rw [dead2 hb]
   trivial
  ·rw [dead2 hb] at hlv
   exact hlv.elim
  ·rw [dead2 hb] at hlv
   exact hlv.elim
 by_cases hcap : cap = 1
 ·subst hcap
  refine (ins_grow b o vb vo vc x0 x1 x2 y0 y1 y2 w hcs hvs hc1 hv1).mono ?_
  rintro e w' ⟨⟨v,rfl⟩,hg⟩
  exact ⟨v,U,rfl,post v w' ⟨hg.os,hg.tape,hg.output,hg.size,fun k hk _ => hg.block k hk⟩⟩
 ·refine (ins_room b o cap vb vo vc x0 x1 x2 y0 y1 y2 w (by omega) hne hcs (fun j hj => ?_) (fun j => ?_) hvs hc1 hv1 ve e vcur.size cur.size ?_ ?_ ?_ (fun j => ?_)).mono ?_
  ·have hlt : o + j < cur.size := by omega
   rw [hcell j _ (Array.getElem?_eq_getElem hlt)]
   rfl
  ·simp [World.frozen?,h1]
  ·simp [World.shape?,w1]
  ·simp [World.shape?,h1]
  ·omega
  ·simp [World.frozen?,w1]
  ·rintro e w' ⟨⟨v,rfl⟩,hg⟩
   refine ⟨v,U,rfl,post v w' ⟨hg.os,hg.tape,hg.output,Nat.le_of_eq hg.size.symm,fun k hk hno => hg.block k ?_⟩⟩
   rintro rfl
   exact hno ⟨0,_,rfl,trivial,by rw [hl]; rfl⟩
theorem AnE : Aem Tryz.prog [(475,.idx)] := by
 intro f k vs z hf hz
 obtain ⟨rfl,rfl⟩ : f = 475 /\ k = .idx := by
  unfold assoc assoc at hf
  cases hq : Nat.beq f 475 with
  | true =>
   exact ⟨Nat.eq_of_beq_eq_true hq,by cases k; rfl⟩
  | false => simp [hq] at hf
 obtain ⟨s,c,rfl,rfl⟩ : ∃ s c,vs = [.string s,.int .u8 c] /\ z = idxB s c := by
  unfold natV at hz
  split at hz
  ·exact ⟨_,_,rfl,(Option.some.inj hz).symm⟩
  ·simp at hz
 refine ⟨by unfold idxB; split <;> rfl,fun w => ?_⟩
 rw [run_callFunc_extern Tryz.func475 (by kernel_rfl) (by kernel_rfl) (by kernel_rfl) (e := Extern.BytealgIndexByte.indexByte) (by kernel_rfl)]
 show ((Extern.BytealgIndexByte.indexByte #[.string s,.int .u8 c]).run Tryz.prog w).andThen _ = _
 rw [run_indexByte_string]
 unfold idxB firstIdx
 cases (List.range s.size).find? fun i => s[i]! == c.toNat.toUInt8 <;> rfl
theorem noNumB : (Tryz.prog.funcs.toList.all fun fn => !(fn.name == "runtime.NumGoroutine")) = true := by kernel_rfl
theorem AnA (f : Nat) (fn : Func) (h : Tryz.prog.funcs[f]? = some fn) : fn.name ≠ "runtime.NumGoroutine" := by
 have := List.all_eq_true.1 noNumB fn (by rw [Array.mem_toList_iff]; exact Array.mem_of_getElem? h)
 intro e
 simp [e] at this
end Go.Dm
