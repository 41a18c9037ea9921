/- Plain laws: what is sewn by the program. -/
import Derived.Test.YtfiopgedfcaodaaGreatDoorSeamRc
set_option linter.all false
namespace Go.Proofs.YtfiopgedfcaodaaGreatDoor
open Go Go.Am Go.Sort
set_option maxRecDepth 100000
theorem wk74 (E:List (Nat × List P3)):List.map AV.weak (List.map nF74x4 E) = List.map n53 (E.map Prod.snd):=by
 rw [List.map_map,List.map_map]; rfl
theorem cl53 (l:List (List P3)):closedL (List.map n53 l) = true:=closedL_map (fun _=>rfl) l
theorem famE_snd (CL:List (List P3)):(famE CL).map Prod.snd = CL:=by
 apply List.ext_getElem
 ·simp
 ·intro j h1 h2
  rw [List.getElem_map,famE_get]
theorem errQ_in {C:List (List P3)} {p:P3} (h:errQ C p = 0):p ∈ plcs C:=by
 unfold errQ at h
 split at h
 ·cases h
 ·rename_i h1
  split at h
  ·rename_i h2
   exact (mem_plcs p).2 ⟨p.1.toNat,by omega,by omega,h2⟩
  ·cases h
theorem chkQ_in {C:List (List P3)} {J:List Six} (h:chkQ C J = 0):inJ (plcs C) J:=by
 obtain ⟨h1,h2⟩:=chkQ_ok h
 unfold chkQ at h
 rw [if_neg (fun c=>c h1),if_neg (by omega)] at h
 intro j hj
 have:=firstNZ_zero.1 h (errS C j) (List.mem_map.2 ⟨j,hj,rfl⟩)
 unfold errS at this
 have:=firstNZ_zero.1 this
 exact ⟨errQ_in (this _ (by simp)),errQ_in (this _ (by simp))⟩
def labS (C:List (List P3)) (J:List Six):Nat → Nat:=lab (edgJ (plcs C) J)
def sewC (C:List (List P3)) (J:List Six):List (List P3):=clsL (labS C J) (plcs C) (plcs C).length
def sewB (C:List (List P3)) (J:List Six):List (Int × Int):=barsK (labS C J) (plcs C) C C.length
def sewR (C:List (List P3)) (J:List Six):(List (List P3) × List (Int × Int)) × Int:=
 if chkQ C J ≠ 0 then (([],[]),chkQ C J) else if (sewC C J).length > 8192 ∨ (sewB C J).length > 8192 then (([],[]),5) else ((sewC C J,sewB C J),0)
section
variable {N:Nat} (hN:Big N)
include hN
theorem T47_sew (C:List (List P3)) (J:List Six):T47 N (C,J) = some (sewR C J):=by
 rw [T47_eq]
 have f127:allFit (Pat.fits p127) (List.map n127 J) = true:=fa127 J
 have m127:List.map d127 (List.map n127 J) = J:=md127 J
 simp only [fa115,md115,f127,m127,Bool.and_true,Bool.and_self,cond_true,Option.bind_some,T42_chk hN C J]
 unfold sewR
 by_cases h:chkQ C J = 0
 ·rw [if_neg (fun c=>c h)]
  obtain ⟨hp,hJ⟩:=chkQ_ok h
  obtain ⟨c1,c2⟩:=chkP_ok hp
  have hin:=chkQ_in h
  have hSl:=plcs_len c2 c1
  obtain ⟨m,r2,hm⟩:=R47_index hN (plcs C) (by omega) (plcs_nodup C)
  obtain ⟨u1,r4,hu1⟩:=R47_join hN (plcs C) (by omega) J hJ hin m hm
  obtain ⟨u2,M,r5,hu2,hM⟩:=R47_cls hN (plcs C) (by omega) m (lab_ok (edgJ (plcs C) J)) ((),plcs C,m,uL (plcs C).length id) (uL_len _ _) u1 hu1
  obtain ⟨u3,r6,hu3⟩:=R47_bars hN C (fun l hl=>chkN_ok (c2 l hl)) c1 (by omega) m hm (lab_ok (edgJ (plcs C) J)) ((),plcs C,m,uL (plcs C).length id) (uL_len _ _) (famE (sewC C J)) (lenC (sewC C J)) M hM u2 hu2
  have r1:=R47_places hN C c2 c1
  have r3:=R47_apart hN (plcs C) (by omega) m
  have r5':loopR (R47x8186 N ((),plcs C) ((),plcs C,m,uL (plcs C).length id)) N (0,(),(),plcs C,m,uL (plcs C).length u1,[],[],[]) = some ((),(),plcs C,m,uL (plcs C).length u2,famE (sewC C J),lenI (lenC (sewC C J)),M):=r5
  have r6':loopR (R47x16378 N C ((),plcs C,m,uL (plcs C).length id)) N (0,(),[],plcs C,m,uL (plcs C).length u2,famE (sewC C J),lenI (lenC (sewC C J)),M) = some ((),sewB C J,plcs C,m,uL (plcs C).length u3,famE (sewC C J),lenI (lenC (sewC C J)),M):=r6
  have hb:(chkQ C J != 0) = false:=by simp [h]
  have nb:Nat.beq 0 0 = true:=rfl
  have f94:allFit (Pat.fits p94) [] = true:=rfl
  have f46:allFit (Pat.fits p46) [] = true:=rfl
  have f3:allFit (Pat.fits p3) [] = true:=rfl
  have f53:allFit (Pat.fits p53) [] = true:=rfl
  have ff:allFit (Pat.fits pF74x4) [] = true:=rfl
  have f2:allFit (Pat.fits p2) (famL []) = true:=rfl
  have g2:List.map d2 (famL []) = []:=rfl
  have fm:allFit (Pat.fits pM109) [] = true:=rfl
  have fm2:allFit (Pat.fits pM191) [] = true:=rfl
  have n0:mcells ([]:List (AV × AV)) = []:=rfl
  have x0:allX ([]:List (AV × AV)) = true:=rfl
  simp only [hb,cond_false,nb,f94,f46,f3,f53,ff,f2,g2,fm,fm2,n0,x0,List.map_nil,List.length_nil,Bool.and_self,Bool.and_true,cond_true,decide_true,Option.bind_some,fa94,md94,fa3,md3,fa46,md46,mc191,ax191,faM191,mdM191,mc109,ax109,faM109,mdM109,faF74x4,mdF74x4,unf2,faL,mdL,r1,r2,r3,r4,r5',r6',List.length_map,famE_len,wk74,famE_snd,cl53,fa53,md53,Nat.beq_refl]
  by_cases h1:(sewC C J).length > 8192
  ·have h1':decide (((sewC C J).length:Int) > 8192) = true:=decide_eq_true (by omega)
   rw [if_pos (.inl h1),h1']; rfl
  ·have h1':decide (((sewC C J).length:Int) > 8192) = false:=decide_eq_false (by omega)
   by_cases h2:(sewB C J).length > 8192
   ·have h2':decide (((sewB C J).length:Int) > 8192) = true:=decide_eq_true (by omega)
    rw [if_pos (.inr h2),h1',h2']; rfl
   ·have h2':decide (((sewB C J).length:Int) > 8192) = false:=decide_eq_false (by omega)
    rw [if_neg (fun c=>c.elim h1 h2),h1',h2']
    simp only [cond_false,Option.bind_some,famE_len,decide_true,cond_true,famE_snd]
 ·have hb:(chkQ C J != 0) = true:=bne_iff_ne.2 h
  rw [if_pos h]
  simp only [hb,cond_true]
  rfl
end
end Go.Proofs.YtfiopgedfcaodaaGreatDoor
