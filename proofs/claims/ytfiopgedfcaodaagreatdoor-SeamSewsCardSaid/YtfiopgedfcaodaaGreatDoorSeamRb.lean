/- Plain laws: what is sewn: the program's loops. -/
import Derived.Test.YtfiopgedfcaodaaGreatDoorSeamRa
set_option linter.all false
namespace Go.Proofs.YtfiopgedfcaodaaGreatDoor
open Go Go.Am Go.Sort
set_option maxRecDepth 100000
theorem mt109 (k:Int) (m:List (Int × Int)):mgetT .int (AV.int .i64 k) (entriesL (List.map nM109 m)) = (getM k m).map n3:=MR109.get k m
def edgJ (S:List P3) (J:List Six):List (Nat × Nat):=J.map fun j=>(ixN S (j.1,j.2.1,j.2.2.1),ixN S (j.2.2.2.1,j.2.2.2.2.1,j.2.2.2.2.2))
def inJ (S:List P3) (J:List Six):Prop:=∀ j ∈ J,(j.1,j.2.1,j.2.2.1) ∈ S ∧ (j.2.2.2.1,j.2.2.2.2.1,j.2.2.2.2.2) ∈ S
def isIx (S:List P3) (m:List (P3 × Int)):Prop:=∀ p,p ∈ S → getM p m = some (ixN S p:Int)
section
variable {N:Nat} (hN:Big N)
include hN
theorem R47_places (C:List (List P3)) (hC:∀ l ∈ C,chkN l = 0) (hl:C.length ≤ 16):loopR (R47x109x58 N C) N ((),0,[]) = some ((),plcs C):=R36_places hN C hC hl
theorem R47_index (S:List P3) (hS:S.length ≤ 1000000) (hd:S.Nodup):∃ m,loopR (R47x118x58 N ((),S)) N (0,S,[]) = some (S,m) ∧ isIx S m:=by
 have key:∃ x,loopR (R47x118x58 N ((),S)) N (0,S,[]) = some x ∧ ∃ m:List (P3 × Int),x = (S,m) ∧ isIx S m:=by
  refine loopR_cnt (rd:=R47x118x58 N ((),S)) (S:=List (P3 × Int)) S.length (fun m k=>((k:Int),S,m)) (fun m k=>∀ p,p ∈ S.take k → getM p m = some (ixN S p:Int)) _ ?_ ?_ N [] 0 (Nat.zero_le _) (by unfold Big at hN; omega) (fun p h=>by simp at h)
  ·intro m k hk hP
   obtain ⟨a1,a2⟩:=at94 S hk
   have hdk:decide (k < S.length) = true:=decide_eq_true hk
   refine ⟨putM S[k] (k:Int) m,?_,fun p=>?_⟩
   ·simp only [R47x118x58,List.length_map,Int.toNat_natCast,Nat.zero_add,a1,a2,lt_range hk,in_range hk,hdk,decide_true,Bool.and_self,Bool.and_true,cond_true,mk191,mp191,mc191,ax191,faM191,mdM191,fa94,md94,Option.bind_some,w_succ (show k < 9223372036854775807 by omega)]
   ·have et:S.take (k + 1) = S.take k ++ [S[k]]:=by rw [List.take_succ,List.getElem?_eq_getElem hk]; rfl
    intro hp
    rw [getM_put]
    by_cases h:p = S[k]
    ·rw [if_pos h,h,ixN_at hd]
    ·rw [if_neg h]
     rw [et,List.mem_append,List.mem_singleton] at hp
     exact hP p (hp.resolve_right h)
  ·intro m hP
   refine ⟨(S,m),?_,m,rfl,fun p hp=>hP p (by rwa [List.take_length])⟩
   simp only [R47x118x58,List.length_map,ge_range,cond_false,mc191,ax191,faM191,mdM191,fa94,md94,Bool.and_self,Bool.and_true,cond_true,Option.bind_some]
 obtain ⟨x,r,m,rfl,h⟩:=key
 exact ⟨m,r,h⟩
theorem R47_apart (S:List P3) (hS:S.length ≤ 1000000) (m:List (P3 × Int)):loopR (R47x122x58 N ((),S)) N ((),0,S,m,[]) = some ((),S,m,uL S.length id):=by
 have hs:∀ k,uL k id ++ [(k:Int)] = uL (k + 1) id:=fun k=>by unfold uL; rw [List.range_succ,List.map_append]; rfl
 have key:=loopR_count (rd:=R47x122x58 N ((),S)) S.length (fun k=>((),(k:Int),S,m,uL k id)) ((),S,m,uL S.length id) (fun k hk=>by
  have hb:decide ((k + 1) * 8 ≤ 140737488355328) = true:=decide_eq_true (by omega)
  simp only [R47x122x58,List.length_map,lt_range hk,cond_true,uL_len,decide_true,Bool.and_self,Bool.and_true,hb,snoc3,hs,List.length_append,List.length_singleton,Nat.beq_refl,fa3,md3,fa94,md94,mc191,ax191,faM191,mdM191,Option.bind_some,w_succ (show k < 9223372036854775807 by omega)]) (by
  simp only [R47x122x58,List.length_map,ge_range,cond_false,uL_len,Nat.beq_refl,fa3,md3,fa94,md94,mc191,ax191,faM191,mdM191,Bool.and_self,Bool.and_true,cond_true,Option.bind_some]) N 0 (Nat.zero_le _) (by unfold Big at hN; omega)
 exact key
theorem R47_join (S:List P3) (hS:S.length ≤ 1000000) (J:List Six) (hJ:J.length ≤ 1024) (hin:inJ S J) (m:List (P3 × Int)) (hm:isIx S m):∃ u,loopR (R47x1018 N J ((),S,m,uL S.length id)) N (0,S,m,uL S.length id) = some (S,m,uL S.length u) ∧ UF (lab (edgJ S J)) S.length u:=by
 have key:∃ x,loopR (R47x1018 N J ((),S,m,uL S.length id)) N (0,S,m,uL S.length id) = some x ∧ ∃ u:Nat → Nat,x = (S,m,uL S.length u) ∧ UF (lab (edgJ S J)) S.length u:=by
  refine loopR_cnt (rd:=R47x1018 N J ((),S,m,uL S.length id)) (S:=Nat → Nat) J.length (fun u k=>((k:Int),S,m,uL S.length u)) (fun u k=>UF (lab ((edgJ S J).take k)) S.length u) _ ?_ ?_ N id 0 (Nat.zero_le _) (by unfold Big at hN; omega) (UF.id _)
  ·intro u k hk hu
   have hd:=nthD_map n127 J k hk
   have a1:d127 (nthD (List.map n127 J) k) = J[k]:=by rw [hd,dn127]
   have a2:Pat.fits p127 (nthD (List.map n127 J) k) = true:=by rw [hd,fn127]
   obtain ⟨i1,i2⟩:=hin _ (List.getElem_mem hk)
   have q1:=hm _ i1
   have q2:=hm _ i2
   have l1:=ixN_lt i1
   have l2:=ixN_lt i2
   have hke:k < (edgJ S J).length:=by simp [edgJ]; exact hk
   have he:(edgJ S J)[k] = (ixN S (J[k].1,J[k].2.1,J[k].2.2.1),ixN S (J[k].2.2.2.1,J[k].2.2.2.2.1,J[k].2.2.2.2.2)):=by simp [edgJ]
   have hl:=lab_take (edgJ S J) hke
   rw [he] at hl
   have hok:=lab_ok ((edgJ S J).take k)
   have k1:=mk191 (J[k].1,J[k].2.1,J[k].2.2.1) m
   have k2:=mk191 (J[k].2.2.2.1,J[k].2.2.2.2.1,J[k].2.2.2.2.2) m
   have g1:=mg191 (J[k].1,J[k].2.1,J[k].2.2.1) m
   have g2:=mg191 (J[k].2.2.2.1,J[k].2.2.2.2.1,J[k].2.2.2.2.2) m
   rw [q1,Option.getD_some] at g1
   rw [q2,Option.getD_some] at g2
   simp only at k1 k2 g1 g2
   generalize ixN S (J[k].1,J[k].2.1,J[k].2.2.1) = i at *
   generalize ixN S (J[k].2.2.2.1,J[k].2.2.2.2.1,J[k].2.2.2.2.2) = j at *
   obtain ⟨u1,r1,hu1⟩:=rootA hN ((),S,m,uL S.length id) (uL_len _ _) S m N i u (by unfold Big at hN; omega) l1 hu
   obtain ⟨u2,r2,hu2⟩:=rootA hN ((),S,m,uL S.length id) (uL_len _ _) S m N j u1 (by unfold Big at hN; omega) l2 hu1
   have r2':loopR (R47x123x12b N ((),S,m,uL S.length id)) N ((j:Int),S,m,uL S.length u1) = some ((lab ((edgJ S J).take k) j:Int),S,m,uL S.length u2):=r2
   obtain ⟨m1,m2⟩:=mm_if (lab ((edgJ S J).take k) i) (lab ((edgJ S J).take k) j)
   obtain ⟨m1',m2'⟩:=mm_if (lab ((edgJ S J).take k) j) (lab ((edgJ S J).take k) i)
   have hmax:max (lab ((edgJ S J).take k) i) (lab ((edgJ S J).take k) j) < S.length:=by
    have x1:=hok.le i
    have x2:=hok.le j
    omega
   have dm:decide (max (lab ((edgJ S J).take k) i) (lab ((edgJ S J).take k) j) < S.length) = true:=decide_eq_true hmax
   have hu3:=hu2.join hok (i,j) l1 l2
   rw [← hl] at hu3
   refine ⟨_,?_,hu3⟩
   simp only [R47x1018,List.length_map,Int.toNat_natCast,a1,a2,k1,k2,g1,g2,fn3,dn3,lt_range hk,in_range hk,Bool.and_self,Bool.and_true,cond_true,fa3,md3,fa94,md94,mc191,ax191,faM191,mdM191,Option.bind_some,r1,r2',m1,m2,uL_len,in_range hmax,Nat.zero_add,decide_true,dm,setU,w_succ (show k < 9223372036854775807 by omega)]
  ·intro u hu
   refine ⟨(S,m,uL S.length u),?_,u,rfl,?_⟩
   ·simp only [R47x1018,List.length_map,ge_range,cond_false,mc191,ax191,faM191,mdM191,fa94,md94,fa3,md3,Bool.and_self,Bool.and_true,cond_true,Option.bind_some]
   ·have e:(edgJ S J).take J.length = edgJ S J:=List.take_of_length_le (by simp [edgJ])
    rwa [e] at hu
 obtain ⟨x,r,u,rfl,h⟩:=key
 exact ⟨u,r,h⟩
def isCl (f:Nat → Nat) (k:Nat) (M:List (Int × Int)):Prop:=∀ r:Nat,getM (r:Int) M = if r < k ∧ f r = r then some (cnt f r:Int) else none
theorem R47_cls (S:List P3) (hS:S.length ≤ 1000000) (m:List (P3 × Int)) {f:Nat → Nat} (hf:LabOk f) (o33:Unit × List P3 × List (P3 × Int) × List Int) (ho:o33.2.2.2.length = S.length) (u:Nat → Nat) (hu:UF f S.length u) :
  ∃ u' M,loopR (R47x8186 N ((),S) o33) N (0,(),(),S,m,uL S.length u,[],[],[]) = some ((),(),S,m,uL S.length u',famE (clsL f S S.length),lenI (lenC (clsL f S S.length)),M) ∧ UF f S.length u' ∧ isCl f S.length M:=by
 have key:∃ x,loopR (R47x8186 N ((),S) o33) N (0,(),(),S,m,uL S.length u,[],[],[]) = some x ∧ ∃ s:(Nat → Nat) × List (Int × Int),x = ((),(),S,m,uL S.length s.1,famE (clsL f S S.length),lenI (lenC (clsL f S S.length)),s.2) ∧ UF f S.length s.1 ∧ isCl f S.length s.2:=by
  refine loopR_cnt (rd:=R47x8186 N ((),S) o33) (S:=(Nat → Nat) × List (Int × Int)) S.length (fun s k=>((k:Int),(),(),S,m,uL S.length s.1,famE (clsL f S k),lenI (lenC (clsL f S k)),s.2)) (fun s k=>UF f S.length s.1 ∧ isCl f k s.2) _ ?_ ?_ N (u,[]) 0 (Nat.zero_le _) (by unfold Big at hN; omega) ⟨hu,fun r=>by simp [getM]⟩
  ·rintro ⟨u,M⟩ k hk ⟨hu,hM⟩
   obtain ⟨a1,a2⟩:=at94 S hk
   have hdk:decide (k < S.length) = true:=decide_eq_true hk
   obtain ⟨u1,r1,hu1⟩:=rootB hN o33 ho S m (famE (clsL f S k)) (lenC (clsL f S k)) M N k u (by unfold Big at hN; omega) hk hu
   obtain ⟨u2,r2,hu2⟩:=rootB hN o33 ho S m (famE (clsL f S k)) (lenC (clsL f S k)) M N k u1 (by unfold Big at hN; omega) hk hu1
   have r2':loopR (R47x123x12bbb N o33) N ((k:Int),S,m,uL S.length u1,famE (clsL f S k),lenI (lenC (clsL f S k)),M) = some ((f k:Int),S,m,uL S.length u2,famE (clsL f S k),lenI (lenC (clsL f S k)),M):=r2
   have hle:=hf.le k
   have hg:=hM (f k)
   have hcl:=clsL_len f S k
   have hck:=cnt_le f k
   have hmem:=clsL_mem f S k
   have hb24:decide (((clsL f S k).length + 1) * 24 ≤ 140737488355328) = true:=decide_eq_true (by omega)
   have eS:S.getD k (0,0,0) = S[k]:=by simp [hk]
   have hsucc:=clsL_succ f S k
   unfold clsS at hsucc
   rw [eS] at hsucc
   by_cases h:f k = k
   ·rw [if_neg (by omega)] at hg
    rw [if_pos h] at hsucc
    generalize clsL f S k = CL at *
    have hlt:CL.length < (CL ++ [[]]).length:=by simp
    obtain ⟨f1,f2⟩:=atF hlt
    have hgl:(CL ++ [[]])[CL.length]'hlt = []:=by simp
    rw [hgl] at f1
    have hnt:=lenC_nth hlt
    rw [hgl] at hnt
    have hst:(CL ++ [[]]).set CL.length ([] ++ [(S[k].1,S[k].2.1,S[k].2.2)]) = CL ++ [[S[k]]]:=by simp
    have hsf:=setF (CL ++ [[]]) CL.length [] S[k].1 S[k].2.1 S[k].2.2
    rw [hst,List.map_nil,List.nil_append] at hsf
    have hsl:=lenC_set (CL ++ [[]]) CL.length [(S[k].1,S[k].2.1,S[k].2.2)]
    have hst':(CL ++ [[]]).set CL.length [(S[k].1,S[k].2.1,S[k].2.2)] = CL ++ [[S[k]]]:=by simp
    rw [hst',List.length_singleton] at hsl
    have hla:decide (CL.length < CL.length + 1) = true:=decide_eq_true (by omega)
    have hl1:(CL ++ [[]]).length = CL.length + 1:=by simp
    have hl2:(CL ++ [[S[k]]]).length = CL.length + 1:=by simp
    have h24:decide (1 * 24 ≤ 140737488355328) = true:=rfl
    refine ⟨(u2,putM (f k:Int) (CL.length:Int) M),?_,hu2,fun r=>?_⟩
    ·simp only [R47x8186,List.length_map,Int.toNat_natCast,Nat.zero_add,a1,a2,lt_range hk,in_range hk,hdk,decide_true,Bool.and_self,Bool.and_true,cond_true,fa94,md94,mc191,ax191,faM191,mdM191,fa3,md3,faF74x4,mdF74x4,unf2,faL,mdL,mc109,ax109,faM109,mdM109,Option.bind_some,r1,mk109,mg109,mt109,fn3,hg,Option.map_none,Option.isSome_none,Bool.not_false,r2',famE_len,hb24,lenC_len,snocF,lenC_snoc,List.length_append,List.length_singleton,Nat.beq_refl,mp109,hl1,in_range (show CL.length < CL.length + 1 by omega),hla,f1,f2,hnt,List.map_nil,List.length_nil,List.nil_append,hsf,hsl,hl2,h24,w_succ (show k < 9223372036854775807 by omega)]
     rw [hsucc]
    ·rw [getM_put,hM r,h]
     by_cases e:r = k
     ·subst e
      rw [if_pos rfl,if_pos ⟨by omega,h⟩,hcl]
     ·have e':¬ (r:Int) = (k:Int):=by omega
      rw [if_neg e']
      by_cases c:r < k ∧ f r = r
      ·rw [if_pos c,if_pos ⟨by omega,c.2⟩]
      ·rw [if_neg c,if_neg fun d=>c ⟨by omega,d.2⟩]
   ·have hlt:f k < k:=by omega
    rw [if_pos ⟨hlt,hf.idem k⟩] at hg
    rw [if_neg h] at hsucc
    have hc:cnt f (f k) < (clsL f S k).length:=by rw [hcl]; exact cnt_lt (hf.idem k) hlt
    have hmc:=hmem _ (List.getElem_mem hc)
    have eC:(clsL f S k).getD (cnt f (f k)) [] = (clsL f S k)[cnt f (f k)]:=by simp [hc]
    rw [eC] at hsucc
    generalize clsL f S k = CL at *
    obtain ⟨f1,f2⟩:=atF hc
    have hnt:=lenC_nth hc
    have hsf:=setF CL (cnt f (f k)) CL[cnt f (f k)] S[k].1 S[k].2.1 S[k].2.2
    have hsl:=lenC_set CL (cnt f (f k)) (CL[cnt f (f k)] ++ [S[k]])
    rw [List.length_append,List.length_singleton] at hsl
    have hdc:decide (cnt f (f k) < CL.length) = true:=decide_eq_true hc
    have h24:decide ((CL[cnt f (f k)].length + 1) * 24 ≤ 140737488355328) = true:=decide_eq_true (by omega)
    refine ⟨(u1,M),?_,hu1,fun r=>?_⟩
    ·simp only [R47x8186,List.length_map,Int.toNat_natCast,Nat.zero_add,a1,a2,lt_range hk,in_range hk,hdk,decide_true,Bool.and_self,Bool.and_true,cond_true,cond_false,fa94,md94,mc191,ax191,faM191,mdM191,fa3,md3,faF74x4,mdF74x4,unf2,faL,mdL,mc109,ax109,faM109,mdM109,Option.bind_some,r1,mk109,mg109,mt109,fn3,dn3,hg,Option.map_some,Option.isSome_some,Option.getD_some,Bool.not_true,famE_len,lenC_len,Nat.beq_refl,in_range hc,hdc,f1,f2,hnt,h24,hsf,hsl,List.length_set,w_succ (show k < 9223372036854775807 by omega)]
     rw [hsucc]
    ·rw [hM r]
     by_cases e:r = k
     ·subst e
      rw [if_neg (fun d=>absurd d.1 (Nat.lt_irrefl _)),if_neg fun d=>h d.2]
     ·by_cases c:r < k ∧ f r = r
      ·rw [if_pos c,if_pos ⟨by omega,c.2⟩]
      ·rw [if_neg c,if_neg fun d=>c ⟨by omega,d.2⟩]
  ·rintro ⟨u,M⟩ ⟨hu,hM⟩
   refine ⟨((),(),S,m,uL S.length u,famE (clsL f S S.length),lenI (lenC (clsL f S S.length)),M),?_,(u,M),rfl,hu,hM⟩
   simp only [R47x8186,List.length_map,ge_range,cond_false,mc191,ax191,faM191,mdM191,fa94,md94,fa3,md3,mc109,ax109,faM109,mdM109,faF74x4,mdF74x4,unf2,faL,mdL,Nat.beq_refl,Bool.and_self,Bool.and_true,cond_true,Option.bind_some]
 obtain ⟨x,r,s,rfl,h1,h2⟩:=key
 exact ⟨s.1,s.2,r,h1,h2⟩
end
end Go.Proofs.YtfiopgedfcaodaaGreatDoor
