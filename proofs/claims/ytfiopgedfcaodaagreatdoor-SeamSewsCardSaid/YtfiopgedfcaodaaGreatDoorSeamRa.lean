/- Plain laws: what is sewn: places' numbers,classes as lists. -/
import Derived.Test.YtfiopgedfcaodaaGreatDoorSeamTh
import Derived.Test.YtfiopgedfcaodaaGreatDoorSeamPz
import Derived.Test.YtfiopgedfcaodaaGreatDoorSeamPd
set_option linter.all false
namespace Go.Proofs.YtfiopgedfcaodaaGreatDoor
open Go Go.Am Go.Sort
set_option maxRecDepth 100000
def ixN (S:List P3) (p:P3):Nat:=S.idxOf p
theorem ixN_lt {S:List P3} {p:P3} (h:p ∈ S):ixN S p < S.length:=List.idxOf_lt_length_of_mem h
theorem ixN_at {S:List P3} (hS:S.Nodup) (k:Nat) (h:k < S.length):ixN S S[k] = k:=hS.idxOf_getElem k h
theorem atI_ix {S:List P3} {p:P3} (h:p ∈ S):atI S p = (ixN S p:Int):=by
 unfold atI
 have hl:=ixN_lt h
 have hg:S[ixN S p] = p:=List.getElem_idxOf hl
 have e:((List.range S.length).find? fun j=>decide (S.getD j (0,0,0) = p)) = some (ixN S p):=by
  rw [List.find?_range_eq_some]
  refine ⟨by simp [hl,hg],List.mem_range.2 hl,fun j hj=>?_⟩
  have hj':j < S.length:=by omega
  have e:S.getD j (0,0,0) = S[j]:=by simp [hj']
  rw [e]
  by_cases c:S[j] = p
  ·exfalso
   have hj:j < S.idxOf p:=hj
   have:=List.not_of_lt_findIdx (p:=fun x=>x == p) (xs:=S) (i:=j) hj
   simp [c] at this
  ·simp [c]
 rw [e]
theorem plcs_nodup (C:List (List P3)):(plcs C).Nodup:=(plcs_sorted C).imp fun {a b} h e=>by
 subst e
 unfold ltP at h
 omega
theorem MR109:MapEnc .int (fun k=>AV.int .i64 k) (fun v=>AV.int .i64 v) nM109:=⟨fun a b=>eqK_int .i64 a b,fun _=>rfl,fun _=>rfl⟩
theorem mk109 (k:Int) (m:List (Int × Int)):mkeys .int (AV.int .i64 k) (entriesL (List.map nM109 m)) = true:=MR109.keys k m
theorem mg109 (k:Int) (m:List (Int × Int)):mgetD .int (AV.int .i64 k) (AV.int .i64 0) (entriesL (List.map nM109 m)) = n3 ((getM k m).getD 0):=MR109.getD k 0 m
theorem mp109 (k v:Int) (m:List (Int × Int)):mputT .int (AV.int .i64 k) (AV.int .i64 v) (entriesL (List.map nM109 m)) = entriesL (List.map nM109 (putM k v m)):=MR109.put k v m
theorem mc109 (m:List (Int × Int)):mcells (entriesL (List.map nM109 m)) = List.map nM109 m:=MR109.cells m
theorem ax109 (m:List (Int × Int)):allX (entriesL (List.map nM109 m)) = true:=MR109.allX m
def lenI (L:List Nat):List Int:=L.map fun n:Nat=>(n:Int)
def lenC (CL:List (List P3)):List Nat:=CL.map List.length
def famE (CL:List (List P3)):List (Nat × List P3):=(List.range CL.length).map fun c=>(c,CL.getD c [])
theorem unf2 (L:List Nat):unfamL (List.map n2 (lenI L)) = L:=by
 unfold unfamL lenI
 rw [List.map_map,List.map_map]
 conv=>rhs; rw [← List.map_id L]
 apply List.map_congr_left
 intro n _
 show ((n:Int)).toNat = n
 exact Int.toNat_natCast n
theorem famL_n2 (L:List Nat):famL L = List.map n2 (lenI L):=by
 unfold famL lenI
 rw [List.map_map]; rfl
theorem faL (L:List Nat):allFit (Pat.fits p2) (famL L) = true:=by rw [famL_n2,fa2]
theorem mdL (L:List Nat):List.map d2 (famL L) = lenI L:=by rw [famL_n2,md2]
@[simp] theorem lenC_len (CL:List (List P3)):(lenC CL).length = CL.length:=by simp [lenC]
theorem lenC_snoc (CL:List (List P3)):lenC CL ++ [0] = lenC (CL ++ [[]]):=by simp [lenC]
theorem lenC_set (CL:List (List P3)) (c:Nat) (l:List P3):setN (lenC CL) c l.length = lenC (CL.set c l):=by
 rw [setN_eq]
 unfold lenC
 rw [List.map_set]
theorem lenC_nth {CL:List (List P3)} {c:Nat} (h:c < CL.length):nth (lenC CL) c = some CL[c].length:=by
 rw [nth_eq]
 simp [lenC,h]
@[simp] theorem famE_len (CL:List (List P3)):(famE CL).length = CL.length:=by simp [famE]
theorem famE_get {CL:List (List P3)} {c:Nat} (h:c < (famE CL).length):(famE CL)[c] = (c,CL[c]'(by simpa using h)):=by
 have h':c < CL.length:=by simpa using h
 simp [famE,h']
theorem famE_snoc (CL:List (List P3)) (l:List P3):famE CL ++ [(CL.length,l)] = famE (CL ++ [l]):=by
 unfold famE
 rw [List.length_append,List.length_singleton,List.range_succ,List.map_append]
 congr 1
 ·apply List.map_congr_left
  intro c hc
  have hc:=List.mem_range.1 hc
  simp [List.getElem?_append,hc]
 ·simp
theorem famE_set (CL:List (List P3)) (c:Nat) (l:List P3):(famE CL).set c (c,l) = famE (CL.set c l):=by
 apply List.ext_getElem
 ·simp
 ·intro j h1 h2
  have hj:j < CL.length:=by simpa using h1
  rw [famE_get h2,List.getElem_set]
  by_cases e:c = j
  ·subst e; simp
  ·rw [if_neg e,famE_get (by simpa using hj)]
   simp [e]
theorem atF {CL:List (List P3)} {c:Nat} (h:c < CL.length):dF74x4 (nthD (List.map nF74x4 (famE CL)) c) = (c,CL[c]) ∧ Pat.fits pF74x4 (nthD (List.map nF74x4 (famE CL)) c) = true:=by
 have hd:=nthD_map nF74x4 (famE CL) c (by simpa using h)
 rw [hd,dnF74x4,fnF74x4,famE_get]
 exact ⟨rfl,rfl⟩
theorem snocF (CL:List (List P3)):List.map nF74x4 (famE CL) ++ [AV.list (.fam 4 CL.length) 3 []] = List.map nF74x4 (famE (CL ++ [[]])):=by
 rw [← famE_snoc,List.map_append]; rfl
theorem setF (CL:List (List P3)) (c:Nat) (l:List P3) (a b d:Int):setN (List.map nF74x4 (famE CL)) c (AV.list (.fam 4 c) 3 (List.map n94 l ++ [AV.agg [AV.int .i64 a,AV.int .i64 b,AV.int .i64 d]])) = List.map nF74x4 (famE (CL.set c (l ++ [(a,b,d)]))):=by
 rw [← famE_set,setN_eq,List.map_set,snoc94]
 rfl
def clsS (f:Nat → Nat) (S:List P3) (CL:List (List P3)) (i:Nat):List (List P3):=
 if f i = i then CL ++ [[S.getD i (0,0,0)]] else CL.set (cnt f (f i)) (CL.getD (cnt f (f i)) [] ++ [S.getD i (0,0,0)])
def clsL (f:Nat → Nat) (S:List P3) (k:Nat):List (List P3):=(List.range k).foldl (clsS f S) []
theorem clsL_succ (f:Nat → Nat) (S:List P3) (k:Nat):clsL f S (k + 1) = clsS f S (clsL f S k) k:=by
 unfold clsL
 rw [List.range_succ,List.foldl_append]
 rfl
theorem clsL_len (f:Nat → Nat) (S:List P3):∀ k,(clsL f S k).length = cnt f k
 | 0=>rfl
 | k + 1=>by
  rw [clsL_succ,cnt_succ]
  unfold clsS
  split
  ·rw [List.length_append,clsL_len f S k]; rfl
  ·rw [List.length_set,clsL_len f S k]; rfl
theorem clsL_mem (f:Nat → Nat) (S:List P3):∀ k,∀ l ∈ clsL f S k,l.length ≤ k
 | 0,l,h=>by cases h
 | k + 1,l,h=>by
  rw [clsL_succ] at h
  unfold clsS at h
  split at h
  ·rcases List.mem_append.1 h with h | h
   ·have:=clsL_mem f S k l h; omega
   ·rw [List.mem_singleton] at h; subst h; simp
  ·rcases List.mem_or_eq_of_mem_set h with h | h
   ·have:=clsL_mem f S k l h; omega
   ·subst h
    rw [List.length_append,List.length_singleton]
    by_cases hc:cnt f (f k) < (clsL f S k).length
    ·have e:(clsL f S k).getD (cnt f (f k)) [] = (clsL f S k)[cnt f (f k)]:=by simp [hc]
     rw [e]
     have:=clsL_mem f S k _ (List.getElem_mem hc)
     omega
    ·have e:(clsL f S k).getD (cnt f (f k)) [] = []:=by simp [hc]
     rw [e]; simp
theorem cnt_lt {f:Nat → Nat} {r:Nat} (h:f r = r):∀ {k:Nat},r < k → cnt f r < cnt f k
 | 0,hk=>by omega
 | k + 1,hk=>by
  rw [cnt_succ]
  by_cases e:r = k
  ·subst e; rw [if_pos h]; omega
  ·have:=cnt_lt h (k:=k) (by omega)
   omega
section
variable {N:Nat} (hN:Big N)
include hN
theorem rootA {n:Nat} {f:Nat → Nat} (o:Unit × List P3 × List (P3 × Int) × List Int) (ho:o.2.2.2.length = n) (S:List P3) (m:List (P3 × Int)):∀ (fuel i:Nat) (u:Nat → Nat),i < fuel → i < n → UF f n u →
  ∃ u',loopR (R47x123x12 N o) fuel ((i:Int),S,m,uL n u) = some ((f i:Int),S,m,uL n u') ∧ UF f n u'
 | 0,i,u,h,_,_=>by omega
 | fuel + 1,i,u,hf,hi,hu=>by
  rw [loopR_succ]
  obtain ⟨a1,a2⟩:=atU n u hi
  have hle:=hu.le i hi
  have hui:u i < n:=by omega
  obtain ⟨b1,b2⟩:=atU n u hui
  obtain ⟨c1,c2⟩:=atU n (upd u i (u (u i))) hi
  rw [upd_self] at c1
  have di:decide (i < n) = true:=decide_eq_true hi
  have du:decide (u i < n) = true:=decide_eq_true hui
  by_cases he:u i = i
  ·refine ⟨u,?_,hu⟩
   have hb:((u i:Int) != (i:Int)) = false:=by simp [he]
   simp only [R47x123x12,List.length_map,ho,uL_len,Int.toNat_natCast,Nat.zero_add,in_range hi,decide_true,di,a1,a2,Bool.and_self,Bool.and_true,cond_true,hb,cond_false,fa3,md3,fa94,md94,mc191,ax191,faM191,mdM191,Option.bind_some,Sum.elim_inr]
   rw [hu.fix i hi he]
  ·have hb:((u i:Int) != (i:Int)) = true:=by simp; omega
   have hlt:=hu.le (u i) hui
   have hstep:R47x123x12 N o ((i:Int),S,m,uL n u) = some (.inl ((u (u i):Int),S,m,uL n (upd u i (u (u i))))):=by
    simp only [R47x123x12,List.length_map,ho,uL_len,Int.toNat_natCast,Nat.zero_add,in_range hi,in_range hui,decide_true,di,du,a1,a2,b1,b2,Bool.and_self,Bool.and_true,cond_true,hb,setU,c1,c2,fa3,md3,fa94,md94,mc191,ax191,faM191,mdM191,Option.bind_some]
   rw [hstep]
   simp only [Option.bind_some,Sum.elim_inl]
   have hu2:=hu.half hi he
   obtain ⟨u',h1,h2⟩:=rootA o ho S m fuel (u (u i)) _ (by omega) (by omega) hu2
   refine ⟨u',?_,h2⟩
   rw [h1,(hu.lb (u i) hui).trans (hu.lb i hi)]
theorem rootB {n:Nat} {f:Nat → Nat} (o:Unit × List P3 × List (P3 × Int) × List Int) (ho:o.2.2.2.length = n) (S:List P3) (m:List (P3 × Int)) (E:List (Nat × List P3)) (L:List Nat) (M:List (Int × Int)):∀ (fuel i:Nat) (u:Nat → Nat),i < fuel → i < n → UF f n u →
  ∃ u',loopR (R47x123x12bb N o) fuel ((i:Int),S,m,uL n u,E,lenI L,M) = some ((f i:Int),S,m,uL n u',E,lenI L,M) ∧ UF f n u'
 | 0,i,u,h,_,_=>by omega
 | fuel + 1,i,u,hf,hi,hu=>by
  rw [loopR_succ]
  obtain ⟨a1,a2⟩:=atU n u hi
  have hle:=hu.le i hi
  have hui:u i < n:=by omega
  obtain ⟨b1,b2⟩:=atU n u hui
  obtain ⟨c1,c2⟩:=atU n (upd u i (u (u i))) hi
  rw [upd_self] at c1
  have di:decide (i < n) = true:=decide_eq_true hi
  have du:decide (u i < n) = true:=decide_eq_true hui
  by_cases he:u i = i
  ·refine ⟨u,?_,hu⟩
   have hb:((u i:Int) != (i:Int)) = false:=by simp [he]
   simp only [R47x123x12bb,List.length_map,ho,uL_len,Int.toNat_natCast,Nat.zero_add,in_range hi,decide_true,di,a1,a2,Bool.and_self,Bool.and_true,cond_true,hb,cond_false,fa3,md3,fa94,md94,mc191,ax191,faM191,mdM191,mc109,ax109,faM109,mdM109,faF74x4,mdF74x4,unf2,faL,mdL,Option.bind_some,Sum.elim_inr]
   rw [hu.fix i hi he]
  ·have hb:((u i:Int) != (i:Int)) = true:=by simp; omega
   have hlt:=hu.le (u i) hui
   have hstep:R47x123x12bb N o ((i:Int),S,m,uL n u,E,lenI L,M) = some (.inl ((u (u i):Int),S,m,uL n (upd u i (u (u i))),E,lenI L,M)):=by
    simp only [R47x123x12bb,List.length_map,ho,uL_len,Int.toNat_natCast,Nat.zero_add,in_range hi,in_range hui,decide_true,di,du,a1,a2,b1,b2,Bool.and_self,Bool.and_true,cond_true,hb,setU,c1,c2,fa3,md3,fa94,md94,mc191,ax191,faM191,mdM191,mc109,ax109,faM109,mdM109,faF74x4,mdF74x4,unf2,faL,mdL,Option.bind_some]
   rw [hstep]
   simp only [Option.bind_some,Sum.elim_inl]
   have hu2:=hu.half hi he
   obtain ⟨u',h1,h2⟩:=rootB o ho S m E L M fuel (u (u i)) _ (by omega) (by omega) hu2
   refine ⟨u',?_,h2⟩
   rw [h1,(hu.lb (u i) hui).trans (hu.lb i hi)]
end
end Go.Proofs.YtfiopgedfcaodaaGreatDoor
