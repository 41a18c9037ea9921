/- Plain laws: what is sewn by the reference. -/
import Derived.Test.YtfiopgedfcaodaaGreatDoorSeamRd
set_option linter.all false
namespace Go.Proofs.YtfiopgedfcaodaaGreatDoor
open Go Go.Am Go.Sort
set_option maxRecDepth 100000
theorem atG {CL:List (List P3)} {c:Nat} (h:c < CL.length):dF79x2 (nthD (List.map nF79x2 (famE CL)) c) = (c,CL[c]) ∧ Pat.fits pF79x2 (nthD (List.map nF79x2 (famE CL)) c) = true:=by
 have hd:=nthD_map nF79x2 (famE CL) c (by simpa using h)
 rw [hd,dnF79x2,fnF79x2,famE_get]
 exact ⟨rfl,rfl⟩
theorem snocG (CL:List (List P3)) (a b d:Int):List.map nF79x2 (famE CL) ++ [AV.list (.fam 2 CL.length) 3 [AV.agg [AV.int .i64 a,AV.int .i64 b,AV.int .i64 d]]] = List.map nF79x2 (famE (CL ++ [[(a,b,d)]])):=by
 rw [← famE_snoc,List.map_append]; rfl
theorem setG (CL:List (List P3)) (c:Nat) (l:List P3) (a b d:Int):setN (List.map nF79x2 (famE CL)) c (AV.list (.fam 2 c) 3 (List.map n89 l ++ [AV.agg [AV.int .i64 a,AV.int .i64 b,AV.int .i64 d]])) = List.map nF79x2 (famE (CL.set c (l ++ [(a,b,d)]))):=by
 rw [← famE_set,setN_eq,List.map_set,snoc89b]
 rfl
theorem lenC_one (CL:List (List P3)) (p:P3):lenC CL ++ [1] = lenC (CL ++ [[p]]):=by simp [lenC]
theorem wk79 (E:List (Nat × List P3)):List.map AV.weak (List.map nF79x2 E) = List.map n63 (E.map Prod.snd):=by
 rw [List.map_map,List.map_map]; rfl
theorem cl63 (l:List (List P3)):closedL (List.map n63 l) = true:=closedL_map (fun _=>rfl) l
def clU (f:Nat → Nat) (k:Nat):Nat → Nat:=fun j=>if j < k then cnt f (f j) else 0
theorem clU_succ (f:Nat → Nat) (k:Nat):upd (clU f k) k (cnt f (f k)) = clU f (k + 1):=by
 funext j
 unfold upd clU
 by_cases h1:j = k
 ·subst h1; simp
 ·by_cases h2:j < k
  ·have:j < k + 1:=by omega
   simp [h1,h2,this]
  ·have:¬ j < k + 1:=by omega
   simp [h1,h2,this]
section
variable {N:Nat} (hN:Big N)
include hN
theorem R48_init (S:List P3) (hS:S.length ≤ 1000000):loopR (R48x122 N S) N (0,List.replicate S.length 0) = some (uL S.length id):=by
 have h0:List.replicate S.length (0:Int) = uL S.length (fun j=>if j < 0 then j else 0):=by
  apply List.ext_getElem
  ·simp
  ·intro j h1 h2
   rw [uL_get]; simp
 have hs:∀ k,upd (fun j=>if j < k then j else 0) k k = fun j=>if j < k + 1 then j else 0:=fun k=>by
  funext j
  unfold upd
  by_cases h1:j = k
  ·subst h1; simp
  ·by_cases h2:j < k
   ·have:j < k + 1:=by omega
    simp [h1,h2,this]
   ·have:¬ j < k + 1:=by omega
    simp [h1,h2,this]
 have key:=loopR_count (rd:=R48x122 N S) S.length (fun k=>((k:Int),uL S.length (fun j=>if j < k then j else 0))) (uL S.length (fun j=>if j < S.length then j else 0)) (fun k hk=>by
  have dk:decide (k < S.length) = true:=decide_eq_true hk
  simp only [R48x122,List.length_map,Int.toNat_natCast,lt_range hk,in_range hk,cond_true,uL_len,decide_true,Nat.zero_add,dk,Bool.and_self,Bool.and_true,setU,hs,fa3,md3,Option.bind_some,w_succ (show k < 9223372036854775807 by omega)]) (by
  simp only [R48x122,List.length_map,Int.toNat_natCast,ge_range,cond_false,fa3,md3,Bool.and_self,Bool.and_true,cond_true,Option.bind_some]) N 0 (Nat.zero_le _) (by unfold Big at hN; omega)
 rw [h0]
 have key':loopR (R48x122 N S) N (0,uL S.length (fun j=>if j < 0 then j else 0)) = _:=key
 rw [key']
 exact congrArg some (uL_ext fun i hi=>by simp [hi])
theorem R48_round (S:List P3) (hS:S.length ≤ 1000000) (J:List Six) (hJ:J.length ≤ 1024) (hin:inJ S J) (p:Nat → Nat) (hp:∀ i,p i ≤ i):loopR (R48x16018 N J S) N (0,uL S.length p) = some (uL S.length (roundP (edgJ S J) p)):=by
 have key:=loopR_count (rd:=R48x16018 N J S) J.length (fun k=>((k:Int),uL S.length (roundP ((edgJ S J).take k) p))) (uL S.length (roundP (edgJ S J) p)) (fun k hk=>by
  obtain ⟨a1,a2⟩:=at129 J hk
  obtain ⟨i1,i2⟩:=hin _ (List.getElem_mem hk)
  have t1:=T126_at hN S (J[k].1,J[k].2.1,J[k].2.2.1) (by omega)
  have t2:=T126_at hN S (J[k].2.2.2.1,J[k].2.2.2.2.1,J[k].2.2.2.2.2) (by omega)
  rw [atI_ix i1] at t1
  rw [atI_ix i2] at t2
  have hic:=ixN_lt i1
  have hjc:=ixN_lt i2
  have hke:k < (edgJ S J).length:=by simp [edgJ]; exact hk
  have he:(edgJ S J)[k] = (ixN S (J[k].1,J[k].2.1,J[k].2.2.1),ixN S (J[k].2.2.2.1,J[k].2.2.2.2.1,J[k].2.2.2.2.2)):=by simp [edgJ]
  have hr:roundP ((edgJ S J).take (k + 1)) p = stepP (roundP ((edgJ S J).take k) p) (edgJ S J)[k]:=by
   unfold roundP
   rw [List.take_add_one,List.foldl_append,List.getElem?_eq_getElem hke]
   rfl
  rw [hr,he]
  generalize ixN S (J[k].1,J[k].2.1,J[k].2.2.1) = i at *
  generalize ixN S (J[k].2.2.2.1,J[k].2.2.2.2.1,J[k].2.2.2.2.2) = j at *
  generalize roundP ((edgJ S J).take k) p = q
  have di:decide (i < S.length) = true:=decide_eq_true hic
  have dj:decide (j < S.length) = true:=decide_eq_true hjc
  obtain ⟨x1,x2⟩:=atU S.length q hic
  obtain ⟨y1,y2⟩:=atU S.length q hjc
  have hm:(if (q j:Int) < (q i:Int) then (q j:Int) else (q i:Int)) = ((min (q i) (q j):Nat):Int):=by split <;> omega
  simp only [R48x16018,List.length_map,Int.toNat_natCast,a1,a2,lt_range hk,in_range hk,in_range hic,in_range hjc,Bool.and_self,Bool.and_true,cond_true,uL_len,decide_true,Nat.zero_add,di,dj,x1,x2,y1,y2,hm,setU,fa3,md3,fa89,md89,t1,t2,beq_self_eq_true,Option.bind_some,w_succ (show k < 9223372036854775807 by omega)]
  rfl) (by
  have e:(edgJ S J).take J.length = edgJ S J:=List.take_of_length_le (by simp [edgJ])
  simp only [R48x16018,List.length_map,e,ge_range,cond_false,fa3,md3,Bool.and_self,Bool.and_true,cond_true,Option.bind_some]) N 0 (Nat.zero_le _) (by unfold Big at hN; omega)
 exact key
theorem R48_rounds (S:List P3) (hS:S.length ≤ 1000000) (J:List Six) (hJ:J.length ≤ 1024) (hin:inJ S J):loopR (R48x250 N J S) N (0,uL S.length id) = some (uL S.length (lab (edgJ S J))):=by
 have key:=loopR_count (rd:=R48x250 N J S) S.length (fun k=>((k:Int),uL S.length (roundsP (edgJ S J) k))) (uL S.length (roundsP (edgJ S J) S.length)) (fun k hk=>by
  have hr:=R48_round hN S hS J hJ hin (roundsP (edgJ S J) k) (propOk_rounds (edgJ S J) k).le
  simp only [R48x250,List.length_map,Int.toNat_natCast,lt_range hk,cond_true,fa3,md3,Bool.and_self,Bool.and_true,Option.bind_some,hr,w_succ (show k < 9223372036854775807 by omega)]
  rfl) (by
  simp only [R48x250,List.length_map,Int.toNat_natCast,ge_range,cond_false,fa3,md3,Bool.and_self,Bool.and_true,cond_true,Option.bind_some]) N 0 (Nat.zero_le _) (by unfold Big at hN; omega)
 have key':loopR (R48x250 N J S) N (0,uL S.length id) = _:=key
 rw [key']
 refine congrArg some (uL_ext fun i hi=>rounds_lab (fun e he=>?_) hi)
 obtain ⟨j,hj,rfl⟩:=List.mem_map.1 he
 exact ⟨ixN_lt (hin j hj).1,ixN_lt (hin j hj).2⟩
theorem R48_cls (S:List P3) (hS:S.length ≤ 1000000) {f:Nat → Nat} (hf:LabOk f):loopR (R48x2042 N S) N (0,(),(),uL S.length f,[],[],List.replicate S.length 0) = some ((),(),uL S.length f,famE (clsL f S S.length),lenI (lenC (clsL f S S.length)),uL S.length (clU f S.length)):=by
 have h0:List.replicate S.length (0:Int) = uL S.length (clU f 0):=by
  apply List.ext_getElem
  ·simp
  ·intro j h1 h2
   rw [uL_get]; simp [clU]
 have key:=loopR_count (rd:=R48x2042 N S) S.length (fun k=>((k:Int),(),(),uL S.length f,famE (clsL f S k),lenI (lenC (clsL f S k)),uL S.length (clU f k))) ((),(),uL S.length f,famE (clsL f S S.length),lenI (lenC (clsL f S S.length)),uL S.length (clU f S.length)) (fun k hk=>by
  obtain ⟨a1,a2⟩:=at89k S hk
  obtain ⟨x1,x2⟩:=atU S.length f hk
  have hdk:decide (k < S.length) = true:=decide_eq_true hk
  have hle:=hf.le k
  have hcl:=clsL_len f S k
  have hck:=cnt_le f k
  have hmem:=clsL_mem f S k
  have hb24:decide (((clsL f S k).length + 1) * 24 ≤ 140737488355328) = true:=decide_eq_true (by omega)
  have eS:S.getD k (0,0,0) = S[k]:=by simp [hk]
  have hsucc:=clsL_succ f S k
  unfold clsS at hsucc
  rw [eS] at hsucc
  have hup:=clU_succ f k
  by_cases h:f k = k
  ·rw [if_pos h] at hsucc
   rw [h,← hcl] at hup
   generalize clsL f S k = CL at *
   have hl2:(CL ++ [[S[k]]]).length = CL.length + 1:=by simp
   have hl3:(CL ++ [[(S[k].1,S[k].2.1,S[k].2.2)]]).length = CL.length + 1:=by simp
   have hone:=lenC_one CL S[k]
   simp only [R48x2042,List.length_map,Int.toNat_natCast,Nat.zero_add,a1,a2,x1,x2,h,beq_self_eq_true,lt_range hk,in_range hk,hdk,decide_true,Bool.and_self,Bool.and_true,cond_true,fa3,md3,faF79x2,mdF79x2,unf2,faL,mdL,Option.bind_some,famE_len,lenC_len,hb24,uL_len,snocG,hl2,hl3,hone,setU,hup,Nat.beq_refl,hsucc,w_succ (show k < 9223372036854775807 by omega)]
  ·have hb:((f k:Int) == (k:Int)) = false:=beq_false_of_ne (by omega)
   have hlt:f k < k:=by omega
   have hfk:f k < S.length:=by omega
   have hdf:decide (f k < S.length) = true:=decide_eq_true hfk
   rw [if_neg h] at hsucc
   have hc:cnt f (f k) < (clsL f S k).length:=by rw [hcl]; exact cnt_lt (hf.idem k) hlt
   have hmc:=hmem _ (List.getElem_mem hc)
   have eC:(clsL f S k).getD (cnt f (f k)) [] = (clsL f S k)[cnt f (f k)]:=by simp [hc]
   rw [eC] at hsucc
   obtain ⟨y1,y2⟩:=atU S.length (clU f k) hfk
   have ey:clU f k (f k) = cnt f (f k):=by unfold clU; rw [if_pos hlt,hf.idem]
   rw [ey] at y1
   obtain ⟨z1,z2⟩:=atU S.length (clU f (k + 1)) hk
   have ez:clU f (k + 1) k = cnt f (f k):=by unfold clU; rw [if_pos (by omega)]
   rw [ez] at z1
   generalize clsL f S k = CL at *
   obtain ⟨f1,f2⟩:=atG hc
   have hnt:=lenC_nth hc
   have hsf:=setG CL (cnt f (f k)) CL[cnt f (f k)] S[k].1 S[k].2.1 S[k].2.2
   have hsl:=lenC_set CL (cnt f (f k)) (CL[cnt f (f k)] ++ [S[k]])
   rw [List.length_append,List.length_singleton] at hsl
   have hdc:decide (cnt f (f k) < CL.length) = true:=decide_eq_true hc
   have h24:decide ((CL[cnt f (f k)].length + 1) * 24 ≤ 140737488355328) = true:=decide_eq_true (by omega)
   simp only [R48x2042,List.length_map,Int.toNat_natCast,Nat.zero_add,a1,a2,x1,x2,hb,beq_self_eq_true,lt_range hk,in_range hk,hdk,in_range hfk,hdf,decide_true,Bool.and_self,Bool.and_true,cond_true,cond_false,fa3,md3,faF79x2,mdF79x2,unf2,faL,mdL,Option.bind_some,famE_len,lenC_len,uL_len,y1,y2,setU,hup,z1,z2,in_range hc,hdc,f1,f2,hnt,h24,hsf,hsl,List.length_set,Nat.beq_refl,hsucc,w_succ (show k < 9223372036854775807 by omega)]) (by
  simp only [R48x2042,List.length_map,ge_range,cond_false,fa3,md3,faF79x2,mdF79x2,unf2,faL,mdL,Nat.beq_refl,Bool.and_self,Bool.and_true,cond_true,Option.bind_some]) N 0 (Nat.zero_le _) (by unfold Big at hN; omega)
 rw [h0]
 exact key
theorem R48_in (C:List (List P3)) (i:Nat) (hi:i < C.length) (hl:C[i].length ≤ 4096) (S:List P3) (hS:S.length ≤ 1000000) (hin:∀ b ∈ C[i],((i:Int),b.1,b.2.1) ∈ S ∧ ((i:Int),(upK b).1,(upK b).2) ∈ S) (f:Nat → Nat) (p:List Int) (E:List (Nat × List P3)) (L:List Nat) (B:List (Int × Int)) (hB:B.length ≤ 1000000) (v:Int × Unit × List (Int × Int) × List Int × List (Nat × List P3) × List Int × List Int) (hv:v.1 = (i:Int)) :
  loopR (R48x261778 N C S v) N (0,(),B,p,E,lenI L,uL S.length (clU f S.length)) = some ((),B ++ C[i].map (barN f S i),p,E,lenI L,uL S.length (clU f S.length)):=by
 obtain ⟨e1,e2⟩:=at115 C hi
 have key:=loopR_count (rd:=R48x261778 N C S v) C[i].length (fun k=>((k:Int),(),B ++ (C[i].take k).map (barN f S i),p,E,lenI L,uL S.length (clU f S.length))) ((),B ++ C[i].map (barN f S i),p,E,lenI L,uL S.length (clU f S.length)) (fun k hk=>by
  obtain ⟨a1,a2⟩:=at120 C[i] hk
  obtain ⟨n1,n2⟩:=hin _ (List.getElem_mem hk)
  have t1:=T126_at hN S ((i:Int),C[i][k].1,C[i][k].2.1) (by omega)
  have t2:=T126_at hN S ((i:Int),(upK C[i][k]).1,(upK C[i][k]).2) (by omega)
  rw [atI_ix n1] at t1
  rw [atI_ix n2] at t2
  have l1:=ixN_lt n1
  have l2:=ixN_lt n2
  have et:(C[i].take (k + 1)).map (barN f S i) = (C[i].take k).map (barN f S i) ++ [barN f S i C[i][k]]:=by rw [List.take_add_one,List.getElem?_eq_getElem hk,List.map_append]; rfl
  have hbl:(B ++ (C[i].take k).map (barN f S i)).length ≤ 2000000:=by
   rw [List.length_append,List.length_map,List.length_take]
   omega
  rw [et,← List.append_assoc]
  generalize B ++ (C[i].take k).map (barN f S i) = D at *
  have qT:T127 N (C[i][k].1,C[i][k].2.1,C[i][k].2.2) = some (C[i][k].1,C[i][k].2.1,(upK C[i][k]).1,(upK C[i][k]).2):=T127_ends N _
  have eb:barN f S i C[i][k] = (((min (cnt f (f (ixN S ((i:Int),C[i][k].1,C[i][k].2.1)))) (cnt f (f (ixN S ((i:Int),(upK C[i][k]).1,(upK C[i][k]).2)))):Nat):Int),((max (cnt f (f (ixN S ((i:Int),C[i][k].1,C[i][k].2.1)))) (cnt f (f (ixN S ((i:Int),(upK C[i][k]).1,(upK C[i][k]).2)))):Nat):Int)):=rfl
  rw [eb]
  generalize ixN S ((i:Int),C[i][k].1,C[i][k].2.1) = x at *
  generalize ixN S ((i:Int),(upK C[i][k]).1,(upK C[i][k]).2) = y at *
  obtain ⟨x1,x2⟩:=atU S.length (clU f S.length) l1
  obtain ⟨y1,y2⟩:=atU S.length (clU f S.length) l2
  have ex:clU f S.length x = cnt f (f x):=by unfold clU; rw [if_pos l1]
  have ey:clU f S.length y = cnt f (f y):=by unfold clU; rw [if_pos l2]
  rw [ex] at x1
  rw [ey] at y1
  have dx:decide (x < S.length) = true:=decide_eq_true l1
  have dy:decide (y < S.length) = true:=decide_eq_true l2
  obtain ⟨m1,m2⟩:=mn_if (cnt f (f x)) (cnt f (f y))
  obtain ⟨m1',m2'⟩:=mm_if (cnt f (f x)) (cnt f (f y))
  have hb16:decide ((D.length + 1) * 16 ≤ 140737488355328) = true:=decide_eq_true (by omega)
  simp only [R48x261778,hv,List.length_map,Int.toNat_natCast,e1,e2,a1,a2,qT,lt_range hk,in_range hk,in_range hi,in_range l1,in_range l2,dx,dy,Bool.and_self,Bool.and_true,cond_true,fa3,md3,fa89,md89,fa46,md46,faF79x2,mdF79x2,unf2,faL,mdL,Option.bind_some,t1,t2,x1,x2,y1,y2,m1,m2,m1',m2',snoc46,uL_len,beq_self_eq_true,Nat.zero_add,decide_true,hb16,Nat.beq_refl,List.length_append,List.length_singleton,w_succ (show k < 9223372036854775807 by omega)]) (by
  simp only [R48x261778,hv,Int.toNat_natCast,e1,e2,in_range hi,List.take_length,List.length_map,ge_range,cond_false,fa3,md3,fa46,md46,faF79x2,mdF79x2,unf2,faL,mdL,Nat.beq_refl,Bool.and_self,Bool.and_true,cond_true,decide_true,Option.bind_some]) N 0 (Nat.zero_le _) (by unfold Big at hN; omega)
 have hz:(B ++ (C[i].take 0).map (barN f S i)) = B:=by simp
 have key':loopR (R48x261778 N C S v) N (0,(),(B ++ (C[i].take 0).map (barN f S i)),p,E,lenI L,uL S.length (clU f S.length)) = _:=key
 rwa [hz] at key'
theorem R48_bars (C:List (List P3)) (hl:∀ l ∈ C,l.length ≤ 4096) (hC:C.length ≤ 16) (hS:(plcs C).length ≤ 1000000) (f:Nat → Nat) (p:List Int) (E:List (Nat × List P3)) (L:List Nat) :
  loopR (R48x4090 N C (plcs C)) N (0,(),[],p,E,lenI L,uL (plcs C).length (clU f (plcs C).length)) = some ((),barsK f (plcs C) C C.length,p,E,lenI L,uL (plcs C).length (clU f (plcs C).length)):=by
 have key:=loopR_count (rd:=R48x4090 N C (plcs C)) C.length (fun k=>((k:Int),(),barsK f (plcs C) C k,p,E,lenI L,uL (plcs C).length (clU f (plcs C).length))) ((),barsK f (plcs C) C C.length,p,E,lenI L,uL (plcs C).length (clU f (plcs C).length)) (fun k hk=>by
  obtain ⟨e1,e2⟩:=at115 C hk
  have hbl:=barsK_len f (plcs C) C hl k
  have r1:=R48_in hN C k hk (hl _ (List.getElem_mem hk)) (plcs C) hS (fun b hb=>mem_ends hk hb) f p E L (barsK f (plcs C) C k) (by omega) ((k:Int),(),barsK f (plcs C) C k,p,E,lenI L,uL (plcs C).length (clU f (plcs C).length)) rfl
  have e:C.getD k [] = C[k]:=by simp [hk]
  rw [barsK_succ,e]
  simp only [R48x4090,Int.toNat_natCast,List.length_map,lt_range hk,in_range hk,fa3,md3,fa46,md46,faF79x2,mdF79x2,unf2,faL,mdL,Nat.beq_refl,Bool.and_self,Bool.and_true,cond_true,decide_true,Option.bind_some,r1,w_succ (show k < 9223372036854775807 by omega)]) (by
  simp only [R48x4090,List.length_map,ge_range,cond_false,fa3,md3,fa46,md46,faF79x2,mdF79x2,unf2,faL,mdL,Nat.beq_refl,Bool.and_self,Bool.and_true,cond_true,decide_true,Option.bind_some]) N 0 (Nat.zero_le _) (by unfold Big at hN; omega)
 exact key
theorem T48_sew (C:List (List P3)) (J:List Six) (h:chkQ C J = 0):T48 N (C,J) = some (sewC C J,sewB C J):=by
 obtain ⟨hp,hJ⟩:=chkQ_ok h
 obtain ⟨c1,c2⟩:=chkP_ok hp
 have hin:=chkQ_in h
 have hSl:=plcs_len c2 c1
 have r0:=T114_plcs hN C c2 c1
 have r1:=R48_init hN (plcs C) (by omega)
 have r2:=R48_rounds hN (plcs C) (by omega) J hJ hin
 have r3:=R48_cls hN (plcs C) (by omega) (lab_ok (edgJ (plcs C) J))
 have r3':loopR (R48x2042 N (plcs C)) N (0,(),(),uL (plcs C).length (lab (edgJ (plcs C) J)),[],[],List.replicate (plcs C).length 0) = some ((),(),uL (plcs C).length (lab (edgJ (plcs C) J)),famE (sewC C J),lenI (lenC (sewC C J)),uL (plcs C).length (clU (labS C J) (plcs C).length)):=r3
 have r4:=R48_bars hN C (fun l hl=>chkN_ok (c2 l hl)) c1 (by omega) (labS C J) (uL (plcs C).length (lab (edgJ (plcs C) J))) (famE (sewC C J)) (lenC (sewC C J))
 have r4':loopR (R48x4090 N C (plcs C)) N (0,(),[],uL (plcs C).length (lab (edgJ (plcs C) J)),famE (sewC C J),lenI (lenC (sewC C J)),uL (plcs C).length (clU (labS C J) (plcs C).length)) = some ((),sewB C J,uL (plcs C).length (lab (edgJ (plcs C) J)),famE (sewC C J),lenI (lenC (sewC C J)),uL (plcs C).length (clU (labS C J) (plcs C).length)):=r4
 have hd:decide ((0:Int) ≤ ((plcs C).length:Int) ∧ ((plcs C).length:Int) ≤ ((plcs C).length:Int) ∧ ((plcs C).length:Int) ≤ 140737488355328 ∧ ((plcs C).length:Int) * 8 ≤ 140737488355328) = true:=decide_eq_true (by omega)
 have nb:Nat.beq 0 0 = true:=rfl
 have f46:allFit (Pat.fits p46) [] = true:=rfl
 have ff:allFit (Pat.fits pF79x2) [] = true:=rfl
 have f2:allFit (Pat.fits p2) (famL []) = true:=rfl
 have g2:List.map d2 (famL []) = []:=rfl
 rw [T48_eq]
 simp only [fa115,md115,r0,hd,nb,f46,ff,f2,g2,List.map_nil,List.length_nil,Bool.and_self,Bool.and_true,cond_true,decide_true,Option.bind_some,Int.toNat_natCast,rep3,fa3,md3,fa46,md46,faF79x2,mdF79x2,unf2,faL,mdL,r1,r2,r3',r4',List.length_map,famE_len,Nat.beq_refl,wk79,famE_snd,cl63,fa63,md63]
end
end Go.Proofs.YtfiopgedfcaodaaGreatDoor
