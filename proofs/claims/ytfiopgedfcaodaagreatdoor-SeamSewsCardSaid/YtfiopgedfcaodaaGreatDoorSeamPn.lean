/- Plain laws: seams are checked. -/
import Derived.Test.YtfiopgedfcaodaaGreatDoorSeamPm
set_option linter.all false
namespace Go.Proofs.YtfiopgedfcaodaaGreatDoor
open Go Go.Am Go.Sort
set_option maxRecDepth 100000
theorem ME191:MapEnc (.st (.cons 0 1 false .int (.cons 1 2 true (.st (.cons 0 1 false .int (.cons 1 1 false .int .nil))) .nil))) n94 n3 nM191:=⟨fun a b=>eqK_three a b,fun _=>rfl,fun _=>rfl⟩
theorem mk191 (p:P3) (m:List (P3 × Int)):mkeys (.st (.cons 0 1 false .int (.cons 1 2 true (.st (.cons 0 1 false .int (.cons 1 1 false .int .nil))) .nil))) (AV.agg [AV.int .i64 p.1,AV.int .i64 p.2.1,AV.int .i64 p.2.2]) (entriesL (List.map nM191 m)) = true:=ME191.keys p m
theorem mt191 (p:P3) (m:List (P3 × Int)):mgetT (.st (.cons 0 1 false .int (.cons 1 2 true (.st (.cons 0 1 false .int (.cons 1 1 false .int .nil))) .nil))) (AV.agg [AV.int .i64 p.1,AV.int .i64 p.2.1,AV.int .i64 p.2.2]) (entriesL (List.map nM191 m)) = (getM p m).map n3:=ME191.get p m
theorem mg191 (p:P3) (m:List (P3 × Int)):mgetD (.st (.cons 0 1 false .int (.cons 1 2 true (.st (.cons 0 1 false .int (.cons 1 1 false .int .nil))) .nil))) (AV.agg [AV.int .i64 p.1,AV.int .i64 p.2.1,AV.int .i64 p.2.2]) (AV.int .i64 0) (entriesL (List.map nM191 m)) = n3 ((getM p m).getD 0):=ME191.getD p 0 m
theorem mp191 (p:P3) (v:Int) (m:List (P3 × Int)):mputT (.st (.cons 0 1 false .int (.cons 1 2 true (.st (.cons 0 1 false .int (.cons 1 1 false .int .nil))) .nil))) (AV.agg [AV.int .i64 p.1,AV.int .i64 p.2.1,AV.int .i64 p.2.2]) (AV.int .i64 v) (entriesL (List.map nM191 m)) = entriesL (List.map nM191 (putM p v m)):=ME191.put p v m
theorem mc191 (m:List (P3 × Int)):mcells (entriesL (List.map nM191 m)) = List.map nM191 m:=ME191.cells m
theorem ax191 (m:List (P3 × Int)):allX (entriesL (List.map nM191 m)) = true:=ME191.allX m
theorem snoc94 (s:List P3) (a b c:Int):List.map n94 s ++ [AV.agg [AV.int .i64 a,AV.int .i64 b,AV.int .i64 c]] = List.map n94 (s ++ [(a,b,c)]):=by
 rw [List.map_append]; rfl
theorem foldl_snocg {α β:Type} (g:α → β):∀ (l:List α) (s:List β),l.foldl (fun s x=>s ++ [g x]) s = s ++ l.map g
 | [],s=>by simp
 | a :: l,s=>by rw [List.foldl_cons,foldl_snocg g l]; simp
theorem plc_len {C:List (List P3)} (hC:∀ l ∈ C,chkN l = 0) (i:Nat):(plc C i).length ≤ 8192:=by
 unfold plc
 rw [List.length_map]
 by_cases h:i < C.length
 ·have e:C.getD i [] = C[i]:=by simp [h]
  rw [e]
  exact knots_len (hC _ (List.getElem_mem h))
 ·have e:C.getD i [] = []:=by simp [h]
  rw [e]
  exact knots_len rfl
theorem mem_plcs {C:List (List P3)} (p:P3):p ∈ plcs C ↔ ∃ i:Nat,i < C.length ∧ p.1 = (i:Int) ∧ (p.2.1,p.2.2) ∈ knotsL (C.getD i []):=by
 unfold plcs plc
 simp only [List.mem_flatMap,List.mem_range,List.mem_map]
 constructor
 ·rintro ⟨i,hi,k,hk,rfl⟩
  exact ⟨i,hi,rfl,hk⟩
 ·rintro ⟨i,hi,h1,h2⟩
  exact ⟨i,hi,_,h2,by rw [← h1]⟩
section
variable {N:Nat} (hN:Big N)
include hN
theorem R42_in (K:List (Int × Int)) (e:Int) (C:List (List P3)) (s:List P3) (i:Int) (hK:K.length ≤ 8192):loopR (R42x164x58 N (K,e)) N ([],0,C,s,i) = some (K.map fun k=>(i,k.1,k.2),C,s,i):=by
 have key:=loopR_foldl (rd:=R42x164x58 N (K,e)) K (fun acc k=>(acc,(k:Int),C,s,i)) (fun acc k=>acc ++ [(i,k.1,k.2)]) (fun acc=>(acc,C,s,i)) (fun acc k=>acc.length = k) (fun acc k hk hs=>by
  obtain ⟨a1,a2⟩:=at87k K hk
  have hb:decide ((acc.length + 1) * 24 ≤ 140737488355328) = true:=decide_eq_true (by omega)
  have hl:(acc ++ [(i,K[k].1,K[k].2)]).length = acc.length + 1:=by simp
  refine ⟨?_,by rw [hl,hs]⟩
  simp only [R42x164x58,List.length_map,Int.toNat_natCast,a1,a2,lt_range hk,in_range hk,Bool.and_self,Bool.and_true,cond_true,decide_true,hb,snoc94,fa94,md94,fa115,md115,Option.bind_some,hl,w_succ (show k < 9223372036854775807 by omega)]) (fun acc _=>by
  simp only [R42x164x58,List.length_map,ge_range,cond_false,fa94,md94,fa115,md115,Bool.and_self,Bool.and_true,cond_true,Option.bind_some,decide_true]) N [] 0 (Nat.zero_le _) (by unfold Big at hN; omega) rfl
 have key':loopR (R42x164x58 N (K,e)) N ([],0,C,s,i) = _:=key
 rw [key',List.drop_zero,foldl_snocg,List.nil_append]
section
variable (C:List (List P3)) (hC:∀ l ∈ C,chkN l = 0) (hl:C.length ≤ 16)
include hC hl
theorem R42_places:loopR (R42x109x58 N C) N ((),0,C,[]) = some ((),C,plcs C):=by
 have key:=loopR_foldl (rd:=R42x109x58 N C) (List.range C.length) (fun s k=>((),(k:Int),C,s)) (fun s i=>s ++ plc C i) (fun s=>((),C,s)) (fun s k=>s.length ≤ 8192 * k) (fun s k hk hs=>by
  have hk:k < C.length:=by simpa using hk
  rw [List.getElem_range]
  obtain ⟨a1,a2⟩:=at115 C hk
  have hn:=hC _ (List.getElem_mem hk)
  have e:C.getD k [] = C[k]:=by simp [hk]
  have hkl:=knots_len hn
  have q:=T163_knots hN C[k]
  rw [if_pos hn] at q
  have hpl:=plc_len hC k
  have hb:decide ((s.length + (plc C k).length) * 24 ≤ 140737488355328) = true:=decide_eq_true (by omega)
  have hi:=R42_in hN (knotsL C[k]) 0 C s (k:Int) hkl
  have he:(knotsL C[k]).map (fun x=>((k:Int),x.1,x.2)) = plc C k:=by unfold plc; rw [e]
  rw [he] at hi
  have z:∀ a b:List P3,List.map n94 a ++ List.map n94 b = List.map n94 (a ++ b):=fun a b=>by rw [List.map_append]
  have zn:allFit (Pat.fits p94) ([]:List AV) = true:=rfl
  have hla:(s ++ plc C k).length = s.length + (plc C k).length:=List.length_append
  refine ⟨?_,by rw [hla]; omega⟩
  simp only [R42x109x58,List.length_map,Int.toNat_natCast,a1,a2,lt_range hk,in_range hk,Bool.and_self,Bool.and_true,cond_true,fa120,md120,q,Option.bind_some,zn,fa115,md115,fa94,md94,List.map_nil,List.length_nil,decide_true,hi,hb,z,hla,Nat.beq_refl,w_succ (show k < 9223372036854775807 by omega)]) (fun s _=>by
  rw [List.length_range]
  simp only [R42x109x58,List.length_map,ge_range,cond_false,Nat.beq_refl,fa94,md94,fa115,md115,Bool.and_self,Bool.and_true,cond_true,Option.bind_some]) N [] 0 (Nat.zero_le _) (by unfold Big at hN; simp; omega) (Nat.zero_le _)
 have key':loopR (R42x109x58 N C) N ((),0,C,[]) = _:=key
 rw [key',List.drop_zero,flatMap_foldl,List.nil_append]
 rfl
omit hC hl in
theorem R42_index (S:List P3) (hS:S.length ≤ 1000000):∃ x,loopR (R42x118x58 N ((),C,S)) N (0,C,S,[]) = some x ∧ ∃ m:List (P3 × Int),x = (C,S,m) ∧ ∀ p,(getM p m).isSome = decide (p ∈ S):=by
 refine loopR_cnt (rd:=R42x118x58 N ((),C,S)) (S:=List (P3 × Int)) S.length (fun m k=>((k:Int),C,S,m)) (fun m k=>∀ p,(getM p m).isSome = decide (p ∈ S.take k)) _ ?_ ?_ N [] 0 (Nat.zero_le _) (by unfold Big at hN; omega) (fun p=>by simp [getM])
 ·intro m k hk hP
  obtain ⟨a1,a2⟩:=at94 S hk
  have hd:decide (k < S.length) = true:=decide_eq_true hk
  refine ⟨putM S[k] (k:Int) m,?_,fun p=>?_⟩
  ·simp only [R42x118x58,List.length_map,Int.toNat_natCast,Nat.zero_add,a1,a2,lt_range hk,in_range hk,hd,decide_true,Bool.and_self,Bool.and_true,cond_true,mk191,mp191,mc191,ax191,faM191,mdM191,fa115,md115,fa94,md94,Option.bind_some,w_succ (show k < 9223372036854775807 by omega)]
  ·have et:S.take (k + 1) = S.take k ++ [S[k]]:=by rw [List.take_succ,List.getElem?_eq_getElem hk]; rfl
   rw [getM_put,et]
   by_cases h:p = S[k]
   ·rw [if_pos h]
    exact (decide_eq_true (by rw [List.mem_append,List.mem_singleton]; exact .inr h)).symm
   ·rw [if_neg h,hP,decide_eq_decide,List.mem_append,List.mem_singleton]
    exact ⟨.inl,fun c=>c.resolve_right h⟩
 ·intro m hP
  refine ⟨(C,S,m),?_,m,rfl,fun p=>by rw [hP,List.take_length]⟩
  simp only [R42x118x58,List.length_map,ge_range,cond_false,mc191,ax191,faM191,mdM191,fa115,md115,fa94,md94,Bool.and_self,Bool.and_true,cond_true,Option.bind_some]
def errS (C:List (List P3)) (j:Six):Int:=firstNZ [errQ C (j.1,j.2.1,j.2.2.1),errQ C (j.2.2.2.1,j.2.2.2.2.1,j.2.2.2.2.2),if (j.1,j.2.1,j.2.2.1) = (j.2.2.2.1,j.2.2.2.2.1,j.2.2.2.2.2) then 9 else 0]
def chkQ (C:List (List P3)) (J:List Six):Int:=if chkP C ≠ 0 then chkP C else if J.length > 1024 then 5 else firstNZ (J.map (errS C))
omit hN hC hl in
theorem errQ_map (m:List (P3 × Int)) (hm:∀ p,(getM p m).isSome = decide (p ∈ plcs C)) (p:P3):firstNZ [if p.1 < 0 ∨ p.1 ≥ (C.length:Int) then 10 else 0,if (!(Option.isSome ((getM p m).map n3))) = true then 7 else 0] = errQ C p:=by
 have h1:Option.isSome ((getM p m).map n3) = decide (p ∈ plcs C):=by rw [Option.isSome_map,hm]
 rw [h1]
 unfold errQ
 simp only [firstNZ]
 by_cases h:p.1 < 0 ∨ p.1 ≥ (C.length:Int)
 ·rw [if_pos h,if_pos h]; rfl
 ·rw [if_neg h,if_neg h]
  have hmem:p ∈ plcs C ↔ (p.2.1,p.2.2) ∈ knotsL (C.getD p.1.toNat []):=by
   rw [mem_plcs]
   constructor
   ·rintro ⟨i,hi,h2,h3⟩
    rw [h2,Int.toNat_natCast]; exact h3
   ·intro h3
    exact ⟨p.1.toNat,by omega,by omega,h3⟩
  by_cases hk:(p.2.1,p.2.2) ∈ knotsL (C.getD p.1.toNat [])
  ·rw [if_pos hk,decide_eq_true (hmem.2 hk)]; rfl
  ·rw [if_neg hk,decide_eq_false fun c=>hk (hmem.1 c)]; rfl
omit hC hl in
theorem R42_errs (J:List Six) (hJ:J.length ≤ 1024) (S:List P3) (m:List (P3 × Int)) (hm:∀ p,(getM p m).isSome = decide (p ∈ plcs C)):loopR (R42x120x58 N J) N ([],0,C,S,m,(),()) = some (J.map (errS C),C,S,m,(),()):=by
 have key:=loopR_foldl (rd:=R42x120x58 N J) J (fun acc k=>(acc,(k:Int),C,S,m,(),())) (fun acc j=>acc ++ [errS C j]) (fun acc=>(acc,C,S,m,(),())) (fun acc k=>acc.length = k) (fun acc k hk hs=>by
  have hd:=nthD_map n127 J k hk
  have a1:d127 (nthD (List.map n127 J) k) = J[k]:=by rw [hd,dn127]
  have a2:Pat.fits p127 (nthD (List.map n127 J) k) = true:=by rw [hd,fn127]
  have hb:decide ((acc.length + 1) * 8 ≤ 140737488355328) = true:=decide_eq_true (by omega)
  have hl:(acc ++ [errS C J[k]]).length = acc.length + 1:=by simp
  have sn:∀ (l:List Int) (a:Int),List.map n24 l ++ [AV.int .i64 a] = List.map n24 (l ++ [a]):=fun l a=>by rw [List.map_append]; rfl
  refine ⟨?_,by rw [hl,hs]⟩
  have k1:=mk191 (J[k].1,J[k].2.1,J[k].2.2.1) m
  have k2:=mk191 (J[k].2.2.2.1,J[k].2.2.2.2.1,J[k].2.2.2.2.2) m
  have g1:=mg191 (J[k].1,J[k].2.1,J[k].2.2.1) m
  have g2:=mg191 (J[k].2.2.2.1,J[k].2.2.2.2.1,J[k].2.2.2.2.2) m
  have t1:=mt191 (J[k].1,J[k].2.1,J[k].2.2.1) m
  have t2:=mt191 (J[k].2.2.2.1,J[k].2.2.2.2.1,J[k].2.2.2.2.2) m
  have e1:=errQ_map C m hm (J[k].1,J[k].2.1,J[k].2.2.1)
  have e2:=errQ_map C m hm (J[k].2.2.2.1,J[k].2.2.2.2.1,J[k].2.2.2.2.2)
  have es:errS C J[k] = firstNZ [errQ C (J[k].1,J[k].2.1,J[k].2.2.1),errQ C (J[k].2.2.2.1,J[k].2.2.2.2.1,J[k].2.2.2.2.2),if (J[k].1,J[k].2.1,J[k].2.2.1) = (J[k].2.2.2.1,J[k].2.2.2.2.1,J[k].2.2.2.2.2) then 9 else 0]:=rfl
  have q2:∀ x y:Int,T90 N [x,y] = some (firstNZ [x,y]):=fun x y=>T90_first hN _ (by simp)
  have q3:∀ x y z:Int,T90 N [x,y,z] = some (firstNZ [x,y,z]):=fun x y z=>T90_first hN _ (by simp)
  simp only at k1 k2 g1 g2 t1 t2 e1 e2
  generalize J[k] = j at *
  have hbeq:(j.1 == j.2.2.2.1 && (j.2.1 == j.2.2.2.2.1 && j.2.2.1 == j.2.2.2.2.2)) = decide ((j.1,j.2.1,j.2.2.1) = (j.2.2.2.1,j.2.2.2.2.1,j.2.2.2.2.2)):=by
   rw [Bool.eq_iff_iff]
   simp only [Bool.and_eq_true,beq_iff_eq,decide_eq_true_eq,Prod.mk.injEq]
  have cb:∀ (x n X:Int) (R:List (List P3) × List P3 × List (P3 × Int) × Unit × Unit),((bif decide (x < 0) then some (firstNZ [if True then 10 else 0,X],R) else some (firstNZ [if decide (x ≥ n) = true then 10 else 0,X],R)):Option (Int × List (List P3) × List P3 × List (P3 × Int) × Unit × Unit)) = some (firstNZ [if x < 0 ∨ x ≥ n then 10 else 0,X],R):=fun x n X R=>by
   by_cases h1:x < 0
   ·simp [h1]
   ·simp [h1]
  simp only [R42x120x58,List.length_map,Int.toNat_natCast,a1,a2,lt_range hk,in_range hk,Bool.and_self,cond_true,k1,k2,g1,g2,fn3,t1,t2,T91_when,Option.bind_some,two24,three24,q2,q3,fa115,md115,fa94,md94,faM191,mdM191,mc191,ax191,beq_self_eq_true,decide_true]
  rw [cb,e1,Option.bind_some]
  simp only [k2,g2,fn3,t2,Bool.and_self,cond_true]
  rw [cb,e2,Option.bind_some]
  simp only [hb,Bool.and_self,cond_true,sn,fa24,md24,Bool.and_true,hbeq,decide_eq_true_eq,Option.bind_some,w_succ (show k < 9223372036854775807 by omega)]
  rw [← es]
  simp only [hl,decide_true,Bool.and_self,cond_true,Option.bind_some]) (fun acc _=>by
  simp only [R42x120x58,List.length_map,ge_range,cond_false,fa24,md24,mc191,ax191,faM191,mdM191,fa115,md115,fa94,md94,Bool.and_self,Bool.and_true,cond_true,Option.bind_some,decide_true]) N [] 0 (Nat.zero_le _) (by unfold Big at hN; omega) rfl
 have key':loopR (R42x120x58 N J) N ([],0,C,S,m,(),()) = _:=key
 rw [key',List.drop_zero,foldl_snocg,List.nil_append]
end
end
end Go.Proofs.YtfiopgedfcaodaaGreatDoor
