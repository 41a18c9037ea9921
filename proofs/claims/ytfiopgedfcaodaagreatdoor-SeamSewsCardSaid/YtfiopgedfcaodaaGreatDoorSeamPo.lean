/- Plain laws: seams are checked,and the places of pieces. -/
import Derived.Test.YtfiopgedfcaodaaGreatDoorSeamPn
set_option linter.all false
namespace Go.Proofs.YtfiopgedfcaodaaGreatDoor
open Go Go.Am Go.Sort
set_option maxRecDepth 100000
theorem w24 (x y:Int):((bif allFit (Pat.fits p24) [AV.int .i64 x,AV.int .i64 y] then some (List.map d24 [AV.int .i64 x,AV.int .i64 y]) else none:Option (List Int))) = some [x,y]:=rfl
theorem w3 (x y:Int):((bif allFit (Pat.fits p3) [AV.int .i64 x,AV.int .i64 y] then some (List.map d3 [AV.int .i64 x,AV.int .i64 y]) else none:Option (List Int))) = some [x,y]:=rfl
section
variable {N:Nat} (hN:Big N)
include hN
theorem T42_chk (C:List (List P3)) (J:List Six):T42 N (C,J) = some (chkQ C J):=by
 rw [T42_eq]
 simp only [fa115,md115,Bool.and_true,cond_true,Option.bind_some,T41_chk hN C,T91_when,List.length_map,w24]
 rw [T90_first hN _ (by simp),Option.bind_some]
 unfold chkQ
 simp only [firstNZ]
 by_cases h0:chkP C = 0
 ·obtain ⟨c1,c2⟩:=chkP_ok h0
  rw [if_pos h0,if_neg (show ¬ chkP C ≠ 0 from fun c=>c h0)]
  by_cases h1:J.length > 1024
  ·have h1':(J.length:Int) > 1024:=by omega
   simp [h1,h1']
  ·have h1':¬ (J.length:Int) > 1024:=by omega
   have hpl:(plcs C).length ≤ 1000000:=by
    have gen:∀ (n:Nat),((List.range n).flatMap (plc C)).length ≤ 8192 * n:=by
     intro n
     induction n with
     | zero=>simp
     | succ n ih=>
      rw [List.range_succ,List.flatMap_append,List.length_append]
      have:=plc_len c2 n
      simp only [List.flatMap_cons,List.flatMap_nil,List.append_nil]
      omega
    have:=gen C.length
    unfold plcs
    omega
   obtain ⟨x,r,m,rfl,hm⟩:=R42_index hN C (plcs C) hpl
   have n0:mcells ([]:List (AV × AV)) = []:=rfl
   have x0:allX ([]:List (AV × AV)) = true:=rfl
   have f0:allFit (Pat.fits pM191) [] = true:=rfl
   have f1:allFit (Pat.fits p94) [] = true:=rfl
   have f2:allFit (Pat.fits p24) [] = true:=rfl
   have nb:Nat.beq 0 0 = true:=rfl
   have hq:T90 N (J.map (errS C)) = _:=T90_first hN _ (by rw [List.length_map]; omega)
   rw [if_neg h1]
   simp only [h1',decide_false,Bool.false_eq_true,if_false,if_true,bne_self_eq_false,cond_false,n0,x0,f0,f1,f2,nb,List.map_nil,List.length_nil,fa115,md115,fa94,md94,mc191,ax191,faM191,mdM191,Bool.and_self,cond_true,Option.bind_some,R42_places hN C c2 c1,r,R42_errs hN C J (by omega) (plcs C) m hm,decide_true,fa24,md24,hq]
 ·have hb:(chkP C != 0) = true:=bne_iff_ne.2 h0
  rw [if_neg h0,if_pos h0,hb]
  rfl
theorem T38_chk (C:List (List P3)) (J:List Six):T38 N (C,J) = some (chkQ C J):=by
 rw [T38_eq]
 simp only [fa115,md115,Bool.and_true,cond_true,Option.bind_some,T37_chk hN C,List.length_map]
 unfold chkQ
 by_cases h0:chkP C = 0
 ·obtain ⟨c1,c2⟩:=chkP_ok h0
  rw [if_neg (show ¬ chkP C ≠ 0 from fun c=>c h0),h0]
  by_cases h1:J.length > 1024
  ·have h1':(J.length:Int) > 1024:=by omega
   simp [h1,h1']
  ·have h1':¬ (J.length:Int) > 1024:=by omega
   have key:=first_loop2 (rd:=R38x250 N C J) (J.map (errS C)) (fun k hk=>by
    have hk:k < J.length:=by simpa using hk
    have hd:=nthD_map n129 J k hk
    have a1:d129 (nthD (List.map n129 J) k) = J[k]:=by rw [hd,dn129]
    have a2:Pat.fits p129 (nthD (List.map n129 J) k) = true:=by rw [hd,fn129]
    rw [List.getElem_map]
    have es:errS C J[k] = firstNZ [errQ C (J[k].1,J[k].2.1,J[k].2.2.1),errQ C (J[k].2.2.2.1,J[k].2.2.2.2.1,J[k].2.2.2.2.2),if (J[k].1,J[k].2.1,J[k].2.2.1) = (J[k].2.2.2.1,J[k].2.2.2.2.1,J[k].2.2.2.2.2) then 9 else 0]:=rfl
    have q1:=T113_err hN C (J[k].1,J[k].2.1,J[k].2.2.1) c2
    have q2:=T113_err hN C (J[k].2.2.2.1,J[k].2.2.2.2.1,J[k].2.2.2.2.2) c2
    have q3:∀ x y:Int,T28 N [x,y] = some (firstNZ [x,y]):=fun x y=>T28_first hN _ (by simp)
    generalize J[k] = j at *
    have hbeq:(j.1 == j.2.2.2.1 && (j.2.1 == j.2.2.2.2.1 && j.2.2.1 == j.2.2.2.2.2)) = decide ((j.1,j.2.1,j.2.2.1) = (j.2.2.2.1,j.2.2.2.2.1,j.2.2.2.2.2)):=by
     rw [Bool.eq_iff_iff]
     simp only [Bool.and_eq_true,beq_iff_eq,decide_eq_true_eq,Prod.mk.injEq]
    simp only [R38x250,List.length_map,Int.toNat_natCast,a1,a2,lt_range hk,in_range hk,Bool.and_self,Bool.and_true,cond_true,fa115,md115,Option.bind_some,q1,q2,beq_self_eq_true,w3,q3,hbeq,w_succ (show k < 9223372036854775807 by omega)]
    rw [es]
    simp only [firstNZ]
    generalize errQ C (j.1,j.2.1,j.2.2.1) = u
    generalize errQ C (j.2.2.2.1,j.2.2.2.2.1,j.2.2.2.2.2) = v
    by_cases hu:u = 0
    ·by_cases hv:v = 0
     ·by_cases he:(j.1,j.2.1,j.2.2.1) = (j.2.2.2.1,j.2.2.2.2.1,j.2.2.2.2.2)
      ·simp only [hu,hv,if_true,he,decide_true,beq_self_eq_true,cond_true,Option.bind_some]; rfl
      ·simp only [hu,hv,if_true,he,if_false,decide_false,beq_self_eq_true,cond_true,cond_false,Option.bind_some]; rfl
     ·have hvb:(v == 0) = false:=beq_false_of_ne hv
      have hvn:(v != 0) = true:=bne_iff_ne.2 hv
      simp only [hu,hv,if_true,if_false,hvb,hvn,cond_true,cond_false,Option.bind_some]
    ·have hub:(u == 0) = false:=beq_false_of_ne hu
     have hun:(u != 0) = true:=bne_iff_ne.2 hu
     simp only [hu,if_false,hub,hun,cond_true,cond_false,Option.bind_some]) (by
    rw [List.length_map]
    simp only [R38x250,List.length_map,ge_range,cond_false]) N (by unfold Big at hN; rw [List.length_map]; omega)
   rw [if_neg h1]
   simp only [bne_self_eq_false,cond_false,h1',decide_false,key,Option.bind_some]
   split <;> simp_all
 ·have hb:(chkP C != 0) = true:=bne_iff_ne.2 h0
  rw [if_pos h0,hb]
  rfl
omit hN in
theorem snoc89b (s:List P3) (a b c:Int):List.map n89 s ++ [AV.agg [AV.int .i64 a,AV.int .i64 b,AV.int .i64 c]] = List.map n89 (s ++ [(a,b,c)]):=by
 rw [List.map_append]; rfl
theorem R114_in (s0:List P3) (i:Int) (K:List (Int × Int)) (hK:K.length ≤ 8192) (hs0:s0.length ≤ 1000000):loopR (R114x7462 N (s0,i) K) N (s0,0) = some (s0 ++ K.map fun k=>(i,k.1,k.2)):=by
 have key:=loopR_foldl (rd:=R114x7462 N (s0,i) K) K (fun acc k=>(acc,(k:Int))) (fun acc k=>acc ++ [(i,k.1,k.2)]) (fun acc=>acc) (fun acc k=>acc.length = s0.length + k) (fun acc k hk hs=>by
  obtain ⟨a1,a2⟩:=at87k K hk
  have hb:decide ((acc.length + 1) * 24 ≤ 140737488355328) = true:=decide_eq_true (by omega)
  have hl:(acc ++ [(i,K[k].1,K[k].2)]).length = acc.length + 1:=by simp
  refine ⟨?_,by rw [hl,hs]; omega⟩
  simp only [R114x7462,List.length_map,Int.toNat_natCast,a1,a2,lt_range hk,in_range hk,Bool.and_self,Bool.and_true,cond_true,decide_true,hb,snoc89b,fa89,md89,Option.bind_some,hl,w_succ (show k < 9223372036854775807 by omega)]) (fun acc _=>by
  simp only [R114x7462,List.length_map,ge_range,cond_false,fa89,md89,Bool.and_self,Bool.and_true,cond_true,Option.bind_some,decide_true]) N s0 0 (Nat.zero_le _) (by unfold Big at hN; omega) rfl
 have key':loopR (R114x7462 N (s0,i) K) N (s0,0) = _:=key
 rw [key',List.drop_zero,foldl_snocg]
theorem T114_plcs (C:List (List P3)) (hC:∀ l ∈ C,chkN l = 0) (hl:C.length ≤ 16):T114 N C = some (plcs C):=by
 rw [T114_eq]
 have key:=loopR_foldl (rd:=R114x58 N C) (List.range C.length) (fun s k=>(s,(k:Int))) (fun s i=>s ++ plc C i) (fun s=>s) (fun s k=>s.length ≤ 8192 * k) (fun s k hk hs=>by
  have hk:k < C.length:=by simpa using hk
  rw [List.getElem_range]
  obtain ⟨a1,a2⟩:=at115 C hk
  have hn:=hC _ (List.getElem_mem hk)
  have e:C.getD k [] = C[k]:=by simp [hk]
  have hkl:=knots_len hn
  have hnl:=chkN_ok hn
  have q:=T66_knots hN C[k] (by omega)
  have hpl:=plc_len hC k
  have hi:=R114_in hN s (k:Int) (knotsL C[k]) hkl (by omega)
  have he:(knotsL C[k]).map (fun x=>((k:Int),x.1,x.2)) = plc C k:=by unfold plc; rw [e]
  rw [he] at hi
  refine ⟨?_,by rw [List.length_append]; omega⟩
  simp only [R114x58,List.length_map,Int.toNat_natCast,a1,a2,lt_range hk,in_range hk,Bool.and_self,Bool.and_true,cond_true,fa120,md120,q,Option.bind_some,fa89,md89,decide_true,hi,w_succ (show k < 9223372036854775807 by omega)]) (fun s _=>by
  rw [List.length_range]
  simp only [R114x58,List.length_map,ge_range,cond_false,fa89,md89,Bool.and_self,Bool.and_true,cond_true,Option.bind_some,decide_true]) N [] 0 (Nat.zero_le _) (by unfold Big at hN; simp; omega) (Nat.zero_le _)
 have key':loopR (R114x58 N C) N ([],0) = _:=key
 have z:((bif (allFit (Pat.fits p89) ([]:List AV) && true) then some ((List.map d89 ([]:List AV)),0) else none:Option ((List (Int × Int × Int)) × Int)).bind fun w16=>bif (decide (0 = (List.map n89 w16.1).length) && true) then some w16 else none) = some ([],0):=rfl
 rw [z,Option.bind_some,key',List.drop_zero,flatMap_foldl,List.nil_append,Option.bind_some]
 simp only [fa89,md89,Bool.and_true,cond_true] <;> rfl
end
end Go.Proofs.YtfiopgedfcaodaaGreatDoor
