/- Plain laws: the law of pieces. -/
import Derived.Test.YtfiopgedfcaodaaGreatDoorSeamPy
set_option linter.all false
namespace Go.Proofs.YtfiopgedfcaodaaGreatDoor
open Go Go.Am Go.Sort
set_option maxRecDepth 100000
theorem full_fit:∀ s:List (List P3),allFit (Pat.fits p115) (List.map n115 s ++ [AV.list .full 3 []]) = true
 | []=>rfl
 | x :: s=>by
  show (Pat.fits p115 (n115 x) && allFit (Pat.fits p115) (List.map n115 s ++ [AV.list .full 3 []])) = true
  rw [full_fit s,fn115]; rfl
theorem full_dec (s:List (List P3)):List.map d115 (List.map n115 s ++ [AV.list .full 3 []]) = s ++ [[]]:=by
 rw [List.map_append,md115]; rfl
theorem snoc115 (s:List (List P3)) (l:List P3):List.map n115 s ++ [AV.list .opn 3 (List.map n120 l)] = List.map n115 (s ++ [l]):=by
 rw [List.map_append]; rfl
def short (l:List P3):Bool:=if l.length ≤ 12 then true else if l.length > 4096 then decide (l.length ≤ 4098) else false
section
variable {N:Nat} (hN:Big N)
include hN
theorem T34_same (C:List (List P3)) (hC:C.length ≤ 100) (hl:∀ l ∈ C,l.length ≤ 4098):T34 N C = some C:=by
 rw [T34_eq]
 have key:=loopR_foldl (rd:=R34x58 N C) C (fun s k=>(s,(k:Int))) (fun s l=>s ++ [l]) (fun s=>s) (fun s k=>s.length = k) (fun s k hk hs=>by
  obtain ⟨a1,a2⟩:=at115 C hk
  have hb:decide ((s.length + 1) * 24 ≤ 140737488355328) = true:=decide_eq_true (by omega)
  have hla:(s ++ [C[k]]).length = s.length + 1:=by simp
  have hlk:=hl _ (List.getElem_mem hk)
  refine ⟨?_,by rw [hla,hs]⟩
  by_cases h0:C[k] = []
  ·rw [h0] at a1 hla ⊢
   simp only [R34x58,List.length_map,Int.toNat_natCast,a1,a2,lt_range hk,in_range hk,Bool.and_self,Bool.and_true,cond_true,List.map_nil,List.isEmpty_nil,decide_true,hb,full_fit,full_dec,Option.bind_some,hla,fa115,md115,w_succ (show k < 9223372036854775807 by omega)]
  ·have hne:List.isEmpty (List.map n120 C[k]) = false:=by
    cases hd:C[k] with
    | nil=>exact absurd hd h0
    | cons x y=>rfl
   have hb2:decide ((0 + C[k].length) * 24 ≤ 140737488355328) = true:=decide_eq_true (by omega)
   simp only [R34x58,List.length_map,Int.toNat_natCast,a1,a2,lt_range hk,in_range hk,Bool.and_self,Bool.and_true,cond_true,cond_false,hne,hb2,decide_true,hb,List.nil_append,snoc115,fa115,md115,Option.bind_some,hla,w_succ (show k < 9223372036854775807 by omega)]) (fun s _=>by
  simp only [R34x58,List.length_map,ge_range,cond_false,fa115,md115,Bool.and_true,cond_true,Option.bind_some,decide_true]) N [] 0 (Nat.zero_le _) (by unfold Big at hN; omega) rfl
 have key':loopR (R34x58 N C) N ([],0) = _:=key
 have z:((bif (allFit (Pat.fits p115) ([]:List AV) && true) then some ((List.map d115 ([]:List AV)),0) else none:Option ((List (List (Int × Int × Int))) × Int)).bind fun w9=>bif (decide (0 = (List.map n115 w9.1).length) && true) then some w9 else none) = some ([],0):=rfl
 rw [z,Option.bind_some,key',List.drop_zero,foldl_snoc,List.nil_append,Option.bind_some]
 simp only [fa115,md115,Bool.and_true,cond_true] <;> rfl
theorem T35_same (J:List Six) (hJ:J.length ≤ 1000000):T35 N J = some J:=by
 rw [T35_eq]
 have key:=loopR_foldl (rd:=R35x58 N J) J (fun s k=>(s,(k:Int))) (fun s p=>s ++ [p]) (fun s=>s) (fun s k=>s.length = k) (fun s k hk hs=>by
  obtain ⟨a1,a2⟩:=at129 J hk
  have hb:decide ((s.length + 1) * 48 ≤ 140737488355328) = true:=decide_eq_true (by omega)
  have hla:(s ++ [J[k]]).length = s.length + 1:=by simp
  have hsn:List.map n127 s ++ [AV.agg [AV.int .i64 J[k].1,AV.int .i64 J[k].2.1,AV.int .i64 J[k].2.2.1,AV.int .i64 J[k].2.2.2.1,AV.int .i64 J[k].2.2.2.2.1,AV.int .i64 J[k].2.2.2.2.2]] = List.map n127 (s ++ [J[k]]):=by rw [List.map_append]; rfl
  refine ⟨?_,by rw [hla,hs]⟩
  simp only [R35x58,List.length_map,Int.toNat_natCast,a1,a2,lt_range hk,in_range hk,Bool.and_self,Bool.and_true,cond_true,decide_true,hb,hsn,fa127,md127,Option.bind_some,hla,w_succ (show k < 9223372036854775807 by omega)]) (fun s _=>by
  simp only [R35x58,List.length_map,ge_range,cond_false,fa127,md127,Bool.and_true,cond_true,Option.bind_some,decide_true]) N [] 0 (Nat.zero_le _) (by unfold Big at hN; omega) rfl
 have key':loopR (R35x58 N J) N ([],0) = _:=key
 have z:((bif (allFit (Pat.fits p127) ([]:List AV) && true) then some ((List.map d127 ([]:List AV)),0) else none:Option ((List (Int × Int × Int × Int × Int × Int)) × Int)).bind fun w6=>bif (decide (0 = (List.map n127 w6.1).length) && true) then some w6 else none) = some ([],0):=rfl
 rw [z,Option.bind_some,key',List.drop_zero,foldl_snoc,List.nil_append,Option.bind_some]
 simp only [fa127,md127,Bool.and_true,cond_true] <;> rfl
omit hN in
theorem T107_short (l:List P3):T107 N (l,12) = some (short l):=by
 rw [T107_eq]
 simp only [List.length_map]
 unfold short
 by_cases h1:l.length ≤ 12
 ·have h1':(l.length:Int) ≤ 12:=by omega
  simp [h1,h1']
 ·have h1':¬ (l.length:Int) ≤ 12:=by omega
  by_cases h2:l.length > 4096
  ·have h2':(l.length:Int) > 4096:=by omega
   have e:decide ((l.length:Int) ≤ 4098) = decide (l.length ≤ 4098):=by rw [decide_eq_decide]; omega
   rw [decide_eq_false h1',decide_eq_true h2',if_neg h1,if_pos h2,e]
   rfl
  ·have h2':¬ (l.length:Int) > 4096:=by omega
   rw [decide_eq_false h1',decide_eq_false h2',if_neg h1,if_neg h2]
   rfl
end
end Go.Proofs.YtfiopgedfcaodaaGreatDoor
