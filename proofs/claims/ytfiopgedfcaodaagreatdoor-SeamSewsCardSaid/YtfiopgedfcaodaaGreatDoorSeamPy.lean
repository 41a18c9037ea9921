/- Plain laws: pieces,their seams,loose and common knots. -/
import Derived.Test.YtfiopgedfcaodaaGreatDoorSeamPx
import Derived.Test.YtfiopgedfcaodaaGreatDoorSeamPs
set_option linter.all false
namespace Go.Proofs.YtfiopgedfcaodaaGreatDoor
open Go Go.Am Go.Sort
set_option maxRecDepth 100000
section
variable {N:Nat} (hN:Big N)
include hN
theorem R36_in (K:List (Int × Int)) (e:Int) (s:List P3) (i:Int) (hK:K.length ≤ 8192):loopR (R36x164x58 N (K,e)) N ([],0,s,i) = some (K.map fun k=>(i,k.1,k.2),s,i):=by
 have key:=loopR_foldl (rd:=R36x164x58 N (K,e)) K (fun acc k=>(acc,(k:Int),s,i)) (fun acc k=>acc ++ [(i,k.1,k.2)]) (fun acc=>(acc,s,i)) (fun acc k=>acc.length = k) (fun acc k hk hs=>by
  obtain ⟨a1,a2⟩:=at87k K hk
  have hb:decide ((acc.length + 1) * 24 ≤ 140737488355328) = true:=decide_eq_true (by omega)
  have hl:(acc ++ [(i,K[k].1,K[k].2)]).length = acc.length + 1:=by simp
  refine ⟨?_,by rw [hl,hs]⟩
  simp only [R36x164x58,List.length_map,Int.toNat_natCast,a1,a2,lt_range hk,in_range hk,Bool.and_self,Bool.and_true,cond_true,decide_true,hb,snoc94,fa94,md94,Option.bind_some,hl,w_succ (show k < 9223372036854775807 by omega)]) (fun acc _=>by
  simp only [R36x164x58,List.length_map,ge_range,cond_false,fa94,md94,Bool.and_self,Bool.and_true,cond_true,Option.bind_some,decide_true]) N [] 0 (Nat.zero_le _) (by unfold Big at hN; omega) rfl
 have key':loopR (R36x164x58 N (K,e)) N ([],0,s,i) = _:=key
 rw [key',List.drop_zero,foldl_snocg,List.nil_append]
theorem R36_places (C:List (List P3)) (hC:∀ l ∈ C,chkN l = 0) (hl:C.length ≤ 16):loopR (R36x109x58 N C) N ((),0,[]) = some ((),plcs C):=by
 have key:=loopR_foldl (rd:=R36x109x58 N C) (List.range C.length) (fun s k=>((),(k:Int),s)) (fun s i=>s ++ plc C i) (fun s=>((),s)) (fun s k=>s.length ≤ 8192 * k) (fun s k hk hs=>by
  have hk:k < C.length:=by simpa using hk
  rw [List.getElem_range]
  obtain ⟨a1,a2⟩:=at115 C hk
  have hn:=hC _ (List.getElem_mem hk)
  have e:C.getD k [] = C[k]:=by simp [hk]
  have hkl:=knots_len hn
  have q:=T163_knots hN C[k]
  rw [if_pos hn] at q
  have hpl:=plc_len hC k
  have hb:decide ((s.length + (plc C k).length) * 24 ≤ 140737488355328) = true:=decide_eq_true (by omega)
  have hi:=R36_in hN (knotsL C[k]) 0 s (k:Int) hkl
  have he:(knotsL C[k]).map (fun x=>((k:Int),x.1,x.2)) = plc C k:=by unfold plc; rw [e]
  rw [he] at hi
  have z:∀ a b:List P3,List.map n94 a ++ List.map n94 b = List.map n94 (a ++ b):=fun a b=>by rw [List.map_append]
  have zn:allFit (Pat.fits p94) ([]:List AV) = true:=rfl
  have hla:(s ++ plc C k).length = s.length + (plc C k).length:=List.length_append
  refine ⟨?_,by rw [hla]; omega⟩
  simp only [R36x109x58,List.length_map,Int.toNat_natCast,a1,a2,lt_range hk,in_range hk,Bool.and_self,Bool.and_true,cond_true,fa120,md120,q,Option.bind_some,zn,fa94,md94,List.map_nil,List.length_nil,decide_true,hi,hb,z,hla,Nat.beq_refl,w_succ (show k < 9223372036854775807 by omega)]) (fun s _=>by
  rw [List.length_range]
  simp only [R36x109x58,List.length_map,ge_range,cond_false,Nat.beq_refl,fa94,md94,Bool.and_self,Bool.and_true,cond_true,Option.bind_some]) N [] 0 (Nat.zero_le _) (by unfold Big at hN; simp; omega) (Nat.zero_le _)
 have key':loopR (R36x109x58 N C) N ((),0,[]) = _:=key
 rw [key',List.drop_zero,flatMap_foldl,List.nil_append]
 rfl
end
end Go.Proofs.YtfiopgedfcaodaaGreatDoor
