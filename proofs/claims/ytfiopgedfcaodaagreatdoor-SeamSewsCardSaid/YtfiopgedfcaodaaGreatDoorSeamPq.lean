/- Plain laws: loose places by the reference,and what is only copied or compared. -/
import Derived.Test.YtfiopgedfcaodaaGreatDoorSeamPo
set_option linter.all false
namespace Go.Proofs.YtfiopgedfcaodaaGreatDoor
open Go Go.Am Go.Sort
set_option maxRecDepth 100000
def jA (j:Six):P3:=(j.1,j.2.1,j.2.2.1)
def jB (j:Six):P3:=(j.2.2.2.1,j.2.2.2.2.1,j.2.2.2.2.2)
def tied (J:List Six) (p:P3):Bool:=J.any fun j=>decide (jA j = p) || decide (jB j = p)
theorem at129 (J:List Six) {k:Nat} (hk:k < J.length):d129 (nthD (List.map n129 J) k) = J[k] ∧ Pat.fits p129 (nthD (List.map n129 J) k) = true:=by
 rw [nthD_map n129 J k hk,dn129,fn129]; exact ⟨rfl,rfl⟩
theorem at89k (S:List P3) {k:Nat} (hk:k < S.length):d89 (nthD (List.map n89 S) k) = S[k] ∧ Pat.fits p89 (nthD (List.map n89 S) k) = true:=by
 rw [nthD_map n89 S k hk,dn89,fn89]; exact ⟨rfl,rfl⟩
theorem plcs_len {C:List (List P3)} (hC:∀ l ∈ C,chkN l = 0) (hl:C.length ≤ 16):(plcs C).length ≤ 131072:=by
 have gen:∀ (n:Nat),((List.range n).flatMap (plc C)).length ≤ 8192 * n:=by
  intro n
  induction n with
  | zero=>simp
  | succ n ih=>
   rw [List.range_succ,List.flatMap_append,List.length_append]
   have:=plc_len hC n
   simp only [List.flatMap_cons,List.flatMap_nil,List.append_nil]
   omega
 have:=gen C.length
 unfold plcs
 omega
section
variable {N:Nat} (hN:Big N)
include hN
theorem T43_same (l:List P3) (hl:l.length ≤ 1000000):T43 N (l,l) = some true:=by
 rw [T43_eq]
 simp only [bne_self_eq_false,cond_false,List.length_map]
 have key:=loopR_count (rd:=R43x58 N l l) l.length (fun k=>(k:Int)) (.inr ()) (fun k hk=>by
  obtain ⟨a1,a2⟩:=at89k l hk
  simp only [R43x58,List.length_map,Int.toNat_natCast,a1,a2,lt_range hk,in_range hk,Bool.and_self,cond_true,beq_self_eq_true,Bool.not_true,cond_false,w_succ (show k < 9223372036854775807 by omega)]) (by
  simp only [R43x58,List.length_map,ge_range,cond_false]) N 0 (Nat.zero_le _) (by unfold Big at hN; omega)
 have key':loopR (R43x58 N l l) N 0 = some (.inr ()):=key
 rw [key',Option.bind_some]
 rfl
theorem T44_same (l:List P3) (hl:l.length ≤ 1000000):T44 N l = some l:=by
 rw [T44_eq]
 have key:=loopR_foldl (rd:=R44x58 N l) l (fun s k=>(s,(k:Int))) (fun s p=>s ++ [p]) (fun s=>s) (fun s k=>s.length = k) (fun s k hk hs=>by
  obtain ⟨a1,a2⟩:=at94 l hk
  have hb:decide ((s.length + 1) * 24 ≤ 140737488355328) = true:=decide_eq_true (by omega)
  have hla:(s ++ [l[k]]).length = s.length + 1:=by simp
  have hsn:List.map n89 s ++ [AV.agg [AV.int .i64 l[k].1,AV.int .i64 l[k].2.1,AV.int .i64 l[k].2.2]] = List.map n89 (s ++ [l[k]]):=snoc89b s _ _ _
  refine ⟨?_,by rw [hla,hs]⟩
  simp only [R44x58,List.length_map,Int.toNat_natCast,a1,a2,lt_range hk,in_range hk,Bool.and_self,Bool.and_true,cond_true,decide_true,hb,hsn,fa89,md89,Option.bind_some,hla,w_succ (show k < 9223372036854775807 by omega)]) (fun s _=>by
  simp only [R44x58,List.length_map,ge_range,cond_false,fa89,md89,Bool.and_true,cond_true,Option.bind_some,decide_true]) N [] 0 (Nat.zero_le _) (by unfold Big at hN; omega) rfl
 have key':loopR (R44x58 N l) N ([],0) = _:=key
 have z:((bif (allFit (Pat.fits p89) ([]:List AV) && true) then some ((List.map d89 ([]:List AV)),0) else none:Option ((List (Int × Int × Int)) × Int)).bind fun w16=>bif (decide (0 = (List.map n89 w16.1).length) && true) then some w16 else none) = some ([],0):=rfl
 rw [z,Option.bind_some,key',List.drop_zero,foldl_snoc,List.nil_append,Option.bind_some]
 simp only [fa89,md89,Bool.and_true,cond_true] <;> rfl
end
end Go.Proofs.YtfiopgedfcaodaaGreatDoor
