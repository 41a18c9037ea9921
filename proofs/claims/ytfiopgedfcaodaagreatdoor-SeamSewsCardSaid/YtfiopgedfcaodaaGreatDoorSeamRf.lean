/- Plain laws: the law of what is sewn. -/
import Derived.Test.YtfiopgedfcaodaaGreatDoorSeamRe
set_option linter.all false
namespace Go.Proofs.YtfiopgedfcaodaaGreatDoor
open Go Go.Am Go.Sort
set_option maxRecDepth 100000
theorem sl63r (l:List (List P3)):sameL (List.map n63 l) (List.map n63 l) = true:=by
 have h3:∀ l:List P3,sameL (List.map n89 l) (List.map n89 l) = true:=fun l=>by
  induction l with
  | nil=>rfl
  | cons x l ih=>
   rw [List.map_cons]
   show (sameA (n89 x) (n89 x) && sameL (List.map n89 l) (List.map n89 l)) = true
   rw [ih]
   show ((same0 (.int .i64 x.1) (.int .i64 x.1) && (same0 (.int .i64 x.2.1) (.int .i64 x.2.1) && (same0 (.int .i64 x.2.2) (.int .i64 x.2.2) && true))) && true) = true
   simp [same0]
 induction l with
 | nil=>rfl
 | cons x l ih=>
  rw [List.map_cons]
  show (sameA (n63 x) (n63 x) && sameL (List.map n63 l) (List.map n63 l)) = true
  rw [ih]
  show ((Nat.beq 3 3 && sameL (List.map n89 x) (List.map n89 x)) && true) = true
  rw [h3]; rfl
theorem snoc63 (s:List (List P3)) (l:List P3):List.map n63 s ++ [AV.list .opn 3 (List.map n89 l)] = List.map n63 (s ++ [l]):=by
 rw [List.map_append]; rfl
theorem barsK_len2 (f:Nat → Nat) (S:List P3) (C:List (List P3)) (hC:∀ l ∈ C,l.length ≤ 12):∀ k,(barsK f S C k).length ≤ 12 * k
 | 0=>by simp [barsK]
 | k + 1=>by
  rw [barsK_succ,List.length_append,List.length_map]
  have:=barsK_len2 f S C hC k
  have h2:(C.getD k []).length ≤ 12:=by
   by_cases h:k < C.length
   ·have e:C.getD k [] = C[k]:=by simp [h]
    rw [e]; exact hC _ (List.getElem_mem h)
   ·have e:C.getD k [] = []:=by simp [h]
    rw [e]; simp
  omega
theorem plcs_len2 (C:List (List P3)) (hC:∀ l ∈ C,l.length ≤ 12):(plcs C).length ≤ 24 * C.length:=by
 have gen:∀ n,((List.range n).flatMap (plc C)).length ≤ 24 * n:=by
  intro n
  induction n with
  | zero=>simp
  | succ n ih=>
   rw [List.range_succ,List.flatMap_append,List.length_append]
   have:(plc C n).length ≤ 24:=by
    unfold plc
    rw [List.length_map]
    unfold knotsL
    have h1:=insL_len ltK (0,0) (flatK2 (C.getD n []))
    have h2:(C.getD n []).length ≤ 12:=by
     by_cases h:n < C.length
     ·have e:C.getD n [] = C[n]:=by simp [h]
      rw [e]; exact hC _ (List.getElem_mem h)
     ·have e:C.getD n [] = []:=by simp [h]
      rw [e]; simp
    rw [flat_len] at h1
    omega
   simp only [List.flatMap_cons,List.flatMap_nil,List.append_nil]
   omega
 exact gen C.length
section
variable {N:Nat} (hN:Big N)
include hN
theorem T32_short2 (C:List (List P3)):∃ b,T32 N C = some b ∧ (b = true → (C.length ≤ 4 ∨ C.length = 17) ∧ ∀ l ∈ C,l.length ≤ 12 ∨ (4096 < l.length ∧ l.length ≤ 4098)):=by
 rw [T32_eq]
 simp only [List.length_map]
 by_cases h:(C.length:Int) > 4 ∧ (C.length:Int) ≠ 17
 ·have hb:((C.length:Int) != 17) = true:=bne_iff_ne.2 h.2
  refine ⟨false,?_,fun c=>by cases c⟩
  simp only [h.1,decide_true,cond_true,hb,Option.bind_some]
 ·have h0:((bif decide ((C.length:Int) > 4) then some ((C.length:Int) != 17) else some false):Option Bool) = some false:=by
   by_cases h4:(C.length:Int) > 4
   ·have h17:(C.length:Int) = 17:=by omega
    simp [h17]
   ·simp [h4]
  have hC:C.length ≤ 4 ∨ C.length = 17:=by omega
  have q:=find_gen (rd:=R32x58 N C) C.length (fun k=>(k:Int)) (fun k=>!short (C.getD k [])) (fun _=>.inl false) (.inr ()) (fun k hk=>by
   obtain ⟨a1,a2⟩:=at115 C hk
   have e:C.getD k [] = C[k]:=by simp [hk]
   rw [e]
   simp only [R32x58,List.length_map,Int.toNat_natCast,a1,a2,lt_range hk,in_range hk,Bool.and_self,Bool.and_true,cond_true,fa120,md120,T107_short C[k],Option.bind_some,w_succ (show k < 9223372036854775807 by omega)]
   cases short C[k] <;> rfl) (by simp only [R32x58,List.length_map,ge_range,cond_false]) N (by unfold Big at hN; omega)
  have q':loopR (R32x58 N C) N 0 = _:=q
  simp only [h0,Option.bind_some,cond_false,q']
  cases hf:(List.range C.length).find? fun k=>!short (C.getD k []) with
  | some k=>exact ⟨false,rfl,fun c=>by cases c⟩
  | none=>
   refine ⟨true,rfl,fun _=>⟨hC,fun l hl=>?_⟩⟩
   obtain ⟨k,hk,rfl⟩:=List.getElem_of_mem hl
   rw [List.find?_eq_none] at hf
   have:=hf k (List.mem_range.2 hk)
   have e:C.getD k [] = C[k]:=by simp [hk]
   rw [e] at this
   have hs:short C[k] = true:=by simpa using this
   unfold short at hs
   split at hs
   ·omega
   ·split at hs
    ·have:=of_decide_eq_true hs
     omega
    ·cases hs
theorem T50_own (x:List (List P3) × List (Int × Int)) (h1:x.1.length ≤ 1000000) (h2:∀ l ∈ x.1,l.length ≤ 1000000):T50 N x = some x:=by
 have key:=loopR_foldl (rd:=R50x58 N x) x.1 (fun s k=>((k:Int),s,x.2)) (fun s l=>s ++ [l]) (fun s=>(s,x.2)) (fun s k=>s.length = k) (fun s k hk hs=>by
  obtain ⟨a1,a2⟩:=at53 x.1 hk
  have hb:decide ((s.length + 1) * 24 ≤ 140737488355328) = true:=decide_eq_true (by omega)
  have hla:(s ++ [x.1[k]]).length = s.length + 1:=by simp
  have q:=T44_same hN x.1[k] (h2 _ (List.getElem_mem hk))
  refine ⟨?_,by rw [hla,hs]⟩
  simp only [R50x58,List.length_map,Int.toNat_natCast,a1,a2,lt_range hk,in_range hk,Bool.and_self,Bool.and_true,cond_true,fa94,md94,q,Option.bind_some,sl63r,decide_true,hb,snoc63,fa63,md63,fa46,md46,hla,w_succ (show k < 9223372036854775807 by omega)]) (fun s _=>by
  simp only [R50x58,List.length_map,ge_range,cond_false,fa63,md63,fa46,md46,Bool.and_self,Bool.and_true,cond_true,Option.bind_some,decide_true]) N [] 0 (Nat.zero_le _) (by unfold Big at hN; omega) rfl
 have key':loopR (R50x58 N x) N (0,[],x.2) = _:=key
 have f63:allFit (Pat.fits p63) [] = true:=rfl
 rw [T50_eq]
 simp only [f63,fa46,md46,List.map_nil,List.length_nil,Bool.and_self,Bool.and_true,cond_true,decide_true,Option.bind_some,key',List.drop_zero,foldl_snoc,List.nil_append,fa63,md63]
theorem T49_same (x:List (List P3) × List (Int × Int)) (h1:x.1.length ≤ 1000000) (h2:∀ l ∈ x.1,l.length ≤ 1000000) (h3:x.2.length ≤ 1000000):T49 N (x,x) = some true:=by
 have q:=find_gen (rd:=R49x58 N x x) x.1.length (fun k=>(k:Int)) (fun _=>false) (fun _=>.inl false) (.inr ()) (fun k hk=>by
  obtain ⟨a1,a2⟩:=at63 x.1 hk
  have q:=T43_same hN x.1[k] (h2 _ (List.getElem_mem hk))
  simp only [R49x58,List.length_map,Int.toNat_natCast,a1,a2,lt_range hk,in_range hk,Bool.and_self,Bool.and_true,cond_true,fa89,md89,q,Option.bind_some,Bool.not_true,cond_false,w_succ (show k < 9223372036854775807 by omega)]
  rfl) (by simp only [R49x58,List.length_map,ge_range,cond_false]) N (by unfold Big at hN; omega)
 have q':loopR (R49x58 N x x) N 0 = _:=q
 have hn:(List.range x.1.length).find? (fun _=>false) = none:=by simp
 have q24:=T24_same hN x.2 h3
 rw [T49_eq]
 simp only [bne_self_eq_false,cond_false,fa46,md46,Bool.and_self,Bool.and_true,cond_true,Option.bind_some,q24,Bool.not_true,q',hn]
 rfl
theorem T6_true (C:List (List P3)) (J:List Six):T6 N (C,J) = some true:=by
 obtain ⟨b,q32,hb⟩:=T32_short2 hN C
 have T16_eq:∀ u,T16 N u = some true:=fun _=>rfl
 rw [T6_eq]
 by_cases hgo:b = false ∨ ((J.length:Int) > 12 ∧ (J.length:Int) ≠ 1025)
 ·have h1:((bif !b then some true else bif decide ((J.length:Int) > 12) then some ((J.length:Int) != 1025) else some false):Option Bool) = some true:=by
   rcases hgo with h | ⟨h,h'⟩
   ·rw [h]; rfl
   ·have h2:((J.length:Int) != 1025) = true:=bne_iff_ne.2 h'
    rw [decide_eq_true h,h2]
    cases b <;> rfl
  simp only [fa115,md115,Bool.and_true,cond_true,Option.bind_some,q32,List.length_map,h1,T16_eq]
 ·have hbt:b = true:=by cases b with
   | true=>rfl
   | false=>exact absurd (.inl rfl) hgo
  have hJ:J.length ≤ 1025:=by
   by_cases c:(J.length:Int) > 12
   ·have:(J.length:Int) = 1025:=by
     by_cases c2:(J.length:Int) = 1025
     ·exact c2
     ·exact absurd (.inr ⟨c,c2⟩) hgo
    omega
   ·omega
  obtain ⟨hC,hl⟩:=hb hbt
  have h1:((bif !b then some true else bif decide ((J.length:Int) > 12) then some ((J.length:Int) != 1025) else some false):Option Bool) = some false:=by
   rw [hbt]
   by_cases c:(J.length:Int) > 12
   ·have:(J.length:Int) = 1025:=by
     by_cases c2:(J.length:Int) = 1025
     ·exact c2
     ·exact absurd (.inr ⟨c,c2⟩) hgo
    rw [this]; rfl
   ·rw [decide_eq_false c]; rfl
  have q34:=T34_same hN C (by omega) (fun l h=>by have:=hl l h; omega)
  have q35:=T35_same hN J (by omega)
  have q47:=T47_sew hN C J
  have q38:=T38_chk hN C J
  have hA:∃ u:List (List P3) × List (Int × Int),((bif chkQ C J == 0 then (T48 N (C,J)).bind fun y13=>some y13 else some ([],[])):Option (List (List P3) × List (Int × Int))) = some u ∧ sewR C J = (u,chkQ C J) ∧ u.1.length ≤ 1000000 ∧ (∀ l ∈ u.1,l.length ≤ 1000000) ∧ u.2.length ≤ 1000000:=by
   unfold sewR
   by_cases h:chkQ C J = 0
   ·obtain ⟨hp,hJ4⟩:=chkQ_ok h
    obtain ⟨c1,c2⟩:=chkP_ok hp
    have hl12:∀ l ∈ C,l.length ≤ 12:=fun l h=>by
     have a:=hl l h
     have b:=chkN_ok (c2 l h)
     omega
    have hp:=plcs_len2 C hl12
    have hB:=barsK_len2 (labS C J) (plcs C) C hl12 C.length
    have hs:=clsL_len (labS C J) (plcs C) (plcs C).length
    have hc:=cnt_le (labS C J) (plcs C).length
    have hm:=clsL_mem (labS C J) (plcs C) (plcs C).length
    have e1:(sewC C J).length ≤ 8192:=by
     unfold sewC
     omega
    have e2:(sewB C J).length ≤ 8192:=by
     unfold sewB
     omega
    refine ⟨(sewC C J,sewB C J),?_,?_,?_,fun l hl=>?_,?_⟩
    ·rw [h,T48_sew hN C J h]; rfl
    ·rw [if_neg (fun c=>c h),if_neg (by omega),h]
    ·show (sewC C J).length ≤ 1000000
     omega
    ·have:=hm l hl
     omega
    ·show (sewB C J).length ≤ 1000000
     omega
   ·refine ⟨([],[]),?_,by rw [if_pos h],by simp,by simp,by simp⟩
    rw [show (chkQ C J == 0) = false from beq_false_of_ne h]; rfl
  obtain ⟨u,a1,a2,a3,a4,a5⟩:=hA
  rw [a2] at q47
  have q50:=T50_own hN u a3 a4
  have q49:=T49_same hN u a3 a4 a5
  have f63:allFit (Pat.fits p63) [] = true:=rfl
  have f46:allFit (Pat.fits p46) [] = true:=rfl
  have g63:List.map d63 ([]:List AV) = []:=rfl
  have g46:List.map d46 ([]:List AV) = []:=rfl
  simp only [fa115,md115,fa129,md129,fa127,md127,Bool.and_true,Bool.and_self,cond_true,Option.bind_some,q32,List.length_map,h1,cond_false,q34,q35,q47,q38,fa63,md63,fa46,md46,f63,f46,g63,g46,a1,fa53,md53,q50,sl63r,sl46,q49,beq_self_eq_true,T16_eq]
end
end Go.Proofs.YtfiopgedfcaodaaGreatDoor
