/- Plain laws: pieces are checked,and their places. -/
import Derived.Test.YtfiopgedfcaodaaGreatDoorSeamPl
set_option linter.all false
namespace Go.Proofs.YtfiopgedfcaodaaGreatDoor
open Go Go.Am Go.Sort
set_option maxRecDepth 100000
theorem at115 (C:List (List P3)) {k:Nat} (hk:k < C.length):d115 (nthD (List.map n115 C) k) = C[k] ∧ Pat.fits p115 (nthD (List.map n115 C) k) = true:=by
 rw [nthD_map n115 C k hk,dn115,fn115]; exact ⟨rfl,rfl⟩
def chkP (C:List (List P3)):Int:=if C.length > 16 then 5 else firstNZ (C.map chkN)
theorem chkN_ok {l:List P3} (h:chkN l = 0):l.length ≤ 4096:=by
 unfold chkN at h
 split at h
 ·cases h
 ·omega
theorem chkP_ok {C:List (List P3)} (h:chkP C = 0):C.length ≤ 16 ∧ ∀ l ∈ C,chkN l = 0:=by
 unfold chkP at h
 split at h
 ·cases h
 ·exact ⟨by omega,fun l hl=>firstNZ_zero.1 h _ (List.mem_map.2 ⟨l,hl,rfl⟩)⟩
def errQ (C:List (List P3)) (p:P3):Int:=if p.1 < 0 ∨ p.1 ≥ (C.length:Int) then 10 else if (p.2.1,p.2.2) ∈ knotsL (C.getD p.1.toNat []) then 0 else 7
def plc (C:List (List P3)) (i:Nat):List P3:=(knotsL (C.getD i [])).map fun k=>((i:Int),k.1,k.2)
def plcs (C:List (List P3)):List P3:=(List.range C.length).flatMap (plc C)
theorem flatMap_foldl {α β:Type} (f:α → List β):∀ (l:List α) (s:List β),l.foldl (fun s i=>s ++ f i) s = s ++ l.flatMap f
 | [],s=>by simp
 | a :: l,s=>by rw [List.foldl_cons,flatMap_foldl f l,List.flatMap_cons,List.append_assoc]
theorem insL_len {α:Type} [DecidableEq α] (lt:α → α → Bool) (d:α) (l:List α):(insL lt d l).length ≤ l.length:=by
 have gen:∀ (l s:List α),(l.foldl (fun s k=>ins1 lt d k s) s).length ≤ s.length + l.length:=by
  intro l
  induction l with
  | nil=>intro s; simp
  | cons k l ih=>
   intro s
   rw [List.foldl_cons,List.length_cons]
   have h1:=ih (ins1 lt d k s)
   have h2:=ins1_len (lt:=lt) d k s
   omega
 have:=gen l []
 unfold insL
 simpa using this
theorem knots_len {l:List P3} (h:chkN l = 0):(knotsL l).length ≤ 8192:=by
 have h1:=insL_len ltK (0,0) (flatK2 l)
 have h2:=chkN_ok h
 rw [flat_len] at h1
 unfold knotsL
 omega
section
variable {N:Nat} (hN:Big N)
include hN
theorem T163_knots (l:List P3):T163 N l = some (if chkN l = 0 then (knotsL l,0) else ([],chkN l)):=by
 rw [T163_eq]
 simp only [fa120,md120,Bool.and_true,cond_true,Option.bind_some,T117_chk hN l]
 by_cases h:chkN l = 0
 ·have:=chkN_ok h
  simp only [h,bne_self_eq_false,cond_false,T196_knots hN l (by omega),Option.bind_some,fa87,md87,cond_true,if_true]
 ·have hb:(chkN l != 0) = true:=bne_iff_ne.2 h
  rw [hb,if_neg h]
  rfl
theorem T37_chk (C:List (List P3)):T37 N C = some (chkP C):=by
 rw [T37_eq]
 simp only [List.length_map]
 unfold chkP
 by_cases h:C.length > 16
 ·have h':(C.length:Int) > 16:=by omega
  simp [h,h']
 ·have h':¬ (C.length:Int) > 16:=by omega
  have key:=first_loop2 (rd:=R37x58 N C) (C.map chkN) (fun k hk=>by
   have hk:k < C.length:=by simpa using hk
   obtain ⟨a1,a2⟩:=at115 C hk
   rw [List.getElem_map]
   simp only [R37x58,List.length_map,Int.toNat_natCast,a1,a2,lt_range hk,in_range hk,Bool.and_self,Bool.and_true,cond_true,fa120,md120,T65_chk hN C[k],Option.bind_some,w_succ (show k < 9223372036854775807 by omega)]
   by_cases hz:chkN C[k] = 0
   ·simp [hz]
   ·have hb:(chkN C[k] != 0) = true:=bne_iff_ne.2 hz
    simp [hz,hb]) (by
   rw [List.length_map]
   simp only [R37x58,List.length_map,ge_range,cond_false]) N (by unfold Big at hN; rw [List.length_map]; omega)
  rw [if_neg h]
  simp only [h',decide_false,cond_false,key,Option.bind_some]
  split <;> simp_all
theorem T41_chk (C:List (List P3)):T41 N C = some (chkP C):=by
 rw [T41_eq]
 simp only [List.length_map]
 unfold chkP
 by_cases h:C.length > 16
 ·have h':(C.length:Int) > 16:=by omega
  simp [h,h']
 ·have h':¬ (C.length:Int) > 16:=by omega
  have sn:∀ (l:List Int) (a:Int),List.map n24 l ++ [AV.int .i64 a] = List.map n24 (l ++ [a]):=fun l a=>by rw [List.map_append]; rfl
  have key:=loopR_foldl (rd:=R41x116x58 N C) C (fun s k=>(s,(k:Int))) (fun s l=>s ++ [chkN l]) (fun s=>s) (fun s k=>s.length = k) (fun s k hk hs=>by
   obtain ⟨a1,a2⟩:=at115 C hk
   have hb:decide ((s.length + 1) * 8 ≤ 140737488355328) = true:=decide_eq_true (by omega)
   have hl:(s ++ [chkN C[k]]).length = s.length + 1:=by simp
   refine ⟨?_,by rw [hl,hs]⟩
   simp only [R41x116x58,List.length_map,Int.toNat_natCast,a1,a2,lt_range hk,in_range hk,Bool.and_self,Bool.and_true,cond_true,fa120,md120,T117_chk hN C[k],Option.bind_some,decide_true,hb,sn,fa24,md24,hl,w_succ (show k < 9223372036854775807 by omega)]) (fun s hs=>by
   simp only [R41x116x58,List.length_map,ge_range,cond_false,fa24,md24,Bool.and_true,cond_true,Option.bind_some,decide_true]) N [] 0 (Nat.zero_le _) (by unfold Big at hN; omega) rfl
  have key':loopR (R41x116x58 N C) N ([],0) = _:=key
  have z:((bif (allFit (Pat.fits p24) ([]:List AV) && true) then some ((List.map d24 ([]:List AV)),0) else none:Option ((List Int) × Int)).bind fun w8=>bif (decide (0 = (List.map n24 w8.1).length) && true) then some w8 else none) = some ([],0):=rfl
  have z':((bif (allFit (Pat.fits p24) ([]:List AV) && true) then some ((List.map d24 ([]:List AV)),0) else none:Option ((List Int) × Int)).bind fun w8=>bif (decide (0 = w8.1.length) && true) then some w8 else none) = some ([],0):=rfl
  have hf:∀ (l:List (List P3)) (s:List Int),l.foldl (fun s l=>s ++ [chkN l]) s = s ++ l.map chkN:=by
   intro l
   induction l with
   | nil=>intro s; simp
   | cons a l ih=>intro s; rw [List.foldl_cons,ih]; simp
  rw [if_neg h]
  simp only [h',decide_false,cond_false]
  rw [z',Option.bind_some,key',List.drop_zero,Option.bind_some,hf,List.nil_append]
  simp only [fa24,md24,Bool.and_true,cond_true,Option.bind_some]
  rw [T90_first hN _ (by rw [List.length_map]; omega)]
  rfl
omit hN in
theorem hasK_mem (l:List (Int × Int)) (p:Int × Int):hasK l p = decide (p ∈ l):=by
 unfold hasK
 rw [Bool.eq_iff_iff,List.any_eq_true,decide_eq_true_iff]
 constructor
 ·rintro ⟨q,hq,h⟩
  simp only [Bool.and_true,Bool.and_eq_true,beq_iff_eq] at h
  have:p = q:=Prod.ext h.1 h.2
  rw [this]; exact hq
 ·intro h
  exact ⟨p,h,by simp⟩
theorem T113_err (C:List (List P3)) (p:P3) (hC:∀ l ∈ C,chkN l = 0):T113 N (C,p) = some (errQ C p):=by
 rw [T113_eq]
 simp only [List.length_map]
 unfold errQ
 by_cases h:p.1 < 0 ∨ p.1 ≥ (C.length:Int)
 ·rw [if_pos h]
  by_cases h1:p.1 < 0
  ·simp [h1]
  ·have h2:p.1 ≥ (C.length:Int):=by omega
   simp [h1,h2]
 ·rw [if_neg h]
  have h1:¬ p.1 < 0:=by omega
  have h2:¬ p.1 ≥ (C.length:Int):=by omega
  obtain ⟨k,hk⟩:∃ k:Nat,p.1 = (k:Int):=⟨p.1.toNat,by omega⟩
  have hkl:k < C.length:=by omega
  rw [hk] at h1 h2
  obtain ⟨a1,a2⟩:=at115 C hkl
  have e:C.getD k [] = C[k]:=by simp [hkl]
  have hn:=hC _ (List.getElem_mem hkl)
  have hl:=chkN_ok hn
  have hkn:=knots_len hn
  have q1:=T66_knots hN C[k] (by omega)
  have q2:T115 N (knotsL C[k],p.2.1,p.2.2) = some (hasK (knotsL C[k]) (p.2.1,p.2.2)):=T115_has hN _ _ (by omega)
  simp only [h1,h2,decide_false,cond_false,Option.bind_some,hk,Int.toNat_natCast,in_range hkl,a1,a2,Bool.and_self,Bool.and_true,cond_true,fa120,md120,q1,beq_self_eq_true,fa87,md87,q2,hasK_mem,e]
  by_cases hm:(p.2.1,p.2.2) ∈ knotsL C[k] <;> simp [hm]
end
end Go.Proofs.YtfiopgedfcaodaaGreatDoor
