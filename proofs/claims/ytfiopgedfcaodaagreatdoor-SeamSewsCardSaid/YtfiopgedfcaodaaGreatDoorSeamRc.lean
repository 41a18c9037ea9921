/- Plain laws: what is sewn: bars between classes. -/
import Derived.Test.YtfiopgedfcaodaaGreatDoorSeamRb
set_option linter.all false
namespace Go.Proofs.YtfiopgedfcaodaaGreatDoor
open Go Go.Am Go.Sort
set_option maxRecDepth 100000
theorem mem_knots (l:List P3) (p:Int × Int):p ∈ knotsL l ↔ p ∈ flatK2 l:=(insL_spec swoK totK (0,0) (flatK2 l)).2 p
theorem mem_flat {l:List P3} {b:P3} (h:b ∈ l):loK b ∈ flatK2 l ∧ upK b ∈ flatK2 l:=by
 induction l with
 | nil=>cases h
 | cons a l ih=>
  rw [flatK2]
  rcases List.mem_cons.1 h with rfl | h
  ·simp
  ·have:=ih h
   simp [this.1,this.2]
theorem mem_ends {C:List (List P3)} {i:Nat} (hi:i < C.length) {b:P3} (hb:b ∈ C[i]):((i:Int),b.1,b.2.1) ∈ plcs C ∧ ((i:Int),(upK b).1,(upK b).2) ∈ plcs C:=by
 have e:C.getD i [] = C[i]:=by simp [hi]
 have h:=mem_flat hb
 refine ⟨(mem_plcs _).2 ⟨i,hi,rfl,?_⟩,(mem_plcs _).2 ⟨i,hi,rfl,?_⟩⟩
 ·rw [e,mem_knots]; exact h.1
 ·rw [e,mem_knots]; exact h.2
def barN (f:Nat → Nat) (S:List P3) (i:Nat) (b:P3):Int × Int:=
 (((min (cnt f (f (ixN S ((i:Int),b.1,b.2.1)))) (cnt f (f (ixN S ((i:Int),(upK b).1,(upK b).2)))):Nat):Int),((max (cnt f (f (ixN S ((i:Int),b.1,b.2.1)))) (cnt f (f (ixN S ((i:Int),(upK b).1,(upK b).2)))):Nat):Int))
def barsK (f:Nat → Nat) (S:List P3) (C:List (List P3)) (k:Nat):List (Int × Int):=(List.range k).flatMap fun i=>(C.getD i []).map (barN f S i)
theorem barsK_succ (f:Nat → Nat) (S:List P3) (C:List (List P3)) (k:Nat):barsK f S C (k + 1) = barsK f S C k ++ (C.getD k []).map (barN f S k):=by
 unfold barsK
 rw [List.range_succ,List.flatMap_append]
 simp only [List.flatMap_cons,List.flatMap_nil,List.append_nil]
theorem barsK_len (f:Nat → Nat) (S:List P3) (C:List (List P3)) (hC:∀ l ∈ C,l.length ≤ 4096):∀ k,(barsK f S C k).length ≤ 4096 * k
 | 0=>by simp [barsK]
 | k + 1=>by
  rw [barsK_succ,List.length_append,List.length_map]
  have:=barsK_len f S C hC k
  have h2:(C.getD k []).length ≤ 4096:=by
   by_cases h:k < C.length
   ·have e:C.getD k [] = C[k]:=by simp [h]
    rw [e]; exact hC _ (List.getElem_mem h)
   ·have e:C.getD k [] = []:=by simp [h]
    rw [e]; simp
  omega
theorem mn_if (a b:Nat):((if (a:Int) < (b:Int) then (a:Int) else (b:Int)) = ((min a b:Nat):Int)) ∧ ((if (a:Int) > (b:Int) then (a:Int) else (b:Int)) = ((max a b:Nat):Int)):=by
 constructor <;> split <;> omega
section
variable {N:Nat} (hN:Big N)
theorem rootC {n:Nat} {f:Nat → Nat} (o:Unit × List P3 × List (P3 × Int) × List Int) (ho:o.2.2.2.length = n) (S:List P3) (m:List (P3 × Int)) (E:List (Nat × List P3)) (L:List Nat) (M:List (Int × Int)) (v:Int × Unit × List (Int × Int) × List P3 × List (P3 × Int) × List Int × List (Nat × List P3) × List Int × List (Int × Int)):∀ (fuel i:Nat) (u:Nat → Nat),i < fuel → i < n → UF f n u →
  ∃ u',loopR (R47x123x12bbbb N o v) fuel ((i:Int),S,m,uL n u,E,lenI L,M) = some ((f i:Int),S,m,uL n u',E,lenI L,M) ∧ UF f n u'
 | 0,i,u,h,_,_=>by omega
 | fuel + 1,i,u,hf,hi,hu=>by
  rw [loopR_succ]
  obtain ⟨a1,a2⟩:=atU n u hi
  have hle:=hu.le i hi
  have hui:u i < n:=by omega
  obtain ⟨b1,b2⟩:=atU n u hui
  obtain ⟨c1,c2⟩:=atU n (upd u i (u (u i))) hi
  rw [upd_self] at c1
  have di:decide (i < n) = true:=decide_eq_true hi
  have du:decide (u i < n) = true:=decide_eq_true hui
  by_cases he:u i = i
  ·refine ⟨u,?_,hu⟩
   have hb:((u i:Int) != (i:Int)) = false:=by simp [he]
   simp only [R47x123x12bbbb,List.length_map,ho,uL_len,Int.toNat_natCast,Nat.zero_add,in_range hi,decide_true,di,a1,a2,Bool.and_self,Bool.and_true,cond_true,hb,cond_false,fa3,md3,fa94,md94,mc191,ax191,faM191,mdM191,mc109,ax109,faM109,mdM109,faF74x4,mdF74x4,unf2,faL,mdL,Option.bind_some,Sum.elim_inr]
   rw [hu.fix i hi he]
  ·have hb:((u i:Int) != (i:Int)) = true:=by simp; omega
   have hlt:=hu.le (u i) hui
   have hstep:R47x123x12bbbb N o v ((i:Int),S,m,uL n u,E,lenI L,M) = some (.inl ((u (u i):Int),S,m,uL n (upd u i (u (u i))),E,lenI L,M)):=by
    simp only [R47x123x12bbbb,List.length_map,ho,uL_len,Int.toNat_natCast,Nat.zero_add,in_range hi,in_range hui,decide_true,di,du,a1,a2,b1,b2,Bool.and_self,Bool.and_true,cond_true,hb,setU,c1,c2,fa3,md3,fa94,md94,mc191,ax191,faM191,mdM191,mc109,ax109,faM109,mdM109,faF74x4,mdF74x4,unf2,faL,mdL,Option.bind_some]
   rw [hstep]
   simp only [Option.bind_some,Sum.elim_inl]
   have hu2:=hu.half hi he
   obtain ⟨u',h1,h2⟩:=rootC o ho S m E L M v fuel (u (u i)) _ (by omega) (by omega) hu2
   refine ⟨u',?_,h2⟩
   rw [h1,(hu.lb (u i) hui).trans (hu.lb i hi)]
include hN
theorem R47_in (C:List (List P3)) (i:Nat) (hi:i < C.length) (hl:C[i].length ≤ 4096) (S:List P3) (hS:S.length ≤ 1000000) (hin:∀ b ∈ C[i],((i:Int),b.1,b.2.1) ∈ S ∧ ((i:Int),(upK b).1,(upK b).2) ∈ S) (m:List (P3 × Int)) (hm:isIx S m) {f:Nat → Nat} (hf:LabOk f) (o33:Unit × List P3 × List (P3 × Int) × List Int) (ho:o33.2.2.2.length = S.length) (E:List (Nat × List P3)) (L:List Nat) (M:List (Int × Int)) (hM:isCl f S.length M) (B:List (Int × Int)) (hB:B.length ≤ 1000000) (v:Int × Unit × List (Int × Int) × List P3 × List (P3 × Int) × List Int × List (Nat × List P3) × List Int × List (Int × Int)) (hv:v.1 = (i:Int)) (u:Nat → Nat) (hu:UF f S.length u) :
  ∃ u',loopR (R47x4192870 N C o33 v) N (0,(),B,S,m,uL S.length u,E,lenI L,M) = some ((),B ++ C[i].map (barN f S i),S,m,uL S.length u',E,lenI L,M) ∧ UF f S.length u':=by
 have key:∃ x,loopR (R47x4192870 N C o33 v) N (0,(),B,S,m,uL S.length u,E,lenI L,M) = some x ∧ ∃ u':Nat → Nat,x = ((),B ++ C[i].map (barN f S i),S,m,uL S.length u',E,lenI L,M) ∧ UF f S.length u':=by
  obtain ⟨e1,e2⟩:=at115 C hi
  have hz:(B ++ (C[i].take 0).map (barN f S i)) = B:=by simp
  have go:=loopR_cnt (rd:=R47x4192870 N C o33 v) (S:=Nat → Nat) C[i].length (fun u k=>((k:Int),(),B ++ (C[i].take k).map (barN f S i),S,m,uL S.length u,E,lenI L,M)) (fun u k=>UF f S.length u) (fun x=>∃ u':Nat → Nat,x = ((),B ++ C[i].map (barN f S i),S,m,uL S.length u',E,lenI L,M) ∧ UF f S.length u') ?_ ?_ N u 0 (Nat.zero_le _) (by unfold Big at hN; omega) hu
  ·have go':∃ x,loopR (R47x4192870 N C o33 v) N (0,(),(B ++ (C[i].take 0).map (barN f S i)),S,m,uL S.length u,E,lenI L,M) = some x ∧ _:=go
   rwa [hz] at go'
  ·intro u k hk hu
   obtain ⟨a1,a2⟩:=at120 C[i] hk
   obtain ⟨n1,n2⟩:=hin _ (List.getElem_mem hk)
   have q1:=hm _ n1
   have q2:=hm _ n2
   have l1:=ixN_lt n1
   have l2:=ixN_lt n2
   have et:(C[i].take (k + 1)).map (barN f S i) = (C[i].take k).map (barN f S i) ++ [barN f S i C[i][k]]:=by rw [List.take_add_one,List.getElem?_eq_getElem hk,List.map_append]; rfl
   have hbl:(B ++ (C[i].take k).map (barN f S i)).length ≤ 2000000:=by
    rw [List.length_append,List.length_map,List.length_take]
    omega
   rw [et,← List.append_assoc]
   generalize B ++ (C[i].take k).map (barN f S i) = D at *
   have k1:=mk191 ((i:Int),C[i][k].1,C[i][k].2.1) m
   have k2:=mk191 ((i:Int),(upK C[i][k]).1,(upK C[i][k]).2) m
   have g1:=mg191 ((i:Int),C[i][k].1,C[i][k].2.1) m
   have g2:=mg191 ((i:Int),(upK C[i][k]).1,(upK C[i][k]).2) m
   have qT:T125 N (C[i][k].1,C[i][k].2.1,C[i][k].2.2) = some (C[i][k].1,C[i][k].2.1,(upK C[i][k]).1,(upK C[i][k]).2):=T125_eq N _
   have eb:barN f S i C[i][k] = (((min (cnt f (f (ixN S ((i:Int),C[i][k].1,C[i][k].2.1)))) (cnt f (f (ixN S ((i:Int),(upK C[i][k]).1,(upK C[i][k]).2)))):Nat):Int),((max (cnt f (f (ixN S ((i:Int),C[i][k].1,C[i][k].2.1)))) (cnt f (f (ixN S ((i:Int),(upK C[i][k]).1,(upK C[i][k]).2)))):Nat):Int)):=rfl
   rw [q1,Option.getD_some] at g1
   rw [q2,Option.getD_some] at g2
   simp only at k1 k2 g1 g2
   rw [eb]
   generalize ixN S ((i:Int),C[i][k].1,C[i][k].2.1) = x at *
   generalize ixN S ((i:Int),(upK C[i][k]).1,(upK C[i][k]).2) = y at *
   obtain ⟨u1,r1,hu1⟩:=rootC (N:=N) o33 ho S m E L M ((k:Int),(),D,S,m,uL S.length u,E,lenI L,M) N x u (by unfold Big at hN; omega) l1 hu
   obtain ⟨u2,r2,hu2⟩:=rootC (N:=N) o33 ho S m E L M ((k:Int),(),D,S,m,uL S.length u,E,lenI L,M) N y u1 (by unfold Big at hN; omega) l2 hu1
   have r2':loopR (R47x123x12bbbbb N o33 ((k:Int),(),D,S,m,uL S.length u,E,lenI L,M)) N ((y:Int),S,m,uL S.length u1,E,lenI L,M) = some ((f y:Int),S,m,uL S.length u2,E,lenI L,M):=r2
   have c1:=hM (f x)
   have c2:=hM (f y)
   have lx:=hf.le x
   have ly:=hf.le y
   rw [if_pos ⟨by omega,hf.idem x⟩] at c1
   rw [if_pos ⟨by omega,hf.idem y⟩] at c2
   obtain ⟨m1,m2⟩:=mn_if (cnt f (f x)) (cnt f (f y))
   obtain ⟨m1',m2'⟩:=mm_if (cnt f (f x)) (cnt f (f y))
   have hb16:decide ((D.length + 1) * 16 ≤ 140737488355328) = true:=decide_eq_true (by omega)
   refine ⟨u2,?_,hu2⟩
   simp only [R47x4192870,hv,List.length_map,Int.toNat_natCast,e1,a1,a2,qT,k1,k2,g1,g2,fn3,dn3,lt_range hk,in_range hk,Bool.and_self,Bool.and_true,cond_true,fa3,md3,fa94,md94,fa46,md46,mc191,ax191,faM191,mdM191,mc109,ax109,faM109,mdM109,faF74x4,mdF74x4,unf2,faL,mdL,Option.bind_some,r1,r2',mk109,mg109,c1,c2,Option.getD_some,m1,m2,m1',m2',snoc46,uL_len,beq_self_eq_true,Nat.zero_add,decide_true,hb16,Nat.beq_refl,List.length_append,List.length_singleton,w_succ (show k < 9223372036854775807 by omega)]
  ·intro u hu
   refine ⟨((),B ++ (C[i].take C[i].length).map (barN f S i),S,m,uL S.length u,E,lenI L,M),?_,u,by rw [List.take_length],hu⟩
   simp only [R47x4192870,hv,Int.toNat_natCast,e1,List.length_map,ge_range,cond_false,mc191,ax191,faM191,mdM191,fa94,md94,fa3,md3,fa46,md46,mc109,ax109,faM109,mdM109,faF74x4,mdF74x4,unf2,faL,mdL,Nat.beq_refl,Bool.and_self,Bool.and_true,cond_true,decide_true,Option.bind_some]
 obtain ⟨x,r,u,rfl,h⟩:=key
 exact ⟨u,r,h⟩
theorem R47_bars (C:List (List P3)) (hl:∀ l ∈ C,l.length ≤ 4096) (hC:C.length ≤ 16) (hS:(plcs C).length ≤ 1000000) (m:List (P3 × Int)) (hm:isIx (plcs C) m) {f:Nat → Nat} (hf:LabOk f) (o33:Unit × List P3 × List (P3 × Int) × List Int) (ho:o33.2.2.2.length = (plcs C).length) (E:List (Nat × List P3)) (L:List Nat) (M:List (Int × Int)) (hM:isCl f (plcs C).length M) (u:Nat → Nat) (hu:UF f (plcs C).length u) :
  ∃ u',loopR (R47x16378 N C o33) N (0,(),[],plcs C,m,uL (plcs C).length u,E,lenI L,M) = some ((),barsK f (plcs C) C C.length,plcs C,m,uL (plcs C).length u',E,lenI L,M) ∧ UF f (plcs C).length u':=by
 have key:∃ x,loopR (R47x16378 N C o33) N (0,(),[],plcs C,m,uL (plcs C).length u,E,lenI L,M) = some x ∧ ∃ u':Nat → Nat,x = ((),barsK f (plcs C) C C.length,plcs C,m,uL (plcs C).length u',E,lenI L,M) ∧ UF f (plcs C).length u':=by
  refine loopR_cnt (rd:=R47x16378 N C o33) (S:=Nat → Nat) C.length (fun u k=>((k:Int),(),barsK f (plcs C) C k,plcs C,m,uL (plcs C).length u,E,lenI L,M)) (fun u k=>UF f (plcs C).length u) _ ?_ ?_ N u 0 (Nat.zero_le _) (by unfold Big at hN; omega) hu
  ·intro u k hk hu
   obtain ⟨e1,e2⟩:=at115 C hk
   have hbl:=barsK_len f (plcs C) C hl k
   obtain ⟨u1,r1,hu1⟩:=R47_in hN C k hk (hl _ (List.getElem_mem hk)) (plcs C) hS (fun b hb=>mem_ends hk hb) m hm hf o33 ho E L M hM (barsK f (plcs C) C k) (by omega) ((k:Int),(),barsK f (plcs C) C k,plcs C,m,uL (plcs C).length u,E,lenI L,M) rfl u hu
   have e:C.getD k [] = C[k]:=by simp [hk]
   refine ⟨u1,?_,hu1⟩
   rw [barsK_succ,e]
   simp only [R47x16378,Int.toNat_natCast,e1,e2,List.length_map,lt_range hk,in_range hk,mc191,ax191,faM191,mdM191,fa94,md94,fa3,md3,fa46,md46,mc109,ax109,faM109,mdM109,faF74x4,mdF74x4,unf2,faL,mdL,Nat.beq_refl,Bool.and_self,Bool.and_true,cond_true,decide_true,Option.bind_some,r1,w_succ (show k < 9223372036854775807 by omega)]
  ·intro u hu
   refine ⟨((),barsK f (plcs C) C C.length,plcs C,m,uL (plcs C).length u,E,lenI L,M),?_,u,rfl,hu⟩
   simp only [R47x16378,List.length_map,ge_range,cond_false,mc191,ax191,faM191,mdM191,fa94,md94,fa3,md3,fa46,md46,mc109,ax109,faM109,mdM109,faF74x4,mdF74x4,unf2,faL,mdL,Nat.beq_refl,Bool.and_self,Bool.and_true,cond_true,decide_true,Option.bind_some]
 obtain ⟨x,r,u,rfl,h⟩:=key
 exact ⟨u,r,h⟩
end
end Go.Proofs.YtfiopgedfcaodaaGreatDoor
