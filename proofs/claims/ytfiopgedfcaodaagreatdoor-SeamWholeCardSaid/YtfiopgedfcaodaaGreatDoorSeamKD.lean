/- Plain laws: what is sewn,join by join: what holds of it. -/
import Derived.Test.YtfiopgedfcaodaaGreatDoorSeamKC
import Derived.Test.YtfiopgedfcaodaaGreatDoorSeamTj
set_option linter.all false
namespace Go.Proofs.YtfiopgedfcaodaaGreatDoor
open Go Go.Am Go.Sort
set_option maxRecDepth 100000
theorem RI {C:List (List P3)} {J:List qW} (h1:pU C=0) (h2:J.length≤1024) (h:∀ j∈J,zD C j=0):ra C J=0:=by
 unfold ra
 rw [if_neg (fun c=>c h1),if_neg (by omega)]
 refine bN.2 fun x hx=>?_
 obtain ⟨j,hj,rfl⟩:=List.mem_map.1 hx
 exact h j hj
def HN (p:P3):Prop:=oU p.1 0 15=0∧bu (p.2.1,p.2.2)=0
theorem Ea:∀ (l sn:List P3),(∀ p∈l,HN p)→(sn++l).Nodup→foldI Cf sn l=.inl (sn++l)
 | [],sn,_,_=>by simp [foldI]
 | p :: l,sn,hg,hd=>by
  obtain ⟨g1,g2⟩:=hg p (by simp)
  have hp:p∉sn:=fun h=>by
   rw [List.nodup_append] at hd
   exact hd.2.2 p h p (by simp) rfl
  have e0:BS sn p=0:=by
   unfold BS
   refine bN.2 fun x hx=>?_
   simp only [List.mem_cons,List.not_mem_nil,or_false] at hx
   rcases hx with rfl | rfl | rfl
   ·exact g1
   ·exact g2
   ·rw [decide_eq_false hp]; rfl
  have e1:Cf sn p=.inl (sn++[p]):=by unfold Cf; rw [if_pos e0]
  unfold foldI
  rw [e1]
  have ih:=Ea l (sn++[p]) (fun q hq=>hg q (by simp [hq])) (by simpa using hd)
  simpa using ih
theorem Eb:∀ (CL:List (List P3)) (sn:List P3),(∀ c∈CL,c≠[]∧∀ p∈c,HN p)→(sn++CL.flatten).Nodup→foldI DR sn CL=.inl (sn++CL.flatten)
 | [],sn,_,_=>by simp [foldI]
 | c :: CL,sn,hg,hd=>by
  obtain ⟨g1,g2⟩:=hg c (by simp)
  have M7:(sn++c++CL.flatten).Nodup:=by simpa using hd
  have e1:DR sn c=.inl (sn++c):=by
   unfold DR
   rw [if_neg (fun h=>g1 (List.length_eq_zero_iff.1 h)),Ea c sn g2 (List.nodup_append.1 M7).1]
  unfold foldI
  rw [e1]
  have ih:=Eb CL (sn++c) (fun q hq=>hg q (by simp [hq])) M7
  simpa using ih
theorem Ec (x:P3):∀ (CL:List (List P3)) (c:Nat),c < CL.length→(CL.set c (CL.getD c []++[x])).flatten.Perm (CL.flatten++[x])
 | [],c,h=>by simp at h
 | a :: CL,0,_=>by
  simp only [List.set_cons_zero,List.getD_cons_zero,List.flatten_cons,List.append_assoc]
  exact List.Perm.append_left a List.perm_append_comm
 | a :: CL,c+1,h=>by
  simp only [List.set_cons_succ,List.getD_cons_succ,List.flatten_cons,List.append_assoc]
  exact List.Perm.append_left a (Ec x CL c (by simpa using h))
theorem AO {f:Nat→Nat} (hf:iG f) (S:List P3):∀ k,k≤S.length→(cX f S k).flatten.Perm (S.take k)
 | 0,_=>by simp [cX]
 | k+1,hk=>by
  have gl:k < S.length:=by omega
  have ih:=AO hf S k (by omega)
  have et:S.take (k+1)=S.take k++[S[k]]:=by rw [List.take_add_one,List.getElem?_eq_getElem gl]; rfl
  have eS:S.getD k (0,0,0)=S[k]:=by simp [gl]
  rw [kd,et]
  unfold D8
  rw [eS]
  by_cases h:f k=k
  ·rw [if_pos h]
   simp only [List.flatten_append,List.flatten_cons,List.flatten_nil,List.append_nil]
   exact ih.append_right _
  ·rw [if_neg h]
   have hle:=hf.le k
   exact (Ec S[k] _ _ (by rw [jE]; exact nE (hf.idem k) (by omega))).trans (ih.append_right _)
theorem vU (f:Nat→Nat) (S:List P3):∀ k,∀ c∈cX f S k,c≠[]
 | 0,c,h=>by cases h
 | k+1,c,h=>by
  rw [kd] at h
  unfold D8 at h
  split at h
  ·rcases List.mem_append.1 h with h | h
   ·exact vU f S k c h
   ·rw [List.mem_singleton] at h; subst h; simp
  ·rcases List.mem_or_eq_of_mem_set h with h | h
   ·exact vU f S k c h
   ·subst h; simp
end Go.Proofs.YtfiopgedfcaodaaGreatDoor
namespace Go.Proofs.YtfiopgedfcaodaaGreatDoor
open Go Go.Am Go.Sort
set_option maxRecDepth 100000
theorem Ed {l:List P3} {k:Int × Int} (h:k∈bn l):∃ b∈l,k=dO b∨k=cY b:=by
 induction l with
 | nil=>cases h
 | cons a l ih=>
  rw [bn] at h
  rcases List.mem_cons.1 h with h | h
  ·exact ⟨a,by simp,.inl h⟩
  ·rcases List.mem_cons.1 h with h | h
   ·exact ⟨a,by simp,.inr h⟩
   ·obtain ⟨b,hb,hk⟩:=ih h
    exact ⟨b,by simp [hb],hk⟩
theorem Ee {l:List P3} (h:eR l=0) {b:P3} (hb:b∈l):bu (dO b)=0∧bu (cY b)=0:=by
 obtain ⟨k,hk,rfl⟩:=List.getElem_of_mem hb
 unfold eR at h
 split at h
 ·cases h
 ·have e:=bN.1 h (yF l k) (List.mem_map.2 ⟨k,List.mem_range.2 hk,rfl⟩)
  have eg:l.getD k (0,0,0)=l[k]:=by simp [hk]
  unfold yF at e
  rw [eg] at e
  have SD:mz l[k]=0:=by
   by_cases c:mz l[k]=0
   ·exact c
   ·rw [if_pos c] at e; exact e
  unfold mz at SD
  have h1:bu (dO l[k])=0:=by
   by_cases c:bu (dO l[k])=0
   ·exact c
   ·rw [if_pos c] at SD; exact SD
  rw [if_neg (fun c=>c h1)] at SD
  split at SD
  ·cases SD
  ·exact ⟨h1,SD⟩
theorem Jl {C:List (List P3)} (hC:∀ l∈C,eR l=0) (hl:C.length≤16) {p:P3} (hp:p∈aL C):HN p:=by
 obtain ⟨i,hi,h1,h2⟩:=(kG p).1 hp
 have e:C.getD i []=C[i]:=by simp [hi]
 rw [e,pK] at h2
 obtain ⟨b,hb,hk⟩:=Ed h2
 have hn:=Ee (hC _ (List.getElem_mem hi)) hb
 refine ⟨?_,?_⟩
 ·unfold oU
  rw [if_neg (by omega)]
 ·rcases hk with hk | hk
  ·rw [hk]; exact hn.1
  ·rw [hk]; exact hn.2
theorem HO {C:List (List P3)} {f:Nat→Nat} (hf:iG f) {b:Int × Int}:∀ k,k≤C.length→b∈jR f (aL C) C k→0≤b.1∧b.1≤b.2∧b.2 < (gd f (aL C).length:Int)
 | 0,_,h=>by simp [jR] at h
 | k+1,hk,h=>by
  rw [nF] at h
  rcases List.mem_append.1 h with h | h
  ·exact HO hf k (by omega) h
  ·have gl:k < C.length:=by omega
   have e:C.getD k []=C[k]:=by simp [gl]
   rw [e] at h
   obtain ⟨a,ha,rfl⟩:=List.mem_map.1 h
   obtain ⟨m1,m2⟩:=yP gl ha
   have l1:=nC m1
   have l2:=nC m2
   unfold lL
   generalize lK (aL C) ((k:Int),a.1,a.2.1)=x at *
   generalize lK (aL C) ((k:Int),(cY a).1,(cY a).2)=y at *
   have c1:=nE (hf.idem x) (k:=(aL C).length) (by have:=hf.le x; omega)
   have c2:=nE (hf.idem y) (k:=(aL C).length) (by have:=hf.le y; omega)
   simp only
   omega
theorem VV {C:List (List P3)} {J:List qW} (h:ra C J=0) (h1:(dX C J).length≤8192) (h2:(iz C J).length≤8192):sL (dX C J) (iz C J)=0:=by
 obtain ⟨hp,hJ⟩:=sR h
 obtain ⟨c1,c2⟩:=vS hp
 have dY:iG (BY C J):=qX _
 have Ef:=AO dY (aL C) (aL C).length (Nat.le_refl _)
 rw [List.take_length] at Ef
 have Ef:(dX C J).flatten.Perm (aL C):=Ef
 have hnd:([]++(dX C J).flatten).Nodup:=by
  rw [List.nil_append]
  exact Ef.nodup_iff.2 (nD C)
 have hg:∀ c∈dX C J,c≠[]∧∀ p∈c,HN p:=fun c hc=>⟨vU _ _ _ c hc,fun p hp=>Jl c2 c1 (Ef.mem_iff.1 (List.mem_flatten.2 ⟨c,hc,hp⟩))⟩
 have hf:=Eb (dX C J) [] hg hnd
 unfold sL
 rw [if_neg (by omega),hf]
 simp only
 refine bN.2 fun x hx=>?_
 obtain ⟨b,hb,rfl⟩:=List.mem_map.1 hx
 obtain ⟨b1,b2,b3⟩:=HO dY C.length (Nat.le_refl _) hb
 have hlen:(dX C J).length=gd (BY C J) (aL C).length:=jE _ _ _
 unfold q7
 refine bN.2 fun y hy=>?_
 simp only [List.mem_cons,List.not_mem_nil,or_false] at hy
 rcases hy with rfl | rfl | rfl
 ·unfold oU; rw [if_neg (by omega)]
 ·unfold oU; rw [if_neg (by omega)]
 ·have:¬ b.1 > b.2:=by omega
  simp [this]
theorem BZ {f:Nat→Nat} (hf:iG f) (S:List P3) (x:P3):∀ k,k≤S.length→∀ c,x∈(cX f S k).getD c []↔∃ i,i < k∧S.getD i (0,0,0)=x∧gd f (f i)=c
 | 0,_,c=>by simp [cX]
 | k+1,hk,c=>by
  have gl:k < S.length:=by omega
  have ih:=BZ hf S x k (by omega)
  have jh:=jE f S k
  have hle:=hf.le k
  rw [kd]
  unfold D8
  have split:(∃ i,i < k+1∧S.getD i (0,0,0)=x∧gd f (f i)=c)↔(∃ i,i < k∧S.getD i (0,0,0)=x∧gd f (f i)=c)∨(S.getD k (0,0,0)=x∧gd f (f k)=c):=by
   constructor
   ·rintro ⟨i,h1,h2⟩
    by_cases e:i=k
    ·subst e; exact .inr h2
    ·exact .inl ⟨i,by omega,h2⟩
   ·rintro (⟨i,h1,h2⟩ | h)
    ·exact ⟨i,by omega,h2⟩
    ·exact ⟨k,by omega,h⟩
  rw [split,← ih c]
  by_cases h:f k=k
  ·rw [if_pos h,h]
   by_cases hc:c < (cX f S k).length
   ·have e:(cX f S k++[[S.getD k (0,0,0)]]).getD c []=(cX f S k).getD c []:=by simp [List.getElem?_append,hc]
    rw [e]
    exact ⟨.inl,fun d=>d.resolve_right fun d=>by omega⟩
   ·have e0:(cX f S k).getD c []=[]:=by simp [hc]
    by_cases Km:c=(cX f S k).length
    ·have e:(cX f S k++[[S.getD k (0,0,0)]]).getD c []=[S.getD k (0,0,0)]:=by subst Km; simp
     rw [e,e0,List.mem_singleton]
     constructor
     ·intro d; exact .inr ⟨d.symm,by omega⟩
     ·rintro (d | d)
      ·cases d
      ·exact d.1.symm
    ·have e:(cX f S k++[[S.getD k (0,0,0)]]).getD c []=[]:=by
      have:(cX f S k++[[S.getD k (0,0,0)]]).length≤c:=by simp; omega
      rw [List.getD_eq_getElem?_getD,List.getElem?_eq_none this]; rfl
     rw [e,e0]
     constructor
     ·intro d; cases d
     ·rintro (d | d)
      ·cases d
      ·omega
  ·rw [if_neg h]
   have bP:gd f (f k) < (cX f S k).length:=by rw [jh]; exact nE (hf.idem k) (by omega)
   by_cases hc:c=gd f (f k)
   ·subst hc
    have e:((cX f S k).set (gd f (f k)) ((cX f S k).getD (gd f (f k)) []++[S.getD k (0,0,0)])).getD (gd f (f k)) []=(cX f S k).getD (gd f (f k)) []++[S.getD k (0,0,0)]:=by simp [bP]
    rw [e,List.mem_append,List.mem_singleton]
    exact ⟨fun d=>d.imp id fun d=>⟨d.symm,rfl⟩,fun d=>d.imp id fun d=>d.1.symm⟩
   ·have e:((cX f S k).set (gd f (f k)) ((cX f S k).getD (gd f (f k)) []++[S.getD k (0,0,0)])).getD c []=(cX f S k).getD c []:=by
     simp [List.getElem?_set_ne (Ne.symm hc)]
    rw [e]
    exact ⟨.inl,fun d=>d.resolve_right fun d=>hc d.2.symm⟩
theorem RJ {f:Nat→Nat} (hf:iG f) {S:List P3} (hS:S.Nodup) {p:P3} (hp:p∈S) (c:Nat):p∈(cX f S S.length).getD c []↔gd f (f (lK S p))=c:=by
 rw [BZ hf S p S.length (Nat.le_refl _) c]
 have hl:=nC hp
 have hg:S[lK S p]=p:=List.getElem_idxOf hl
 constructor
 ·rintro ⟨i,hi,h1,h2⟩
  have e:S.getD i (0,0,0)=S[i]:=by simp [hi]
  rw [e] at h1
  have:=Gg hS i hi
  rw [h1] at this
  rw [this]; exact h2
 ·intro h
  exact ⟨lK S p,hl,by simp [hl,hg],h⟩
end Go.Proofs.YtfiopgedfcaodaaGreatDoor
namespace Go.Proofs.YtfiopgedfcaodaaGreatDoor
open Go Go.Am Go.Sort
set_option maxRecDepth 100000
theorem yR {α:Type} (n:α→AV) (h:∀ x,cM (n x) (n x)=true):∀ l:List α,eY (List.map n l) (List.map n l)=true
 | []=>rfl
 | x :: l=>by
  show (cM (n x) (n x)&&eY (List.map n l) (List.map n l))=true
  rw [h x,yR n h l]; rfl
theorem Zk (n:Int):cM (.int .i64 n) (.int .i64 n)=true:=by
 show ru (.int .i64 n) (.int .i64 n)=true
 simp [ru]
theorem Zl:∀ l:List P3,eY (List.map n120 l) (List.map n120 l)=true:=yR n120 fun x=>by
 show (cM (.int .i64 x.1) (.int .i64 x.1)&&(cM (.int .i64 x.2.1) (.int .i64 x.2.1)&&(cM (.int .i64 x.2.2) (.int .i64 x.2.2)&&true)))=true
 simp only [Zk,Bool.and_self]
theorem Zm:∀ l:List (List P3),eY (List.map dI l) (List.map dI l)=true:=yR dI fun x=>by
 show (Nat.beq 3 3&&eY (List.map n120 x) (List.map n120 x))=true
 rw [Zl]; rfl
theorem AP {C:List (List P3)} {J:List qW} (Nr:∀ l∈C,l.length≤12) (h4:C.length≤4):(dX C J).length≤96∧(iz C J).length≤48∧∀ l∈dX C J,l.length≤96:=by
 have hp:=Jj C Nr
 have hB:=yQ (BY C J) (aL C) C Nr C.length
 have hs:=jE (BY C J) (aL C) (aL C).length
 have hc:=Ge (BY C J) (aL C).length
 have hm:=pf (BY C J) (aL C) (aL C).length
 refine ⟨?_,?_,fun l hl=>?_⟩
 ·unfold dX; omega
 ·unfold iz; omega
 ·have:=hm l hl
  omega
section
variable {N:Nat} (hN:cU N)
include hN
end
end Go.Proofs.YtfiopgedfcaodaaGreatDoor
namespace Go.Proofs.YtfiopgedfcaodaaGreatDoor
open Go Go.Am Go.Sort
set_option maxRecDepth 100000
section
variable {N:Nat} (hN:cU N)
include hN
end
end Go.Proofs.YtfiopgedfcaodaaGreatDoor
