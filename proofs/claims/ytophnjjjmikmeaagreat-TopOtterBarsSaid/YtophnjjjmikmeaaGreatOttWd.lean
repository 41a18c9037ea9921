/- Plain laws: a part is what is joined. -/
import Derived.Test.YtophnjjjmikmeaaGreatOttWc
set_option linter.all false
namespace Go.Proofs.YtophnjjjmikmeaaGreat
open Go Go.Am Go.Sort
set_option maxRecDepth 100000
theorem LI (l S P:List aV) (b x:aV):x∈de l S P b↔x∈P∨(x=b∧b∈l∧b∉S):=by
 unfold de
 by_cases h1:b∈S++P
 ·rw [if_pos h1]
  constructor
  ·exact .inl
  ·rintro (h | ⟨rfl,h2,h3⟩)
   ·exact h
   ·exact (List.mem_append.1 h1).resolve_left h3
 ·rw [if_neg h1]
  have jZ:b∉S:=fun h=>h1 (List.mem_append.2 (.inl h))
  by_cases h2:b∈l
  ·rw [if_pos h2,List.mem_append,List.mem_singleton]
   constructor
   ·rintro (h | rfl)
    ·exact .inl h
    ·exact .inr ⟨rfl,h2,jZ⟩
   ·rintro (h | ⟨rfl,-,-⟩)
    ·exact .inl h
    ·exact .inr rfl
  ·rw [if_neg h2]
   constructor
   ·exact .inl
   ·rintro (h | ⟨rfl,h3,-⟩)
    ·exact h
    ·exact absurd h3 h2
theorem LJ (l S P:List aV) (b:aV):∃ t,de l S P b=P++t∧(P.Nodup→(de l S P b).Nodup):=by
 unfold de
 by_cases h1:b∈S++P
 ·rw [if_pos h1]; exact ⟨[],by simp,id⟩
 ·rw [if_neg h1]
  by_cases h2:b∈l
  ·rw [if_pos h2]
   refine ⟨[b],rfl,fun h=>?_⟩
   rw [List.nodup_append]
   refine ⟨h,by simp,fun x hx y hy=>?_⟩
   rw [List.mem_singleton] at hy
   subst hy
   rintro rfl
   exact h1 (List.mem_append.2 (.inr hx))
  ·rw [if_neg h2]; exact ⟨[],by simp,id⟩
theorem yf (l S:List aV) (x:aV):∀ (ks P:List aV),x∈ks.foldl (de l S) P↔x∈P∨(x∈ks∧x∈l∧x∉S)
 | [],P=>by simp
 | b :: ks,P=>by
  rw [List.foldl_cons,yf l S x ks,LI,List.mem_cons]
  constructor
  ·rintro ((h | ⟨rfl,h2,h3⟩) | ⟨h1,h2,h3⟩)
   ·exact .inl h
   ·exact .inr ⟨.inl rfl,h2,h3⟩
   ·exact .inr ⟨.inr h1,h2,h3⟩
  ·rintro (h | ⟨rfl | h1,h2,h3⟩)
   ·exact .inl (.inl h)
   ·exact .inl (.inr ⟨rfl,h2,h3⟩)
   ·exact .inr ⟨h1,h2,h3⟩
theorem yg (l S:List aV):∀ (ks P:List aV),∃ t,ks.foldl (de l S) P=P++t∧(P.Nodup→(ks.foldl (de l S) P).Nodup)
 | [],P=>⟨[],by simp,id⟩
 | b :: ks,P=>by
  obtain ⟨t1,e1,n1⟩:=LJ l S P b
  obtain ⟨t2,e2,n2⟩:=yg l S ks (de l S P b)
  rw [List.foldl_cons]
  exact ⟨t1++t2,by rw [e2,e1,List.append_assoc],fun h=>n2 (n1 h)⟩
theorem BJ {b:aV} (h:gW b=0):eT b=(b.1+b.2.2,b.2.1+1)∧Mj (dq b)∧Mj (eT b):=by
 obtain ⟨c1,c2,c3⟩:=GY h
 have k1:=mJ c1
 have k2:=mJ c3
 unfold dq at k1
 simp only at k1
 refine ⟨?_,?_,?_⟩
 ·unfold eT
  rw [jA (by omega),jA (by omega)]
 ·unfold Mj dq
  simp only
  omega
 ·unfold Mj
  omega
theorem kE {y:aV} (h:gW y=0) (k:Int × Int):y∈mc k↔dq y=k∨eT y=k:=by
 obtain ⟨c1,c2,c3⟩:=GY h
 obtain ⟨u1,-,-⟩:=BJ h
 rw [u1]
 obtain ⟨a,b,s⟩:=y
 obtain ⟨k1,k2⟩:=k
 unfold mc dq
 simp only [List.mem_cons,List.not_mem_nil,or_false,Prod.mk.injEq] at c2 ⊢
 constructor
 ·rintro (⟨rfl,rfl,rfl⟩ | ⟨rfl,rfl,rfl⟩ | ⟨rfl,rfl,rfl⟩ | ⟨rfl,rfl,rfl⟩)
  ·exact .inr ⟨by omega,by omega⟩
  ·exact .inr ⟨by omega,by omega⟩
  ·exact .inl ⟨rfl,rfl⟩
  ·exact .inl ⟨rfl,rfl⟩
 ·rintro (⟨rfl,rfl⟩ | ⟨rfl,rfl⟩)
  ·rcases c2 with rfl | rfl
   ·exact .inr (.inr (.inl ⟨rfl,rfl,rfl⟩))
   ·exact .inr (.inr (.inr ⟨rfl,rfl,rfl⟩))
  ·rcases c2 with rfl | rfl
   ·exact .inr (.inl ⟨by omega,by omega,rfl⟩)
   ·exact .inl ⟨by omega,by omega,rfl⟩
theorem Dt {l:List aV} (hv:∀ b∈l,gW b=0) (S P:List aV) (b x:aV):x∈oO l S P b↔x∈P∨(x∈l∧x∉S∧kL b x=true):=by
 unfold oO
 rw [yf,yf]
 unfold kL
 simp only [Bool.or_eq_true,decide_eq_true_eq]
 constructor
 ·rintro ((h | ⟨h1,h2,h3⟩) | ⟨h1,h2,h3⟩)
  ·exact .inl h
  ·refine .inr ⟨h2,h3,?_⟩
   rcases (kE (hv x h2) _).1 h1 with h | h
   ·exact .inl (.inl (.inl h.symm))
   ·exact .inl (.inl (.inr h.symm))
  ·refine .inr ⟨h2,h3,?_⟩
   rcases (kE (hv x h2) _).1 h1 with h | h
   ·exact .inl (.inr h.symm)
   ·exact .inr h.symm
 ·rintro (h | ⟨h2,h3,((h | h) | h) | h⟩)
  ·exact .inl (.inl h)
  ·exact .inl (.inr ⟨(kE (hv x h2) _).2 (.inl h.symm),h2,h3⟩)
  ·exact .inl (.inr ⟨(kE (hv x h2) _).2 (.inr h.symm),h2,h3⟩)
  ·exact .inr ⟨(kE (hv x h2) _).2 (.inl h.symm),h2,h3⟩
  ·exact .inr ⟨(kE (hv x h2) _).2 (.inr h.symm),h2,h3⟩
theorem LL (l S P:List aV) (b:aV):∃ t,oO l S P b=P++t∧(P.Nodup→(oO l S P b).Nodup):=by
 obtain ⟨t1,e1,n1⟩:=yg l S (mc (dq b)) P
 obtain ⟨t2,e2,n2⟩:=yg l S (mc (eT b)) ((mc (dq b)).foldl (de l S) P)
 unfold oO
 exact ⟨t1++t2,by rw [e2,e1,List.append_assoc],fun h=>n2 (n1 h)⟩
def Wi (l S:List aV) (c:aV) (Q:List aV):Prop:=Q.Nodup∧c∈Q∧∀ x∈Q,x∈l∧x∉S∧DO l c x
section
variable {N:Nat} (hN:gU N)
include hN
theorem LM (l:List aV) (h:ng l=0) (out:yY) (S:List aV) (c:aV) (hc:c∈l) (hS:c∉S) :
  ∃ F,aZ (fJ N l) N (out,(),0,bX (S++[c]),[c])=some (out,(),bX (S++F),F)∧Wi l S c F∧∀ x∈F,∀ y∈l,kL x y=true→y∈S++F:=by
 obtain ⟨g1,g2,g3⟩:=rY h
 obtain ⟨x,h1,F,rfl,h2,h3⟩:=sZ (rd:=fJ N l) (fun v=>∃ (Q:List aV) (i:Nat),v=(out,(),(i:Int),bX (S++Q),Q)∧i≤Q.length∧Wi l S c Q∧∀ j (hj:j < Q.length),j < i→∀ y∈l,kL Q[j] y=true→y∈S++Q)
  (fun v=>l.length - v.2.2.1.toNat) (fun x=>∃ F,x=(out,(),bX (S++F),F)∧Wi l S c F∧∀ x∈F,∀ y∈l,kL x y=true→y∈S++F) (by
  rintro v ⟨Q,i,rfl,hi,⟨q1,q2,q3⟩,hq⟩
  have ql:=ir Q l q1 fun x hx=>(q3 x hx).1
  by_cases bK:i < Q.length
  ·have hb:=g2 _ (q3 _ (List.getElem_mem bK)).1
   obtain ⟨-,u2,u3⟩:=BJ hb
   have st:=IC hN l g3 (by omega) out S Q (by omega) i bK u2 u3
   obtain ⟨t,et,en⟩:=LL l S Q Q[i]
   refine .inl ⟨_,st,⟨oO l S Q Q[i],i+1,rfl,?_,⟨en q1,?_,fun x hx=>?_⟩,fun j hj hji y hy yD=>?_⟩,?_⟩
   ·rw [et,List.length_append]; omega
   ·rw [et]; exact List.mem_append.2 (.inl q2)
   ·rcases (Dt g2 S Q Q[i] x).1 hx with hx | ⟨x1,x2,x3⟩
    ·exact q3 x hx
    ·exact ⟨x1,x2,.step (q3 _ (List.getElem_mem bK)).2.2 x1 x3⟩
   ·by_cases ZM:y∈S
    ·exact List.mem_append.2 (.inl ZM)
    ·refine List.mem_append.2 (.inr ((Dt g2 S Q Q[i] y).2 ?_))
     by_cases hje:j=i
     ·subst hje
      have e:(oO l S Q Q[j])[j]=Q[j]:=by
       have:(oO l S Q Q[j])[j]?=Q[j]?:=by rw [et,List.getElem?_append_left bK]
       rw [List.getElem?_eq_getElem hj,List.getElem?_eq_getElem bK] at this
       exact Option.some.inj this
      rw [e] at yD
      exact .inr ⟨hy,ZM,yD⟩
     ·have ZN:j < Q.length:=by omega
      have e:(oO l S Q Q[i])[j]=Q[j]:=by
       have:(oO l S Q Q[i])[j]?=Q[j]?:=by rw [et,List.getElem?_append_left ZN]
       rw [List.getElem?_eq_getElem hj,List.getElem?_eq_getElem ZN] at this
       exact Option.some.inj this
      rw [e] at yD
      rcases List.mem_append.1 (hq j ZN (by omega) y hy yD) with h5 | h5
      ·exact absurd h5 ZM
      ·exact .inl h5
   ·show l.length - Int.toNat ((i+1:Nat):Int) < l.length - Int.toNat (i:Int)
    rw [Int.toNat_natCast,Int.toNat_natCast]
    omega
  ·have hiq:i=Q.length:=by omega
   subst hiq
   refine .inr ⟨_,LH hN l out (S++Q) Q,Q,rfl,⟨q1,q2,q3⟩,fun x hx y hy yD=>?_⟩
   obtain ⟨j,hj,rfl⟩:=List.getElem_of_mem hx
   exact hq j hj hj y hy yD) N (out,(),0,bX (S++[c]),[c]) ⟨[c],0,rfl,by simp,⟨by simp,by simp,fun x hx=>by rw [List.mem_singleton] at hx; subst hx; exact ⟨hc,hS,.base⟩⟩,fun j _ hj=>by omega⟩ (by
   show l.length - Int.toNat 0 < N
   unfold gU at hN
   omega)
 exact ⟨F,h1,h2,h3⟩
end
theorem BK {l S:List aV} {c:aV} {F:List aV} (hg:Wi l S c F) (hS:∀ x∈S,x∈l∧∀ y∈l,kL x y=true→y∈S) (hF:∀ x∈F,∀ y∈l,kL x y=true→y∈S++F) (x:aV):x∈F↔DO l c x:=by
 obtain ⟨q1,q2,q3⟩:=hg
 constructor
 ·exact fun hx=>(q3 x hx).2.2
 ·intro hx
  induction hx with
  | base=>exact q2
  | step ha hy ht ih=>
   rename_i a y
   rcases List.mem_append.1 (hF a ih y hy ht) with h | h
   ·exact absurd ((hS y h).2 a (q3 a ih).1 (by rw [IA]; exact ht)) (q3 a ih).2.1
   ·exact h
theorem OP {l S:List aV} {c:aV} {F:List aV} (hc:c∈l) (hg:Wi l S c F) (hS:∀ x∈S,x∈l∧∀ y∈l,kL x y=true→y∈S) (hF:∀ x∈F,∀ y∈l,kL x y=true→y∈S++F):F.mergeSort (fun x y=>!(ltOf ji) y x)=kC l c:=by
 obtain ⟨s1,s2⟩:=Dk BD F
 have n1:vb (ltOf ji) (kC l c):=(jV BD OA (0,0,0) (LA l l.length [c] 0)).1
 refine BE BD ?_ n1 (fun x=>by rw [s2,gd l c hc,BK hg hS hF])
 have hn:(F.mergeSort (fun x y=>!(ltOf ji) y x)).Nodup:=(List.mergeSort_perm F _).nodup_iff.2 hg.1
 refine List.Pairwise.imp₂ ?_ s1 hn
 intro a b Dl cg
 cases hc:ltOf ji a b with
 | true=>rfl
 | false=>exact absurd (OA a b hc Dl) cg
end Go.Proofs.YtophnjjjmikmeaaGreat
