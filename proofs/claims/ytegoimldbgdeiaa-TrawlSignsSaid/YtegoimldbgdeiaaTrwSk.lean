/- The program's signs and the reference's: plain laws. -/
import Derived.Test.YtegoimldbgdeiaaTrwSj
set_option linter.all false
namespace Go.Proofs.Ytegoimldbgdeiaa
open Go Go.Am
open List (map)
open Int (toNat)
open Go.IntKind (wrap)
open Go.Am.aM (fits)
set_option maxRecDepth 100000
theorem IJ:∀ (l:List Int) (s:List Int × List Int),(∃ e,(l.foldl sP s).1=s.1++e)∧(∀ x∈l,x∈(l.foldl sP s).1)∧(l.foldl sP s).2=s.2++l.map fun x=>(((l.foldl sP s).1.idxOf x:Nat):Int)
 |[],s=>⟨⟨[],by simp⟩,by simp,by simp⟩
 |x :: l,s=>by
  obtain ⟨⟨e,h1⟩,h2,h3⟩:=IJ l (sP s x);rw [List.foldl_cons];have key:∃ e2,(sP s x).1=s.1++e2∧x∈(sP s x).1∧∀ e3,(s.1++e2++e3).idxOf x=s.1.idxOf x:=by
   by_cases hx:x∈s.1
   ·have bO:s.1.idxOf x < s.1.length:=List.idxOf_lt_length_of_mem hx;refine ⟨[],?_,?_,fun e3=>?_⟩
    ·show (if _ then _ else _:List Int)=_;rw [if_neg (by omega)]; simp
    ·show x∈(if _ then _ else _:List Int);rw [if_neg (by omega)]; exact hx
    ·rw [List.append_nil,List.idxOf_append,if_pos hx]
   ·have hle:s.1.idxOf x=s.1.length:=List.idxOf_eq_length hx;refine ⟨[x],?_,?_,fun e3=>?_⟩
    ·show (if _ then _ else _:List Int)=_;rw [if_pos hle]
    ·show x∈(if _ then _ else _:List Int);rw [if_pos hle]; simp
    ·rw [List.append_assoc,List.idxOf_append,if_neg hx,hle];simp
  obtain ⟨e2,k1,k2,k3⟩:=key;refine ⟨⟨e2++e,by rw [h1,k1,List.append_assoc]⟩,fun z hz=>?_,?_⟩
  ·rcases List.mem_cons.1 hz with rfl|hz
   ·rw [h1]; exact List.mem_append_left _ k2
   ·exact h2 z hz
  ·rw [h3];have:(sP s x).2=s.2++[((s.1.idxOf x:Nat):Int)]:=rfl;rw [this,List.map_cons,List.append_assoc,List.singleton_append];congr 2;rw [h1,k1,k3 e]
theorem Qr (l:List Int) {j q:Nat} (hj:j < l.length) (hq:q < l.length):gI (IF l) j=gI (IF l) q↔gI l j=gI l q:=by
 obtain ⟨_,h2,h3⟩:=IJ l ([],[]);have e:IF l=l.map fun x=>(((l.foldl sP ([],[])).1.idxOf x:Nat):Int):=by unfold IF; rw [h3]; rfl
 generalize (l.foldl sP ([],[])).1=S at *;have at_:∀ m:Nat,m < l.length→gI (IF l) m=((S.idxOf (gI l m):Nat):Int):=fun m hm=>by
  rw [e,jw _ (by simpa using hm),jw _ hm]; simp
 rw [at_ j hj,at_ q hq];have mem:∀ m:Nat,m < l.length→gI l m∈S:=fun m hm=>h2 _ (by rw [jw _ hm]; exact List.getElem_mem hm)
 refine ⟨fun h=>?_,fun h=>by rw [h]⟩;have h:S.idxOf (gI l j)=S.idxOf (gI l q):=by omega
 have a:=List.getElem_idxOf (List.idxOf_lt_length_of_mem (mem j hj));have b:=List.getElem_idxOf (List.idxOf_lt_length_of_mem (mem q hq));rw [← a,← b]; simp only [h]
theorem xH (l:List Int) (a b:Int) (j:Nat) (hj:j < l.length):gI (Ac l a b) j=if gI l j=a then b else gI l j:=by
 unfold Ac;rw [jw _ (by simpa using hj),jw _ hj]; simp
theorem Af {t:cu} (hS:uz t) {α:Type} (g:Int→α) (hg:∀ i < t.2.length,g (av t i).1=g (av t i).2.2.1):∀ k,k≤t.2.length→∀ j q:Nat,j < t.1.length→q < t.1.length→gI (e7 t k) j=gI (e7 t k) q→g j=g q
 |0,_,j,q,hj,hq,h=>by
  have e:∀ m:Nat,m < t.1.length→gI (e7 t 0) m=m:=fun m hm=>by
   show gI (bC t.1.length) m=m;rw [jw _ (by rw [gS]; exact hm)]; simp [bC]
  rw [e j hj,e q hq] at h;rw [h]
 |k+1,hk,j,q,hj,hq,h=>by
  obtain ⟨A,B,hA,om,hB,ow⟩:=hS k (by omega);have ih:=Af hS g hg k (by omega);have ln:=my t k;have e:e7 t (k+1)=Ac (e7 t k) (gI (e7 t k) A) (gI (e7 t k) B):=by show Ac _ _ _=_; rw [hA,hB]
  have gAB:g (A:Int)=g (B:Int):=by have:=hg k (by omega); rw [hA,hB] at this; exact this
  rw [e,xH _ _ _ _ (by omega),xH _ _ _ _ (by omega)] at h;by_cases c1:gI (e7 t k) j=gI (e7 t k) A
  ·by_cases c2:gI (e7 t k) q=gI (e7 t k) A
   ·exact ih j q hj hq (by rw [c1,c2])
   ·rw [if_pos c1,if_neg c2] at h;rw [ih j A hj om c1,gAB,ih B q ow hq h]
  ·by_cases c2:gI (e7 t k) q=gI (e7 t k) A
   ·rw [if_neg c1,if_pos c2] at h;rw [ih j B hj ow h,← gAB,ih q A hq om c2]
   ·rw [if_neg c1,if_neg c2] at h;exact ih j q hj hq h
theorem B7 {t:cu} (hS:uz t):∀ k,k≤t.2.length→∀ i,i < k→gI (e7 t k) (av t i).1=gI (e7 t k) (av t i).2.2.1
 |0,_,i,hi=>absurd hi (Nat.not_lt_zero _)
 |k+1,hk,i,hi=>by
  obtain ⟨A,B,hA,om,hB,ow⟩:=hS k (by omega);obtain ⟨A',B',Og,acO,WB,acP⟩:=hS i (by omega);have ln:=my t k;have e:e7 t (k+1)=Ac (e7 t k) (gI (e7 t k) A) (gI (e7 t k) B):=by show Ac _ _ _=_; rw [hA,hB]
  rw [e,Og,WB,xH _ _ _ _ (by omega),xH _ _ _ _ (by omega)];by_cases c:i=k
  ·subst c;have:A'=A:=by omega
   subst this;have:B'=B:=by omega
   subst this;rw [if_pos rfl];split <;> rfl
  ·have ih:=B7 hS k (by omega) i (by omega);rw [Og,WB] at ih;rw [ih]
theorem Ag (pc:List Int) (q:Nat):∀ n,gm pc q n=true↔∀ b:Nat,b < n→gI pc b≠gI pc q
 |0=>by simp [gm]
 |n+1=>by
  show (gm pc q n&&(gI pc n != gI pc q))=true↔_;rw [Bool.and_eq_true,Ag pc q n];constructor
  ·rintro ⟨h1,h2⟩ b hb;by_cases c:b=n
   ·rw [c]; simpa using h2
   ·exact h1 b (by omega)
  ·intro h;exact ⟨fun b hb=>h b (by omega),by simpa using h n (by omega)⟩
def NU (t:cu) (pa:List (List Int)):Prop:=∀ l∈pa,VW t l
theorem NU.at {t:cu} {pa:List (List Int)} (h:NU t pa) (q:Int):VW t (gL pa q):=by
 unfold gL;rw [List.getD_eq_getElem?_getD];cases hx:pa[q.toNat]? with
 |none=>intro i hi; cases hi
 |some l=>exact h l (List.mem_of_getElem? hx)
theorem Kr {t:cu} (p a:Int) (x:BS) (k:Nat) (hk:k < t.2.length) (s:pH) (h:NU t x.2.2.1):NU t (kI p a x k s).2.2.1:=by
 unfold kI;split
 ·exact h
 ·intro l hl;rcases List.mem_or_eq_of_mem_set hl with hl|rfl
  ·exact h l hl
  ·intro i hi;rcases List.mem_append.1 hi with hi|hi
   ·exact h.at a i hi
   ·exact ⟨k,by simpa using hi,hk⟩
theorem Ah {t:cu} (p a:Int) (x:BS) (h:NU t x.2.2.1):∀ k,k≤t.2.length→NU t (dN t p a x k).2.2.1
 |0,_=>h
 |k+1,hk=>Kr p a _ k (by omega) _ (Ah p a x h k (by omega))
theorem Ai {t:cu} (p:Int):∀ (n:Nat) (x:BS),NU t x.2.2.1→NU t (mu t p n x).2.2.1
 |0,_,h=>h
 |n+1,(l,y),h=>by
  cases l with
  |nil=>exact h
  |cons a l=>exact Ai p n _ (Ah p a (l,y) h _ (Nat.le_refl _))
theorem Aj (t:cu):∀ p,NU t (eL t p).2.1
 |0=>fun l hl=>by
  have:l=[]:=List.eq_of_mem_replicate hl;subst this; intro i hi; cases hi
 |p+1=>by
  show NU t (sI t (eL t p) p).2.1;unfold sI;split
  ·exact Aj t p
  ·exact Ai p _ _ (Aj t p)
end Go.Proofs.Ytegoimldbgdeiaa
