/- Plain laws: valid bars,sorted lists of bars,bars found by halving. -/
import Derived.Test.YtophnjjjmikmeaaGreatOttPk
import Derived.Test.YtophnjjjmikmeaaGreatOttV
import Derived.Test.YtophnjjjmikmeaaGreatOttSo
import Derived.Test.YtophnjjjmikmeaaGreatAmKM
set_option linter.all false
namespace Go.Proofs.YtophnjjjmikmeaaGreat
open Go Go.Am Go.Sort
set_option maxRecDepth 100000
theorem qJ (a b:cB):ltOf lR a b=less a b:=by
 rw [iO]
 unfold less
 by_cases h1:a.2.1=b.2.1
 ·rw [if_neg (fun c=>c h1)]
  by_cases h2:a.1=b.1
  ·rw [if_neg (fun c=>c h2),decide_eq_decide]
   exact ⟨fun h=>by omega,fun h=>by omega⟩
  ·rw [if_pos h2,decide_eq_decide]
   exact ⟨fun h=>by omega,fun h=>by omega⟩
 ·rw [if_pos h1,decide_eq_decide]
  exact ⟨fun h=>by omega,fun h=>by omega⟩
theorem EC {b:cB} (h:kw b=0):aP (sU b)=0∧(b.2.2=-1∨b.2.2=1)∧aP (BH b)=0:=by
 unfold kw at h
 by_cases h0:aP (sU b)=0
 ·rw [if_neg (by simp [h0])] at h
  by_cases h1:b.2.2≠-1∧b.2.2≠1
  ·rw [if_pos h1] at h; simp at h
  ·rw [if_neg h1] at h
   exact ⟨h0,by omega,h⟩
 ·rw [if_pos h0] at h
  exact absurd h h0
section
variable {N:Nat} (hN:gQ N)
include hN
end
theorem iu {l:List cB} (h:ky l=0):l.length≤4096∧(∀ b∈l,kw b=0)∧BK (ltOf lR) l:=by
 unfold ky at h
 by_cases hl:l.length > 4096
 ·rw [if_pos hl] at h; simp at h
 ·rw [if_neg hl] at h
  have hz:∀ k,k < l.length→z7 l k=0:=fun k hk=>gz.1 h _ (List.mem_map.2 ⟨k,List.mem_range.2 hk,rfl⟩)
  have hb:∀ k (hk:k < l.length),kw l[k]=0:=fun k hk=>by
   have:=hz k hk
   unfold z7 at this
   have e1:l.getD k (0,0,0)=l[k]:=by simp [hk]
   rw [e1] at this
   by_cases hc:kw l[k]=0
   ·exact hc
   ·rw [if_pos hc] at this; exact absurd this hc
  have hs:∀ k (hk:k+1 < l.length),ltOf lR l[k] l[k+1]=true:=fun k hk=>by
   have:=hz (k+1) hk
   unfold z7 at this
   have e1:l.getD (k+1) (0,0,0)=l[k+1]:=by simp [hk]
   have e2:l.getD (k+1 - 1) (0,0,0)=l[k]:=by simp [show k < l.length by omega]
   rw [e1,e2,if_neg (by simp [hb (k+1) hk])] at this
   rw [qJ]
   cases hc:less l[k] l[k+1] with
   | true=>rfl
   | false=>rw [if_pos ⟨by omega,hc⟩] at this; simp at this
  refine ⟨by omega,fun b iQ=>by obtain ⟨k,hk,rfl⟩:=List.getElem_of_mem iQ; exact hb k hk,?_⟩
  refine List.pairwise_iff_getElem.2 fun i j hi hj SR=>?_
  obtain ⟨d,rfl⟩:∃ d,j=i+1+d:=⟨j - i - 1,by omega⟩
  clear SR
  induction d with
  | zero=>exact hs i hj
  | succ d ih=>exact BJ.trans _ _ _ (ih (by omega)) (hs (i+1+d) hj)
theorem z8 {l:List cB} (hl:l.length≤4096) (hv:∀ b∈l,kw b=0) (n1:BK (ltOf lR) l):ky l=0:=by
 unfold ky
 rw [if_neg (by omega)]
 refine gz.2 fun x hx=>?_
 obtain ⟨k,hk,rfl⟩:=List.mem_map.1 hx
 have hk:k < l.length:=List.mem_range.1 hk
 have e1:l.getD k (0,0,0)=l[k]:=by simp [hk]
 have c1:kw l[k]=0:=hv _ (List.getElem_mem hk)
 unfold z7
 rw [e1,if_neg (by simp [c1])]
 refine if_neg ?_
 rintro ⟨h0,hl⟩
 have EB:k - 1 < l.length:=by omega
 have e2:l.getD (k - 1) (0,0,0)=l[k - 1]:=by simp [EB]
 rw [e2,← qJ] at hl
 have:=List.pairwise_iff_getElem.1 n1 (k - 1) k EB hk (by omega)
 rw [hl] at this
 cases this
theorem We (l:List cB):aJ (List.map n59 l)=true:=by
 induction l with
 | nil=>rfl
 | cons x l ih=>exact ih
theorem yI {V X:Type} {rd:V→Option (V ⊕ X)} (P:V→Prop) (μ:V→Nat) (Q:X→Prop)
  (h:∀ v,P v→(∃ v',rd v=some (.inl v')∧P v'∧μ v' < μ v)∨∃ x,rd v=some (.inr x)∧Q x):∀ n v,P v→μ v < n→∃ x,a6 rd n v=some x∧Q x
 | 0,_,_,hm=>by omega
 | n+1,v,hP,hm=>by
  rw [dK]
  rcases h v hP with ⟨v',e,ZZ,hl⟩ | ⟨x,e,hQ⟩
  ·rw [e]
   exact yI P μ Q h n v' ZZ (by omega)
  ·rw [e]
   exact ⟨x,rfl,hQ⟩
theorem tT (a b:cB):decide (dw a b < 0)=ltOf lR a b:=by
 have h:=yH a b
 rw [qJ]
 cases hl:less a b with
 | true=>
  rw [hl] at h
  have:¬ (dw a b≥0):=of_decide_eq_false h
  exact decide_eq_true (by omega)
 | false=>
  rw [hl] at h
  have:dw a b≥0:=of_decide_eq_true h
  exact decide_eq_false (by omega)
theorem nO (a b:Int):wB a b=0↔a=b:=by
 unfold wB
 split
 ·exact ⟨fun h=>(by cases h),fun h=>by omega⟩
 ·split
  ·exact ⟨fun h=>(by cases h),fun h=>by omega⟩
  ·exact ⟨fun _=>by omega,fun _=>rfl⟩
theorem rV (a b:cB):(dw a b == 0)=decide (a=b):=by
 rw [Bool.eq_iff_iff,beq_iff_eq,decide_eq_true_eq]
 unfold dw
 rw [gz]
 constructor
 ·intro h
  have h1:=(nO _ _).1 (h (wB a.2.1 b.2.1) (by simp))
  have h2:=(nO _ _).1 (h (wB a.1 b.1) (by simp))
  have h3:=(nO _ _).1 (h (wB a.2.2 b.2.2) (by simp))
  exact Prod.ext h2 (Prod.ext h1 h3)
 ·rintro rfl x hx
  simp only [List.mem_cons,List.not_mem_nil,or_false] at hx
  rcases hx with rfl | rfl | rfl <;> exact (nO _ _).2 rfl
section
variable {N:Nat} (hN:gQ N)
include hN
theorem tU (l:List cB) (hs:BK (ltOf lR) l) (hl:l.length≤1000000) (b:cB):IS N (l,b)=some (decide (b∈l)):=by
 have Wf:∀ i j (hj:j < l.length) (SR:i < j),ltOf lR (l[i]'(by omega)) l[j]=true:=fun i j hj SR=>by
  exact List.pairwise_iff_getElem.1 hs i j (by omega) hj SR
 obtain ⟨x,h1,h2⟩:=yI (rd:=kT N l b) (fun v=>∃ lo hi:Nat,v=((lo:Int),(hi:Int))∧lo≤hi∧hi≤l.length∧(∀ j (hj:j < l.length),j < lo→ltOf lR l[j] b=true)∧∀ j (hj:j < l.length),hi≤j→ltOf lR l[j] b=false)
  (fun v=>(v.2 - v.1).toNat) (fun x=>∃ i:Nat,x=(i:Int)∧i≤l.length∧(∀ j (hj:j < l.length),j < i→ltOf lR l[j] b=true)∧∀ j (hj:j < l.length),i≤j→ltOf lR l[j] b=false) (by
  rintro v ⟨lo,hi,rfl,h1,h2,h3,h4⟩
  by_cases h:lo < hi
  ·have hm:(lo+hi) / 2 < l.length:=by omega
   obtain ⟨a1,a2⟩:=FX l hm
   have em:IntKind.wrap .i64 (Int.fdiv (IntKind.wrap .u64 (IntKind.wrap .i64 ((lo:Int)+(hi:Int)))) (2 ^ (min (Int.toNat 1) 64)))=(((lo+hi) / 2:Nat):Int):=by
    have e1:(2 ^ (min (Int.toNat 1) 64):Int)=2:=rfl
    rw [gf (show _≤(lo:Int)+(hi:Int)∧(lo:Int)+(hi:Int)≤_ by omega),IntWalk.u64_in _ (by omega),e1,Int.fdiv_eq_ediv_of_nonneg _ (by omega),gf (by omega)]
    omega
   have bM:decide ((lo:Int) < (hi:Int))=true:=decide_eq_true (by omega)
   have q:FP N ((l[(lo+hi) / 2].1,l[(lo+hi) / 2].2.1,l[(lo+hi) / 2].2.2),(b.1,b.2.1,b.2.2))=some (dw l[(lo+hi) / 2] b):=qG hN _ _
   refine .inl ?_
   cases hc:ltOf lR l[(lo+hi) / 2] b with
   | true=>
    have lS:decide (dw l[(lo+hi) / 2] b < 0)=true:=by rw [tT]; exact hc
    refine ⟨((((lo+hi) / 2+1:Nat):Int),(hi:Int)),?_,⟨(lo+hi) / 2+1,hi,rfl,by omega,h2,fun j hj L5=>?_,h4⟩,by simp only; omega⟩
    ·simp only [kT,bM,cond_true,em,List.length_map,bV hm,Int.toNat_natCast,a1,a2,Bool.and_self,q,Option.bind_some,lS,ea (show (lo+hi) / 2 < 9223372036854775807 by omega)]
    ·by_cases he:j=(lo+hi) / 2
     ·subst he; exact hc
     ·exact BJ.trans _ _ _ (Wf j _ hm (by omega)) hc
   | false=>
    have lS:decide (dw l[(lo+hi) / 2] b < 0)=false:=by rw [tT]; exact hc
    refine ⟨((lo:Int),(((lo+hi) / 2:Nat):Int)),?_,⟨lo,(lo+hi) / 2,rfl,by omega,by omega,h3,fun j hj L5=>?_⟩,by simp only; omega⟩
    ·simp only [kT,bM,cond_true,em,List.length_map,bV hm,Int.toNat_natCast,a1,a2,Bool.and_self,q,Option.bind_some,lS,cond_false]
    ·by_cases he:j=(lo+hi) / 2
     ·subst he; exact hc
     ·cases hh:ltOf lR l[j] b with
      | false=>rfl
      | true=>
       have:=BJ.trans _ _ _ (Wf ((lo+hi) / 2) j hj (by omega)) hh
       rw [hc] at this
       cases this
  ·have qS:decide ((lo:Int) < (hi:Int))=false:=decide_eq_false (by omega)
   refine .inr ⟨(lo:Int),?_,lo,rfl,by omega,h3,fun j hj L5=>h4 j hj (by omega)⟩
   simp only [kT,qS,cond_false]) N ((0:Int),(l.length:Int)) ⟨0,l.length,rfl,by omega,by omega,fun j hj h=>by omega,fun j hj h=>by omega⟩ (by unfold gQ at hN; simp only; omega)
 obtain ⟨i,rfl,g1,g2,g3⟩:=h2
 rw [PC,List.length_map,h1,Option.bind_some]
 have XN:∀ x:cB,ltOf lR x x=false:=fun x=>by
  rw [qJ]
  unfold less
  simp
 by_cases hi:i < l.length
 ·obtain ⟨a1,a2⟩:=FX l hi
  have q:FP N ((l[i].1,l[i].2.1,l[i].2.2),(b.1,b.2.1,b.2.2))=some (dw l[i] b):=qG hN _ _
  simp only [ck hi,bV hi,cond_true,Int.toNat_natCast,a1,a2,Bool.and_self,q,Option.bind_some,rV]
  congr 1
  rw [Bool.eq_iff_iff,decide_eq_true_eq,decide_eq_true_eq]
  constructor
  ·rintro rfl; exact List.getElem_mem hi
  ·intro hb
   obtain ⟨j,hj,rfl⟩:=List.getElem_of_mem hb
   rcases Nat.lt_trichotomy i j with h | h | h
   ·have h5:=Wf i j hj h
    rw [g3 i hi (Nat.le_refl _)] at h5
    cases h5
   ·subst h; rfl
   ·have h5:=g2 j hj h
    rw [XN] at h5
    cases h5
 ·have qS:decide ((i:Int) < (l.length:Int))=false:=decide_eq_false (by omega)
  rw [qS,cond_false,Option.bind_some]
  congr 1
  symm
  refine decide_eq_false fun hb=>?_
  obtain ⟨j,hj,rfl⟩:=List.getElem_of_mem hb
  have h5:=g2 j hj (by omega)
  rw [XN] at h5
  cases h5
end
end Go.Proofs.YtophnjjjmikmeaaGreat
