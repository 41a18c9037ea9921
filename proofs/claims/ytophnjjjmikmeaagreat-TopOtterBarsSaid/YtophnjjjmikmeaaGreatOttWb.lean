/- Plain laws: bars of a sorted net found by halving; sets of bars. -/
import Derived.Test.YtophnjjjmikmeaaGreatOttWa
import Derived.Test.YtophnjjjmikmeaaGreatAmKM
set_option linter.all false
namespace Go.Proofs.YtophnjjjmikmeaaGreat
open Go Go.Am Go.Sort
set_option maxRecDepth 100000
abbrev BT:EK:=.st (.cons 0 1 false .int (.cons 1 1 false .int (.cons 2 1 false .int .nil)))
abbrev Wh (b:aV):AV:=.agg [.int .i64 b.1,.int .i64 b.2.1,.int .i64 b.2.2]
theorem OJ (a b:aV):DA BT (Wh a) (Wh b)=some (decide (a=b)):=by
 obtain ⟨a1,a2,a3⟩:=a
 obtain ⟨b1,b2,b3⟩:=b
 have e:kF BT (Wh (a1,a2,a3)) (Wh (b1,b2,b3))=some ((a1 == b1)&&((a2 == b2)&&((a3 == b3)&&true))):=rfl
 unfold DA
 rw [e]
 by_cases h1:a1=b1 <;> by_cases h2:a2=b2 <;> by_cases h3:a3=b3
 ·subst h1; subst h2; subst h3
  simp [EK.wide,kO,lG,ni]
 all_goals simp [h1,h2,h3]
theorem cO:gI BT Wh AV.bool aH where
 key:=OJ
 pair:=fun _=>rfl
 exact:=fun _=>rfl
def bX (l:List aV):List (aV × Bool):=l.map fun b=>(b,true)
theorem og (l:List aV) (b:aV):(getM b (bX l)).getD false=decide (b∈l):=by
 unfold bX
 rw [Ag]
 by_cases h:b∈l <;> simp [h]
theorem oh (l:List aV) (b:aV) (h:b∉l):oe b true (bX l)=bX (l++[b]):=by
 have:getM b (bX l)=none:=by unfold bX; rw [Ag,if_neg h]
 rw [Dn this]
 unfold bX
 rw [List.map_append]
 rfl
theorem sZ {V X:Type} {rd:V→Option (V ⊕ X)} (P:V→Prop) (μ:V→Nat) (Q:X→Prop)
  (h:∀ v,P v→(∃ v',rd v=some (.inl v')∧P v'∧μ v' < μ v)∨∃ x,rd v=some (.inr x)∧Q x):∀ n v,P v→μ v < n→∃ x,aZ rd n v=some x∧Q x
 | 0,_,_,hm=>by omega
 | n+1,v,hP,hm=>by
  rw [bf]
  rcases h v hP with ⟨v',e,V6,hl⟩ | ⟨x,e,hQ⟩
  ·rw [e]
   exact sZ P μ Q h n v' V6 (by omega)
  ·rw [e]
   exact ⟨x,rfl,hQ⟩
theorem BI (l:List aV) (p:aV):List.map n59 l++[AV.agg [AV.int .i64 p.1,AV.int .i64 p.2.1,AV.int .i64 p.2.2]]=List.map n59 (l++[p]):=by rw [List.map_append]; rfl
theorem G8 (a b:aV):decide (uA a b < 0)=ltOf ji a b:=by
 have h:=z7 a b
 rw [rX]
 cases hl:less a b with
 | true=>
  rw [hl] at h
  have:¬ (uA a b≥0):=of_decide_eq_false h
  exact decide_eq_true (by omega)
 | false=>
  rw [hl] at h
  have:uA a b≥0:=of_decide_eq_true h
  exact decide_eq_false (by omega)
theorem oH (a b:Int):xN a b=0↔a=b:=by
 unfold xN
 split
 ·exact ⟨fun h=>(by cases h),fun h=>by omega⟩
 ·split
  ·exact ⟨fun h=>(by cases h),fun h=>by omega⟩
  ·exact ⟨fun _=>by omega,fun _=>rfl⟩
theorem IB (a b:aV):(uA a b == 0)=decide (a=b):=by
 rw [Bool.eq_iff_iff,beq_iff_eq,decide_eq_true_eq]
 unfold uA
 rw [iq]
 constructor
 ·intro h
  have h1:=(oH _ _).1 (h (xN a.2.1 b.2.1) (by simp))
  have h2:=(oH _ _).1 (h (xN a.1 b.1) (by simp))
  have h3:=(oH _ _).1 (h (xN a.2.2 b.2.2) (by simp))
  exact Prod.ext h2 (Prod.ext h1 h3)
 ·rintro rfl x hx
  simp only [List.mem_cons,List.not_mem_nil,or_false] at hx
  rcases hx with rfl | rfl | rfl <;> exact (oH _ _).2 rfl
section
variable {N:Nat} (hN:gU N)
include hN
theorem vc (l:List aV) (hs:vb (ltOf ji) l) (hl:l.length≤1000000) (b:aV):Ln N (l,b)=some (decide (b∈l)):=by
 have ZL:∀ i j (hj:j < l.length) (XA:i < j),ltOf ji (l[i]'(by omega)) l[j]=true:=fun i j hj XA=>by
  exact List.pairwise_iff_getElem.1 hs i j (by omega) hj XA
 obtain ⟨x,h1,h2⟩:=sZ (rd:=lZ N l b) (fun v=>∃ lo hi:Nat,v=((lo:Int),(hi:Int))∧lo≤hi∧hi≤l.length∧(∀ j (hj:j < l.length),j < lo→ltOf ji l[j] b=true)∧∀ j (hj:j < l.length),hi≤j→ltOf ji l[j] b=false)
  (fun v=>(v.2 - v.1).toNat) (fun x=>∃ i:Nat,x=(i:Int)∧i≤l.length∧(∀ j (hj:j < l.length),j < i→ltOf ji l[j] b=true)∧∀ j (hj:j < l.length),i≤j→ltOf ji l[j] b=false) (by
  rintro v ⟨lo,hi,rfl,h1,h2,h3,h4⟩
  by_cases h:lo < hi
  ·have hm:(lo+hi) / 2 < l.length:=by omega
   obtain ⟨a1,a2⟩:=yV l hm
   have em:IntKind.wrap .i64 (Int.fdiv (IntKind.wrap .u64 (IntKind.wrap .i64 ((lo:Int)+(hi:Int)))) (2 ^ (min (Int.toNat 1) 64)))=(((lo+hi) / 2:Nat):Int):=by
    have e1:(2 ^ (min (Int.toNat 1) 64):Int)=2:=rfl
    rw [jA (show _≤(lo:Int)+(hi:Int)∧(lo:Int)+(hi:Int)≤_ by omega),IntWalk.u64_in _ (by omega),e1,Int.fdiv_eq_ediv_of_nonneg _ (by omega),jA (by omega)]
    omega
   have bK:decide ((lo:Int) < (hi:Int))=true:=decide_eq_true (by omega)
   have q:Oa N ((l[(lo+hi) / 2].1,l[(lo+hi) / 2].2.1,l[(lo+hi) / 2].2.2),(b.1,b.2.1,b.2.2))=some (uA l[(lo+hi) / 2] b):=Bz hN _ _
   refine .inl ?_
   cases hc:ltOf ji l[(lo+hi) / 2] b with
   | true=>
    have mO:decide (uA l[(lo+hi) / 2] b < 0)=true:=by rw [G8]; exact hc
    refine ⟨((((lo+hi) / 2+1:Nat):Int),(hi:Int)),?_,⟨(lo+hi) / 2+1,hi,rfl,by omega,h2,fun j hj O6=>?_,h4⟩,by simp only; omega⟩
    ·simp only [lZ,bK,cond_true,em,List.length_map,bP hm,Int.toNat_natCast,a1,a2,Bool.and_self,q,Option.bind_some,mO,dy (show (lo+hi) / 2 < 9223372036854775807 by omega)]
    ·by_cases he:j=(lo+hi) / 2
     ·subst he; exact hc
     ·exact BD.trans _ _ _ (ZL j _ hm (by omega)) hc
   | false=>
    have mO:decide (uA l[(lo+hi) / 2] b < 0)=false:=by rw [G8]; exact hc
    refine ⟨((lo:Int),(((lo+hi) / 2:Nat):Int)),?_,⟨lo,(lo+hi) / 2,rfl,by omega,by omega,h3,fun j hj O6=>?_⟩,by simp only; omega⟩
    ·simp only [lZ,bK,cond_true,em,List.length_map,bP hm,Int.toNat_natCast,a1,a2,Bool.and_self,q,Option.bind_some,mO,cond_false]
    ·by_cases he:j=(lo+hi) / 2
     ·subst he; exact hc
     ·cases hh:ltOf ji l[j] b with
      | false=>rfl
      | true=>
       have:=BD.trans _ _ _ (ZL ((lo+hi) / 2) j hj (by omega)) hh
       rw [hc] at this
       cases this
  ·have qe:decide ((lo:Int) < (hi:Int))=false:=decide_eq_false (by omega)
   refine .inr ⟨(lo:Int),?_,lo,rfl,by omega,h3,fun j hj O6=>h4 j hj (by omega)⟩
   simp only [lZ,qe,cond_false]) N ((0:Int),(l.length:Int)) ⟨0,l.length,rfl,by omega,by omega,fun j hj h=>by omega,fun j hj h=>by omega⟩ (by unfold gU at hN; simp only; omega)
 obtain ⟨i,rfl,g1,g2,g3⟩:=h2
 rw [S2,List.length_map,h1,Option.bind_some]
 have irr:∀ x:aV,ltOf ji x x=false:=fun x=>by
  rw [rX]
  unfold less
  simp
 by_cases hi:i < l.length
 ·obtain ⟨a1,a2⟩:=yV l hi
  have q:Oa N ((l[i].1,l[i].2.1,l[i].2.2),(b.1,b.2.1,b.2.2))=some (uA l[i] b):=Bz hN _ _
  simp only [cu hi,bP hi,cond_true,Int.toNat_natCast,a1,a2,Bool.and_self,q,Option.bind_some,IB]
  congr 1
  rw [Bool.eq_iff_iff,decide_eq_true_eq,decide_eq_true_eq]
  constructor
  ·rintro rfl; exact List.getElem_mem hi
  ·intro hb
   obtain ⟨j,hj,rfl⟩:=List.getElem_of_mem hb
   rcases Nat.lt_trichotomy i j with h | h | h
   ·have h5:=ZL i j hj h
    rw [g3 i hi (Nat.le_refl _)] at h5
    cases h5
   ·subst h; rfl
   ·have h5:=g2 j hj h
    rw [irr] at h5
    cases h5
 ·have qe:decide ((i:Int) < (l.length:Int))=false:=decide_eq_false (by omega)
  rw [qe,cond_false,Option.bind_some]
  congr 1
  symm
  refine decide_eq_false fun hb=>?_
  obtain ⟨j,hj,rfl⟩:=List.getElem_of_mem hb
  have h5:=g2 j hj (by omega)
  rw [irr] at h5
  cases h5
end
end Go.Proofs.YtophnjjjmikmeaaGreat
