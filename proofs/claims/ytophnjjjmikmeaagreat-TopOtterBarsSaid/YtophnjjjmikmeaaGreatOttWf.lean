/- Plain laws: degrees. -/
import Derived.Test.YtophnjjjmikmeaaGreatOttWe
import Derived.Test.YtophnjjjmikmeaaGreatOttLp
set_option linter.all false
namespace Go.Proofs.YtophnjjjmikmeaaGreat
open Go Go.Am Go.Sort
set_option maxRecDepth 100000
theorem yi {κ ν:Type} [DecidableEq κ]:∀ {m:List (κ × ν)} {x:κ × ν},(m.map Prod.fst).Nodup→x∈m→getM x.1 m=some x.2
 | [],x,_,h=>by cases h
 | (k',v') :: m,x,hn,h=>by
  rw [List.map_cons,List.nodup_cons] at hn
  unfold getM
  rcases List.mem_cons.1 h with rfl | h
  ·rw [if_pos rfl]
  ·rw [if_neg,yi hn.2 h]
   intro e
   exact hn.1 (List.mem_map.2 ⟨x,h,e⟩)
def ol (m:List ((Int × Int) × Int)) (k:Int × Int):Int:=(getM k m).getD 0
theorem Dv (m:List ((Int × Int) × Int)) (a b:Int) (h:0≤ol m (a,b)∧ol m (a,b)≤1000000) (k:Int × Int):ol (pY m a b) k=ol m k+if k=(a,b) then 1 else 0:=by
 unfold ol at *
 unfold pY
 rw [xY]
 by_cases e:k=(a,b)
 ·subst e
  rw [if_pos rfl,if_pos rfl]
  show IntKind.wrap .i64 _=_
  rw [jA (by omega)]
 ·rw [if_neg e,if_neg e]
  omega
theorem IE (m:List ((Int × Int) × Int)) (a b:Int):(pY m a b).map Prod.fst=if (a,b)∈m.map Prod.fst then m.map Prod.fst else m.map Prod.fst++[(a,b)]:=by
 unfold pY
 refine (Af (κ:=Int × Int) (ν:=Int)).trans ?_
 by_cases h:(a,b)∈m.map Prod.fst
 ·rw [if_pos h,if_pos h]
 ·rw [if_neg h,if_neg h]
theorem Aj (b:aV) (l:List aV) (k:Int × Int):jB (b :: l) k=jB l k+if dq b=k∨eT b=k then 1 else 0:=by
 unfold jB
 rw [List.filter_cons]
 by_cases h:dq b=k∨eT b=k
 ·rw [if_pos h,if_pos (by simpa using h),List.length_cons]
 ·rw [if_neg h,if_neg (by simpa using h)]
  rfl
theorem LP {b:aV} (h:gW b=0):dq b≠eT b:=by
 obtain ⟨u1,-,-⟩:=BJ h
 rw [u1]
 intro e
 have:=congrArg Prod.snd e
 simp only [dq] at this
 omega
theorem LQ {b:aV} (h:gW b=0) (m:List ((Int × Int) × Int)) (n:Int) (hm:∀ k,0≤ol m k∧ol m k≤n) (hn:n≤900000) (k:Int × Int):ol (uE m b) k=ol m k+if dq b=k∨eT b=k then 1 else 0:=by
 have cg:=LP h
 unfold uE
 have e1:=Dv m (pZ b).1 (pZ b).2 (by have:=hm ((pZ b).1,(pZ b).2); omega)
 have e2:=Dv (pY m (pZ b).1 (pZ b).2) (GZ b).1 (GZ b).2 (by
  rw [e1]
  have:=hm ((GZ b).1,(GZ b).2)
  split <;> omega) k
 rw [e2,e1]
 have l1:((pZ b).1,(pZ b).2)=dq b:=rfl
 have l2:((GZ b).1,(GZ b).2)=eT b:=rfl
 rw [l1,l2]
 by_cases h1:k=dq b
 ·subst h1
  rw [if_pos rfl,if_neg cg,if_pos (.inl rfl)]
  omega
 ·by_cases h2:k=eT b
  ·subst h2
   rw [if_neg h1,if_pos rfl,if_pos (.inr rfl)]
   omega
  ·rw [if_neg h1,if_neg h2,if_neg (by rintro (h | h); exact h1 h.symm; exact h2 h.symm)]
   omega
theorem yj:∀ (l:List aV) (m:List ((Int × Int) × Int)) (n:Int),(∀ b∈l,gW b=0)→(∀ k,0≤ol m k∧ol m k≤n)→n+l.length≤900000→∀ k,ol (l.foldl uE m) k=ol m k+jB l k
 | [],m,n,_,_,_,k=>by simp [jB]
 | b :: l,m,n,hv,hm,hn,k=>by
  rw [List.length_cons] at hn
  have e:=LQ (hv b (by simp)) m n hm (by omega)
  rw [List.foldl_cons,yj l (uE m b) (n+1) (fun x hx=>hv x (List.mem_cons_of_mem _ hx)) (fun k=>by
   rw [e]
   have:=hm k
   split <;> omega) (by omega) k,e,Aj]
  split <;> omega
theorem oI:∀ (l:List aV) (m:List ((Int × Int) × Int)),(m.map Prod.fst).Nodup→((l.foldl uE m).map Prod.fst).Nodup∧∀ k,k∈(l.foldl uE m).map Prod.fst↔k∈m.map Prod.fst∨∃ b∈l,k=dq b∨k=eT b
 | [],m,h=>⟨h,fun k=>by simp⟩
 | b :: l,m,h=>by
  have one:∀ (m:List ((Int × Int) × Int)) (q:Int × Int),(m.map Prod.fst).Nodup→((pY m q.1 q.2).map Prod.fst).Nodup∧∀ k,k∈(pY m q.1 q.2).map Prod.fst↔k∈m.map Prod.fst∨k=q:=fun m q h=>by
   rw [IE]
   by_cases hq:(q.1,q.2)∈m.map Prod.fst
   ·rw [if_pos hq]
    refine ⟨h,fun k=>⟨.inl,?_⟩⟩
    rintro (h | rfl)
    ·exact h
    ·exact hq
   ·rw [if_neg hq]
    refine ⟨?_,fun k=>?_⟩
    ·rw [List.nodup_append]
     refine ⟨h,by simp,fun x hx y hy=>?_⟩
     rw [List.mem_singleton] at hy
     subst hy
     rintro rfl
     exact hq hx
    ·rw [List.mem_append,List.mem_singleton]
  obtain ⟨a1,a2⟩:=one m (pZ b) h
  obtain ⟨b1,b2⟩:=one (pY m (pZ b).1 (pZ b).2) (GZ b) a1
  obtain ⟨c1,c2⟩:=oI l (uE m b) b1
  rw [List.foldl_cons]
  refine ⟨c1,fun k=>?_⟩
  have b2':k∈(uE m b).map Prod.fst↔k∈(pY m (pZ b).1 (pZ b).2).map Prod.fst∨k=GZ b:=b2 k
  rw [c2,b2',a2]
  constructor
  ·rintro (((h | h) | h) | ⟨d,hd,h⟩)
   ·exact .inl h
   ·exact .inr ⟨b,by simp,.inl h⟩
   ·exact .inr ⟨b,by simp,.inr h⟩
   ·exact .inr ⟨d,List.mem_cons_of_mem _ hd,h⟩
  ·rintro (h | ⟨d,hd,h⟩)
   ·exact .inl (.inl (.inl h))
   ·rcases List.mem_cons.1 hd with rfl | hd
    ·rcases h with h | h
     ·exact .inl (.inl (.inr h))
     ·exact .inl (.inr h)
    ·exact .inr ⟨d,hd,h⟩
theorem IF {l:List aV} (hn:l.Nodup) (hv:∀ b∈l,gW b=0) (k:Int × Int):jB l k≤4:=by
 unfold jB
 have h1:(l.filter fun b=>decide (dq b=k) || decide (eT b=k)).Nodup:=hn.filter _
 refine ir _ (mc k) h1 fun x hx=>?_
 obtain ⟨h2,h3⟩:=List.mem_filter.1 hx
 exact (kE (hv x h2) k).2 (by simpa using h3)
theorem yk (m:List ((Int × Int) × Int)) (j:Int):iw m j (List.range m.length)=(m.countP fun x=>decide (x.2=j):Nat):=by
 have e:(List.range m.length).map (fun i=>m.getD i ((0,0),0))=m:=by
  refine List.ext_getElem (by simp) fun i h1 h2=>?_
  simp [h2]
 unfold iw
 conv=>rhs; rw [← e,List.countP_map]
 rfl
theorem G9:∀ (m:List ((Int × Int) × Int)),(∀ x∈m,0≤x.2∧x.2≤4)→(m.countP fun x=>decide (x.2=1))+(m.countP fun x=>decide (x.2=3))=m.countP fun x=>decide (x.2 % 2=1)
 | [],_=>rfl
 | x :: m,h=>by
  have ih:=G9 m fun y hy=>h y (List.mem_cons_of_mem _ hy)
  have hx:=h x (by simp)
  rw [List.countP_cons,List.countP_cons,List.countP_cons,← ih]
  by_cases e1:x.2=1
  ·simp [e1]; omega
  ·by_cases e3:x.2=3
   ·simp [e3]; omega
   ·have:¬ x.2 % 2=1:=by omega
    simp [e1,e3,this]
theorem LR {l:List aV} (h:ng l=0):(Ah l).2.1+(Ah l).2.2.2.1=((sW l).countP (fun k=>decide (jB l k % 2=1)):Nat)∧∀ x∈fj l,0≤x.2∧x.2≤4:=by
 obtain ⟨g1,g2,g3⟩:=rY h
 have hn:=sY BD g3
 obtain ⟨k1,k2⟩:=oI l [] (by simp)
 have C9:=yj l [] 0 g2 (fun k=>by simp [ol,getM]) (by omega)
 have kn:(sW l).Nodup:=sY FI (jV FI Lm (0,0) (bW l)).1
 have hx:∀ x∈fj l,x.2=(jB l x.1:Int):=fun x hx=>by
  have e1:=yi k1 hx
  have e2:=C9 x.1
  unfold ol at e2
  have e1:getM x.1 (l.foldl uE [])=some x.2:=e1
  rw [e1] at e2
  simpa [getM] using e2
 have h4:∀ x∈fj l,0≤x.2∧x.2≤4:=fun x oM=>by
  have:=IF hn g2 x.1
  rw [hx x oM]
  omega
 refine ⟨?_,h4⟩
 show iw (fj l) 1 _+iw (fj l) 3 _=_
 rw [yk,yk]
 have c1:=G9 (fj l) h4
 have c2:(fj l).countP (fun x=>decide (x.2 % 2=1))=((fj l).map Prod.fst).countP fun k=>decide (jB l k % 2=1):=by
  rw [List.countP_map]
  refine List.countP_congr fun x oM=>?_
  have:=hx x oM
  simp only [Function.comp,decide_eq_true_eq]
  rw [this]
  omega
 have c3:((fj l).map Prod.fst).Perm (sW l):=by
  have k1':((fj l).map Prod.fst).Nodup:=k1
  rw [List.perm_ext_iff_of_nodup k1' kn]
  intro k
  have:=k2 k
  rw [xX]
  simpa [fj] using this
 rw [c2,c3.countP_eq] at c1
 omega
end Go.Proofs.YtophnjjjmikmeaaGreat
