/- Plain laws: the program's check of a program. -/
import Derived.Test.YtldcljfjjoidhaaGreatDoorBraPh
import Derived.Test.YtldcljfjjoidhaaGreatDoorAmKL
set_option linter.all false
namespace Go.Proofs.YtldcljfjjoidhaaGreatDoor
open Go Go.Am Go.Sort
set_option maxRecDepth 100000
abbrev XO:EK:=.st (.cons 0 1 false .int (.cons 1 1 false .int (.cons 2 1 false .int .nil)))
abbrev Ut (b:nJ):AV:=.agg [.int .i64 b.1,.int .i64 b.2.1,.int .i64 b.2.2]
theorem MX (a b:nJ):Bb XO (Ut a) (Ut b)=some (decide (a=b)):=by
 obtain ⟨a1,a2,a3⟩:=a
 obtain ⟨b1,b2,b3⟩:=b
 have e:jM XO (Ut (a1,a2,a3)) (Ut (b1,b2,b3))=some ((a1 == b1)&&((a2 == b2)&&((a3 == b3)&&true))):=rfl
 unfold Bb
 rw [e]
 by_cases h1:a1=b1 <;> by_cases h2:a2=b2 <;> by_cases h3:a3=b3
 ·subst h1; subst h2; subst h3
  simp [EK.wide,jR,kw,mf]
 all_goals simp [h1,h2,h3]
theorem fq:fT XO Ut AV.bool aN where
 key:=MX
 pair:=fun _=>rfl
 exact:=fun _=>rfl
def eD (l:List nJ):List (nJ × Bool):=l.map fun b=>(b,true)
theorem IP (l:List nJ) (b:nJ):(getM b (eD l)).getD false=decide (b∈l):=by
 unfold eD
 rw [xi]
 by_cases h:b∈l <;> simp [h]
theorem IQ (l:List nJ) (b:nJ) (h:b∉l):oU b true (eD l)=eD (l++[b]):=by
 have:getM b (eD l)=none:=by unfold eD; rw [xi,if_neg h]
 rw [AY this]
 unfold eD
 rw [List.map_append]
 rfl
theorem xx (a b:Int × Int):min (lX a b).1 ((lX a b).1+(lX a b).2.2)=min a.1 b.1:=by
 unfold lX
 split <;> (simp only; omega)
theorem IR (c:cQ) (i j:Nat) (h:jG c i=jG c j):i=j:=by
 have h1:=xx (a8 c i) (a8 c (i+1))
 have h2:=xx (a8 c j) (a8 c (j+1))
 unfold jG at h
 rw [h,h2] at h1
 unfold a8 sg at h1
 simp only at h1
 cases hr:c.2.2.1
 ·simp only [hr,Bool.false_eq_true,if_false] at h1; omega
 ·simp only [hr,if_true] at h1; omega
theorem IS (c:cQ) (k:Nat):jG c k∉fF c k:=by
 intro h
 obtain ⟨j,hj,e⟩:=List.mem_map.1 h
 have:=IR c j k e
 have:=List.mem_range.1 hj
 omega
section
variable {N:Nat} (hN:iK N)
include hN
theorem IT (p:List cQ) (i:Nat) (c:cQ) (a:d90 (ah (List.map au p) i)=c) (acc:List nJ) (u:Unit) (Fi:Int) (q:cQ) (hc:df c=0) (ha:acc.length≤1000000000) :
  aQ (kP N p ((i:Int),eD acc,u,Fi,q)) N (0,eD acc,(),Fi,q.1,q.2.1,q.2.2.1,q.2.2.2.1,q.2.2.2.2,(),0,c.1,c.2.1,c.2.2.1,c.2.2.2.1,c.2.2.2.2) =
   some (if ∃ b∈cP c,b∈acc then .inl (eD acc,(),Fi,q.1,q.2.1,q.2.2.1,q.2.2.2.1,q.2.2.2.2,(),9,c.1,c.2.1,c.2.2.1,c.2.2.2.1,c.2.2.2.2) else .inr (eD acc,(),Fi,q.1,q.2.1,q.2.2.1,q.2.2.2.1,q.2.2.2.2,(),0,c.1,c.2.1,c.2.2.1,c.2.2.2.1,c.2.2.2.2)):=by
 obtain ⟨h1,h2,h3⟩:=dA hc
 have ml:(cP c).length=c.2.2.2.2.toNat:=kQ c _
 have key:=vF (rd:=kP N p ((i:Int),eD acc,u,Fi,q)) ((cP c).map fun x=>if x∈acc then (9:Int) else 0) (fun k=>((k:Int),eD acc,(),Fi,q.1,q.2.1,q.2.2.1,q.2.2.2.1,q.2.2.2.2,(),0,c.1,c.2.1,c.2.2.1,c.2.2.2.1,c.2.2.2.2))
  (.inr (eD acc,(),Fi,q.1,q.2.1,q.2.2.1,q.2.2.2.1,q.2.2.2.2,(),0,c.1,c.2.1,c.2.2.1,c.2.2.2.1,c.2.2.2.2)) (fun x=>.inl (eD acc,(),Fi,q.1,q.2.1,q.2.2.1,q.2.2.2.1,q.2.2.2.2,(),x,c.1,c.2.1,c.2.2.1,c.2.2.2.1,c.2.2.2.2)) (fun _=>True) (fun k hk _=>by
  refine ⟨?_,fun _=>trivial⟩
  rw [List.length_map,ml] at hk
  have bT:decide ((k:Int) < c.2.2.2.2)=true:=decide_eq_true (by omega)
  have t1:=gN N c k h1 (by omega)
  have t2:=gN N c (k+1) h1 (by omega)
  have q1:=ik c hc k (by omega)
  have q2:=ik c hc (k+1) (by omega)
  have eb:jG c k=lX (a8 c k) (a8 c (k+1)):=rfl
  have el:((cP c).map fun x=>if x∈acc then (9:Int) else 0)[k]'(by rw [List.length_map,ml]; exact hk)=if jG c k∈acc then (9:Int) else 0:=by simp [cP,fF]
  rw [el]
  simp only [kP,Int.toNat_natCast,a,bT,cond_true,t1,cO (show k < 9223372036854775807 by omega),t2,Option.bind_some,beq_self_eq_true,Bool.and_self]
  unfold lX at eb
  have kk:=fq.keys (jG c k) (eD acc)
  have kg:=fq.getD (jG c k) false (eD acc)
  rw [IP] at kg
  generalize a8 c k=x at *
  generalize a8 c (k+1)=y at *
  by_cases MY:x.2 > y.2
  ·rw [if_pos MY] at eb
   have w:IntKind.wrap .i64 (x.1 - y.1)=x.1 - y.1:=lW ⟨by omega,by omega⟩
   generalize jG c k=bb at *
   subst eb
   simp only [MY,decide_true,cond_true,fq.cells,fq.bt,gv,gw,Bool.and_self,Bool.and_true,Option.bind_some,w,kk,kg]
   by_cases hm:(y.1,y.2,x.1 - y.1)∈acc
   ·simp only [hm,decide_true,if_true]; rfl
   ·simp only [hm,decide_false,if_false]; rfl
  ·rw [if_neg MY] at eb
   have w:IntKind.wrap .i64 (y.1 - x.1)=y.1 - x.1:=lW ⟨by omega,by omega⟩
   generalize jG c k=bb at *
   subst eb
   simp only [MY,decide_false,cond_true,cond_false,fq.cells,fq.bt,gv,gw,Bool.and_self,Bool.and_true,Option.bind_some,w,kk,kg]
   by_cases hm:(x.1,x.2,y.1 - x.1)∈acc
   ·simp only [hm,decide_true,if_true]; rfl
   ·simp only [hm,decide_false,if_false]; rfl) (fun _=>by
  rw [List.length_map,ml]
  have pd:decide (((c.2.2.2.2.toNat:Nat):Int) < c.2.2.2.2)=false:=decide_eq_false (by omega)
  simp only [kP,Int.toNat_natCast,a,pd,cond_false,fq.cells,fq.bt,gv,gw,Bool.and_self,Bool.and_true,cond_true,Option.bind_some]) N (by rw [List.length_map,ml]; unfold iK at hN; omega) trivial
 refine Eq.trans key (congrArg some ?_)
 rw [lO (fun x=>x∈acc) 9 (by decide) (cP c)]
 by_cases h:∃ b∈cP c,b∈acc
 ·rw [if_pos h,if_pos h]; rfl
 ·rw [if_neg h,if_neg h]; rfl
theorem MZ (p:List cQ) (i:Nat) (c:cQ) (a:d90 (ah (List.map au p) i)=c) (acc:List nJ) (v1:Int × (List (nJ × Bool)) × Unit × Int × cQ) (hv:v1.1=(i:Int)) (Fi:Int) (q:cQ) (e0:Int) (hc:df c=0) (hn:∀ b∈cP c,b∉acc) :
  aQ (jF N p v1) N (0,eD acc,(),Fi,q.1,q.2.1,q.2.2.1,q.2.2.2.1,q.2.2.2.2,(),e0,c.1,c.2.1,c.2.2.1,c.2.2.2.1,c.2.2.2.2,c.1,c.2.1,c.2.2.1,c.2.2.2.1,c.2.2.2.2) =
   some (eD (acc++cP c),(),Fi,q.1,q.2.1,q.2.2.1,q.2.2.2.1,q.2.2.2.2,(),e0,c.1,c.2.1,c.2.2.1,c.2.2.2.1,c.2.2.2.2,c.1,c.2.1,c.2.2.1,c.2.2.2.1,c.2.2.2.2):=by
 obtain ⟨h1,h2,h3⟩:=dA hc
 have key:=dz (rd:=jF N p v1) c.2.2.2.2.toNat (fun k=>((k:Int),eD (acc++fF c k),(),Fi,q.1,q.2.1,q.2.2.1,q.2.2.2.1,q.2.2.2.2,(),e0,c.1,c.2.1,c.2.2.1,c.2.2.2.1,c.2.2.2.2,c.1,c.2.1,c.2.2.1,c.2.2.2.1,c.2.2.2.2))
  (eD (acc++cP c),(),Fi,q.1,q.2.1,q.2.2.1,q.2.2.2.1,q.2.2.2.2,(),e0,c.1,c.2.1,c.2.2.1,c.2.2.2.1,c.2.2.2.2,c.1,c.2.1,c.2.2.1,c.2.2.2.1,c.2.2.2.2) (fun k hk=>by
  have bT:decide ((k:Int) < c.2.2.2.2)=true:=decide_eq_true (by omega)
  have t1:=gN N c k h1 (by omega)
  have t2:=gN N c (k+1) h1 (by omega)
  have q1:=ik c hc k (by omega)
  have q2:=ik c hc (k+1) (by omega)
  have eb:jG c k=lX (a8 c k) (a8 c (k+1)):=rfl
  have ms:jG c k∉acc++fF c k:=by
   intro h
   rcases List.mem_append.1 h with h | h
   ·exact hn (jG c k) (List.mem_map.2 ⟨k,List.mem_range.2 hk,rfl⟩) h
   ·exact IS c k h
  have es:acc++fF c (k+1)=(acc++fF c k)++[jG c k]:=by rw [vA,List.append_assoc]
  have kk:=fq.keys (jG c k) (eD (acc++fF c k))
  have kp:=fq.put (jG c k) true (eD (acc++fF c k))
  rw [IQ _ _ ms,← es] at kp
  simp only [jF,hv,Int.toNat_natCast,a,bT,cond_true,t1,cO (show k < 9223372036854775807 by omega),t2,Option.bind_some,beq_self_eq_true,Bool.and_self]
  clear ms
  unfold lX at eb
  generalize eD (acc++fF c (k+1))=S' at *
  generalize eD (acc++fF c k)=S at *
  clear es
  generalize a8 c k=x at *
  generalize a8 c (k+1)=y at *
  by_cases MY:x.2 > y.2
  ·rw [if_pos MY] at eb
   have w:IntKind.wrap .i64 (x.1 - y.1)=x.1 - y.1:=lW ⟨by omega,by omega⟩
   generalize jG c k=bb at *
   subst eb
   simp only [MY,decide_true,cond_true,fq.cells,fq.bt,gv,gw,Bool.and_self,Option.bind_some,w,kk,kp]
  ·rw [if_neg MY] at eb
   have w:IntKind.wrap .i64 (y.1 - x.1)=y.1 - x.1:=lW ⟨by omega,by omega⟩
   generalize jG c k=bb at *
   subst eb
   simp only [MY,decide_false,cond_true,cond_false,fq.cells,fq.bt,gv,gw,Bool.and_self,Option.bind_some,w,kk,kp]) (by
  have pd:decide (((c.2.2.2.2.toNat:Nat):Int) < c.2.2.2.2)=false:=decide_eq_false (by omega)
  simp only [jF,hv,Int.toNat_natCast,a,pd,cond_false,fq.cells,fq.bt,gv,gw,Bool.and_self,cond_true,Option.bind_some]
  rfl) N 0 (Nat.zero_le _) (by unfold iK at hN; omega)
 have e0':acc++fF c 0=acc:=by simp [fF]
 rw [e0'] at key
 exact key
end
end Go.Proofs.YtldcljfjjoidhaaGreatDoor
