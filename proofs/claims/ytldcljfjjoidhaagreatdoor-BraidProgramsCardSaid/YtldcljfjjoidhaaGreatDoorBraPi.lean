/- Plain laws: the program's check of a program. -/
import Derived.Test.YtldcljfjjoidhaaGreatDoorBraPh
import Derived.Test.YtldcljfjjoidhaaGreatDoorAmKL
set_option linter.all false
namespace Go.Proofs.YtldcljfjjoidhaaGreatDoor
open Go Go.Am Go.Sort
set_option maxRecDepth 100000
abbrev ekB:EK:=.st (.cons 0 1 false .int (.cons 1 1 false .int (.cons 2 1 false .int .nil)))
abbrev Xh (b:dL):AV:=.agg [.int .i64 b.1,.int .i64 b.2.1,.int .i64 b.2.2]
theorem Pf (a b:dL):Cd ekB (Xh a) (Xh b)=some (decide (a=b)):=by
 obtain ⟨a1,a2,a3⟩:=a
 obtain ⟨b1,b2,b3⟩:=b
 have e:kd ekB (Xh (a1,a2,a3)) (Xh (b1,b2,b3))=some ((a1 == b1)&&((a2 == b2)&&((a3 == b3)&&true))):=rfl
 unfold Cd
 rw [e]
 by_cases h1:a1=b1 <;> by_cases h2:a2=b2 <;> by_cases h3:a3=b3
 ·subst h1; subst h2; subst h3
  simp [EK.wide,km,kV,mK]
 all_goals simp [h1,h2,h3]
theorem fI:fH ekB Xh AV.bool aT where
 key:=Pf
 pair:=fun _=>rfl
 exact:=fun _=>rfl
def eQ (l:List dL):List (dL × Bool):=l.map fun b=>(b,true)
theorem KG (l:List dL) (b:dL):(getM b (eQ l)).getD false=decide (b∈l):=by
 unfold eQ
 rw [yu]
 by_cases h:b∈l <;> simp [h]
theorem KH (l:List dL) (b:dL) (h:b∉l):nI b true (eQ l)=eQ (l++[b]):=by
 have:getM b (eQ l)=none:=by unfold eQ; rw [yu,if_neg h]
 rw [BP this]
 unfold eQ
 rw [List.map_append]
 rfl
theorem yK (a b:Int × Int):min (iL a b).1 ((iL a b).1+(iL a b).2.2)=min a.1 b.1:=by
 unfold iL
 split <;> (simp only; omega)
theorem KI (c:dh) (i j:Nat) (h:fy c i=fy c j):i=j:=by
 have h1:=yK (aN c i) (aN c (i+1))
 have h2:=yK (aN c j) (aN c (j+1))
 unfold fy at h
 rw [h,h2] at h1
 unfold aN sg at h1
 simp only at h1
 cases hr:c.2.2.1
 ·simp only [hr,Bool.false_eq_true,if_false] at h1; omega
 ·simp only [hr,if_true] at h1; omega
theorem B5 (c:dh) (k:Nat):fy c k∉cC c k:=by
 intro h
 obtain ⟨j,hj,e⟩:=List.mem_map.1 h
 have:=KI c j k e
 have:=List.mem_range.1 hj
 omega
section
variable {N:Nat} (hN:fC N)
include hN
theorem KJ (p:List dh) (i:Nat) (c:dh) (a:d90 (ah (List.map bV p) i)=c) (acc:List dL) (u:Unit) (GN:Int) (q:dh) (hc:cm c=0) (ha:acc.length≤1000000000) :
  az (lz N p ((i:Int),eQ acc,u,GN,q)) N (0,eQ acc,(),GN,q.1,q.2.1,q.2.2.1,q.2.2.2.1,q.2.2.2.2,(),0,c.1,c.2.1,c.2.2.1,c.2.2.2.1,c.2.2.2.2) =
   some (if ∃ b∈cF c,b∈acc then .inl (eQ acc,(),GN,q.1,q.2.1,q.2.2.1,q.2.2.2.1,q.2.2.2.2,(),9,c.1,c.2.1,c.2.2.1,c.2.2.2.1,c.2.2.2.2) else .inr (eQ acc,(),GN,q.1,q.2.1,q.2.2.1,q.2.2.2.1,q.2.2.2.2,(),0,c.1,c.2.1,c.2.2.1,c.2.2.2.1,c.2.2.2.2)):=by
 obtain ⟨h1,h2,h3⟩:=dB hc
 have ml:(cF c).length=c.2.2.2.2.toNat:=dY c _
 have key:=wT (rd:=lz N p ((i:Int),eQ acc,u,GN,q)) ((cF c).map fun x=>if x∈acc then (9:Int) else 0) (fun k=>((k:Int),eQ acc,(),GN,q.1,q.2.1,q.2.2.1,q.2.2.2.1,q.2.2.2.2,(),0,c.1,c.2.1,c.2.2.1,c.2.2.2.1,c.2.2.2.2))
  (.inr (eQ acc,(),GN,q.1,q.2.1,q.2.2.1,q.2.2.2.1,q.2.2.2.2,(),0,c.1,c.2.1,c.2.2.1,c.2.2.2.1,c.2.2.2.2)) (fun x=>.inl (eQ acc,(),GN,q.1,q.2.1,q.2.2.1,q.2.2.2.1,q.2.2.2.2,(),x,c.1,c.2.1,c.2.2.1,c.2.2.2.1,c.2.2.2.2)) (fun _=>True) (fun k hk _=>by
  refine ⟨?_,fun _=>trivial⟩
  rw [List.length_map,ml] at hk
  have bP:decide ((k:Int) < c.2.2.2.2)=true:=decide_eq_true (by omega)
  have t1:=dW N c k h1 (by omega)
  have t2:=dW N c (k+1) h1 (by omega)
  have q1:=eD c hc k (by omega)
  have q2:=eD c hc (k+1) (by omega)
  have eb:fy c k=iL (aN c k) (aN c (k+1)):=rfl
  have el:((cF c).map fun x=>if x∈acc then (9:Int) else 0)[k]'(by rw [List.length_map,ml]; exact hk)=if fy c k∈acc then (9:Int) else 0:=by simp [cF,cC]
  rw [el]
  simp only [lz,Int.toNat_natCast,a,bP,cond_true,t1,bk (show k < 9223372036854775807 by omega),t2,Option.bind_some,beq_self_eq_true,Bool.and_self]
  unfold iL at eb
  have kk:=fI.keys (fy c k) (eQ acc)
  have kg:=fI.getD (fy c k) false (eQ acc)
  rw [KG] at kg
  generalize aN c k=x at *
  generalize aN c (k+1)=y at *
  by_cases xz:x.2 > y.2
  ·rw [if_pos xz] at eb
   have w:IntKind.wrap .i64 (x.1 - y.1)=x.1 - y.1:=iH ⟨by omega,by omega⟩
   generalize fy c k=bb at *
   subst eb
   simp only [xz,decide_true,cond_true,fI.cells,fI.aV,gM,gN,Bool.and_self,Bool.and_true,Option.bind_some,w,kk,kg]
   by_cases hm:(y.1,y.2,x.1 - y.1)∈acc
   ·simp only [hm,decide_true,if_true]; rfl
   ·simp only [hm,decide_false,if_false]; rfl
  ·rw [if_neg xz] at eb
   have w:IntKind.wrap .i64 (y.1 - x.1)=y.1 - x.1:=iH ⟨by omega,by omega⟩
   generalize fy c k=bb at *
   subst eb
   simp only [xz,decide_false,cond_true,cond_false,fI.cells,fI.aV,gM,gN,Bool.and_self,Bool.and_true,Option.bind_some,w,kk,kg]
   by_cases hm:(x.1,x.2,y.1 - x.1)∈acc
   ·simp only [hm,decide_true,if_true]; rfl
   ·simp only [hm,decide_false,if_false]; rfl) (fun _=>by
  rw [List.length_map,ml]
  have lM:decide (((c.2.2.2.2.toNat:Nat):Int) < c.2.2.2.2)=false:=decide_eq_false (by omega)
  simp only [lz,Int.toNat_natCast,a,lM,cond_false,fI.cells,fI.aV,gM,gN,Bool.and_self,Bool.and_true,cond_true,Option.bind_some]) N (by rw [List.length_map,ml]; unfold fC at hN; omega) trivial
 refine Eq.trans key (congrArg some ?_)
 rw [mw (fun x=>x∈acc) 9 (by decide) (cF c)]
 by_cases h:∃ b∈cF c,b∈acc
 ·rw [if_pos h,if_pos h]; rfl
 ·rw [if_neg h,if_neg h]; rfl
theorem Pg (p:List dh) (i:Nat) (c:dh) (a:d90 (ah (List.map bV p) i)=c) (acc:List dL) (v1:Int × (List (dL × Bool)) × Unit × Int × dh) (hv:v1.1=(i:Int)) (GN:Int) (q:dh) (e0:Int) (hc:cm c=0) (hn:∀ b∈cF c,b∉acc) :
  az (jX N p v1) N (0,eQ acc,(),GN,q.1,q.2.1,q.2.2.1,q.2.2.2.1,q.2.2.2.2,(),e0,c.1,c.2.1,c.2.2.1,c.2.2.2.1,c.2.2.2.2,c.1,c.2.1,c.2.2.1,c.2.2.2.1,c.2.2.2.2) =
   some (eQ (acc++cF c),(),GN,q.1,q.2.1,q.2.2.1,q.2.2.2.1,q.2.2.2.2,(),e0,c.1,c.2.1,c.2.2.1,c.2.2.2.1,c.2.2.2.2,c.1,c.2.1,c.2.2.1,c.2.2.2.1,c.2.2.2.2):=by
 obtain ⟨h1,h2,h3⟩:=dB hc
 have key:=bF (rd:=jX N p v1) c.2.2.2.2.toNat (fun k=>((k:Int),eQ (acc++cC c k),(),GN,q.1,q.2.1,q.2.2.1,q.2.2.2.1,q.2.2.2.2,(),e0,c.1,c.2.1,c.2.2.1,c.2.2.2.1,c.2.2.2.2,c.1,c.2.1,c.2.2.1,c.2.2.2.1,c.2.2.2.2))
  (eQ (acc++cF c),(),GN,q.1,q.2.1,q.2.2.1,q.2.2.2.1,q.2.2.2.2,(),e0,c.1,c.2.1,c.2.2.1,c.2.2.2.1,c.2.2.2.2,c.1,c.2.1,c.2.2.1,c.2.2.2.1,c.2.2.2.2) (fun k hk=>by
  have bP:decide ((k:Int) < c.2.2.2.2)=true:=decide_eq_true (by omega)
  have t1:=dW N c k h1 (by omega)
  have t2:=dW N c (k+1) h1 (by omega)
  have q1:=eD c hc k (by omega)
  have q2:=eD c hc (k+1) (by omega)
  have eb:fy c k=iL (aN c k) (aN c (k+1)):=rfl
  have mT:fy c k∉acc++cC c k:=by
   intro h
   rcases List.mem_append.1 h with h | h
   ·exact hn (fy c k) (List.mem_map.2 ⟨k,List.mem_range.2 hk,rfl⟩) h
   ·exact B5 c k h
  have es:acc++cC c (k+1)=(acc++cC c k)++[fy c k]:=by rw [jY,List.append_assoc]
  have kk:=fI.keys (fy c k) (eQ (acc++cC c k))
  have kp:=fI.put (fy c k) true (eQ (acc++cC c k))
  rw [KH _ _ mT,← es] at kp
  simp only [jX,hv,Int.toNat_natCast,a,bP,cond_true,t1,bk (show k < 9223372036854775807 by omega),t2,Option.bind_some,beq_self_eq_true,Bool.and_self]
  clear mT
  unfold iL at eb
  generalize eQ (acc++cC c (k+1))=S' at *
  generalize eQ (acc++cC c k)=S at *
  clear es
  generalize aN c k=x at *
  generalize aN c (k+1)=y at *
  by_cases xz:x.2 > y.2
  ·rw [if_pos xz] at eb
   have w:IntKind.wrap .i64 (x.1 - y.1)=x.1 - y.1:=iH ⟨by omega,by omega⟩
   generalize fy c k=bb at *
   subst eb
   simp only [xz,decide_true,cond_true,fI.cells,fI.aV,gM,gN,Bool.and_self,Option.bind_some,w,kk,kp]
  ·rw [if_neg xz] at eb
   have w:IntKind.wrap .i64 (y.1 - x.1)=y.1 - x.1:=iH ⟨by omega,by omega⟩
   generalize fy c k=bb at *
   subst eb
   simp only [xz,decide_false,cond_true,cond_false,fI.cells,fI.aV,gM,gN,Bool.and_self,Option.bind_some,w,kk,kp]) (by
  have lM:decide (((c.2.2.2.2.toNat:Nat):Int) < c.2.2.2.2)=false:=decide_eq_false (by omega)
  simp only [jX,hv,Int.toNat_natCast,a,lM,cond_false,fI.cells,fI.aV,gM,gN,Bool.and_self,cond_true,Option.bind_some]
  rfl) N 0 (Nat.zero_le _) (by unfold fC at hN; omega)
 have e0':acc++cC c 0=acc:=by simp [cC]
 rw [e0'] at key
 exact key
end
end Go.Proofs.YtldcljfjjoidhaaGreatDoor
