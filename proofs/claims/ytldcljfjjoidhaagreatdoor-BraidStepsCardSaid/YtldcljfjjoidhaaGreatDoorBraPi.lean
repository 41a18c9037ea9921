/- Plain laws: the program's check of a program. -/
import Derived.Test.YtldcljfjjoidhaaGreatDoorBraPh
import Derived.Test.YtldcljfjjoidhaaGreatDoorAmKL
set_option linter.all false
namespace Go.Proofs.YtldcljfjjoidhaaGreatDoor
open Go Go.Am Go.Sort
set_option maxRecDepth 100000
abbrev ekB:EK:=.st (.cons 0 1 false .int (.cons 1 1 false .int (.cons 2 1 false .int .nil)))
abbrev XB (b:dR):AV:=.agg [.int .i64 b.1,.int .i64 b.2.1,.int .i64 b.2.2]
theorem PA (a b:dR):Cp ekB (XB a) (XB b)=some (decide (a=b)):=by
 obtain ⟨a1,a2,a3⟩:=a
 obtain ⟨b1,b2,b3⟩:=b
 have e:km ekB (XB (a1,a2,a3)) (XB (b1,b2,b3))=some ((a1 == b1)&&((a2 == b2)&&((a3 == b3)&&true))):=rfl
 unfold Cp
 rw [e]
 by_cases h1:a1=b1 <;> by_cases h2:a2=b2 <;> by_cases h3:a3=b3
 ·subst h1; subst h2; subst h3
  simp [EK.wide,ku,li,mU]
 all_goals simp [h1,h2,h3]
theorem fL:fK ekB XB AV.bool aS where
 key:=PA
 pair:=fun _=>rfl
 exact:=fun _=>rfl
def eV (l:List dR):List (dR × Bool):=l.map fun b=>(b,true)
theorem KM (l:List dR) (b:dR):(getM b (eV l)).getD false=decide (b∈l):=by
 unfold eV
 rw [yL]
 by_cases h:b∈l <;> simp [h]
theorem KN (l:List dR) (b:dR) (h:b∉l):nT b true (eV l)=eV (l++[b]):=by
 have:getM b (eV l)=none:=by unfold eV; rw [yL,if_neg h]
 rw [B8 this]
 unfold eV
 rw [List.map_append]
 rfl
theorem yY (a b:Int × Int):min (iQ a b).1 ((iQ a b).1+(iQ a b).2.2)=min a.1 b.1:=by
 unfold iQ
 split <;> (simp only; omega)
theorem KO (c:da) (i j:Nat) (h:eU c i=eU c j):i=j:=by
 have h1:=yY (ax c i) (ax c (i+1))
 have h2:=yY (ax c j) (ax c (j+1))
 unfold eU at h
 rw [h,h2] at h1
 unfold ax sg at h1
 simp only at h1
 cases hr:c.2.2.1
 ·simp only [hr,Bool.false_eq_true,if_false] at h1; omega
 ·simp only [hr,if_true] at h1; omega
theorem Cj (c:da) (k:Nat):eU c k∉cC c k:=by
 intro h
 obtain ⟨j,hj,e⟩:=List.mem_map.1 h
 have:=KO c j k e
 have:=List.mem_range.1 hj
 omega
section
variable {N:Nat} (hN:fq N)
include hN
theorem KP (p:List da) (i:Nat) (c:da) (a:d90 (ah (List.map bZ p) i)=c) (acc:List dR) (u:Unit) (G4:Int) (q:da) (hc:cr c=0) (ha:acc.length≤1000000000) :
  az (lI N p ((i:Int),eV acc,u,G4,q)) N (0,eV acc,(),G4,q.1,q.2.1,q.2.2.1,q.2.2.2.1,q.2.2.2.2,(),0,c.1,c.2.1,c.2.2.1,c.2.2.2.1,c.2.2.2.2) =
   some (if ∃ b∈cj c,b∈acc then .inl (eV acc,(),G4,q.1,q.2.1,q.2.2.1,q.2.2.2.1,q.2.2.2.2,(),9,c.1,c.2.1,c.2.2.1,c.2.2.2.1,c.2.2.2.2) else .inr (eV acc,(),G4,q.1,q.2.1,q.2.2.1,q.2.2.2.1,q.2.2.2.2,(),0,c.1,c.2.1,c.2.2.1,c.2.2.2.1,c.2.2.2.2)):=by
 obtain ⟨h1,h2,h3⟩:=cZ hc
 have ml:(cj c).length=c.2.2.2.2.toNat:=dz c _
 have key:=xf (rd:=lI N p ((i:Int),eV acc,u,G4,q)) ((cj c).map fun x=>if x∈acc then (9:Int) else 0) (fun k=>((k:Int),eV acc,(),G4,q.1,q.2.1,q.2.2.1,q.2.2.2.1,q.2.2.2.2,(),0,c.1,c.2.1,c.2.2.1,c.2.2.2.1,c.2.2.2.2))
  (.inr (eV acc,(),G4,q.1,q.2.1,q.2.2.1,q.2.2.2.1,q.2.2.2.2,(),0,c.1,c.2.1,c.2.2.1,c.2.2.2.1,c.2.2.2.2)) (fun x=>.inl (eV acc,(),G4,q.1,q.2.1,q.2.2.1,q.2.2.2.1,q.2.2.2.2,(),x,c.1,c.2.1,c.2.2.1,c.2.2.2.1,c.2.2.2.2)) (fun _=>True) (fun k hk _=>by
  refine ⟨?_,fun _=>trivial⟩
  rw [List.length_map,ml] at hk
  have bM:decide ((k:Int) < c.2.2.2.2)=true:=decide_eq_true (by omega)
  have t1:=dJ N c k h1 (by omega)
  have t2:=dJ N c (k+1) h1 (by omega)
  have q1:=eI c hc k (by omega)
  have q2:=eI c hc (k+1) (by omega)
  have eb:eU c k=iQ (ax c k) (ax c (k+1)):=rfl
  have el:((cj c).map fun x=>if x∈acc then (9:Int) else 0)[k]'(by rw [List.length_map,ml]; exact hk)=if eU c k∈acc then (9:Int) else 0:=by simp [cj,cC]
  rw [el]
  simp only [lI,Int.toNat_natCast,a,bM,cond_true,t1,bk (show k < 9223372036854775807 by omega),t2,Option.bind_some,beq_self_eq_true,Bool.and_self]
  unfold iQ at eb
  have kk:=fL.keys (eU c k) (eV acc)
  have kg:=fL.getD (eU c k) false (eV acc)
  rw [KM] at kg
  generalize ax c k=x at *
  generalize ax c (k+1)=y at *
  by_cases xL:x.2 > y.2
  ·rw [if_pos xL] at eb
   have w:IntKind.wrap .i64 (x.1 - y.1)=x.1 - y.1:=gY ⟨by omega,by omega⟩
   generalize eU c k=bb at *
   subst eb
   simp only [xL,decide_true,cond_true,fL.cells,fL.aV,gP,gQ,Bool.and_self,Bool.and_true,Option.bind_some,w,kk,kg]
   by_cases hm:(y.1,y.2,x.1 - y.1)∈acc
   ·simp only [hm,decide_true,if_true]; rfl
   ·simp only [hm,decide_false,if_false]; rfl
  ·rw [if_neg xL] at eb
   have w:IntKind.wrap .i64 (y.1 - x.1)=y.1 - x.1:=gY ⟨by omega,by omega⟩
   generalize eU c k=bb at *
   subst eb
   simp only [xL,decide_false,cond_true,cond_false,fL.cells,fL.aV,gP,gQ,Bool.and_self,Bool.and_true,Option.bind_some,w,kk,kg]
   by_cases hm:(x.1,x.2,y.1 - x.1)∈acc
   ·simp only [hm,decide_true,if_true]; rfl
   ·simp only [hm,decide_false,if_false]; rfl) (fun _=>by
  rw [List.length_map,ml]
  have kN:decide (((c.2.2.2.2.toNat:Nat):Int) < c.2.2.2.2)=false:=decide_eq_false (by omega)
  simp only [lI,Int.toNat_natCast,a,kN,cond_false,fL.cells,fL.aV,gP,gQ,Bool.and_self,Bool.and_true,cond_true,Option.bind_some]) N (by rw [List.length_map,ml]; unfold fq at hN; omega) trivial
 refine Eq.trans key (congrArg some ?_)
 rw [mG (fun x=>x∈acc) 9 (by decide) (cj c)]
 by_cases h:∃ b∈cj c,b∈acc
 ·rw [if_pos h,if_pos h]; rfl
 ·rw [if_neg h,if_neg h]; rfl
theorem PB (p:List da) (i:Nat) (c:da) (a:d90 (ah (List.map bZ p) i)=c) (acc:List dR) (v1:Int × (List (dR × Bool)) × Unit × Int × da) (hv:v1.1=(i:Int)) (G4:Int) (q:da) (e0:Int) (hc:cr c=0) (hn:∀ b∈cj c,b∉acc) :
  az (j9 N p v1) N (0,eV acc,(),G4,q.1,q.2.1,q.2.2.1,q.2.2.2.1,q.2.2.2.2,(),e0,c.1,c.2.1,c.2.2.1,c.2.2.2.1,c.2.2.2.2,c.1,c.2.1,c.2.2.1,c.2.2.2.1,c.2.2.2.2) =
   some (eV (acc++cj c),(),G4,q.1,q.2.1,q.2.2.1,q.2.2.2.1,q.2.2.2.2,(),e0,c.1,c.2.1,c.2.2.1,c.2.2.2.1,c.2.2.2.2,c.1,c.2.1,c.2.2.1,c.2.2.2.1,c.2.2.2.2):=by
 obtain ⟨h1,h2,h3⟩:=cZ hc
 have key:=bH (rd:=j9 N p v1) c.2.2.2.2.toNat (fun k=>((k:Int),eV (acc++cC c k),(),G4,q.1,q.2.1,q.2.2.1,q.2.2.2.1,q.2.2.2.2,(),e0,c.1,c.2.1,c.2.2.1,c.2.2.2.1,c.2.2.2.2,c.1,c.2.1,c.2.2.1,c.2.2.2.1,c.2.2.2.2))
  (eV (acc++cj c),(),G4,q.1,q.2.1,q.2.2.1,q.2.2.2.1,q.2.2.2.2,(),e0,c.1,c.2.1,c.2.2.1,c.2.2.2.1,c.2.2.2.2,c.1,c.2.1,c.2.2.1,c.2.2.2.1,c.2.2.2.2) (fun k hk=>by
  have bM:decide ((k:Int) < c.2.2.2.2)=true:=decide_eq_true (by omega)
  have t1:=dJ N c k h1 (by omega)
  have t2:=dJ N c (k+1) h1 (by omega)
  have q1:=eI c hc k (by omega)
  have q2:=eI c hc (k+1) (by omega)
  have eb:eU c k=iQ (ax c k) (ax c (k+1)):=rfl
  have nh:eU c k∉acc++cC c k:=by
   intro h
   rcases List.mem_append.1 h with h | h
   ·exact hn (eU c k) (List.mem_map.2 ⟨k,List.mem_range.2 hk,rfl⟩) h
   ·exact Cj c k h
  have es:acc++cC c (k+1)=(acc++cC c k)++[eU c k]:=by rw [ka,List.append_assoc]
  have kk:=fL.keys (eU c k) (eV (acc++cC c k))
  have kp:=fL.put (eU c k) true (eV (acc++cC c k))
  rw [KN _ _ nh,← es] at kp
  simp only [j9,hv,Int.toNat_natCast,a,bM,cond_true,t1,bk (show k < 9223372036854775807 by omega),t2,Option.bind_some,beq_self_eq_true,Bool.and_self]
  clear nh
  unfold iQ at eb
  generalize eV (acc++cC c (k+1))=S' at *
  generalize eV (acc++cC c k)=S at *
  clear es
  generalize ax c k=x at *
  generalize ax c (k+1)=y at *
  by_cases xL:x.2 > y.2
  ·rw [if_pos xL] at eb
   have w:IntKind.wrap .i64 (x.1 - y.1)=x.1 - y.1:=gY ⟨by omega,by omega⟩
   generalize eU c k=bb at *
   subst eb
   simp only [xL,decide_true,cond_true,fL.cells,fL.aV,gP,gQ,Bool.and_self,Option.bind_some,w,kk,kp]
  ·rw [if_neg xL] at eb
   have w:IntKind.wrap .i64 (y.1 - x.1)=y.1 - x.1:=gY ⟨by omega,by omega⟩
   generalize eU c k=bb at *
   subst eb
   simp only [xL,decide_false,cond_true,cond_false,fL.cells,fL.aV,gP,gQ,Bool.and_self,Option.bind_some,w,kk,kp]) (by
  have kN:decide (((c.2.2.2.2.toNat:Nat):Int) < c.2.2.2.2)=false:=decide_eq_false (by omega)
  simp only [j9,hv,Int.toNat_natCast,a,kN,cond_false,fL.cells,fL.aV,gP,gQ,Bool.and_self,cond_true,Option.bind_some]
  rfl) N 0 (Nat.zero_le _) (by unfold fq at hN; omega)
 have e0':acc++cC c 0=acc:=by simp [cC]
 rw [e0'] at key
 exact key
end
end Go.Proofs.YtldcljfjjoidhaaGreatDoor
