/- Plain laws: the program's check of a program. -/
import Derived.Test.YtldcljfjjoidhaaGreatDoorBraPh
import Derived.Test.YtldcljfjjoidhaaGreatDoorAmKL
set_option linter.all false
namespace Go.Proofs.YtldcljfjjoidhaaGreatDoor
open Go Go.Am Go.Sort
open List (map)
open Int (toNat)
open Go.IntKind (wrap)
open Go.Am.aT (fits)
set_option maxRecDepth 100000
abbrev ekB:EK:=.st (.cons 0 1 false .int (.cons 1 1 false .int (.cons 2 1 false .int .nil)))
abbrev ZS (b:dM):AV:=.agg [.int .i64 b.1,.int .i64 b.2.1,.int .i64 b.2.2]
theorem Rf (a b:dM):DJ ekB (ZS a) (ZS b)=some (decide (a=b)):=by
 obtain ⟨a1,a2,a3⟩:=a
 obtain ⟨b1,b2,b3⟩:=b
 have e:kS ekB (ZS (a1,a2,a3)) (ZS (b1,b2,b3))=some ((a1 == b1)&&((a2 == b2)&&((a3 == b3)&&true))):=rfl
 unfold DJ
 rw [e]
 by_cases h1:a1=b1 <;> by_cases h2:a2=b2 <;> by_cases h3:a3=b3
 ·subst h1; subst h2; subst h3
  simp [EK.wide,kX,lW,nY]
 all_goals simp [h1,h2,h3]
theorem gA:gz ekB ZS AV.bool aZ where
 key:=Rf
 pair:=fun _=>rfl
 exact:=fun _=>rfl
def fD (l:List dM):List (dM × Bool):=l.map fun b=>(b,true)
theorem Mo (l:List dM) (b:dM):(getM b (fD l)).getD false=decide (b∈l):=by
 unfold fD
 rw [zS]
 by_cases h:b∈l <;> simp [h]
theorem Mp (l:List dM) (b:dM) (h:b∉l):oW b true (fD l)=fD (l++[b]):=by
 have:getM b (fD l)=none:=by unfold fD; rw [zS,if_neg h]
 rw [Dg this]
 unfold fD
 rw [List.map_append]
 rfl
theorem Aa (a b:Int × Int):min (fP a b).1 ((fP a b).1+(fP a b).2.2)=min a.1 b.1:=by
 unfold fP
 split <;> (simp only; omega)
theorem Mq (c:bD) (i j:Nat) (h:eQ c i=eQ c j):i=j:=by
 have h1:=Aa (aK c i) (aK c (i+1))
 have h2:=Aa (aK c j) (aK c (j+1))
 unfold eQ at h
 rw [h,h2] at h1
 unfold aK sg at h1
 simp only at h1
 cases hr:c.2.2.1
 ·simp only [hr,Bool.false_eq_true,if_false] at h1; omega
 ·simp only [hr,if_true] at h1; omega
theorem Dy (c:bD) (k:Nat):eQ c k∉cN c k:=by
 intro h
 obtain ⟨j,hj,e⟩:=List.mem_map.1 h
 have:=Mq c j k e
 have:=List.mem_range.1 hj
 omega
section
variable {N:Nat} (hN:fB N)
include hN
theorem Mr (p:List bD) (i:Nat) (c:bD) (a:aq (af (map ai p) i)=c) (acc:List dM) (u:Unit) (Iz:Int) (q:bD) (hc:bX c=0) (ha:acc.length≤1000000000) :
  aG (mu N p ((i:Int),fD acc,u,Iz,q)) N (0,fD acc,(),Iz,q.1,q.2.1,q.2.2.1,q.2.2.2.1,q.2.2.2.2,(),0,c.1,c.2.1,c.2.2.1,c.2.2.2.1,c.2.2.2.2) =
   some (if ∃ b∈cp c,b∈acc then .inl (fD acc,(),Iz,q.1,q.2.1,q.2.2.1,q.2.2.2.1,q.2.2.2.2,(),9,c.1,c.2.1,c.2.2.1,c.2.2.2.1,c.2.2.2.2) else .inr (fD acc,(),Iz,q.1,q.2.1,q.2.2.1,q.2.2.2.1,q.2.2.2.2,(),0,c.1,c.2.1,c.2.2.1,c.2.2.2.1,c.2.2.2.2)):=by
 obtain ⟨h1,h2,h3⟩:=cB hc
 have ml:(cp c).length=c.2.2.2.2.toNat:=dQ c _
 have key:=yf (rd:=mu N p ((i:Int),fD acc,u,Iz,q)) ((cp c).map fun x=>if x∈acc then (9:Int) else 0) (fun k=>((k:Int),fD acc,(),Iz,q.1,q.2.1,q.2.2.1,q.2.2.2.1,q.2.2.2.2,(),0,c.1,c.2.1,c.2.2.1,c.2.2.2.1,c.2.2.2.2))
  (.inr (fD acc,(),Iz,q.1,q.2.1,q.2.2.1,q.2.2.2.1,q.2.2.2.2,(),0,c.1,c.2.1,c.2.2.1,c.2.2.2.1,c.2.2.2.2)) (fun x=>.inl (fD acc,(),Iz,q.1,q.2.1,q.2.2.1,q.2.2.2.1,q.2.2.2.2,(),x,c.1,c.2.1,c.2.2.1,c.2.2.2.1,c.2.2.2.2)) (fun _=>True) (fun k hk _=>by
  refine ⟨?_,fun _=>trivial⟩
  rw [List.length_map,ml] at hk
  have bV:decide ((k:Int) < c.2.2.2.2)=true:=decide_eq_true (by omega)
  have t1:=eM N c k h1 (by omega)
  have t2:=eM N c (k+1) h1 (by omega)
  have q1:=fg c hc k (by omega)
  have q2:=fg c hc (k+1) (by omega)
  have eb:eQ c k=fP (aK c k) (aK c (k+1)):=rfl
  have el:((cp c).map fun x=>if x∈acc then (9:Int) else 0)[k]'(by rw [List.length_map,ml]; exact hk)=if eQ c k∈acc then (9:Int) else 0:=by simp [cp,cN]
  rw [el]
  simp only [mu,Int.toNat_natCast,a,bV,cond_true,t1,bA (show k < 9223372036854775807 by omega),t2,Option.bind_some,beq_self_eq_true,Bool.and_self]
  unfold fP at eb
  have kk:=gA.keys (eQ c k) (fD acc)
  have kg:=gA.getD (eQ c k) false (fD acc)
  rw [Mo] at kg
  generalize aK c k=x at *
  generalize aK c (k+1)=y at *
  by_cases yW:x.2 > y.2
  ·rw [if_pos yW] at eb
   have w:wrap .i64 (x.1 - y.1)=x.1 - y.1:=iE ⟨by omega,by omega⟩
   generalize eQ c k=bb at *
   subst eb
   simp only [yW,decide_true,cond_true,gA.cells,gA.a7,iF,iG,Bool.and_self,Bool.and_true,Option.bind_some,w,kk,kg]
   by_cases hm:(y.1,y.2,x.1 - y.1)∈acc
   ·simp only [hm,decide_true,if_true]; rfl
   ·simp only [hm,decide_false,if_false]; rfl
  ·rw [if_neg yW] at eb
   have w:wrap .i64 (y.1 - x.1)=y.1 - x.1:=iE ⟨by omega,by omega⟩
   generalize eQ c k=bb at *
   subst eb
   simp only [yW,decide_false,cond_true,cond_false,gA.cells,gA.a7,iF,iG,Bool.and_self,Bool.and_true,Option.bind_some,w,kk,kg]
   by_cases hm:(x.1,x.2,y.1 - x.1)∈acc
   ·simp only [hm,decide_true,if_true]; rfl
   ·simp only [hm,decide_false,if_false]; rfl) (fun _=>by
  rw [List.length_map,ml]
  have mF:decide (((c.2.2.2.2.toNat:Nat):Int) < c.2.2.2.2)=false:=decide_eq_false (by omega)
  simp only [mu,Int.toNat_natCast,a,mF,cond_false,gA.cells,gA.a7,iF,iG,Bool.and_self,Bool.and_true,cond_true,Option.bind_some]) N (by rw [List.length_map,ml]; unfold fB at hN; omega) trivial
 refine Eq.trans key (congrArg some ?_)
 rw [nD (fun x=>x∈acc) 9 (by decide) (cp c)]
 by_cases h:∃ b∈cp c,b∈acc
 ·rw [if_pos h,if_pos h]; rfl
 ·rw [if_neg h,if_neg h]; rfl
theorem Rg (p:List bD) (i:Nat) (c:bD) (a:aq (af (map ai p) i)=c) (acc:List dM) (v1:Int × (List (dM × Bool)) × Unit × Int × bD) (hv:v1.1=(i:Int)) (Iz:Int) (q:bD) (e0:Int) (hc:bX c=0) (hn:∀ b∈cp c,b∉acc) :
  aG (kJ N p v1) N (0,fD acc,(),Iz,q.1,q.2.1,q.2.2.1,q.2.2.2.1,q.2.2.2.2,(),e0,c.1,c.2.1,c.2.2.1,c.2.2.2.1,c.2.2.2.2,c.1,c.2.1,c.2.2.1,c.2.2.2.1,c.2.2.2.2) =
   some (fD (acc++cp c),(),Iz,q.1,q.2.1,q.2.2.1,q.2.2.2.1,q.2.2.2.2,(),e0,c.1,c.2.1,c.2.2.1,c.2.2.2.1,c.2.2.2.2,c.1,c.2.1,c.2.2.1,c.2.2.2.1,c.2.2.2.2):=by
 obtain ⟨h1,h2,h3⟩:=cB hc
 have key:=bK (rd:=kJ N p v1) c.2.2.2.2.toNat (fun k=>((k:Int),fD (acc++cN c k),(),Iz,q.1,q.2.1,q.2.2.1,q.2.2.2.1,q.2.2.2.2,(),e0,c.1,c.2.1,c.2.2.1,c.2.2.2.1,c.2.2.2.2,c.1,c.2.1,c.2.2.1,c.2.2.2.1,c.2.2.2.2))
  (fD (acc++cp c),(),Iz,q.1,q.2.1,q.2.2.1,q.2.2.2.1,q.2.2.2.2,(),e0,c.1,c.2.1,c.2.2.1,c.2.2.2.1,c.2.2.2.2,c.1,c.2.1,c.2.2.1,c.2.2.2.1,c.2.2.2.2) (fun k hk=>by
  have bV:decide ((k:Int) < c.2.2.2.2)=true:=decide_eq_true (by omega)
  have t1:=eM N c k h1 (by omega)
  have t2:=eM N c (k+1) h1 (by omega)
  have q1:=fg c hc k (by omega)
  have q2:=fg c hc (k+1) (by omega)
  have eb:eQ c k=fP (aK c k) (aK c (k+1)):=rfl
  have ol:eQ c k∉acc++cN c k:=by
   intro h
   rcases List.mem_append.1 h with h | h
   ·exact hn (eQ c k) (List.mem_map.2 ⟨k,List.mem_range.2 hk,rfl⟩) h
   ·exact Dy c k h
  have es:acc++cN c (k+1)=(acc++cN c k)++[eQ c k]:=by rw [kK,List.append_assoc]
  have kk:=gA.keys (eQ c k) (fD (acc++cN c k))
  have kp:=gA.put (eQ c k) true (fD (acc++cN c k))
  rw [Mp _ _ ol,← es] at kp
  simp only [kJ,hv,Int.toNat_natCast,a,bV,cond_true,t1,bA (show k < 9223372036854775807 by omega),t2,Option.bind_some,beq_self_eq_true,Bool.and_self]
  clear ol
  unfold fP at eb
  generalize fD (acc++cN c (k+1))=S' at *
  generalize fD (acc++cN c k)=S at *
  clear es
  generalize aK c k=x at *
  generalize aK c (k+1)=y at *
  by_cases yW:x.2 > y.2
  ·rw [if_pos yW] at eb
   have w:wrap .i64 (x.1 - y.1)=x.1 - y.1:=iE ⟨by omega,by omega⟩
   generalize eQ c k=bb at *
   subst eb
   simp only [yW,decide_true,cond_true,gA.cells,gA.a7,iF,iG,Bool.and_self,Option.bind_some,w,kk,kp]
  ·rw [if_neg yW] at eb
   have w:wrap .i64 (y.1 - x.1)=y.1 - x.1:=iE ⟨by omega,by omega⟩
   generalize eQ c k=bb at *
   subst eb
   simp only [yW,decide_false,cond_true,cond_false,gA.cells,gA.a7,iF,iG,Bool.and_self,Option.bind_some,w,kk,kp]) (by
  have mF:decide (((c.2.2.2.2.toNat:Nat):Int) < c.2.2.2.2)=false:=decide_eq_false (by omega)
  simp only [kJ,hv,Int.toNat_natCast,a,mF,cond_false,gA.cells,gA.a7,iF,iG,Bool.and_self,cond_true,Option.bind_some]
  rfl) N 0 (Nat.zero_le _) (by unfold fB at hN; omega)
 have e0':acc++cN c 0=acc:=by simp [cN]
 rw [e0'] at key
 exact key
end
end Go.Proofs.YtldcljfjjoidhaaGreatDoor
