/- Plain laws: the order and the net of a program. -/
import Derived.Test.YtldcljfjjoidhaaGreatDoorBraPe
set_option linter.all false
namespace Go.Proofs.YtldcljfjjoidhaaGreatDoor
open Go Go.Am Go.Sort
set_option maxRecDepth 100000
theorem q8 (l:List dR) (p:dR) (x y z:Int) (h:p=(x,y,z)):List.map n106 l++[AV.agg [AV.int .i64 x,AV.int .i64 y,AV.int .i64 z]]=List.map n106 (l++[p]):=by subst h; rw [List.map_append]; rfl
section
variable {N:Nat} (hN:fq N)
include hN
theorem Ee (l:List da) {k:Nat} (hk:k < l.length):d90 (ah (List.map bZ l) k)=l[k]∧aj.fits nV (ah (List.map bZ l) k)=true:=by
 rw [fV bZ l k hk]
 exact ⟨aaV _,aaU _⟩
theorem T9 (p:List da) (i:Nat) (hi:i < p.length) (acc:List dR) (u:Unit) (hc:cr p[i]=0) (ha:acc.length≤1000000000) :
  az (lL N p (u,(i:Int),acc)) N (0,acc,p[i].1,p[i].2.1,p[i].2.2.1,p[i].2.2.2.1,p[i].2.2.2.2,())=some (acc++cj p[i],p[i].1,p[i].2.1,p[i].2.2.1,p[i].2.2.2.1,p[i].2.2.2.2,()):=by
 have a:=Ee hN p hi
 generalize p[i]=c at *
 obtain ⟨h1,h2,h3⟩:=cZ hc
 have key:=bH (rd:=lL N p (u,(i:Int),acc)) c.2.2.2.2.toNat (fun k=>((k:Int),acc++cC c k,c.1,c.2.1,c.2.2.1,c.2.2.2.1,c.2.2.2.2,())) (acc++cj c,c.1,c.2.1,c.2.2.1,c.2.2.2.1,c.2.2.2.2,()) (fun k hk=>by
  have bM:decide ((k:Int) < c.2.2.2.2)=true:=decide_eq_true (by omega)
  have t1:=dJ N c k h1 (by omega)
  have t2:=dJ N c (k+1) h1 (by omega)
  have q1:=eI c hc k (by omega)
  have q2:=eI c hc (k+1) (by omega)
  have hl:(acc++cC c k).length=acc.length+k:=by rw [List.length_append,dz]
  have hb:decide ((acc.length+k+1) * 24≤140737488355328)=true:=decide_eq_true (by omega)
  have eb:eU c k=iQ (ax c k) (ax c (k+1)):=rfl
  have es:acc++cC c (k+1)=(acc++cC c k)++[eU c k]:=by rw [ka,List.append_assoc]
  rw [es]
  simp only [lL,Int.toNat_natCast,a.1,bM,cond_true,t1,bk (show k < 9223372036854775807 by omega),t2,Option.bind_some,beq_self_eq_true,Bool.and_self]
  unfold iQ at eb
  generalize ax c k=x at *
  generalize ax c (k+1)=y at *
  by_cases xL:x.2 > y.2
  ·rw [if_pos xL] at eb
   have w:IntKind.wrap .i64 (x.1 - y.1)=x.1 - y.1:=gY ⟨by omega,by omega⟩
   have sn:=q8 (acc++cC c k) (eU c k) y.1 y.2 (x.1 - y.1) eb
   simp only [xL,decide_true,cond_true,cM,cI,List.length_map,hl,Nat.beq_refl,Bool.and_self,Bool.and_true,Option.bind_some,w,hb,sn,List.length_append,List.length_singleton,dz]
  ·rw [if_neg xL] at eb
   have w:IntKind.wrap .i64 (y.1 - x.1)=y.1 - x.1:=gY ⟨by omega,by omega⟩
   have sn:=q8 (acc++cC c k) (eU c k) x.1 x.2 (y.1 - x.1) eb
   simp only [xL,decide_true,decide_false,cond_true,cond_false,cM,cI,List.length_map,hl,Nat.beq_refl,Bool.and_self,Bool.and_true,Option.bind_some,w,hb,sn,List.length_append,List.length_singleton,dz]) (by
  have kN:decide (((c.2.2.2.2.toNat:Nat):Int) < c.2.2.2.2)=false:=decide_eq_false (by omega)
  simp only [lL,Int.toNat_natCast,a.1,kN,cond_false,cM,cI,List.length_map,Nat.beq_refl,Bool.and_self,Bool.and_true,cond_true,Option.bind_some]
  rfl) N 0 (Nat.zero_le _) (by unfold fq at hN; omega)
 have e0:acc++cC c 0=acc:=by simp [cC]
 rw [e0] at key
 exact key
theorem Fx (p:List da) (h:∀ c∈p,cr c=0) (hp:p.length≤1000000):az (kd N p) N ((),0,[])=some ((),a6 p):=by
 refine bH (rd:=kd N p) p.length (fun k=>((),(k:Int),a6 (p.take k))) ((),a6 p) (fun k hk=>?_) ?_ N 0 (Nat.zero_le _) (by unfold fq at hN; omega)
 ·have a:=Ee hN p hk
  have e0:=h p[k] (List.getElem_mem hk)
  have hl:=lJ (p.take k) (fun c hc=>h c (List.mem_of_mem_take hc))
  rw [List.length_take,Nat.min_eq_left (Nat.le_of_lt hk)] at hl
  have b:=T9 hN p k hk (a6 (p.take k)) () e0 (by omega)
  rw [jB p hk]
  simp only [kd,List.length_map,bc hk,aI hk,Int.toNat_natCast,a.1,a.2,cM,cI,Nat.beq_refl,Bool.and_self,Bool.and_true,cond_true,Option.bind_some,b,bk (show k < 9223372036854775807 by omega)]
 ·simp only [kd,List.length_map,bq,cond_false,cM,cI,Nat.beq_refl,Bool.and_self,Bool.and_true,cond_true,Option.bind_some,List.take_length]
theorem yX (l:List dR):aB (List.map n106 l)=true:=by
 induction l with
 | nil=>rfl
 | cons x l ih=>exact ih
theorem Pv (p:List da) (y:Int) (hy:Lq N p=some y) (h:y=0→∀ c∈p,cr c=0) (hp:p.length≤1000000):YD N p=some (if y=0 then (a6 p,0) else ([],y)):=by
 have z:((bif (allFit (aj.fits nV) (List.map bZ p)&&true) then some (List.map d90 (List.map bZ p)) else none:Option ((List (Int × Int × Bool × Bool × Int)))))=some p:=by simp only [Ap,Aq,Bool.and_true,cond_true]
 rw [T2,z,Option.bind_some,hy,Option.bind_some,GY]
 by_cases h0:y=0
 ·rw [if_pos h0,if_pos h0]
  have key:az (wZ N p) N ((),0,[])=_:=Fx hN p (h h0) hp
  have z2:((bif ((Nat.beq 0 (([]:List AV)).length&&Nat.beq 0 (([]:List AV)).length)&&(allFit (aj.fits aP) ([]:List AV)&&true)) then some ((),0,(List.map d106 ([]:List AV))) else none:Option (Unit × Int × (List (Int × Int × Int)))).bind fun KG=>some KG)=some ((),0,[]):=rfl
  rw [z2,Option.bind_some,key,Option.bind_some]
  simp only [decide_true,yX hN,cM,cI,Bool.and_self,cond_true]
 ·rw [if_neg h0,if_neg h0]
  rfl
theorem Fy (p:List da) (h:∀ c∈p,cr c=0) (hp:p.length≤1000000):Xw N p=some ((a6 p).mergeSort fun x y=>!(ltOf jC) y x):=by
 have z2:((bif ((Nat.beq 0 (([]:List AV)).length&&Nat.beq 0 (([]:List AV)).length)&&(allFit (aj.fits aP) ([]:List AV)&&true)) then some ((),0,(List.map d106 ([]:List AV))) else none:Option (Unit × Int × (List (Int × Int × Int)))).bind fun KG=>some KG)=some ((),0,[]):=rfl
 have hl:=lJ p h
 have es:fH aP jC (List.map n106 (a6 p))=List.map n106 ((a6 p).mergeSort fun x y=>!(ltOf jC) y x):=by
  unfold fH
  rw [show List.map aP.bn (List.map n106 (a6 p))=a6 p from cI _]
  rfl
 have hb:decide ((a6 p).length≤140737488355328)=true:=decide_eq_true (by omega)
 rw [TX,z2,Option.bind_some,Fx hN p h hp,Option.bind_some]
 simp only [es,List.length_map,List.length_mergeSort,decide_true,hb,yX hN,cM,cI,Bool.and_self,cond_true]
theorem Pw (p:List da) (y:Int) (hy:Lq N p=some y) (h:y=0→∀ c∈p,cr c=0) (hp:p.length≤1000000):YC N p=some (if y=0 then ((a6 p).mergeSort fun x y=>!(ltOf jC) y x,0) else ([],y)):=by
 have z:((bif (allFit (aj.fits nV) (List.map bZ p)&&true) then some (List.map d90 (List.map bZ p)) else none:Option ((List (Int × Int × Bool × Bool × Int)))))=some p:=by simp only [Ap,Aq,Bool.and_true,cond_true]
 rw [T0,z,Option.bind_some,hy,Option.bind_some,GY]
 by_cases h0:y=0
 ·rw [if_pos h0,if_pos h0,Option.bind_some,Fy hN p (h h0) hp,Option.bind_some]
  simp only [cM,cI,Bool.and_self,cond_true]
 ·rw [if_neg h0,if_neg h0]
  rfl
end
end Go.Proofs.YtldcljfjjoidhaaGreatDoor
