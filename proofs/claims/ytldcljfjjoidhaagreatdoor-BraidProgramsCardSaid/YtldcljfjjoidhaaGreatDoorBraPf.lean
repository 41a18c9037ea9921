/- Plain laws: the order and the net of a program. -/
import Derived.Test.YtldcljfjjoidhaaGreatDoorBraPe
set_option linter.all false
namespace Go.Proofs.YtldcljfjjoidhaaGreatDoor
open Go Go.Am Go.Sort
set_option maxRecDepth 100000
theorem qY (l:List dL) (p:dL) (x y z:Int) (h:p=(x,y,z)):List.map n106 l++[AV.agg [AV.int .i64 x,AV.int .i64 y,AV.int .i64 z]]=List.map n106 (l++[p]):=by subst h; rw [List.map_append]; rfl
section
variable {N:Nat} (hN:fC N)
include hN
theorem D6 (l:List dh) {k:Nat} (hk:k < l.length):d90 (ah (List.map bV l) k)=l[k]∧aj.fits mI (ah (List.map bV l) k)=true:=by
 rw [fS bV l k hk]
 exact ⟨aax _,aaw _⟩
theorem TO (p:List dh) (i:Nat) (hi:i < p.length) (acc:List dL) (u:Unit) (hc:cm p[i]=0) (ha:acc.length≤1000000000) :
  az (lD N p (u,(i:Int),acc)) N (0,acc,p[i].1,p[i].2.1,p[i].2.2.1,p[i].2.2.2.1,p[i].2.2.2.2,())=some (acc++cF p[i],p[i].1,p[i].2.1,p[i].2.2.1,p[i].2.2.2.1,p[i].2.2.2.2,()):=by
 have a:=D6 hN p hi
 generalize p[i]=c at *
 obtain ⟨h1,h2,h3⟩:=dB hc
 have key:=bF (rd:=lD N p (u,(i:Int),acc)) c.2.2.2.2.toNat (fun k=>((k:Int),acc++cC c k,c.1,c.2.1,c.2.2.1,c.2.2.2.1,c.2.2.2.2,())) (acc++cF c,c.1,c.2.1,c.2.2.1,c.2.2.2.1,c.2.2.2.2,()) (fun k hk=>by
  have bP:decide ((k:Int) < c.2.2.2.2)=true:=decide_eq_true (by omega)
  have t1:=dW N c k h1 (by omega)
  have t2:=dW N c (k+1) h1 (by omega)
  have q1:=eD c hc k (by omega)
  have q2:=eD c hc (k+1) (by omega)
  have hl:(acc++cC c k).length=acc.length+k:=by rw [List.length_append,dY]
  have hb:decide ((acc.length+k+1) * 24≤140737488355328)=true:=decide_eq_true (by omega)
  have eb:fy c k=iL (aN c k) (aN c (k+1)):=rfl
  have es:acc++cC c (k+1)=(acc++cC c k)++[fy c k]:=by rw [jY,List.append_assoc]
  rw [es]
  simp only [lD,Int.toNat_natCast,a.1,bP,cond_true,t1,bk (show k < 9223372036854775807 by omega),t2,Option.bind_some,beq_self_eq_true,Bool.and_self]
  unfold iL at eb
  generalize aN c k=x at *
  generalize aN c (k+1)=y at *
  by_cases xz:x.2 > y.2
  ·rw [if_pos xz] at eb
   have w:IntKind.wrap .i64 (x.1 - y.1)=x.1 - y.1:=iH ⟨by omega,by omega⟩
   have sn:=qY (acc++cC c k) (fy c k) y.1 y.2 (x.1 - y.1) eb
   simp only [xz,decide_true,cond_true,cz,cr,List.length_map,hl,Nat.beq_refl,Bool.and_self,Bool.and_true,Option.bind_some,w,hb,sn,List.length_append,List.length_singleton,dY]
  ·rw [if_neg xz] at eb
   have w:IntKind.wrap .i64 (y.1 - x.1)=y.1 - x.1:=iH ⟨by omega,by omega⟩
   have sn:=qY (acc++cC c k) (fy c k) x.1 x.2 (y.1 - x.1) eb
   simp only [xz,decide_true,decide_false,cond_true,cond_false,cz,cr,List.length_map,hl,Nat.beq_refl,Bool.and_self,Bool.and_true,Option.bind_some,w,hb,sn,List.length_append,List.length_singleton,dY]) (by
  have lM:decide (((c.2.2.2.2.toNat:Nat):Int) < c.2.2.2.2)=false:=decide_eq_false (by omega)
  simp only [lD,Int.toNat_natCast,a.1,lM,cond_false,cz,cr,List.length_map,Nat.beq_refl,Bool.and_self,Bool.and_true,cond_true,Option.bind_some]
  rfl) N 0 (Nat.zero_le _) (by unfold fC at hN; omega)
 have e0:acc++cC c 0=acc:=by simp [cC]
 rw [e0] at key
 exact key
theorem Fi (p:List dh) (h:∀ c∈p,cm c=0) (hp:p.length≤1000000):az (j3 N p) N ((),0,[])=some ((),bz p):=by
 refine bF (rd:=j3 N p) p.length (fun k=>((),(k:Int),bz (p.take k))) ((),bz p) (fun k hk=>?_) ?_ N 0 (Nat.zero_le _) (by unfold fC at hN; omega)
 ·have a:=D6 hN p hk
  have e0:=h p[k] (List.getElem_mem hk)
  have hl:=lA (p.take k) (fun c hc=>h c (List.mem_of_mem_take hc))
  rw [List.length_take,Nat.min_eq_left (Nat.le_of_lt hk)] at hl
  have b:=TO hN p k hk (bz (p.take k)) () e0 (by omega)
  rw [lB p hk]
  simp only [j3,List.length_map,a8 hk,aI hk,Int.toNat_natCast,a.1,a.2,cz,cr,Nat.beq_refl,Bool.and_self,Bool.and_true,cond_true,Option.bind_some,b,bk (show k < 9223372036854775807 by omega)]
 ·simp only [j3,List.length_map,bp,cond_false,cz,cr,Nat.beq_refl,Bool.and_self,Bool.and_true,cond_true,Option.bind_some,List.take_length]
theorem yJ (l:List dL):aA (List.map n106 l)=true:=by
 induction l with
 | nil=>rfl
 | cons x l ih=>exact ih
theorem Pb (p:List dh) (y:Int) (hy:Kl N p=some y) (h:y=0→∀ c∈p,cm c=0) (hp:p.length≤1000000):Yj N p=some (if y=0 then (bz p,0) else ([],y)):=by
 have z:((bif (allFit (aj.fits mI) (List.map bV p)&&true) then some (List.map d90 (List.map bV p)) else none:Option ((List (Int × Int × Bool × Bool × Int)))))=some p:=by simp only [zZ,z6,Bool.and_true,cond_true]
 rw [TG,z,Option.bind_some,hy,Option.bind_some,GJ]
 by_cases h0:y=0
 ·rw [if_pos h0,if_pos h0]
  have key:az (wP N p) N ((),0,[])=_:=Fi hN p (h h0) hp
  have z2:((bif ((Nat.beq 0 (([]:List AV)).length&&Nat.beq 0 (([]:List AV)).length)&&(allFit (aj.fits aM) ([]:List AV)&&true)) then some ((),0,(List.map d106 ([]:List AV))) else none:Option (Unit × Int × (List (Int × Int × Int)))).bind fun B1=>some B1)=some ((),0,[]):=rfl
  rw [z2,Option.bind_some,key,Option.bind_some]
  simp only [decide_true,yJ hN,cz,cr,Bool.and_self,cond_true]
 ·rw [if_neg h0,if_neg h0]
  rfl
theorem Fj (p:List dh) (h:∀ c∈p,cm c=0) (hp:p.length≤1000000):Xb N p=some ((bz p).mergeSort fun x y=>!(ltOf j9) y x):=by
 have z2:((bif ((Nat.beq 0 (([]:List AV)).length&&Nat.beq 0 (([]:List AV)).length)&&(allFit (aj.fits aM) ([]:List AV)&&true)) then some ((),0,(List.map d106 ([]:List AV))) else none:Option (Unit × Int × (List (Int × Int × Int)))).bind fun B1=>some B1)=some ((),0,[]):=rfl
 have hl:=lA p h
 have es:fD aM j9 (List.map n106 (bz p))=List.map n106 ((bz p).mergeSort fun x y=>!(ltOf j9) y x):=by
  unfold fD
  rw [show List.map aM.bi (List.map n106 (bz p))=bz p from cr _]
  rfl
 have hb:decide ((bz p).length≤140737488355328)=true:=decide_eq_true (by omega)
 rw [TC,z2,Option.bind_some,Fi hN p h hp,Option.bind_some]
 simp only [es,List.length_map,List.length_mergeSort,decide_true,hb,yJ hN,cz,cr,Bool.and_self,cond_true]
theorem Pc (p:List dh) (y:Int) (hy:Kl N p=some y) (h:y=0→∀ c∈p,cm c=0) (hp:p.length≤1000000):Yi N p=some (if y=0 then ((bz p).mergeSort fun x y=>!(ltOf j9) y x,0) else ([],y)):=by
 have z:((bif (allFit (aj.fits mI) (List.map bV p)&&true) then some (List.map d90 (List.map bV p)) else none:Option ((List (Int × Int × Bool × Bool × Int)))))=some p:=by simp only [zZ,z6,Bool.and_true,cond_true]
 rw [TE,z,Option.bind_some,hy,Option.bind_some,GJ]
 by_cases h0:y=0
 ·rw [if_pos h0,if_pos h0,Option.bind_some,Fj hN p (h h0) hp,Option.bind_some]
  simp only [cz,cr,Bool.and_self,cond_true]
 ·rw [if_neg h0,if_neg h0]
  rfl
end
end Go.Proofs.YtldcljfjjoidhaaGreatDoor
