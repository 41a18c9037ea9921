/- Plain laws: the order and the net of a program. -/
import Derived.Test.YtldcljfjjoidhaaGreatDoorBraPe
set_option linter.all false
namespace Go.Proofs.YtldcljfjjoidhaaGreatDoor
open Go Go.Am Go.Sort
open List (map)
open Int (toNat)
open Go.IntKind (wrap)
open Go.Am.aT (fits)
set_option maxRecDepth 100000
theorem mC (l:List dM) (p:dM) (x y z:Int) (h:p=(x,y,z)):map ae l++[AV.agg [AV.int .i64 x,AV.int .i64 y,AV.int .i64 z]]=map ae (l++[p]):=by subst h; rw [List.map_append]; rfl
section
variable {N:Nat} (hN:fB N)
include hN
theorem tC (l:List bD) {k:Nat} (hk:k < l.length):aq (af (map ai l) k)=l[k]∧fits dG (af (map ai l) k)=true:=by
 rw [gM ai l k hk]
 exact ⟨adn _,adm _⟩
theorem Wa (p:List bD) (i:Nat) (hi:i < p.length) (acc:List dM) (u:Unit) (hc:bX p[i]=0) (ha:acc.length≤1000000000) :
  aG (mA N p (u,(i:Int),acc)) N (0,acc,p[i].1,p[i].2.1,p[i].2.2.1,p[i].2.2.2.1,p[i].2.2.2.2,())=some (acc++cp p[i],p[i].1,p[i].2.1,p[i].2.2.1,p[i].2.2.2.1,p[i].2.2.2.2,()):=by
 have a:=tC hN p hi
 generalize p[i]=c at *
 obtain ⟨h1,h2,h3⟩:=cB hc
 have key:=bK (rd:=mA N p (u,(i:Int),acc)) c.2.2.2.2.toNat (fun k=>((k:Int),acc++cN c k,c.1,c.2.1,c.2.2.1,c.2.2.2.1,c.2.2.2.2,())) (acc++cp c,c.1,c.2.1,c.2.2.1,c.2.2.2.1,c.2.2.2.2,()) (fun k hk=>by
  have bV:decide ((k:Int) < c.2.2.2.2)=true:=decide_eq_true (by omega)
  have t1:=eM N c k h1 (by omega)
  have t2:=eM N c (k+1) h1 (by omega)
  have q1:=fg c hc k (by omega)
  have q2:=fg c hc (k+1) (by omega)
  have hl:(acc++cN c k).length=acc.length+k:=by rw [List.length_append,dQ]
  have hb:decide ((acc.length+k+1) * 24≤140737488355328)=true:=decide_eq_true (by omega)
  have eb:eQ c k=fP (aK c k) (aK c (k+1)):=rfl
  have es:acc++cN c (k+1)=(acc++cN c k)++[eQ c k]:=by rw [kK,List.append_assoc]
  rw [es]
  simp only [mA,Int.toNat_natCast,a.1,bV,cond_true,t1,bA (show k < 9223372036854775807 by omega),t2,Option.bind_some,beq_self_eq_true,Bool.and_self]
  unfold fP at eb
  generalize aK c k=x at *
  generalize aK c (k+1)=y at *
  by_cases yW:x.2 > y.2
  ·rw [if_pos yW] at eb
   have w:wrap .i64 (x.1 - y.1)=x.1 - y.1:=iE ⟨by omega,by omega⟩
   have sn:=mC (acc++cN c k) (eQ c k) y.1 y.2 (x.1 - y.1) eb
   simp only [yW,decide_true,cond_true,cQ,cM,List.length_map,hl,Nat.beq_refl,Bool.and_self,Bool.and_true,Option.bind_some,w,hb,sn,List.length_append,List.length_singleton,dQ]
  ·rw [if_neg yW] at eb
   have w:wrap .i64 (y.1 - x.1)=y.1 - x.1:=iE ⟨by omega,by omega⟩
   have sn:=mC (acc++cN c k) (eQ c k) x.1 x.2 (y.1 - x.1) eb
   simp only [yW,decide_true,decide_false,cond_true,cond_false,cQ,cM,List.length_map,hl,Nat.beq_refl,Bool.and_self,Bool.and_true,Option.bind_some,w,hb,sn,List.length_append,List.length_singleton,dQ]) (by
  have mF:decide (((c.2.2.2.2.toNat:Nat):Int) < c.2.2.2.2)=false:=decide_eq_false (by omega)
  simp only [mA,Int.toNat_natCast,a.1,mF,cond_false,cQ,cM,List.length_map,Nat.beq_refl,Bool.and_self,Bool.and_true,cond_true,Option.bind_some]
  rfl) N 0 (Nat.zero_le _) (by unfold fB at hN; omega)
 have e0:acc++cN c 0=acc:=by simp [cN]
 rw [e0] at key
 exact key
theorem Q9 (p:List bD) (h:∀ c∈p,bX c=0) (hp:p.length≤1000000):aG (kN N p) N ((),0,[])=some ((),bp p):=by
 refine bK (rd:=kN N p) p.length (fun k=>((),(k:Int),bp (p.take k))) ((),bp p) (fun k hk=>?_) ?_ N 0 (Nat.zero_le _) (by unfold fB at hN; omega)
 ·have a:=tC hN p hk
  have e0:=h p[k] (List.getElem_mem hk)
  have hl:=mw (p.take k) (fun c hc=>h c (List.mem_of_mem_take hc))
  rw [List.length_take,Nat.min_eq_left (Nat.le_of_lt hk)] at hl
  have b:=Wa hN p k hk (bp (p.take k)) () e0 (by omega)
  rw [my p hk]
  simp only [kN,List.length_map,bf hk,aO hk,Int.toNat_natCast,a.1,a.2,cQ,cM,Nat.beq_refl,Bool.and_self,Bool.and_true,cond_true,Option.bind_some,b,bA (show k < 9223372036854775807 by omega)]
 ·simp only [kN,List.length_map,bt,cond_false,cQ,cM,Nat.beq_refl,Bool.and_self,Bool.and_true,cond_true,Option.bind_some,List.take_length]
theorem Iy (l:List dM):aH (map ae l)=true:=by
 induction l with
 | nil=>rfl
 | cons x l ih=>exact ih
theorem GZ (p:List bD) (h:∀ c∈p,bX c=0) (hp:p.length≤1000000):ZJ N p=some ((bp p).mergeSort fun x y=>!(ltOf kL) y x):=by
 have z2:((bif ((Nat.beq 0 (([]:List AV)).length&&Nat.beq 0 (([]:List AV)).length)&&(allFit (fits aw) ([]:List AV)&&true)) then some ((),0,(map ak ([]:List AV))) else none:Option (Unit × Int × eu)).bind fun V4=>some V4)=some ((),0,[]):=rfl
 have hl:=mw p h
 have es:gv aw kL (map ae (bp p))=map ae ((bp p).mergeSort fun x y=>!(ltOf kL) y x):=by
  unfold gv
  rw [show map aw.bw (map ae (bp p))=bp p from cM _]
  rfl
 have hb:decide ((bp p).length≤140737488355328)=true:=decide_eq_true (by omega)
 rw [V1,z2,Option.bind_some,Q9 hN p h hp,Option.bind_some]
 simp only [es,List.length_map,List.length_mergeSort,decide_true,hb,Iy hN,cQ,cM,Bool.and_self,cond_true]
theorem Ra (p:List bD) (y:Int) (hy:Ft N p=some y) (h:y=0→∀ c∈p,bX c=0) (hp:p.length≤1000000):GX N p=some (if y=0 then ((bp p).mergeSort fun x y=>!(ltOf kL) y x,0) else ([],y)):=by
 have z:((bif (allFit (fits dG) (map ai p)&&true) then some (map aq (map ai p)) else none:Option (eD)))=some p:=by simp only [jJ,jK,Bool.and_true,cond_true]
 rw [V3,z,Option.bind_some,hy,Option.bind_some,BR]
 by_cases h0:y=0
 ·rw [if_pos h0,if_pos h0,Option.bind_some,GZ hN p (h h0) hp,Option.bind_some]
  simp only [cQ,cM,Bool.and_self,cond_true]
 ·rw [if_neg h0,if_neg h0]
  rfl
end
end Go.Proofs.YtldcljfjjoidhaaGreatDoor
