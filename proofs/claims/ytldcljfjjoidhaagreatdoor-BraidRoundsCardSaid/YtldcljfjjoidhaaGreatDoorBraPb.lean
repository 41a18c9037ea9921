/- Plain laws: courses as the reference walks them. -/
import Derived.Test.YtldcljfjjoidhaaGreatDoorBraP
set_option linter.all false
namespace Go.Proofs.YtldcljfjjoidhaaGreatDoor
open Go Go.Am
open List (map)
open Int (toNat)
open Go.IntKind (wrap)
open Go.Am.aT (fits)
set_option maxRecDepth 100000
section
variable {N:Nat} (hN:fB N)
include hN
theorem Du (c:bD) (h:bX c=0):Vd N c=some (cg c (c.2.2.2.2.toNat+1)):=by
 obtain ⟨h1,h2,h3⟩:=cB h
 have zo:=ey h1
 simp only at zo
 have key:=bK (rd:=sj N c) c.2.2.2.2.toNat (fun k=>(cg c (k+1),(if k % 2=0 then c.2.2.2.1 else !c.2.2.2.1),(k:Int),(aK c k).1,(aK c k).2)) (cg c (c.2.2.2.2.toNat+1),(aK c c.2.2.2.2.toNat).1,(aK c c.2.2.2.2.toNat).2) (fun k hk=>by
  have bV:decide ((k:Int) < c.2.2.2.2)=true:=decide_eq_true (by omega)
  have hl:(cg c (k+1)++[aK c (k+1)]).length=k+1+1:=by rw [List.length_append,eZ]; rfl
  have hb:decide ((k+1+1) * 16≤140737488355328)=true:=decide_eq_true (by omega)
  have ek:aK c (k+1)=((if c.2.2.1=true then (aK c k).1+1 else (aK c k).1 - 1),(if (if k % 2=0 then c.2.2.2.1 else !c.2.2.2.1)=true then (aK c k).2+1 else (aK c k).2 - 1)):=by
   obtain ⟨x,y,r,u,n⟩:=c
   unfold aK sg
   rcases Nat.mod_two_eq_zero_or_one k with hm | hm
   ·have Fs:(k+1) % 2=1:=by omega
    simp only [hm,Fs,if_true]
    refine Prod.ext ?_ ?_
    ·cases r <;> simp <;> omega
    ·cases u <;> simp <;> omega
   ·have Fs:(k+1) % 2=0:=by omega
    simp only [hm,Fs,show ¬ (1=0) from by decide,if_false]
    refine Prod.ext ?_ ?_
    ·cases r <;> simp <;> omega
    ·cases u <;> simp <;> omega
  have hk5:(k:Int) < 512:=by omega
  have ahe:-200000≤(aK c k).1∧(aK c k).1≤200000∧-200000≤(aK c k).2∧(aK c k).2≤200000:=by
   obtain ⟨x,y,r,u,n⟩:=c
   simp only at zo h3
   have hm:((k % 2:Nat):Int) < 2:=by omega
   unfold aK sg
   cases r <;> cases u <;> simp <;> omega
  have hup:(if (k+1) % 2=0 then c.2.2.2.1 else !c.2.2.2.1)=!(if k % 2=0 then c.2.2.2.1 else !c.2.2.2.1):=by
   rcases Nat.mod_two_eq_zero_or_one k with hm | hm
   ·have Fs:(k+1) % 2=1:=by omega
    simp [hm,Fs]
   ·have Fs:(k+1) % 2=0:=by omega
    simp [hm,Fs]
  have e2:cg c (k+1+1)=cg c (k+1)++[aK c (k+1)]:=Ds c (k+1)
  rw [e2,hup]
  rw [ek] at hl ⊢
  generalize (if k % 2=0 then c.2.2.2.1 else !c.2.2.2.1)=up at *
  generalize aK c k=q at *
  have wa:wrap .i64 (q.1+1)=q.1+1:=iE ⟨by omega,by omega⟩
  have wb:wrap .i64 (q.1 - 1)=q.1 - 1:=iE ⟨by omega,by omega⟩
  have wc:wrap .i64 (q.2+1)=q.2+1:=iE ⟨by omega,by omega⟩
  have wd:wrap .i64 (q.2 - 1)=q.2 - 1:=iE ⟨by omega,by omega⟩
  have sn:=fun a b:Int=>Vo hN (cg c (k+1)) (a,b)
  simp only at sn
  cases hr:c.2.2.1 <;> cases up
  all_goals simp only [hr,if_true,Bool.false_eq_true,if_false] at hl ⊢
  all_goals simp only [sj,bV,hr,cond_true,cond_false,lO,lP,Bool.and_self,List.length_map,decide_true,Option.bind_some,wa,wb,wc,wd,eZ,hb,sn,hl,Bool.not_true,Bool.not_false,bA (show k < 9223372036854775807 by omega)]) (by
  have mF:decide (((c.2.2.2.2.toNat:Nat):Int) < c.2.2.2.2)=false:=decide_eq_false (by omega)
  simp only [sj,mF,cond_false,lO,lP,Bool.and_self,List.length_map,decide_true,cond_true,Option.bind_some]) N 0 (Nat.zero_le _) (by unfold fB at hN; omega)
 have k0:cg c 1=[(c.1,c.2.1)]:=by
  unfold cg aK
  simp
 have e0:aK c 0=(c.1,c.2.1):=by unfold aK; simp
 simp only [Nat.zero_add,k0,e0] at key
 have z:((bif (allFit (fits cz) [(AV.agg [(AV.int .i64 c.1),(AV.int .i64 c.2.1)])]&&true) then some ((map cn [(AV.agg [(AV.int .i64 c.1),(AV.int .i64 c.2.1)])]),c.2.2.2.1,0,c.1,c.2.1) else none:Option (lN × Bool × Int × Int × Int)).bind fun BP=>bif (decide (1=(map av BP.1).length)&&true) then some BP else none)=some ([(c.1,c.2.1)],c.2.2.2.1,0,c.1,c.2.1):=rfl
 rw [Vf,z]
 have lQ:aG (sj N c) N ([(c.1,c.2.1)],c.2.2.2.1,0,c.1,c.2.1)=_:=key
 simp only [beq_self_eq_true,Bool.and_self,cond_true,Option.bind_some,lQ,lO,lP]
theorem Qw (c:bD):Zk N c=some (dW c):=by
 rw [Vk]
 have adk:xJ N (c.1,c.2.1)=some (aF (c.1,c.2.1)):=pM N (c.1,c.2.1)
 simp only [adk,Option.bind_some,beq_self_eq_true,Bool.and_self,cond_true,Qv]
 rw [adj]
 simp only [Option.bind_some]
 rw [Il hN _ (by simp)]
 simp only [Option.bind_some]
 have e1:aS [aF (c.1,c.2.1),pW c.2.2.2.2 1 512]=bX c:=rfl
 rw [e1]
 unfold dW
 by_cases h:bX c=0
 ·obtain ⟨h1,h2,h3⟩:=cB h
  have q:Vd N (c.1,c.2.1,c.2.2.1,c.2.2.2.1,c.2.2.2.2)=some (cg c (c.2.2.2.2.toNat+1)):=Du hN c h
  have hlen:=eZ c (c.2.2.2.2.toNat+1)
  rw [h]
  simp only [bne_self_eq_false,cond_false,q,Option.bind_some,if_true]
  generalize cg c (c.2.2.2.2.toNat+1)=l at *
  have key:=ik (rd:=vo N l) (l.map aF) (fun k hk=>by
   rw [List.length_map] at hk
   obtain ⟨a1,a2⟩:=Vp hN l hk
   have q2:xJ N (l[k].1,l[k].2)=some (aF l[k]):=pM N l[k]
   rw [List.getElem_map]
   simp only [vo,List.length_map,Int.toNat_natCast,bf hk,aO hk,a1,a2,Bool.and_self,cond_true,q2,Option.bind_some,bA (show k < 9223372036854775807 by omega)]
   by_cases hz:aF l[k]=0
   ·simp [hz]
   ·simp [hz,Bool.cond_eq_ite]) (by
   rw [List.length_map]
   simp only [vo,List.length_map,bt,cond_false]) N (by rw [List.length_map]; unfold fB at hN; omega)
  rw [key]
  simp only [Option.bind_some]
  by_cases hz:aS (l.map aF)=0
  ·rw [if_pos hz,hz]; rfl
  ·rw [if_neg hz]; rfl
 ·have hb:(bX c != 0)=true:=bne_iff_ne.2 h
  rw [hb,cond_true,if_neg h]
end
end Go.Proofs.YtldcljfjjoidhaaGreatDoor
