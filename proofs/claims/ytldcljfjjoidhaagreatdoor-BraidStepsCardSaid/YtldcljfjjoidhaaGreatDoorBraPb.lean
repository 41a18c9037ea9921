/- Plain laws: courses as the reference walks them. -/
import Derived.Test.YtldcljfjjoidhaaGreatDoorBraP
set_option linter.all false
namespace Go.Proofs.YtldcljfjjoidhaaGreatDoor
open Go Go.Am
set_option maxRecDepth 100000
section
variable {N:Nat} (hN:fq N)
include hN
theorem Ch (c:da) (h:cr c=0):Te N c=some (aZ c (c.2.2.2.2.toNat+1)):=by
 obtain ⟨h1,h2,h3⟩:=cZ h
 have uK:=j7 h1
 simp only at uK
 have key:=bH (rd:=qX N c) c.2.2.2.2.toNat (fun k=>(aZ c (k+1),(if k % 2=0 then c.2.2.2.1 else !c.2.2.2.1),(k:Int),(ax c k).1,(ax c k).2)) (aZ c (c.2.2.2.2.toNat+1),(ax c c.2.2.2.2.toNat).1,(ax c c.2.2.2.2.toNat).2) (fun k hk=>by
  have bM:decide ((k:Int) < c.2.2.2.2)=true:=decide_eq_true (by omega)
  have hl:(aZ c (k+1)++[ax c (k+1)]).length=k+1+1:=by rw [List.length_append,cR]; rfl
  have hb:decide ((k+1+1) * 16≤140737488355328)=true:=decide_eq_true (by omega)
  have ek:ax c (k+1)=((if c.2.2.1=true then (ax c k).1+1 else (ax c k).1 - 1),(if (if k % 2=0 then c.2.2.2.1 else !c.2.2.2.1)=true then (ax c k).2+1 else (ax c k).2 - 1)):=by
   obtain ⟨x,y,r,u,n⟩:=c
   unfold ax sg
   rcases Nat.mod_two_eq_zero_or_one k with hm | hm
   ·have D3:(k+1) % 2=1:=by omega
    simp only [hm,D3,if_true]
    refine Prod.ext ?_ ?_
    ·cases r <;> simp <;> omega
    ·cases u <;> simp <;> omega
   ·have D3:(k+1) % 2=0:=by omega
    simp only [hm,D3,show ¬ (1=0) from by decide,if_false]
    refine Prod.ext ?_ ?_
    ·cases r <;> simp <;> omega
    ·cases u <;> simp <;> omega
  have hk5:(k:Int) < 512:=by omega
  have aet:-200000≤(ax c k).1∧(ax c k).1≤200000∧-200000≤(ax c k).2∧(ax c k).2≤200000:=by
   obtain ⟨x,y,r,u,n⟩:=c
   simp only at uK h3
   have hm:((k % 2:Nat):Int) < 2:=by omega
   unfold ax sg
   cases r <;> cases u <;> simp <;> omega
  have hup:(if (k+1) % 2=0 then c.2.2.2.1 else !c.2.2.2.1)=!(if k % 2=0 then c.2.2.2.1 else !c.2.2.2.1):=by
   rcases Nat.mod_two_eq_zero_or_one k with hm | hm
   ·have D3:(k+1) % 2=1:=by omega
    simp [hm,D3]
   ·have D3:(k+1) % 2=0:=by omega
    simp [hm,D3]
  have e2:aZ c (k+1+1)=aZ c (k+1)++[ax c (k+1)]:=tu c (k+1)
  rw [e2,hup]
  rw [ek] at hl ⊢
  generalize (if k % 2=0 then c.2.2.2.1 else !c.2.2.2.1)=up at *
  generalize ax c k=q at *
  have wa:IntKind.wrap .i64 (q.1+1)=q.1+1:=gY ⟨by omega,by omega⟩
  have wb:IntKind.wrap .i64 (q.1 - 1)=q.1 - 1:=gY ⟨by omega,by omega⟩
  have wc:IntKind.wrap .i64 (q.2+1)=q.2+1:=gY ⟨by omega,by omega⟩
  have wd:IntKind.wrap .i64 (q.2 - 1)=q.2 - 1:=gY ⟨by omega,by omega⟩
  have sn:=fun a b:Int=>Kn hN (aZ c (k+1)) (a,b)
  simp only at sn
  cases hr:c.2.2.1 <;> cases up
  all_goals simp only [hr,if_true,Bool.false_eq_true,if_false] at hl ⊢
  all_goals simp only [qX,bM,hr,cond_true,cond_false,gD,gE,Bool.and_self,List.length_map,decide_true,Option.bind_some,wa,wb,wc,wd,cR,hb,sn,hl,Bool.not_true,Bool.not_false,bk (show k < 9223372036854775807 by omega)]) (by
  have kN:decide (((c.2.2.2.2.toNat:Nat):Int) < c.2.2.2.2)=false:=decide_eq_false (by omega)
  simp only [qX,kN,cond_false,gD,gE,Bool.and_self,List.length_map,decide_true,cond_true,Option.bind_some]) N 0 (Nat.zero_le _) (by unfold fq at hN; omega)
 have k0:aZ c 1=[(c.1,c.2.1)]:=by
  unfold aZ ax
  simp
 have e0:ax c 0=(c.1,c.2.1):=by unfold ax; simp
 simp only [Nat.zero_add,k0,e0] at key
 have z:((bif (allFit (aj.fits cG) [(AV.agg [(AV.int .i64 c.1),(AV.int .i64 c.2.1)])]&&true) then some ((List.map d86 [(AV.agg [(AV.int .i64 c.1),(AV.int .i64 c.2.1)])]),c.2.2.2.1,0,c.1,c.2.1) else none:Option ((List (Int × Int)) × Bool × Int × Int × Int)).bind fun DZ=>bif (decide (1=(List.map au DZ.1).length)&&true) then some DZ else none)=some ([(c.1,c.2.1)],c.2.2.2.1,0,c.1,c.2.1):=rfl
 rw [Tg,z]
 have mD:az (qX N c) N ([(c.1,c.2.1)],c.2.2.2.1,0,c.1,c.2.1)=_:=key
 simp only [beq_self_eq_true,Bool.and_self,cond_true,Option.bind_some,mD,gD,gE]
theorem OO (c:da):Xa N c=some (dQ c):=by
 rw [Tk]
 have aaT:Ak N (c.1,c.2.1)=some (aM (c.1,c.2.1)):=sj N (c.1,c.2.1)
 simp only [aaT,Option.bind_some,beq_self_eq_true,Bool.and_self,cond_true,OM]
 rw [aaR]
 simp only [Option.bind_some]
 rw [GP hN _ (by simp)]
 simp only [Option.bind_some]
 have e1:aY [aM (c.1,c.2.1),B0 c.2.2.2.2 1 512]=cr c:=rfl
 rw [e1]
 unfold dQ
 by_cases h:cr c=0
 ·obtain ⟨h1,h2,h3⟩:=cZ h
  have q:Te N (c.1,c.2.1,c.2.2.1,c.2.2.2.1,c.2.2.2.2)=some (aZ c (c.2.2.2.2.toNat+1)):=Ch hN c h
  have hlen:=cR c (c.2.2.2.2.toNat+1)
  rw [h]
  simp only [bne_self_eq_false,cond_false,q,Option.bind_some,if_true]
  generalize aZ c (c.2.2.2.2.toNat+1)=l at *
  have key:=iO (rd:=uu N l) (l.map aM) (fun k hk=>by
   rw [List.length_map] at hk
   obtain ⟨a1,a2⟩:=Tq hN l hk
   have q2:Ak N (l[k].1,l[k].2)=some (aM l[k]):=sj N l[k]
   rw [List.getElem_map]
   simp only [uu,List.length_map,Int.toNat_natCast,bc hk,aI hk,a1,a2,Bool.and_self,cond_true,q2,Option.bind_some,bk (show k < 9223372036854775807 by omega)]
   by_cases hz:aM l[k]=0
   ·simp [hz]
   ·simp [hz,Bool.cond_eq_ite]) (by
   rw [List.length_map]
   simp only [uu,List.length_map,bq,cond_false]) N (by rw [List.length_map]; unfold fq at hN; omega)
  rw [key]
  simp only [Option.bind_some]
  by_cases hz:aY (l.map aM)=0
  ·rw [if_pos hz,hz]; rfl
  ·rw [if_neg hz]; rfl
 ·have hb:(cr c != 0)=true:=bne_iff_ne.2 h
  rw [hb,cond_true,if_neg h]
end
end Go.Proofs.YtldcljfjjoidhaaGreatDoor
