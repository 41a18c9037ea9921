/- Plain laws: courses as the reference walks them. -/
import Derived.Test.YtldcljfjjoidhaaGreatDoorBraP
set_option linter.all false
namespace Go.Proofs.YtldcljfjjoidhaaGreatDoor
open Go Go.Am
set_option maxRecDepth 100000
section
variable {N:Nat} (hN:iK N)
include hN
theorem vv (c:cQ) (h:df c=0):Mo N c=some (bG c (c.2.2.2.2.toNat+1)):=by
 obtain ⟨h1,h2,h3⟩:=dA h
 have Bd:=jD h1
 simp only at Bd
 have key:=dz (rd:=qh N c) c.2.2.2.2.toNat (fun k=>(bG c (k+1),(if k % 2=0 then c.2.2.2.1 else !c.2.2.2.1),(k:Int),(a8 c k).1,(a8 c k).2)) (bG c (c.2.2.2.2.toNat+1),(a8 c c.2.2.2.2.toNat).1,(a8 c c.2.2.2.2.toNat).2) (fun k hk=>by
  have bT:decide ((k:Int) < c.2.2.2.2)=true:=decide_eq_true (by omega)
  have hl:(bG c (k+1)++[a8 c (k+1)]).length=k+1+1:=by rw [List.length_append,dc]; rfl
  have hb:decide ((k+1+1) * 16≤140737488355328)=true:=decide_eq_true (by omega)
  have ek:a8 c (k+1)=((if c.2.2.1=true then (a8 c k).1+1 else (a8 c k).1 - 1),(if (if k % 2=0 then c.2.2.2.1 else !c.2.2.2.1)=true then (a8 c k).2+1 else (a8 c k).2 - 1)):=by
   obtain ⟨x,y,r,u,n⟩:=c
   unfold a8 sg
   rcases Nat.mod_two_eq_zero_or_one k with hm | hm
   ·have Qn:(k+1) % 2=1:=by omega
    simp only [hm,Qn,if_true]
    refine Prod.ext ?_ ?_
    ·cases r <;> simp <;> omega
    ·cases u <;> simp <;> omega
   ·have Qn:(k+1) % 2=0:=by omega
    simp only [hm,Qn,show ¬ (1=0) from by decide,if_false]
    refine Prod.ext ?_ ?_
    ·cases r <;> simp <;> omega
    ·cases u <;> simp <;> omega
  have hk5:(k:Int) < 512:=by omega
  have aaV:-200000≤(a8 c k).1∧(a8 c k).1≤200000∧-200000≤(a8 c k).2∧(a8 c k).2≤200000:=by
   obtain ⟨x,y,r,u,n⟩:=c
   simp only at Bd h3
   have hm:((k % 2:Nat):Int) < 2:=by omega
   unfold a8 sg
   cases r <;> cases u <;> simp <;> omega
  have hup:(if (k+1) % 2=0 then c.2.2.2.1 else !c.2.2.2.1)=!(if k % 2=0 then c.2.2.2.1 else !c.2.2.2.1):=by
   rcases Nat.mod_two_eq_zero_or_one k with hm | hm
   ·have Qn:(k+1) % 2=1:=by omega
    simp [hm,Qn]
   ·have Qn:(k+1) % 2=0:=by omega
    simp [hm,Qn]
  have e2:bG c (k+1+1)=bG c (k+1)++[a8 c (k+1)]:=A6 c (k+1)
  rw [e2,hup]
  rw [ek] at hl ⊢
  generalize (if k % 2=0 then c.2.2.2.1 else !c.2.2.2.1)=up at *
  generalize a8 c k=q at *
  have wa:IntKind.wrap .i64 (q.1+1)=q.1+1:=lW ⟨by omega,by omega⟩
  have wb:IntKind.wrap .i64 (q.1 - 1)=q.1 - 1:=lW ⟨by omega,by omega⟩
  have wc:IntKind.wrap .i64 (q.2+1)=q.2+1:=lW ⟨by omega,by omega⟩
  have wd:IntKind.wrap .i64 (q.2 - 1)=q.2 - 1:=lW ⟨by omega,by omega⟩
  have sn:=fun a b:Int=>Qm hN (bG c (k+1)) (a,b)
  simp only at sn
  cases hr:c.2.2.1 <;> cases up
  all_goals simp only [hr,if_true,Bool.false_eq_true,if_false] at hl ⊢
  all_goals simp only [qh,bT,hr,cond_true,cond_false,PC,PD,Bool.and_self,List.length_map,decide_true,Option.bind_some,wa,wb,wc,wd,dc,hb,sn,hl,Bool.not_true,Bool.not_false,cO (show k < 9223372036854775807 by omega)]) (by
  have pd:decide (((c.2.2.2.2.toNat:Nat):Int) < c.2.2.2.2)=false:=decide_eq_false (by omega)
  simp only [qh,pd,cond_false,PC,PD,Bool.and_self,List.length_map,decide_true,cond_true,Option.bind_some]) N 0 (Nat.zero_le _) (by unfold iK at hN; omega)
 have k0:bG c 1=[(c.1,c.2.1)]:=by
  unfold bG a8
  simp
 have e0:a8 c 0=(c.1,c.2.1):=by unfold a8; simp
 simp only [Nat.zero_add,k0,e0] at key
 have z:((bif (allFit (an.fits nF) [(AV.agg [(AV.int .i64 c.1),(AV.int .i64 c.2.1)])]&&true) then some ((List.map d86 [(AV.agg [(AV.int .i64 c.1),(AV.int .i64 c.2.1)])]),c.2.2.2.1,0,c.1,c.2.1) else none:Option ((List (Int × Int)) × Bool × Int × Int × Int)).bind fun Mp=>bif (decide (1=(List.map fS Mp.1).length)&&true) then some Mp else none)=some ([(c.1,c.2.1)],c.2.2.2.1,0,c.1,c.2.1):=rfl
 rw [Qf,z]
 have yR:aQ (qh N c) N ([(c.1,c.2.1)],c.2.2.2.1,0,c.1,c.2.1)=_:=key
 simp only [beq_self_eq_true,Bool.and_self,cond_true,Option.bind_some,yR,PC,PD]
theorem Mz (c:cQ) (h:df c=0):T5 N c=some (a8 c c.2.2.2.2.toNat):=by
 obtain ⟨h1,h2,h3⟩:=dA h
 have q:Mo N (c.1,c.2.1,c.2.2.1,c.2.2.2.1,c.2.2.2.2)=some (bG c (c.2.2.2.2.toNat+1)):=vv hN c h
 rw [Qk,q,Option.bind_some]
 have hw:IntKind.wrap .i64 (((c.2.2.2.2.toNat+1:Nat):Int) - 1)=((c.2.2.2.2.toNat:Nat):Int):=by rw [lW ⟨by omega,by omega⟩]; omega
 have hk:c.2.2.2.2.toNat < (bG c (c.2.2.2.2.toNat+1)).length:=by rw [dc]; omega
 obtain ⟨a1,a2⟩:=My hN (bG c (c.2.2.2.2.toNat+1)) hk
 have eg:(bG c (c.2.2.2.2.toNat+1))[c.2.2.2.2.toNat]=a8 c c.2.2.2.2.toNat:=by simp [bG]
 rw [eg] at a1
 have ir:decide ((0:Int)≤((c.2.2.2.2.toNat:Nat):Int)∧((c.2.2.2.2.toNat:Nat):Int) < ((c.2.2.2.2.toNat+1:Nat):Int))=true:=decide_eq_true (by omega)
 simp only [List.length_map,dc,hw,Int.toNat_natCast,ir,a1,a2,Bool.and_self,cond_true]
theorem MA (c:cQ):T4 N c=some (gC c):=by
 rw [Qi]
 have Xx:CN N (c.1,c.2.1)=some (cn (c.1,c.2.1)):=xo N (c.1,c.2.1)
 simp only [Xx,Option.bind_some,beq_self_eq_true,Bool.and_self,cond_true,DR]
 rw [Xw]
 simp only [Option.bind_some]
 rw [xm hN _ (by simp)]
 simp only [Option.bind_some]
 have e1:bc [cn (c.1,c.2.1),AQ c.2.2.2.2 1 512]=df c:=rfl
 rw [e1]
 unfold gC
 by_cases h:df c=0
 ·obtain ⟨h1,h2,h3⟩:=dA h
  have q:Mo N (c.1,c.2.1,c.2.2.1,c.2.2.2.1,c.2.2.2.2)=some (bG c (c.2.2.2.2.toNat+1)):=vv hN c h
  have hlen:=dc c (c.2.2.2.2.toNat+1)
  rw [h]
  simp only [bne_self_eq_false,cond_false,q,Option.bind_some,if_true]
  generalize bG c (c.2.2.2.2.toNat+1)=l at *
  have key:=j5 (rd:=s8 N l) (l.map cn) (fun k hk=>by
   rw [List.length_map] at hk
   obtain ⟨a1,a2⟩:=My hN l hk
   have q2:CN N (l[k].1,l[k].2)=some (cn l[k]):=xo N l[k]
   rw [List.getElem_map]
   simp only [s8,List.length_map,Int.toNat_natCast,bV hk,bR hk,a1,a2,Bool.and_self,cond_true,q2,Option.bind_some,cO (show k < 9223372036854775807 by omega)]
   by_cases hz:cn l[k]=0
   ·simp [hz]
   ·simp [hz,Bool.cond_eq_ite]) (by
   rw [List.length_map]
   simp only [s8,List.length_map,b0,cond_false]) N (by rw [List.length_map]; unfold iK at hN; omega)
  rw [key]
  simp only [Option.bind_some]
  by_cases hz:bc (l.map cn)=0
  ·rw [if_pos hz,hz]; rfl
  ·rw [if_neg hz]; rfl
 ·have hb:(df c != 0)=true:=bne_iff_ne.2 h
  rw [hb,cond_true,if_neg h]
end
end Go.Proofs.YtldcljfjjoidhaaGreatDoor
