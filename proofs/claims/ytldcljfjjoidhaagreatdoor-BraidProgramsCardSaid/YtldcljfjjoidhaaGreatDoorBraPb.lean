/- Plain laws: courses as the reference walks them. -/
import Derived.Test.YtldcljfjjoidhaaGreatDoorBraP
set_option linter.all false
namespace Go.Proofs.YtldcljfjjoidhaaGreatDoor
open Go Go.Am
set_option maxRecDepth 100000
section
variable {N:Nat} (hN:fC N)
include hN
theorem wC (c:dh) (h:cm c=0):On N c=some (bO c (c.2.2.2.2.toNat+1)):=by
 obtain ⟨h1,h2,h3⟩:=dB h
 have xP:=jU h1
 simp only at xP
 have key:=bF (rd:=qS N c) c.2.2.2.2.toNat (fun k=>(bO c (k+1),(if k % 2=0 then c.2.2.2.1 else !c.2.2.2.1),(k:Int),(aN c k).1,(aN c k).2)) (bO c (c.2.2.2.2.toNat+1),(aN c c.2.2.2.2.toNat).1,(aN c c.2.2.2.2.toNat).2) (fun k hk=>by
  have bP:decide ((k:Int) < c.2.2.2.2)=true:=decide_eq_true (by omega)
  have hl:(bO c (k+1)++[aN c (k+1)]).length=k+1+1:=by rw [List.length_append,dA]; rfl
  have hb:decide ((k+1+1) * 16≤140737488355328)=true:=decide_eq_true (by omega)
  have ek:aN c (k+1)=((if c.2.2.1=true then (aN c k).1+1 else (aN c k).1 - 1),(if (if k % 2=0 then c.2.2.2.1 else !c.2.2.2.1)=true then (aN c k).2+1 else (aN c k).2 - 1)):=by
   obtain ⟨x,y,r,u,n⟩:=c
   unfold aN sg
   rcases Nat.mod_two_eq_zero_or_one k with hm | hm
   ·have Kj:(k+1) % 2=1:=by omega
    simp only [hm,Kj,if_true]
    refine Prod.ext ?_ ?_
    ·cases r <;> simp <;> omega
    ·cases u <;> simp <;> omega
   ·have Kj:(k+1) % 2=0:=by omega
    simp only [hm,Kj,show ¬ (1=0) from by decide,if_false]
    refine Prod.ext ?_ ?_
    ·cases r <;> simp <;> omega
    ·cases u <;> simp <;> omega
  have hk5:(k:Int) < 512:=by omega
  have ad0:-200000≤(aN c k).1∧(aN c k).1≤200000∧-200000≤(aN c k).2∧(aN c k).2≤200000:=by
   obtain ⟨x,y,r,u,n⟩:=c
   simp only at xP h3
   have hm:((k % 2:Nat):Int) < 2:=by omega
   unfold aN sg
   cases r <;> cases u <;> simp <;> omega
  have hup:(if (k+1) % 2=0 then c.2.2.2.1 else !c.2.2.2.1)=!(if k % 2=0 then c.2.2.2.1 else !c.2.2.2.1):=by
   rcases Nat.mod_two_eq_zero_or_one k with hm | hm
   ·have Kj:(k+1) % 2=1:=by omega
    simp [hm,Kj]
   ·have Kj:(k+1) % 2=0:=by omega
    simp [hm,Kj]
  have e2:bO c (k+1+1)=bO c (k+1)++[aN c (k+1)]:=BZ c (k+1)
  rw [e2,hup]
  rw [ek] at hl ⊢
  generalize (if k % 2=0 then c.2.2.2.1 else !c.2.2.2.1)=up at *
  generalize aN c k=q at *
  have wa:IntKind.wrap .i64 (q.1+1)=q.1+1:=iH ⟨by omega,by omega⟩
  have wb:IntKind.wrap .i64 (q.1 - 1)=q.1 - 1:=iH ⟨by omega,by omega⟩
  have wc:IntKind.wrap .i64 (q.2+1)=q.2+1:=iH ⟨by omega,by omega⟩
  have wd:IntKind.wrap .i64 (q.2 - 1)=q.2 - 1:=iH ⟨by omega,by omega⟩
  have sn:=fun a b:Int=>S0 hN (bO c (k+1)) (a,b)
  simp only at sn
  cases hr:c.2.2.1 <;> cases up
  all_goals simp only [hr,if_true,Bool.false_eq_true,if_false] at hl ⊢
  all_goals simp only [qS,bP,hr,cond_true,cond_false,gn,gq,Bool.and_self,List.length_map,decide_true,Option.bind_some,wa,wb,wc,wd,dA,hb,sn,hl,Bool.not_true,Bool.not_false,bk (show k < 9223372036854775807 by omega)]) (by
  have lM:decide (((c.2.2.2.2.toNat:Nat):Int) < c.2.2.2.2)=false:=decide_eq_false (by omega)
  simp only [qS,lM,cond_false,gn,gq,Bool.and_self,List.length_map,decide_true,cond_true,Option.bind_some]) N 0 (Nat.zero_le _) (by unfold fC at hN; omega)
 have k0:bO c 1=[(c.1,c.2.1)]:=by
  unfold bO aN
  simp
 have e0:aN c 0=(c.1,c.2.1):=by unfold aN; simp
 simp only [Nat.zero_add,k0,e0] at key
 have z:((bif (allFit (aj.fits cG) [(AV.agg [(AV.int .i64 c.1),(AV.int .i64 c.2.1)])]&&true) then some ((List.map d86 [(AV.agg [(AV.int .i64 c.1),(AV.int .i64 c.2.1)])]),c.2.2.2.1,0,c.1,c.2.1) else none:Option ((List (Int × Int)) × Bool × Int × Int × Int)).bind fun DP=>bif (decide (1=(List.map av DP.1).length)&&true) then some DP else none)=some ([(c.1,c.2.1)],c.2.2.2.1,0,c.1,c.2.1):=rfl
 rw [SM,z]
 have jV:az (qS N c) N ([(c.1,c.2.1)],c.2.2.2.1,0,c.1,c.2.1)=_:=key
 simp only [beq_self_eq_true,Bool.and_self,cond_true,Option.bind_some,jV,gn,gq]
theorem Oz (c:dh) (h:cm c=0):X4 N c=some (aN c c.2.2.2.2.toNat):=by
 obtain ⟨h1,h2,h3⟩:=dB h
 have q:On N (c.1,c.2.1,c.2.2.1,c.2.2.2.1,c.2.2.2.2)=some (bO c (c.2.2.2.2.toNat+1)):=wC hN c h
 rw [SR,q,Option.bind_some]
 have hw:IntKind.wrap .i64 (((c.2.2.2.2.toNat+1:Nat):Int) - 1)=((c.2.2.2.2.toNat:Nat):Int):=by rw [iH ⟨by omega,by omega⟩]; omega
 have hk:c.2.2.2.2.toNat < (bO c (c.2.2.2.2.toNat+1)).length:=by rw [dA]; omega
 obtain ⟨a1,a2⟩:=Kh hN (bO c (c.2.2.2.2.toNat+1)) hk
 have eg:(bO c (c.2.2.2.2.toNat+1))[c.2.2.2.2.toNat]=aN c c.2.2.2.2.toNat:=by simp [bO]
 rw [eg] at a1
 have ir:decide ((0:Int)≤((c.2.2.2.2.toNat:Nat):Int)∧((c.2.2.2.2.toNat:Nat):Int) < ((c.2.2.2.2.toNat+1:Nat):Int))=true:=decide_eq_true (by omega)
 simp only [List.length_map,dA,hw,Int.toNat_natCast,ir,a1,a2,Bool.and_self,cond_true]
theorem OA (c:dh):WN N c=some (fT c):=by
 rw [SP]
 have aav:DQ N (c.1,c.2.1)=some (aL (c.1,c.2.1)):=yC N (c.1,c.2.1)
 simp only [aav,Option.bind_some,beq_self_eq_true,Bool.and_self,cond_true,Oy]
 rw [aau]
 simp only [Option.bind_some]
 rw [GA hN _ (by simp)]
 simp only [Option.bind_some]
 have e1:aY [aL (c.1,c.2.1),BH c.2.2.2.2 1 512]=cm c:=rfl
 rw [e1]
 unfold fT
 by_cases h:cm c=0
 ·obtain ⟨h1,h2,h3⟩:=dB h
  have q:On N (c.1,c.2.1,c.2.2.1,c.2.2.2.1,c.2.2.2.2)=some (bO c (c.2.2.2.2.toNat+1)):=wC hN c h
  have hlen:=dA c (c.2.2.2.2.toNat+1)
  rw [h]
  simp only [bne_self_eq_false,cond_false,q,Option.bind_some,if_true]
  generalize bO c (c.2.2.2.2.toNat+1)=l at *
  have key:=iJ (rd:=ua N l) (l.map aL) (fun k hk=>by
   rw [List.length_map] at hk
   obtain ⟨a1,a2⟩:=Kh hN l hk
   have q2:DQ N (l[k].1,l[k].2)=some (aL l[k]):=yC N l[k]
   rw [List.getElem_map]
   simp only [ua,List.length_map,Int.toNat_natCast,a8 hk,aI hk,a1,a2,Bool.and_self,cond_true,q2,Option.bind_some,bk (show k < 9223372036854775807 by omega)]
   by_cases hz:aL l[k]=0
   ·simp [hz]
   ·simp [hz,Bool.cond_eq_ite]) (by
   rw [List.length_map]
   simp only [ua,List.length_map,bp,cond_false]) N (by rw [List.length_map]; unfold fC at hN; omega)
  rw [key]
  simp only [Option.bind_some]
  by_cases hz:aY (l.map aL)=0
  ·rw [if_pos hz,hz]; rfl
  ·rw [if_neg hz]; rfl
 ·have hb:(cm c != 0)=true:=bne_iff_ne.2 h
  rw [hb,cond_true,if_neg h]
theorem B0 (l:List (Int × Int)) (hl:l.length≤1000000):XZ N (l,l)=some true:=by
 have key:=bF (rd:=wq N l l) l.length (fun k=>(k:Int)) (.inr ()) (fun k hk=>by
  obtain ⟨a1,a2⟩:=Kh hN l hk
  simp only [wq,List.length_map,Int.toNat_natCast,a8 hk,aI hk,a1,a2,Bool.and_self,cond_true,beq_self_eq_true,Bool.not_true,cond_false,bk (show k < 9223372036854775807 by omega)]) (by
  simp only [wq,List.length_map,bp,cond_false]) N 0 (Nat.zero_le _) (by unfold fC at hN; omega)
 have jV:az (wq N l l) N 0=some (.inr ()):=key
 rw [SB,jV]
 simp only [bne_self_eq_false,cond_false,Option.bind_some,Sum.elim_inr]
end
end Go.Proofs.YtldcljfjjoidhaaGreatDoor
