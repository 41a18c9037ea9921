/- Plain laws: courses as the reference walks them. -/
import Derived.Test.YtldcljfjjoidhaaGreatDoorBraP
set_option linter.all false
namespace Go.Proofs.YtldcljfjjoidhaaGreatDoor
open Go Go.Am
set_option maxRecDepth 100000
section
variable {N:Nat} (hN:ta N)
include hN
theorem s9 (c:xQ) (h:fx c=0):H9 N c=some (bB c (c.2.2.2.2.toNat+1)):=by
 obtain ⟨h1,h2,h3⟩:=iu h
 have Fi:=s8 h1
 simp only at Fi
 have key:=iP (rd:=nZ N c) c.2.2.2.2.toNat (fun k=>(bB c (k+1),(if k % 2=0 then c.2.2.2.1 else !c.2.2.2.1),(k:Int),(b6 c k).1,(b6 c k).2)) (bB c (c.2.2.2.2.toNat+1),(b6 c c.2.2.2.2.toNat).1,(b6 c c.2.2.2.2.toNat).2) (fun k hk=>by
  have bD:decide ((k:Int) < c.2.2.2.2)=true:=decide_eq_true (by omega)
  have hl:(bB c (k+1)++[b6 c (k+1)]).length=k+1+1:=by rw [List.length_append,cM]; rfl
  have hb:decide ((k+1+1) * 16≤140737488355328)=true:=decide_eq_true (by omega)
  have ek:b6 c (k+1)=((if c.2.2.1=true then (b6 c k).1+1 else (b6 c k).1 - 1),(if (if k % 2=0 then c.2.2.2.1 else !c.2.2.2.1)=true then (b6 c k).2+1 else (b6 c k).2 - 1)):=by
   obtain ⟨x,y,r,u,n⟩:=c
   unfold b6 sg
   rcases Nat.mod_two_eq_zero_or_one k with hm | hm
   ·have LD:(k+1) % 2=1:=by omega
    simp only [hm,LD,if_true]
    refine Prod.ext ?_ ?_
    ·cases r <;> simp <;> omega
    ·cases u <;> simp <;> omega
   ·have LD:(k+1) % 2=0:=by omega
    simp only [hm,LD,show ¬ (1=0) from by decide,if_false]
    refine Prod.ext ?_ ?_
    ·cases r <;> simp <;> omega
    ·cases u <;> simp <;> omega
  have UU:(k:Int) < 512:=by omega
  have Un:-200000≤(b6 c k).1∧(b6 c k).1≤200000∧-200000≤(b6 c k).2∧(b6 c k).2≤200000:=by
   obtain ⟨x,y,r,u,n⟩:=c
   simp only at Fi h3
   have hm:((k % 2:Nat):Int) < 2:=by omega
   unfold b6 sg
   cases r <;> cases u <;> simp <;> omega
  have Uo:(if (k+1) % 2=0 then c.2.2.2.1 else !c.2.2.2.1)=!(if k % 2=0 then c.2.2.2.1 else !c.2.2.2.1):=by
   rcases Nat.mod_two_eq_zero_or_one k with hm | hm
   ·have LD:(k+1) % 2=1:=by omega
    simp [hm,LD]
   ·have LD:(k+1) % 2=0:=by omega
    simp [hm,LD]
  have e2:bB c (k+1+1)=bB c (k+1)++[b6 c (k+1)]:=pT c (k+1)
  rw [e2,Uo]
  rw [ek] at hl ⊢
  generalize (if k % 2=0 then c.2.2.2.1 else !c.2.2.2.1)=up at *
  generalize b6 c k=q at *
  have wa:IntKind.wrap .i64 (q.1+1)=q.1+1:=sR ⟨by omega,by omega⟩
  have wb:IntKind.wrap .i64 (q.1 - 1)=q.1 - 1:=sR ⟨by omega,by omega⟩
  have wc:IntKind.wrap .i64 (q.2+1)=q.2+1:=sR ⟨by omega,by omega⟩
  have wd:IntKind.wrap .i64 (q.2 - 1)=q.2 - 1:=sR ⟨by omega,by omega⟩
  have sn:=fun a b:Int=>EQ hN (bB c (k+1)) (a,b)
  simp only at sn
  cases hr:c.2.2.1 <;> cases up
  all_goals simp only [hr,if_true,Bool.false_eq_true,if_false] at hl ⊢
  all_goals simp only [nZ,bD,hr,cond_true,cond_false,xI,xJ,Bool.and_self,List.length_map,decide_true,Option.bind_some,wa,wb,wc,wd,cM,hb,sn,hl,Bool.not_true,Bool.not_false,ka (show k < 9223372036854775807 by omega)]) (by
  have qO:decide (((c.2.2.2.2.toNat:Nat):Int) < c.2.2.2.2)=false:=decide_eq_false (by omega)
  simp only [nZ,qO,cond_false,xI,xJ,Bool.and_self,List.length_map,decide_true,cond_true,Option.bind_some]) N 0 (Nat.zero_le _) (by unfold ta at hN; omega)
 have k0:bB c 1=[(c.1,c.2.1)]:=by
  unfold bB b6
  simp
 have e0:b6 c 0=(c.1,c.2.1):=by unfold b6; simp
 simp only [Nat.zero_add,k0,e0] at key
 have z:((bif (allFit (av.fits kn) [(AV.agg [(AV.int .i64 c.1),(AV.int .i64 c.2.1)])]&&true) then some ((List.map d86 [(AV.agg [(AV.int .i64 c.1),(AV.int .i64 c.2.1)])]),c.2.2.2.1,0,c.1,c.2.1) else none:Option ((List (Int × Int)) × Bool × Int × Int × Int)).bind fun Oi=>bif (decide (1=(List.map cU Oi.1).length)&&true) then some Oi else none)=some ([(c.1,c.2.1)],c.2.2.2.1,0,c.1,c.2.1):=rfl
 rw [Lu,z]
 have ET:cq (nZ N c) N ([(c.1,c.2.1)],c.2.2.2.1,0,c.1,c.2.1)=_:=key
 simp only [beq_self_eq_true,Bool.and_self,cond_true,Option.bind_some,ET,xI,xJ]
theorem Il (c:xQ) (h:fx c=0):Oo N c=some (b6 c c.2.2.2.2.toNat):=by
 obtain ⟨h1,h2,h3⟩:=iu h
 have q:H9 N (c.1,c.2.1,c.2.2.1,c.2.2.2.1,c.2.2.2.2)=some (bB c (c.2.2.2.2.toNat+1)):=s9 hN c h
 rw [Lz,q,Option.bind_some]
 have hw:IntKind.wrap .i64 (((c.2.2.2.2.toNat+1:Nat):Int) - 1)=((c.2.2.2.2.toNat:Nat):Int):=by rw [sR ⟨by omega,by omega⟩]; omega
 have hk:c.2.2.2.2.toNat < (bB c (c.2.2.2.2.toNat+1)).length:=by rw [cM]; omega
 obtain ⟨a1,a2⟩:=LB hN (bB c (c.2.2.2.2.toNat+1)) hk
 have eg:(bB c (c.2.2.2.2.toNat+1))[c.2.2.2.2.toNat]=b6 c c.2.2.2.2.toNat:=by simp [bB]
 rw [eg] at a1
 have ir:decide ((0:Int)≤((c.2.2.2.2.toNat:Nat):Int)∧((c.2.2.2.2.toNat:Nat):Int) < ((c.2.2.2.2.toNat+1:Nat):Int))=true:=decide_eq_true (by omega)
 simp only [List.length_map,cM,hw,Int.toNat_natCast,ir,a1,a2,Bool.and_self,cond_true]
theorem Im (c:xQ):On N c=some (ke c):=by
 rw [Lx]
 have Q6:zO N (c.1,c.2.1)=some (bS (c.1,c.2.1)):=uy N (c.1,c.2.1)
 simp only [Q6,Option.bind_some,beq_self_eq_true,Bool.and_self,cond_true,Ij]
 rw [Q5]
 simp only [Option.bind_some]
 rw [BV hN _ (by simp)]
 simp only [Option.bind_some]
 have e1:cB [bS (c.1,c.2.1),B3 c.2.2.2.2 1 512]=fx c:=rfl
 rw [e1]
 unfold ke
 by_cases h:fx c=0
 ·obtain ⟨h1,h2,h3⟩:=iu h
  have q:H9 N (c.1,c.2.1,c.2.2.1,c.2.2.2.1,c.2.2.2.2)=some (bB c (c.2.2.2.2.toNat+1)):=s9 hN c h
  have hlen:=cM c (c.2.2.2.2.toNat+1)
  rw [h]
  simp only [bne_self_eq_false,cond_false,q,Option.bind_some,if_true]
  generalize bB c (c.2.2.2.2.toNat+1)=l at *
  have key:=pM (rd:=qK N l) (l.map bS) (fun k hk=>by
   rw [List.length_map] at hk
   obtain ⟨a1,a2⟩:=LB hN l hk
   have q2:zO N (l[k].1,l[k].2)=some (bS l[k]):=uy N l[k]
   rw [List.getElem_map]
   simp only [qK,List.length_map,Int.toNat_natCast,jD hk,jC hk,a1,a2,Bool.and_self,cond_true,q2,Option.bind_some,ka (show k < 9223372036854775807 by omega)]
   by_cases hz:bS l[k]=0
   ·simp [hz]
   ·simp [hz,Bool.cond_eq_ite]) (by
   rw [List.length_map]
   simp only [qK,List.length_map,jE,cond_false]) N (by rw [List.length_map]; unfold ta at hN; omega)
  rw [key]
  simp only [Option.bind_some]
  by_cases hz:cB (l.map bS)=0
  ·rw [if_pos hz,hz]; rfl
  ·rw [if_neg hz]; rfl
 ·have hb:(fx c != 0)=true:=bne_iff_ne.2 h
  rw [hb,cond_true,if_neg h]
theorem xS (l:List (Int × Int)) (hl:l.length≤1000000):OX N (l,l)=some true:=by
 have key:=iP (rd:=s6 N l l) l.length (fun k=>(k:Int)) (.inr ()) (fun k hk=>by
  obtain ⟨a1,a2⟩:=LB hN l hk
  simp only [s6,List.length_map,Int.toNat_natCast,jD hk,jC hk,a1,a2,Bool.and_self,cond_true,beq_self_eq_true,Bool.not_true,cond_false,ka (show k < 9223372036854775807 by omega)]) (by
  simp only [s6,List.length_map,jE,cond_false]) N 0 (Nat.zero_le _) (by unfold ta at hN; omega)
 have ET:cq (s6 N l l) N 0=some (.inr ()):=key
 rw [Le,ET]
 simp only [bne_self_eq_false,cond_false,Option.bind_some,Sum.elim_inr]
theorem Io (c:xQ):∃ b,OW N ([c],1)=some b:=by
 rw [Lc]
 have a1:d88 (bM (List.map zL [c]) 0)=c:=rfl
 have a2:av.fits La (bM (List.map zL [c]) 0)=true:=rfl
 have g1:decide ((((List.map zL [c]).length:Nat):Int) > 1)=false:=rfl
 have l0:decide ((0:Int) < (((List.map zL [c]).length:Nat):Int))=true:=rfl
 have i0:decide ((0:Int)≤0∧(0:Int) < ((List.map zL [c]).length:Int))=true:=rfl
 have l1:decide ((1:Int) < (((List.map zL [c]).length:Nat):Int))=false:=rfl
 have t0:Int.toNat 0=0:=rfl
 have w1:IntKind.wrap .i64 (0+1)=1:=rfl
 obtain ⟨k,rfl⟩:∃ k,N=k+2:=⟨N - 2,by unfold ta at hN; omega⟩
 rw [dh]
 simp only [g1,cond_false,Option.bind_some,vB,l0,i0,t0,a1,a2,Bool.and_self,cond_true]
 by_cases h:c.2.2.2.2 > 12
 ·by_cases h2:c.2.2.2.2≤512
  ·rw [decide_eq_true h,decide_eq_true h2]; exact ⟨_,rfl⟩
  ·rw [decide_eq_true h,decide_eq_false h2]
   simp only [cond_true,cond_false,Option.bind_some,Sum.elim_inl,w1]
   rw [dh]
   simp only [vB,l1,cond_false,Option.bind_some,Sum.elim_inr]
   exact ⟨_,rfl⟩
 ·rw [decide_eq_false h]
  simp only [cond_true,cond_false,Option.bind_some,Sum.elim_inl,w1]
  rw [dh]
  simp only [vB,l1,cond_false,Option.bind_some,Sum.elim_inr]
  exact ⟨_,rfl⟩
end
end Go.Proofs.YtldcljfjjoidhaaGreatDoor
