/- Plain laws: the program's check of a program,the whole. -/
import Derived.Test.YtldcljfjjoidhaaGreatDoorBraPi
set_option linter.all false
namespace Go.Proofs.YtldcljfjjoidhaaGreatDoor
open Go Go.Am Go.Sort
set_option maxRecDepth 100000
theorem sb {V X:Type} {rd:V→Option (V ⊕ X)} (l:List Int) (E:Nat→V) (g:X→Int) (P:Nat→Prop)
  (h:∀ k (hk:k < l.length),P k→(l[k]=0→rd (E k)=some (.inl (E (k+1)))∧P (k+1))∧(l[k]≠0→∃ x,rd (E k)=some (.inr x)∧g x=l[k])) (h0:P l.length→∃ x,rd (E l.length)=some (.inr x)∧g x=0) :
  ∀ n k,k≤l.length→l.length < n+k→P k→∃ x,aQ rd n (E k)=some x∧g x=bc (l.drop k)
 | 0,k,hk,hn,_=>by omega
 | n+1,k,hk,hn,hP=>by
  rw [a6]
  by_cases bT:k < l.length
  ·obtain ⟨h1,h2⟩:=h k bT hP
   rw [List.drop_eq_getElem_cons bT,bc]
   by_cases e:l[k]=0
   ·obtain ⟨r,hp⟩:=h1 e
    rw [if_pos e,r]
    exact sb l E g P h h0 n (k+1) (by omega) (by omega) hp
   ·obtain ⟨x,r,gx⟩:=h2 e
    rw [if_neg e,r]
    exact ⟨x,rfl,gx⟩
  ·have:k=l.length:=by omega
   subst this
   obtain ⟨x,r,gx⟩:=h0 hP
   rw [r,List.drop_eq_nil_of_le (Nat.le_refl _)]
   exact ⟨x,rfl,gx⟩
def nf (p:List cQ) (k:Nat):cQ:=(p.take k).getLast?.getD (0,0,false,false,0)
section
variable {N:Nat} (hN:iK N)
include hN
theorem A7 (c:cQ) (h:df c=0):yT N c=some (Jq c):=by
 obtain ⟨h1,h2,h3⟩:=dA h
 have t:=gN N c 1 h1 (by omega)
 rw [MG,show vn N ((c.1,c.2.1,c.2.2.1,c.2.2.2.1,c.2.2.2.2),1)=_ from t,Option.bind_some,beq_self_eq_true]
 simp only [Bool.and_self,cond_true]
 congr 1
 unfold a8 sg Jq
 cases c.2.2.2.1
 ·simp; omega
 ·simp; omega
theorem xy (p:List cQ) (k:Nat) (hk:k < p.length):(p.take (k+1)).getLast?=some p[k]:=by
 have:p.take (k+1)=p.take k++[p[k]]:=by rw [List.take_add_one,List.getElem?_eq_getElem hk]; rfl
 rw [this,List.getLast?_concat]
theorem IU (p:List cQ) (k:Nat) (hk:k < p.length) (hp:p.length≤256) (hP:∀ q∈p.take k,df q=0) :
  lL N p ((k:Int),eD (dU (p.take k)),(),(k:Int),nf p k)=some (if wh (p.take k) p[k]=0 then .inl (((k+1:Nat):Int),eD (dU (p.take (k+1))),(),((k+1:Nat):Int),nf p (k+1)) else .inr (.inl (wh (p.take k) p[k],eD (dU (p.take k)),(),(k:Int),nf p k))):=by
 obtain ⟨a1,a2⟩:=CX hN p hk
 have hl:=vB (p.take k) hP
 rw [List.length_take,Nat.min_eq_left (Nat.le_of_lt hk)] at hl
 have Rc:nf p (k+1)=p[k]:=by
  unfold nf
  rw [xy hN p k hk]
  rfl
 have Rk:k≠0→df (nf p k)=0∧below (p.take k) p[k]=decide (Jq p[k] < Jq (nf p k)):=by
  intro h0
  obtain ⟨j,rfl⟩:∃ j,k=j+1:=⟨k - 1,by omega⟩
  have hj:j < p.length:=by omega
  have e:(p.take (j+1)).getLast?=some p[j]:=xy hN p j hj
  unfold nf below
  rw [e]
  refine ⟨hP _ ?_,rfl⟩
  exact List.mem_of_getLast? e
 have XN:k=0→below (p.take k) p[k]=false:=fun h=>by subst h; rfl
 rw [xr p hk,Rc]
 unfold wh
 generalize nf p k=q at *
 generalize p[k]=c at *
 generalize p.take k=pk at *
 have t80:P8 N (decide ((k:Int)≥256),5)=some 0:=by rw [vu,decide_eq_false (by omega)]; rfl
 have t108:Il N (c.1,c.2.1,c.2.2.1,c.2.2.2.1,c.2.2.2.2)=some (gC c):=Iv hN c
 have t78:NX N [0,gC c]=some (gC c):=by
  rw [nI hN [0,gC c] (by simp)]
  show some (if (0:Int)=0 then (if gC c=0 then bc [] else gC c) else 0)=some (gC c)
  rw [if_pos rfl]
  by_cases e:gC c=0
  ·rw [if_pos e,e]; rfl
  ·rw [if_neg e]
 have z2:(bif allFit (an.fits Bi) [AV.int .i64 0,AV.int .i64 (gC c)] then some (List.map d26 [AV.int .i64 0,AV.int .i64 (gC c)]) else none:Option (List Int))=some [0,gC c]:=rfl
 have H11:gC c=0→(bif decide ((k:Int) > 0) then (yT N (c.1,c.2.1,c.2.2.1,c.2.2.2.1,c.2.2.2.2)).bind fun y7=>(yT N (q.1,q.2.1,q.2.2.1,q.2.2.2.1,q.2.2.2.2)).bind fun y8=>some (decide (y7 < y8),eD (dU pk),(),(k:Int),q.1,q.2.1,q.2.2.1,q.2.2.2.1,q.2.2.2.2,(),(0:Int)) else some (false,eD (dU pk),(),(k:Int),q.1,q.2.1,q.2.2.1,q.2.2.2.1,q.2.2.2.2,(),(0:Int)):Option (Bool × (List (nJ × Bool)) × Unit × Int × Int × Int × Bool × Bool × Int × Unit × Int))=some (below pk c,eD (dU pk),(),(k:Int),q.1,q.2.1,q.2.2.1,q.2.2.2.1,q.2.2.2.2,(),(0:Int)):=fun hc=>by
  by_cases h0:k=0
  ·rw [XN h0,decide_eq_false (by omega)]; rfl
  ·obtain ⟨e1,e2⟩:=Rk h0
   rw [e2,decide_eq_true (by omega),show yT N (c.1,c.2.1,c.2.2.1,c.2.2.2.1,c.2.2.2.2)=_ from A7 hN c (ra hc),show yT N (q.1,q.2.1,q.2.2.1,q.2.2.2.1,q.2.2.2.2)=_ from A7 hN q e1]
   rfl
 by_cases hc:gC c=0
 ·have Bh:=ra hc
  have JE:=nK Bh
  have hcn:=dA Bh
  have mln:(cP c).length=c.2.2.2.2.toNat:=kQ c _
  have r1:=IT hN p k c a1 (dU pk) () (k:Int) q Bh (by omega)
  have Ae:(gC c != 0)=false:=by rw [hc]; rfl
  have XP:(ab (List.map aN (eD (dU pk)))).length=(dU pk).length:=by rw [fq.UY]; simp [eD]
  simp only [if_pos hc]
  simp only [lL,List.length_map,bV hk,bR hk,Int.toNat_natCast,a1,a2,Bool.and_self,Bool.and_true,cond_true,beq_self_eq_true,t80,t108,z2,t78,Ae,cond_false,fq.cells,fq.bt,gv,gw,Option.bind_some]
  rw [H11 hc]
  cases VH:below pk c with
  | true=>rfl
  | false=>
   simp only [Option.bind_some,cond_false,fq.cells,fq.bt,gv,gw,Bool.and_self,cond_true,r1,Bool.false_eq_true,if_false]
   by_cases h9:∃ b∈cP c,b∈dU pk
   ·simp only [if_pos h9,Option.bind_some,Sum.elim_inl,Sum.elim_inr,fq.cells,fq.bt,gv,gw,Bool.and_self,cond_true]
    rfl
   ·simp only [if_neg h9,Option.bind_some,Sum.elim_inl,Sum.elim_inr,fq.cells,fq.bt,gv,gw,Bool.and_self,cond_true,XP]
    have w:IntKind.wrap .i64 (((dU pk).length:Int)+c.2.2.2.2)=(((dU pk).length+(cP c).length:Nat):Int):=by rw [lW ⟨by omega,by omega⟩]; omega
    have r2:=MZ hN p k c a1 (dU pk) ((k:Int),eD (dU pk),(),(k:Int),q) rfl (k:Int) q 0 Bh (fun b hb hq=>h9 ⟨b,hb,hq⟩)
    rw [w]
    by_cases h4:(dU pk).length+(cP c).length > 4096
    ·rw [decide_eq_true (show (((dU pk).length+(cP c).length:Nat):Int) > 4096 by omega)]
     simp only [if_pos h4,Option.bind_some,fq.cells,fq.bt,gv,gw,Bool.and_self,cond_true]
     rfl
    ·rw [decide_eq_false (show ¬ (((dU pk).length+(cP c).length:Nat):Int) > 4096 by omega)]
     simp only [if_neg h4,if_true,Option.bind_some,fq.cells,fq.bt,gv,gw,Bool.and_self,cond_true,cond_false,r2,cO (show k < 9223372036854775807 by omega)]
     rfl
 ·have Ae:(gC c != 0)=true:=bne_iff_ne.2 hc
  simp only [if_neg hc]
  simp only [lL,List.length_map,bV hk,bR hk,Int.toNat_natCast,a1,a2,Bool.and_self,Bool.and_true,cond_true,beq_self_eq_true,t80,t108,z2,t78,Ae,fq.cells,fq.bt,gv,gw,Option.bind_some]
theorem lQ (p:List cQ):Jo N p=some (dB p):=by
 rw [QF]
 unfold dB
 rw [List.length_map]
 by_cases hp:p.length > 256
 ·rw [if_pos hp,decide_eq_true (by omega)]; rfl
 ·rw [if_neg hp,decide_eq_false (by omega),cond_false]
  have key:=sb (rd:=lL N p) (zb p) (fun k=>((k:Int),eD (dU (p.take k)),(),(k:Int),nf p k)) (Sum.elim (fun o66=>o66.1) (fun _=>0)) (fun k=>∀ q∈p.take k,df q=0) (fun k hk hP=>by
   rw [jI] at hk
   have st:=IU hN p k hk (by omega) hP
   rw [zd p hk]
   refine ⟨fun e=>⟨?_,fun q hq=>?_⟩,fun e=>?_⟩
   ·rw [st,if_pos e]
   ·rw [List.take_add_one,List.getElem?_eq_getElem hk] at hq
    rcases List.mem_append.1 hq with hq | hq
    ·exact hP q hq
    ·have:q=p[k]:=by simpa using hq
     subst this
     exact ra (rb e).1
   ·rw [st,if_neg e]
    exact ⟨_,rfl,rfl⟩) (fun _=>by
   rw [jI]
   refine ⟨.inr (eD (dU (p.take p.length)),(),(p.length:Int),nf p p.length),?_,rfl⟩
   simp only [lL,List.length_map,b0,cond_false,fq.cells,fq.bt,gv,gw,Bool.and_self,cond_true,Option.bind_some]) N 0 (Nat.zero_le _) (by rw [jI]; unfold iK at hN; omega) (fun q hq=>by simp at hq)
  obtain ⟨x,r,gx⟩:=key
  rw [List.drop_zero] at gx
  have r':aQ (lL N p) N (0,([]:List (nJ × Bool)),(),0,0,0,false,false,0)=some x:=r
  have z:((bif (allFit (an.fits de) (aj ([]:List (AV × AV)))&&true) then some (0,(List.map dM (aj ([]:List (AV × AV)))),(),0,0,0,false,false,0) else none:Option (Int × (List ((Int × Int × Int) × Bool)) × Unit × Int × Int × Int × Bool × Bool × Int)).bind fun lW=>bif (bt ([]:List (AV × AV))&&true) then some lW else none)=some (0,([]:List (nJ × Bool)),(),0,0,0,false,false,0):=rfl
  rw [z,Option.bind_some,r',Option.bind_some,← gx]
  cases x <;> rfl
end
end Go.Proofs.YtldcljfjjoidhaaGreatDoor
