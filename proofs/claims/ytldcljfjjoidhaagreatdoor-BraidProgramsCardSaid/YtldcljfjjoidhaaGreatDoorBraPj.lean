/- Plain laws: the program's check of a program,the whole. -/
import Derived.Test.YtldcljfjjoidhaaGreatDoorBraPi
set_option linter.all false
namespace Go.Proofs.YtldcljfjjoidhaaGreatDoor
open Go Go.Am Go.Sort
set_option maxRecDepth 100000
theorem ta {V X:Type} {rd:V→Option (V ⊕ X)} (l:List Int) (E:Nat→V) (g:X→Int) (P:Nat→Prop)
  (h:∀ k (hk:k < l.length),P k→(l[k]=0→rd (E k)=some (.inl (E (k+1)))∧P (k+1))∧(l[k]≠0→∃ x,rd (E k)=some (.inr x)∧g x=l[k])) (h0:P l.length→∃ x,rd (E l.length)=some (.inr x)∧g x=0) :
  ∀ n k,k≤l.length→l.length < n+k→P k→∃ x,az rd n (E k)=some x∧g x=aY (l.drop k)
 | 0,k,hk,hn,_=>by omega
 | n+1,k,hk,hn,hP=>by
  rw [bB]
  by_cases bP:k < l.length
  ·obtain ⟨h1,h2⟩:=h k bP hP
   rw [List.drop_eq_getElem_cons bP,aY]
   by_cases e:l[k]=0
   ·obtain ⟨r,hp⟩:=h1 e
    rw [if_pos e,r]
    exact ta l E g P h h0 n (k+1) (by omega) (by omega) hp
   ·obtain ⟨x,r,gx⟩:=h2 e
    rw [if_neg e,r]
    exact ⟨x,rfl,gx⟩
  ·have:k=l.length:=by omega
   subst this
   obtain ⟨x,r,gx⟩:=h0 hP
   rw [r,List.drop_eq_nil_of_le (Nat.le_refl _)]
   exact ⟨x,rfl,gx⟩
def nR (p:List dh) (k:Nat):dh:=(p.take k).getLast?.getD (0,0,false,false,0)
section
variable {N:Nat} (hN:fC N)
include hN
theorem B6 (c:dh) (h:cm c=0):z7 N c=some (Lg c):=by
 obtain ⟨h1,h2,h3⟩:=dB h
 have t:=dW N c 1 h1 (by omega)
 rw [OG,show nK N ((c.1,c.2.1,c.2.2.1,c.2.2.2.1,c.2.2.2.2),1)=_ from t,Option.bind_some,beq_self_eq_true]
 simp only [Bool.and_self,cond_true]
 congr 1
 unfold aN sg Lg
 cases c.2.2.2.1
 ·simp; omega
 ·simp; omega
theorem yL (p:List dh) (k:Nat) (hk:k < p.length):(p.take (k+1)).getLast?=some p[k]:=by
 have:p.take (k+1)=p.take k++[p[k]]:=by rw [List.take_add_one,List.getElem?_eq_getElem hk]; rfl
 rw [this,List.getLast?_concat]
theorem KK (p:List dh) (k:Nat) (hk:k < p.length) (hp:p.length≤256) (hP:∀ q∈p.take k,cm q=0) :
  mu N p ((k:Int),eQ (bz (p.take k)),(),(k:Int),nR p k)=some (if wS (p.take k) p[k]=0 then .inl (((k+1:Nat):Int),eQ (bz (p.take (k+1))),(),((k+1:Nat):Int),nR p (k+1)) else .inr (.inl (wS (p.take k) p[k],eQ (bz (p.take k)),(),(k:Int),nR p k))):=by
 obtain ⟨a1,a2⟩:=D6 hN p hk
 have hl:=lA (p.take k) hP
 rw [List.length_take,Nat.min_eq_left (Nat.le_of_lt hk)] at hl
 have T4:nR p (k+1)=p[k]:=by
  unfold nR
  rw [yL hN p k hk]
  rfl
 have Ue:k≠0→cm (nR p k)=0∧below (p.take k) p[k]=decide (Lg p[k] < Lg (nR p k)):=by
  intro h0
  obtain ⟨j,rfl⟩:∃ j,k=j+1:=⟨k - 1,by omega⟩
  have hj:j < p.length:=by omega
  have e:(p.take (j+1)).getLast?=some p[j]:=yL hN p j hj
  unfold nR below
  rw [e]
  refine ⟨hP _ ?_,rfl⟩
  exact List.mem_of_getLast? e
 have Ym:k=0→below (p.take k) p[k]=false:=fun h=>by subst h; rfl
 rw [lB p hk,T4]
 unfold wS
 generalize nR p k=q at *
 generalize p[k]=c at *
 generalize p.take k=pk at *
 have t80:SD N (decide ((k:Int)≥256),5)=some 0:=by rw [wB,decide_eq_false (by omega)]; rfl
 have t108:J9 N (c.1,c.2.1,c.2.2.1,c.2.2.2.1,c.2.2.2.2)=some (fT c):=Kg hN c
 have t78:Ux N [0,fT c]=some (fT c):=by
  rw [yA hN [0,fT c] (by simp)]
  show some (if (0:Int)=0 then (if fT c=0 then aY [] else fT c) else 0)=some (fT c)
  rw [if_pos rfl]
  by_cases e:fT c=0
  ·rw [if_pos e,e]; rfl
  ·rw [if_neg e]
 have z2:(bif allFit (aj.fits zS) [AV.int .i64 0,AV.int .i64 (fT c)] then some (List.map d26 [AV.int .i64 0,AV.int .i64 (fT c)]) else none:Option (List Int))=some [0,fT c]:=rfl
 have H11:fT c=0→(bif decide ((k:Int) > 0) then (z7 N (c.1,c.2.1,c.2.2.1,c.2.2.2.1,c.2.2.2.2)).bind fun y7=>(z7 N (q.1,q.2.1,q.2.2.1,q.2.2.2.1,q.2.2.2.2)).bind fun y8=>some (decide (y7 < y8),eQ (bz pk),(),(k:Int),q.1,q.2.1,q.2.2.1,q.2.2.2.1,q.2.2.2.2,(),(0:Int)) else some (false,eQ (bz pk),(),(k:Int),q.1,q.2.1,q.2.2.1,q.2.2.2.1,q.2.2.2.2,(),(0:Int)):Option (Bool × (List (dL × Bool)) × Unit × Int × Int × Int × Bool × Bool × Int × Unit × Int))=some (below pk c,eQ (bz pk),(),(k:Int),q.1,q.2.1,q.2.2.1,q.2.2.2.1,q.2.2.2.2,(),(0:Int)):=fun hc=>by
  by_cases h0:k=0
  ·rw [Ym h0,decide_eq_false (by omega)]; rfl
  ·obtain ⟨e1,e2⟩:=Ue h0
   rw [e2,decide_eq_true (by omega),show z7 N (c.1,c.2.1,c.2.2.1,c.2.2.2.1,c.2.2.2.2)=_ from B6 hN c (pS hc),show z7 N (q.1,q.2.1,q.2.2.1,q.2.2.2.1,q.2.2.2.2)=_ from B6 hN q e1]
   rfl
 by_cases hc:fT c=0
 ·have zz:=pS hc
  have Ls:=ou zz
  have hcn:=dB zz
  have mln:(cF c).length=c.2.2.2.2.toNat:=dY c _
  have r1:=KJ hN p k c a1 (bz pk) () (k:Int) q zz (by omega)
  have H8:(fT c != 0)=false:=by rw [hc]; rfl
  have aaQ:(ab (List.map aT (eQ (bz pk)))).length=(bz pk).length:=by rw [fI.XX]; simp [eQ]
  simp only [if_pos hc]
  simp only [mu,List.length_map,a8 hk,aI hk,Int.toNat_natCast,a1,a2,Bool.and_self,Bool.and_true,cond_true,beq_self_eq_true,t80,t108,z2,t78,H8,cond_false,fI.cells,fI.aV,gM,gN,Option.bind_some]
  rw [H11 hc]
  cases YT:below pk c with
  | true=>rfl
  | false=>
   simp only [Option.bind_some,cond_false,fI.cells,fI.aV,gM,gN,Bool.and_self,cond_true,r1,Bool.false_eq_true,if_false]
   by_cases h9:∃ b∈cF c,b∈bz pk
   ·simp only [if_pos h9,Option.bind_some,Sum.elim_inl,Sum.elim_inr,fI.cells,fI.aV,gM,gN,Bool.and_self,cond_true]
    rfl
   ·simp only [if_neg h9,Option.bind_some,Sum.elim_inl,Sum.elim_inr,fI.cells,fI.aV,gM,gN,Bool.and_self,cond_true,aaQ]
    have w:IntKind.wrap .i64 (((bz pk).length:Int)+c.2.2.2.2)=(((bz pk).length+(cF c).length:Nat):Int):=by rw [iH ⟨by omega,by omega⟩]; omega
    have r2:=Pg hN p k c a1 (bz pk) ((k:Int),eQ (bz pk),(),(k:Int),q) rfl (k:Int) q 0 zz (fun b hb hq=>h9 ⟨b,hb,hq⟩)
    rw [w]
    by_cases h4:(bz pk).length+(cF c).length > 4096
    ·rw [decide_eq_true (show (((bz pk).length+(cF c).length:Nat):Int) > 4096 by omega)]
     simp only [if_pos h4,Option.bind_some,fI.cells,fI.aV,gM,gN,Bool.and_self,cond_true]
     rfl
    ·rw [decide_eq_false (show ¬ (((bz pk).length+(cF c).length:Nat):Int) > 4096 by omega)]
     simp only [if_neg h4,if_true,Option.bind_some,fI.cells,fI.aV,gM,gN,Bool.and_self,cond_true,cond_false,r2,bk (show k < 9223372036854775807 by omega)]
     rfl
 ·have H8:(fT c != 0)=true:=bne_iff_ne.2 hc
  simp only [if_neg hc]
  simp only [mu,List.length_map,a8 hk,aI hk,Int.toNat_natCast,a1,a2,Bool.and_self,Bool.and_true,cond_true,beq_self_eq_true,t80,t108,z2,t78,H8,fI.cells,fI.aV,gM,gN,Option.bind_some]
theorem Fp (p:List dh):Kl N p=some (ki p):=by
 rw [Tc]
 unfold ki
 rw [List.length_map]
 by_cases hp:p.length > 256
 ·rw [if_pos hp,decide_eq_true (by omega)]; rfl
 ·rw [if_neg hp,decide_eq_false (by omega),cond_false]
  have key:=ta (rd:=mu N p) (Ac p) (fun k=>((k:Int),eQ (bz (p.take k)),(),(k:Int),nR p k)) (Sum.elim (fun o66=>o66.1) (fun _=>0)) (fun k=>∀ q∈p.take k,cm q=0) (fun k hk hP=>by
   rw [j5] at hk
   have st:=KK hN p k hk (by omega) hP
   rw [Ad p hk]
   refine ⟨fun e=>⟨?_,fun q hq=>?_⟩,fun e=>?_⟩
   ·rw [st,if_pos e]
   ·rw [List.take_add_one,List.getElem?_eq_getElem hk] at hq
    rcases List.mem_append.1 hq with hq | hq
    ·exact hP q hq
    ·have:q=p[k]:=by simpa using hq
     subst this
     exact pS (lF e).1
   ·rw [st,if_neg e]
    exact ⟨_,rfl,rfl⟩) (fun _=>by
   rw [j5]
   refine ⟨.inr (eQ (bz (p.take p.length)),(),(p.length:Int),nR p p.length),?_,rfl⟩
   simp only [mu,List.length_map,bp,cond_false,fI.cells,fI.aV,gM,gN,Bool.and_self,cond_true,Option.bind_some]) N 0 (Nat.zero_le _) (by rw [j5]; unfold fC at hN; omega) (fun q hq=>by simp at hq)
  obtain ⟨x,r,gx⟩:=key
  rw [List.drop_zero] at gx
  have r':az (mu N p) N (0,([]:List (dL × Bool)),(),0,0,0,false,false,0)=some x:=r
  have z:((bif (allFit (aj.fits dC) (ai ([]:List (AV × AV)))&&true) then some (0,(List.map dX (ai ([]:List (AV × AV)))),(),0,0,0,false,false,0) else none:Option (Int × (List ((Int × Int × Int) × Bool)) × Unit × Int × Int × Int × Bool × Bool × Int)).bind fun iH=>bif (aV ([]:List (AV × AV))&&true) then some iH else none)=some (0,([]:List (dL × Bool)),(),0,0,0,false,false,0):=rfl
  rw [z,Option.bind_some,r',Option.bind_some,← gx]
  cases x <;> rfl
end
end Go.Proofs.YtldcljfjjoidhaaGreatDoor
