/- Plain laws: the program's check of a program,the whole. -/
import Derived.Test.YtldcljfjjoidhaaGreatDoorBraPi
set_option linter.all false
namespace Go.Proofs.YtldcljfjjoidhaaGreatDoor
open Go Go.Am Go.Sort
set_option maxRecDepth 100000
theorem tv {V X:Type} {rd:V→Option (V ⊕ X)} (l:List Int) (E:Nat→V) (g:X→Int) (P:Nat→Prop)
  (h:∀ k (hk:k < l.length),P k→(l[k]=0→rd (E k)=some (.inl (E (k+1)))∧P (k+1))∧(l[k]≠0→∃ x,rd (E k)=some (.inr x)∧g x=l[k])) (h0:P l.length→∃ x,rd (E l.length)=some (.inr x)∧g x=0) :
  ∀ n k,k≤l.length→l.length < n+k→P k→∃ x,az rd n (E k)=some x∧g x=aY (l.drop k)
 | 0,k,hk,hn,_=>by omega
 | n+1,k,hk,hn,hP=>by
  rw [bD]
  by_cases bM:k < l.length
  ·obtain ⟨h1,h2⟩:=h k bM hP
   rw [List.drop_eq_getElem_cons bM,aY]
   by_cases e:l[k]=0
   ·obtain ⟨r,hp⟩:=h1 e
    rw [if_pos e,r]
    exact tv l E g P h h0 n (k+1) (by omega) (by omega) hp
   ·obtain ⟨x,r,gx⟩:=h2 e
    rw [if_neg e,r]
    exact ⟨x,rfl,gx⟩
  ·have:k=l.length:=by omega
   subst this
   obtain ⟨x,r,gx⟩:=h0 hP
   rw [r,List.drop_eq_nil_of_le (Nat.le_refl _)]
   exact ⟨x,rfl,gx⟩
def n5 (p:List da) (k:Nat):da:=(p.take k).getLast?.getD (0,0,false,false,0)
section
variable {N:Nat} (hN:fq N)
include hN
theorem Ck (c:da) (h:cr c=0):As N c=some (Lt c):=by
 obtain ⟨h1,h2,h3⟩:=cZ h
 have t:=dJ N c 1 h1 (by omega)
 rw [OU,show mQ N ((c.1,c.2.1,c.2.2.1,c.2.2.2.1,c.2.2.2.2),1)=_ from t,Option.bind_some,beq_self_eq_true]
 simp only [Bool.and_self,cond_true]
 congr 1
 unfold ax sg Lt
 cases c.2.2.2.1
 ·simp; omega
 ·simp; omega
theorem yZ (p:List da) (k:Nat) (hk:k < p.length):(p.take (k+1)).getLast?=some p[k]:=by
 have:p.take (k+1)=p.take k++[p[k]]:=by rw [List.take_add_one,List.getElem?_eq_getElem hk]; rfl
 rw [this,List.getLast?_concat]
theorem KQ (p:List da) (k:Nat) (hk:k < p.length) (hp:p.length≤256) (hP:∀ q∈p.take k,cr q=0) :
  mF N p ((k:Int),eV (a6 (p.take k)),(),(k:Int),n5 p k)=some (if xe (p.take k) p[k]=0 then .inl (((k+1:Nat):Int),eV (a6 (p.take (k+1))),(),((k+1:Nat):Int),n5 p (k+1)) else .inr (.inl (xe (p.take k) p[k],eV (a6 (p.take k)),(),(k:Int),n5 p k))):=by
 obtain ⟨a1,a2⟩:=Ee hN p hk
 have hl:=lJ (p.take k) hP
 rw [List.length_take,Nat.min_eq_left (Nat.le_of_lt hk)] at hl
 have Ux:n5 p (k+1)=p[k]:=by
  unfold n5
  rw [yZ hN p k hk]
  rfl
 have UH:k≠0→cr (n5 p k)=0∧below (p.take k) p[k]=decide (Lt p[k] < Lt (n5 p k)):=by
  intro h0
  obtain ⟨j,rfl⟩:∃ j,k=j+1:=⟨k - 1,by omega⟩
  have hj:j < p.length:=by omega
  have e:(p.take (j+1)).getLast?=some p[j]:=yZ hN p j hj
  unfold n5 below
  rw [e]
  refine ⟨hP _ ?_,rfl⟩
  exact List.mem_of_getLast? e
 have QN:k=0→below (p.take k) p[k]=false:=fun h=>by subst h; rfl
 rw [jB p hk,Ux]
 unfold xe
 generalize n5 p k=q at *
 generalize p[k]=c at *
 generalize p.take k=pk at *
 have t80:S2 N (decide ((k:Int)≥256),5)=some 0:=by rw [wO,decide_eq_false (by omega)]; rfl
 have t108:Ah N (c.1,c.2.1,c.2.2.1,c.2.2.2.1,c.2.2.2.2)=some (dQ c):=wP hN c
 have t78:U2 N [0,dQ c]=some (dQ c):=by
  rw [yQ hN [0,dQ c] (by simp)]
  show some (if (0:Int)=0 then (if dQ c=0 then aY [] else dQ c) else 0)=some (dQ c)
  rw [if_pos rfl]
  by_cases e:dQ c=0
  ·rw [if_pos e,e]; rfl
  ·rw [if_neg e]
 have z2:(bif allFit (aj.fits Ac) [AV.int .i64 0,AV.int .i64 (dQ c)] then some (List.map d26 [AV.int .i64 0,AV.int .i64 (dQ c)]) else none:Option (List Int))=some [0,dQ c]:=rfl
 have H11:dQ c=0→(bif decide ((k:Int) > 0) then (As N (c.1,c.2.1,c.2.2.1,c.2.2.2.1,c.2.2.2.2)).bind fun y7=>(As N (q.1,q.2.1,q.2.2.1,q.2.2.2.1,q.2.2.2.2)).bind fun y8=>some (decide (y7 < y8),eV (a6 pk),(),(k:Int),q.1,q.2.1,q.2.2.1,q.2.2.2.1,q.2.2.2.2,(),(0:Int)) else some (false,eV (a6 pk),(),(k:Int),q.1,q.2.1,q.2.2.1,q.2.2.2.1,q.2.2.2.2,(),(0:Int)):Option (Bool × (List (dR × Bool)) × Unit × Int × Int × Int × Bool × Bool × Int × Unit × Int))=some (below pk c,eV (a6 pk),(),(k:Int),q.1,q.2.1,q.2.2.1,q.2.2.2.1,q.2.2.2.2,(),(0:Int)):=fun hc=>by
  by_cases h0:k=0
  ·rw [QN h0,decide_eq_false (by omega)]; rfl
  ·obtain ⟨e1,e2⟩:=UH h0
   rw [e2,decide_eq_true (by omega),show As N (c.1,c.2.1,c.2.2.1,c.2.2.2.1,c.2.2.2.2)=_ from Ck hN c (mH hc),show As N (q.1,q.2.1,q.2.2.1,q.2.2.2.1,q.2.2.2.2)=_ from Ck hN q e1]
   rfl
 by_cases hc:dQ c=0
 ·have DC:=mH hc
  have Hh:=oG DC
  have hcn:=cZ DC
  have mln:(cj c).length=c.2.2.2.2.toNat:=dz c _
  have r1:=KP hN p k c a1 (a6 pk) () (k:Int) q DC (by omega)
  have Ij:(dQ c != 0)=false:=by rw [hc]; rfl
  have abc:(ab (List.map aS (eV (a6 pk)))).length=(a6 pk).length:=by rw [fL.Yo]; simp [eV]
  simp only [if_pos hc]
  simp only [mF,List.length_map,bc hk,aI hk,Int.toNat_natCast,a1,a2,Bool.and_self,Bool.and_true,cond_true,beq_self_eq_true,t80,t108,z2,t78,Ij,cond_false,fL.cells,fL.aV,gP,gQ,Option.bind_some]
  rw [H11 hc]
  cases Za:below pk c with
  | true=>rfl
  | false=>
   simp only [Option.bind_some,cond_false,fL.cells,fL.aV,gP,gQ,Bool.and_self,cond_true,r1,Bool.false_eq_true,if_false]
   by_cases h9:∃ b∈cj c,b∈a6 pk
   ·simp only [if_pos h9,Option.bind_some,Sum.elim_inl,Sum.elim_inr,fL.cells,fL.aV,gP,gQ,Bool.and_self,cond_true]
    rfl
   ·simp only [if_neg h9,Option.bind_some,Sum.elim_inl,Sum.elim_inr,fL.cells,fL.aV,gP,gQ,Bool.and_self,cond_true,abc]
    have w:IntKind.wrap .i64 (((a6 pk).length:Int)+c.2.2.2.2)=(((a6 pk).length+(cj c).length:Nat):Int):=by rw [gY ⟨by omega,by omega⟩]; omega
    have r2:=PB hN p k c a1 (a6 pk) ((k:Int),eV (a6 pk),(),(k:Int),q) rfl (k:Int) q 0 DC (fun b hb hq=>h9 ⟨b,hb,hq⟩)
    rw [w]
    by_cases h4:(a6 pk).length+(cj c).length > 4096
    ·rw [decide_eq_true (show (((a6 pk).length+(cj c).length:Nat):Int) > 4096 by omega)]
     simp only [if_pos h4,Option.bind_some,fL.cells,fL.aV,gP,gQ,Bool.and_self,cond_true]
     rfl
    ·rw [decide_eq_false (show ¬ (((a6 pk).length+(cj c).length:Nat):Int) > 4096 by omega)]
     simp only [if_neg h4,if_true,Option.bind_some,fL.cells,fL.aV,gP,gQ,Bool.and_self,cond_true,cond_false,r2,bk (show k < 9223372036854775807 by omega)]
     rfl
 ·have Ij:(dQ c != 0)=true:=bne_iff_ne.2 hc
  simp only [if_neg hc]
  simp only [mF,List.length_map,bc hk,aI hk,Int.toNat_natCast,a1,a2,Bool.and_self,Bool.and_true,cond_true,beq_self_eq_true,t80,t108,z2,t78,Ij,fL.cells,fL.aV,gP,gQ,Option.bind_some]
theorem FC (p:List da):Lq N p=some (je p):=by
 rw [TD]
 unfold je
 rw [List.length_map]
 by_cases hp:p.length > 256
 ·rw [if_pos hp,decide_eq_true (by omega)]; rfl
 ·rw [if_neg hp,decide_eq_false (by omega),cond_false]
  have key:=tv (rd:=mF N p) (Ay p) (fun k=>((k:Int),eV (a6 (p.take k)),(),(k:Int),n5 p k)) (Sum.elim (fun o66=>o66.1) (fun _=>0)) (fun k=>∀ q∈p.take k,cr q=0) (fun k hk hP=>by
   rw [kf] at hk
   have st:=KQ hN p k hk (by omega) hP
   rw [Az p hk]
   refine ⟨fun e=>⟨?_,fun q hq=>?_⟩,fun e=>?_⟩
   ·rw [st,if_pos e]
   ·rw [List.take_add_one,List.getElem?_eq_getElem hk] at hq
    rcases List.mem_append.1 hq with hq | hq
    ·exact hP q hq
    ·have:q=p[k]:=by simpa using hq
     subst this
     exact mH (lN e).1
   ·rw [st,if_neg e]
    exact ⟨_,rfl,rfl⟩) (fun _=>by
   rw [kf]
   refine ⟨.inr (eV (a6 (p.take p.length)),(),(p.length:Int),n5 p p.length),?_,rfl⟩
   simp only [mF,List.length_map,bq,cond_false,fL.cells,fL.aV,gP,gQ,Bool.and_self,cond_true,Option.bind_some]) N 0 (Nat.zero_le _) (by rw [kf]; unfold fq at hN; omega) (fun q hq=>by simp at hq)
  obtain ⟨x,r,gx⟩:=key
  rw [List.drop_zero] at gx
  have r':az (mF N p) N (0,([]:List (dR × Bool)),(),0,0,0,false,false,0)=some x:=r
  have z:((bif (allFit (aj.fits dH) (ai ([]:List (AV × AV)))&&true) then some (0,(List.map ef (ai ([]:List (AV × AV)))),(),0,0,0,false,false,0) else none:Option (Int × (List ((Int × Int × Int) × Bool)) × Unit × Int × Int × Int × Bool × Bool × Int)).bind fun gY=>bif (aV ([]:List (AV × AV))&&true) then some gY else none)=some (0,([]:List (dR × Bool)),(),0,0,0,false,false,0):=rfl
  rw [z,Option.bind_some,r',Option.bind_some,← gx]
  cases x <;> rfl
end
end Go.Proofs.YtldcljfjjoidhaaGreatDoor
