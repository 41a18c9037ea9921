/- Plain laws: the program's check of a program,the whole. -/
import Derived.Test.YtldcljfjjoidhaaGreatDoorBraPi
set_option linter.all false
namespace Go.Proofs.YtldcljfjjoidhaaGreatDoor
open Go Go.Am Go.Sort
open List (map)
open Int (toNat)
open Go.IntKind (wrap)
open Go.Am.aT (fits)
set_option maxRecDepth 100000
theorem uz {V X:Type} {rd:V→Option (V ⊕ X)} (l:List Int) (E:Nat→V) (g:X→Int) (P:Nat→Prop)
  (h:∀ k (hk:k < l.length),P k→(l[k]=0→rd (E k)=some (.inl (E (k+1)))∧P (k+1))∧(l[k]≠0→∃ x,rd (E k)=some (.inr x)∧g x=l[k])) (h0:P l.length→∃ x,rd (E l.length)=some (.inr x)∧g x=0) :
  ∀ n k,k≤l.length→l.length < n+k→P k→∃ x,aG rd n (E k)=some x∧g x=aS (l.drop k)
 | 0,k,hk,hn,_=>by omega
 | n+1,k,hk,hn,hP=>by
  rw [bh]
  by_cases bV:k < l.length
  ·obtain ⟨h1,h2⟩:=h k bV hP
   rw [List.drop_eq_getElem_cons bV,aS]
   by_cases e:l[k]=0
   ·obtain ⟨r,hp⟩:=h1 e
    rw [if_pos e,r]
    exact uz l E g P h h0 n (k+1) (by omega) (by omega) hp
   ·obtain ⟨x,r,gx⟩:=h2 e
    rw [if_neg e,r]
    exact ⟨x,rfl,gx⟩
  ·have:k=l.length:=by omega
   subst this
   obtain ⟨x,r,gx⟩:=h0 hP
   rw [r,List.drop_eq_nil_of_le (Nat.le_refl _)]
   exact ⟨x,rfl,gx⟩
def pd (p:List bD) (k:Nat):bD:=(p.take k).getLast?.getD (0,0,false,false,0)
section
variable {N:Nat} (hN:fB N)
include hN
theorem Dz (c:bD) (h:bX c=0):Bw N c=some (DP c):=by
 obtain ⟨h1,h2,h3⟩:=cB h
 have t:=eM N c 1 h1 (by omega)
 rw [QD,show qQ N ((c.1,c.2.1,c.2.2.1,c.2.2.2.1,c.2.2.2.2),1)=_ from t,Option.bind_some,beq_self_eq_true]
 simp only [Bool.and_self,cond_true]
 congr 1
 unfold aK sg DP
 cases c.2.2.2.1
 ·simp; omega
 ·simp; omega
theorem Ab (p:List bD) (k:Nat) (hk:k < p.length):(p.take (k+1)).getLast?=some p[k]:=by
 have:p.take (k+1)=p.take k++[p[k]]:=by rw [List.take_add_one,List.getElem?_eq_getElem hk]; rfl
 rw [this,List.getLast?_concat]
theorem Ms (p:List bD) (k:Nat) (hk:k < p.length) (hp:p.length≤256) (hP:∀ q∈p.take k,bX q=0) :
  nA N p ((k:Int),fD (bp (p.take k)),(),(k:Int),pd p k)=some (if mD (p.take k) p[k]=0 then .inl (((k+1:Nat):Int),fD (bp (p.take (k+1))),(),((k+1:Nat):Int),pd p (k+1)) else .inr (.inl (mD (p.take k) p[k],fD (bp (p.take k)),(),(k:Int),pd p k))):=by
 obtain ⟨a1,a2⟩:=tC hN p hk
 have hl:=mw (p.take k) hP
 rw [List.length_take,Nat.min_eq_left (Nat.le_of_lt hk)] at hl
 have WH:pd p (k+1)=p[k]:=by
  unfold pd
  rw [Ab hN p k hk]
  rfl
 have WO:k≠0→bX (pd p k)=0∧below (p.take k) p[k]=decide (DP p[k] < DP (pd p k)):=by
  intro h0
  obtain ⟨j,rfl⟩:∃ j,k=j+1:=⟨k - 1,by omega⟩
  have hj:j < p.length:=by omega
  have e:(p.take (j+1)).getLast?=some p[j]:=Ab hN p j hj
  unfold pd below
  rw [e]
  refine ⟨hP _ ?_,rfl⟩
  exact List.mem_of_getLast? e
 have ZR:k=0→below (p.take k) p[k]=false:=fun h=>by subst h; rfl
 rw [my p hk,WH]
 unfold mD
 generalize pd p k=q at *
 generalize p[k]=c at *
 generalize p.take k=pk at *
 have t80:U6 N (decide ((k:Int)≥256),5)=some 0:=by rw [xP,decide_eq_false (by omega)]; rfl
 have t108:LH N (c.1,c.2.1,c.2.2.1,c.2.2.2.1,c.2.2.2.2)=some (dW c):=LR hN c
 have t78:SM N [0,dW c]=some (dW c):=by
  rw [pL hN [0,dW c] (by simp)]
  show some (if (0:Int)=0 then (if dW c=0 then aS [] else dW c) else 0)=some (dW c)
  rw [if_pos rfl]
  by_cases e:dW c=0
  ·rw [if_pos e,e]; rfl
  ·rw [if_neg e]
 have z2:(bif allFit (fits xz) [AV.int .i64 0,AV.int .i64 (dW c)] then some (map kF [AV.int .i64 0,AV.int .i64 (dW c)]) else none:Option pX)=some [0,dW c]:=rfl
 have H11:dW c=0→(bif decide ((k:Int) > 0) then (Bw N (c.1,c.2.1,c.2.2.1,c.2.2.2.1,c.2.2.2.2)).bind fun y7=>(Bw N (q.1,q.2.1,q.2.2.1,q.2.2.2.1,q.2.2.2.2)).bind fun y8=>some (decide (y7 < y8),fD (bp pk),(),(k:Int),q.1,q.2.1,q.2.2.1,q.2.2.2.1,q.2.2.2.2,(),(0:Int)) else some (false,fD (bp pk),(),(k:Int),q.1,q.2.1,q.2.2.1,q.2.2.2.1,q.2.2.2.2,(),(0:Int)):Option (Bool × (List (dM × Bool)) × Unit × Int × Int × Int × Bool × Bool × Int × Unit × Int))=some (below pk c,fD (bp pk),(),(k:Int),q.1,q.2.1,q.2.2.1,q.2.2.2.1,q.2.2.2.2,(),(0:Int)):=fun hc=>by
  by_cases h0:k=0
  ·rw [ZR h0,decide_eq_false (by omega)]; rfl
  ·obtain ⟨e1,e2⟩:=WO h0
   rw [e2,decide_eq_true (by omega),show Bw N (c.1,c.2.1,c.2.2.1,c.2.2.2.1,c.2.2.2.2)=_ from Dz hN c (nE hc),show Bw N (q.1,q.2.1,q.2.2.1,q.2.2.2.1,q.2.2.2.2)=_ from Dz hN q e1]
   rfl
 by_cases hc:dW c=0
 ·have zL:=nE hc
  have Ny:=pN zL
  have hcn:=cB zL
  have mln:(cp c).length=c.2.2.2.2.toNat:=dQ c _
  have r1:=Mr hN p k c a1 (bp pk) () (k:Int) q zL (by omega)
  have HL:(dW c != 0)=false:=by rw [hc]; rfl
  have adJ:(ab (map aZ (fD (bp pk)))).length=(bp pk).length:=by rw [gA.ent]; simp [fD]
  simp only [if_pos hc]
  simp only [nA,List.length_map,bf hk,aO hk,Int.toNat_natCast,a1,a2,Bool.and_self,Bool.and_true,cond_true,beq_self_eq_true,t80,t108,z2,t78,HL,cond_false,gA.cells,gA.a7,iF,iG,Option.bind_some]
  rw [H11 hc]
  cases hbw:below pk c with
  | true=>rfl
  | false=>
   simp only [Option.bind_some,cond_false,gA.cells,gA.a7,iF,iG,Bool.and_self,cond_true,r1,Bool.false_eq_true,if_false]
   by_cases h9:∃ b∈cp c,b∈bp pk
   ·simp only [if_pos h9,Option.bind_some,Sum.elim_inl,Sum.elim_inr,gA.cells,gA.a7,iF,iG,Bool.and_self,cond_true]
    rfl
   ·simp only [if_neg h9,Option.bind_some,Sum.elim_inl,Sum.elim_inr,gA.cells,gA.a7,iF,iG,Bool.and_self,cond_true,adJ]
    have w:wrap .i64 (((bp pk).length:Int)+c.2.2.2.2)=(((bp pk).length+(cp c).length:Nat):Int):=by rw [iE ⟨by omega,by omega⟩]; omega
    have r2:=Rg hN p k c a1 (bp pk) ((k:Int),fD (bp pk),(),(k:Int),q) rfl (k:Int) q 0 zL (fun b hb hq=>h9 ⟨b,hb,hq⟩)
    rw [w]
    by_cases h4:(bp pk).length+(cp c).length > 4096
    ·rw [decide_eq_true (show (((bp pk).length+(cp c).length:Nat):Int) > 4096 by omega)]
     simp only [if_pos h4,Option.bind_some,gA.cells,gA.a7,iF,iG,Bool.and_self,cond_true]
     rfl
    ·rw [decide_eq_false (show ¬ (((bp pk).length+(cp c).length:Nat):Int) > 4096 by omega)]
     simp only [if_neg h4,if_true,Option.bind_some,gA.cells,gA.a7,iF,iG,Bool.and_self,cond_true,cond_false,r2,bA (show k < 9223372036854775807 by omega)]
     rfl
 ·have HL:(dW c != 0)=true:=bne_iff_ne.2 hc
  simp only [if_neg hc]
  simp only [nA,List.length_map,bf hk,aO hk,Int.toNat_natCast,a1,a2,Bool.and_self,Bool.and_true,cond_true,beq_self_eq_true,t80,t108,z2,t78,HL,gA.cells,gA.a7,iF,iG,Option.bind_some]
theorem iM (p:List bD):Ft N p=some (bY p):=by
 rw [VH]
 unfold bY
 rw [List.length_map]
 by_cases hp:p.length > 256
 ·rw [if_pos hp,decide_eq_true (by omega)]; rfl
 ·rw [if_neg hp,decide_eq_false (by omega),cond_false]
  have key:=uz (rd:=nA N p) (BA p) (fun k=>((k:Int),fD (bp (p.take k)),(),(k:Int),pd p k)) (Sum.elim (fun o66=>o66.1) (fun _=>0)) (fun k=>∀ q∈p.take k,bX q=0) (fun k hk hP=>by
   rw [iL] at hk
   have st:=Ms hN p k hk (by omega) hP
   rw [ss p hk]
   refine ⟨fun e=>⟨?_,fun q hq=>?_⟩,fun e=>?_⟩
   ·rw [st,if_pos e]
   ·rw [List.take_add_one,List.getElem?_eq_getElem hk] at hq
    rcases List.mem_append.1 hq with hq | hq
    ·exact hP q hq
    ·have:q=p[k]:=by simpa using hq
     subst this
     exact nE (gq e).1
   ·rw [st,if_neg e]
    exact ⟨_,rfl,rfl⟩) (fun _=>by
   rw [iL]
   refine ⟨.inr (fD (bp (p.take p.length)),(),(p.length:Int),pd p p.length),?_,rfl⟩
   simp only [nA,List.length_map,bt,cond_false,gA.cells,gA.a7,iF,iG,Bool.and_self,cond_true,Option.bind_some]) N 0 (Nat.zero_le _) (by rw [iL]; unfold fB at hN; omega) (fun q hq=>by simp at hq)
  obtain ⟨x,r,gx⟩:=key
  rw [List.drop_zero] at gx
  have r':aG (nA N p) N (0,([]:List (dM × Bool)),(),0,0,0,false,false,0)=some x:=r
  have z:((bif (allFit (fits cu) (an ([]:List (AV × AV)))&&true) then some (0,(map eN (an ([]:List (AV × AV)))),(),0,0,0,false,false,0) else none:Option (Int × (List (XB × Bool)) × Unit × Int × Int × Int × Bool × Bool × Int)).bind fun iE=>bif (a7 ([]:List (AV × AV))&&true) then some iE else none)=some (0,([]:List (dM × Bool)),(),0,0,0,false,false,0):=rfl
  rw [z,Option.bind_some,r',Option.bind_some,← gx]
  cases x <;> rfl
end
end Go.Proofs.YtldcljfjjoidhaaGreatDoor
