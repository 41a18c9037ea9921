/- Plain laws: the reference's flip: T50. -/
import Derived.Test.YtegoimldbgdeiaaGreatTrzXb
set_option linter.all false
open Bool renaming and_true→aap, and_self→aaq, and_eq_true→aax
open Int renaming toNat_natCast→aav
open List renaming length_map→aal, getElem?_eq_getElem→aas, length_take→aaI
open Nat renaming beq_refl→aaK
open Option renaming bind_some→aao
namespace Go.Proofs.YtegoimldbgdeiaaGreat
open Go Go.Am
open List (map)
open Int (toNat)
open Go.IntKind (wrap)
open Go.Am.aP (fits)
set_option maxRecDepth 100000
def oV (x:Int × Int):Int × Int:=(x.1,wrap .i64 (0 - x.2))
def qx (s:List (Int × Int)):List (Int × Int):=s.reverse.map oV
def vS (p n:Int) (e:Int × Int):Int × Int:=if e.1=p then (e.1,wrap .i64 (wrap .i64 (n - 1) - e.2)) else e
def iT (p n:Int) (s:qq):qq:=
 ((vS p n (s.1,s.2.1)).1,(vS p n (s.1,s.2.1)).2,(vS p n (s.2.2.1,s.2.2.2.1)).1,(vS p n (s.2.2.1,s.2.2.2.1)).2,
  if (s.1 == p)=(s.2.2.1 == p) then s.2.2.2.2 else !s.2.2.2.2)
def BB (t:fx) (k:Nat):fx:=(t.1.set k ((t.1.getD k ([],[])).1,qx (t.1.getD k ([],[])).2),t.2.map (iT (k:Int) ((t.1.getD k ([],[])).2.length:Int)))
theorem Kb (N:Nat) (e:Int × Int) (p n:Int):T94 N (e,p,n)=some (vS p n e):=by
 obtain ⟨a,b⟩:=e;rw [Xc];unfold vS;by_cases h:a=p
 ·have hb:(a == p)=true:=by simp [h]
  rw [if_pos h];simp only [hb,cond_true,aao]
 ·have hb:(a == p)=false:=by simp [h]
  rw [if_neg h];simp only [hb,cond_false,aao]
theorem BC {f:AV→Bool}:∀ {l:List AV} (p:Nat) {x:AV},allFit f l=true→f x=true→allFit f (l.set p x)=true
 |[],_,_,h,_=>h
 |a :: l,0,x,h,hx=>by
  rw [allFit,aax] at h;rw [List.set_cons_zero,allFit,aax];exact ⟨hx,h.2⟩
 |a :: l,p+1,x,h,hx=>by
  rw [allFit,aax] at h;rw [List.set_cons_succ,allFit,aax];exact ⟨h.1,BC p h.2 hx⟩
theorem getD_at {α:Type} (l:List α) (d:α) {k:Nat} (hk:k < l.length):l.getD k d=l[k]:=by
 rw [List.getD_eq_getElem?_getD,aas hk]; rfl
section
variable {N:Nat} (hN:fM N)
include hN
theorem LN (t:fx) (p:Nat) (hp:p < t.1.length) (hs:t.1[p].2.length≤1000) (nm:List UInt8) (l:List nJ) :
  aB (sJ N t (p:Int)) N (wrap .i64 ((t.1[p].2.length:Int) - 1),nm,[],l)=some (nm,qx t.1[p].2,l):=by
 obtain ⟨a1,a2⟩:=vN t.1 hp;have Zb:t.1[p].2.reverse.length=t.1[p].2.length:=List.length_reverse;have key:=bi (rd:=sJ N t (p:Int)) t.1[p].2.length (fun k=>((t.1[p].2.length:Int) - 1 - (k:Int),nm,(t.1[p].2.reverse.take k).map oV,l)) (nm,qx t.1[p].2,l) (fun k hk=>by
  obtain ⟨m,hm⟩:∃ m:Nat,(t.1[p].2.length:Int) - 1 - (k:Int)=(m:Int):=⟨t.1[p].2.length - 1 - k,by omega⟩;have Yx:m < t.1[p].2.length:=by omega
  obtain ⟨b1,b2⟩:=OC t.1[p].2 Yx;have ht:((t.1[p].2.reverse.take k).map oV).length=k:=by rw [aal,aaI]; omega
  have mC:((t.1[p].2.reverse.take (k+1)).map oV).length=k+1:=by rw [aal,aaI]; omega
  have d2:decide ((k+1) * 16≤140737488355328)=true:=decide_eq_true (by omega);have hr:t.1[p].2.reverse[k]'(by omega)=t.1[p].2[m]:=by
   rw [List.getElem_reverse];congr 1;omega
  have es:(t.1[p].2.reverse.take k).map oV++[(t.1[p].2[m].1,wrap .i64 (0 - t.1[p].2[m].2))]=(t.1[p].2.reverse.take (k+1)).map oV:=by
   rw [List.take_add_one,aas (by omega),List.map_append,hr]; rfl
  have e1:wrap .i64 ((m:Int) - 1)=(t.1[p].2.length:Int) - 1 - ((k+1:Nat):Int):=by rw [Pd (by omega)]; omega
  have d3:decide ((m:Int)≥0)=true:=by rw [decide_eq_true_eq]; omega
  generalize hq:(t.1[p].2.reverse.take k).map oV=q at ht es;generalize YE:(t.1[p].2.reverse.take (k+1)).map oV=q' at mC es;simp only [sJ,hm,d3,aal,aav,a1,a2,b1,b2,ap Yx,ap hp,ht,mC,d2,OM,es,Lw,Lx,nS,nT,e1,aaq,aap,cond_true,aao,eq_self,decide_true]) (by
  have d3:decide ((t.1[p].2.length:Int) - 1 - (t.1[p].2.length:Int)≥0)=false:=by rw [decide_eq_false_iff_not]; omega
  have e:(t.1[p].2.reverse.take t.1[p].2.length).map oV=qx t.1[p].2:=by rw [List.take_of_length_le (by omega)]; rfl
  simp only [sJ,d3,e,Lw,Lx,nS,nT,aaq,aap,cond_true,cond_false,aao,eq_self,decide_true]) N 0 (Nat.zero_le _) (by unfold fM at hN; omega)
 have e0:wrap .i64 ((t.1[p].2.length:Int) - 1)=(t.1[p].2.length:Int) - 1 - ((0:Nat):Int):=by rw [Pd (by omega)]; omega
 rw [e0];exact key
theorem LO (t:fx) (p:Nat) (hp:p < t.1.length) (h2:t.2.length≤1000000) (o:List UInt8 × List (Int × Int) × List nJ) (l:List nJ) :
  aB (nF N t (p:Int) o) N (0,(),[],l)=some ((),t.2.map (iT (p:Int) (t.1[p].2.length:Int)),l):=by
 obtain ⟨a1,a2⟩:=vN t.1 hp;have key:=bi (rd:=nF N t (p:Int) o) t.2.length (fun k=>((k:Int),(),(t.2.take k).map (iT (p:Int) (t.1[p].2.length:Int)),l)) ((),t.2.map (iT (p:Int) (t.1[p].2.length:Int)),l) (fun k hk=>by
  obtain ⟨b1,b2⟩:=LF t.2 hk;have ht:((t.2.take k).map (iT (p:Int) (t.1[p].2.length:Int))).length=k:=by rw [aal,aaI]; omega
  have mC:((t.2.take (k+1)).map (iT (p:Int) (t.1[p].2.length:Int))).length=k+1:=by rw [aal,aaI]; omega
  have d2:decide ((k+1) * 40≤140737488355328)=true:=decide_eq_true (by omega);have es:(t.2.take k).map (iT (p:Int) (t.1[p].2.length:Int))++[iT (p:Int) (t.1[p].2.length:Int) t.2[k]]=(t.2.take (k+1)).map (iT (p:Int) (t.1[p].2.length:Int)):=by
   rw [List.take_add_one,aas hk,List.map_append]; rfl
  generalize hq:(t.2.take k).map (iT (p:Int) (t.1[p].2.length:Int))=q at ht es;generalize YE:(t.2.take (k+1)).map (iT (p:Int) (t.1[p].2.length:Int))=q' at mC es;have hb:∀ (b:Bool),b=(if (t.2[k].1 == (p:Int))=(t.2[k].2.2.1 == (p:Int)) then t.2[k].2.2.2.2 else !t.2[k].2.2.2.2)→q++[((vS (p:Int) (t.1[p].2.length:Int) (t.2[k].1,t.2[k].2.1)).1,(vS (p:Int) (t.1[p].2.length:Int) (t.2[k].1,t.2[k].2.1)).2,(vS (p:Int) (t.1[p].2.length:Int) (t.2[k].2.2.1,t.2[k].2.2.2.1)).1,(vS (p:Int) (t.1[p].2.length:Int) (t.2[k].2.2.1,t.2[k].2.2.2.1)).2,b)]=q':=fun b hb=>by rw [hb]; exact es
  by_cases c:(t.2[k].1 == (p:Int))=(t.2[k].2.2.1 == (p:Int))
  ·have cb:((t.2[k].1 == (p:Int)) == (t.2[k].2.2.1 == (p:Int)))=true:=by rw [c]; exact beq_self_eq_true _
   have es':=hb t.2[k].2.2.2.2 (by rw [if_pos c]);simp only [nF,aal,aav,a1,b1,b2,cb,aE hk,ap hk,Kb,BA,es',ht,mC,d2,nS,nT,qN,qO,aaK,beq_self_eq_true,Bool.not_true,bg (show k < 9223372036854775807 by omega),aaq,aap,cond_true,cond_false,aao,eq_self,decide_true]
  ·have cb:((t.2[k].1 == (p:Int)) == (t.2[k].2.2.1 == (p:Int)))=false:=by
    cases x1:(t.2[k].1 == (p:Int)) <;> cases x2:(t.2[k].2.2.1 == (p:Int)) <;> rw [x1,x2] at c <;> first | rfl | exact absurd rfl c
   have es':=hb (!t.2[k].2.2.2.2) (by rw [if_neg c]);simp only [nF,aal,aav,a1,b1,b2,cb,aE hk,ap hk,Kb,BA,es',ht,mC,d2,nS,nT,qN,qO,aaK,beq_self_eq_true,Bool.not_false,bg (show k < 9223372036854775807 by omega),aaq,aap,cond_true,cond_false,aao,eq_self,decide_true]) (by
  simp only [nF,aal,bc,List.take_length,nS,nT,qN,qO,aaK,aaq,aap,cond_true,cond_false,aao,eq_self,decide_true]) N 0 (Nat.zero_le _) (by unfold fM at hN; omega)
 exact key
omit hN in
theorem aay:∀ l:List nJ,map AV.hJ (map iB l)=map iB l
 |[]=>rfl
 |x :: l=>by
  rw [List.map_cons,List.map_cons,aay l];rfl
omit hN in
theorem aaz:∀ l:List nJ,aF (map iB l)=true
 |[]=>rfl
 |x :: l=>by
  have h:∀ s:List (Int × Int),aF (map tv s)=true:=fun s=>by
   induction s with
   |nil=>rfl
   |cons y s ih=>
    show ((tv y).closed&&aF (map tv s))=true;rw [ih]; rfl
  show ((iB x).closed&&aF (map iB l))=true;rw [aaz l,aap];rfl
omit hN in
theorem Gz (l:List nJ) (p:Nat) (x:List UInt8) (s:List (Int × Int)) (k:LK):allFit (fits nE) (ak (map iB l) p (AV.agg [AV.str x,AV.list k 2 (map tv s)]))=true∧map d92 (ak (map iB l) p (AV.agg [AV.str x,AV.list k 2 (map tv s)]))=l.set p (x,s):=by
 have hf:fits nE (AV.agg [AV.str x,AV.list k 2 (map tv s)])=true:=by
  have:=Lw s;simp only [fits,aQ.fits,aaK,Bool.true_or,Bool.true_and,aap,List.isEmpty_nil];exact this
 have hd:d92 (AV.agg [AV.str x,AV.list k 2 (map tv s)])=(x,s):=by
  show (x,map d94 (map tv s))=(x,s);rw [Lx]
 rw [dV];refine ⟨?_,?_⟩
 ·exact BC p (nS l) hf
 ·rw [List.map_set,hd,nT]
theorem Sp (t:fx) (p:Nat) (hp:p < t.1.length) (hs:∀ x∈t.1,x.2.length≤1000) (h1:t.1.length≤1000) (h2:t.2.length≤1000000):Xg N (t,(p:Int))=some (BB t p):=by
 obtain ⟨a1,a2⟩:=vN t.1 hp;have yl:=hs _ (List.getElem_mem hp);have q1:∀ l,aB (sJ N (t.1,t.2) (p:Int)) N (wrap .i64 ((t.1[p].2.length:Int) - 1),t.1[p].1,[],l)=some (t.1[p].1,qx t.1[p].2,l):=LN hN t p hp yl t.1[p].1;have q2:∀ o l,aB (nF N (t.1,t.2) (p:Int) o) N (0,(),[],l)=some ((),t.2.map (iT (p:Int) (t.1[p].2.length:Int)),l):=LO hN t p hp h2;obtain ⟨s1,s2⟩:=Gz t.1 p t.1[p].1 (qx t.1[p].2) (.own 1);have d1:decide (t.1.length * 40≤140737488355328)=true:=decide_eq_true (by omega);have d2:decide ((0:Int)≤(p:Int)∧(p:Int) < ((t.1.length:Nat):Int))=true:=ap hp;have d3:decide (p < t.1.length)=true:=decide_eq_true hp;rw [show Xg N (t,(p:Int))=Xg N ((t.1,t.2),(p:Int)) from rfl,Xi];unfold BB;rw [getD_at _ _ hp];simp only [aal,List.length_nil,List.nil_append,aav,a1,a2,d1,d2,d3,ap hp,q1,q2,s1,s2,Nat.zero_add,TF,tx,cw,aaK,nS,nT,Lw,Lx,qN,qO,aay,aaz,aaq,aap,cond_true,aao,eq_self,decide_true,List.length_set]
end
end Go.Proofs.YtegoimldbgdeiaaGreat
