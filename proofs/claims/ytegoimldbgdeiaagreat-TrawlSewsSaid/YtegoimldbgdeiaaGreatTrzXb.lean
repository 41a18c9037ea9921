/- Plain laws: a seam sewn,a seam unsewn: T45,T46. -/
import Derived.Test.YtegoimldbgdeiaaGreatTrzXa
set_option linter.all false
open Bool renaming and_true→aap, and_self→aaq
open Int renaming toNat_natCast→aax
open List renaming length_map→aao, replicate→aas, length_replicate→aaK, take→aaL
open Nat renaming min→aav, beq_refl→aaI, min_self→aaM
open Option renaming bind_some→aal
namespace Go.Proofs.YtegoimldbgdeiaaGreat
open Go Go.Am
open List (map)
open Int (toNat)
open Go.IntKind (wrap)
open Go.Am.aP (fits)
set_option maxRecDepth 100000
theorem J9:∀ l:List nJ,aF (map n131 l)=true
 |[]=>rfl
 |x :: l=>by
  have h:∀ s:List (Int × Int),aF (map n132 s)=true:=fun s=>by
   induction s with
   |nil=>rfl
   |cons y s ih=>
    show ((n132 y).closed&&aF (map n132 s))=true;rw [ih]; rfl
  show ((n131 x).closed&&aF (map n131 l))=true;rw [J9 l,aap];rfl
theorem Ka:∀ l:List qq,aF (map n110 l)=true
 |[]=>rfl
 |x :: l=>by
  show ((n110 x).closed&&aF (map n110 l))=true;rw [Ka l]; rfl
theorem IS (l:List qq) (z:List AV) (hz:z.length=l.length):bu z 0 (aaL (aav (map n110 l).length l.length) (map n110 l))=map n110 l:=by
 rw [aao,show aav l.length l.length=l.length from aaM _,List.take_of_length_le (by simp)];rw [eN _ _ _ (by rw [aao,hz,Nat.zero_add]; exact Nat.le_refl _)];simp [hz]
section
variable {N:Nat} (hN:fM N)
include hN
theorem Gw (t:fx) (h:t.1.length≤1000) (hs:∀ x∈t.1,x.2≠[]∧x.2.length≤1000) (l:List qq):aB (ju N t) N ((),0,l,[])=some ((),l,t.1):=by
 have key:=bi (rd:=ju N t) t.1.length (fun k=>((),(k:Int),l,t.1.take k)) ((),l,t.1) (fun k hk=>by
  obtain ⟨a1,a2⟩:=se t.1 hk;obtain ⟨h1,h2⟩:=hs _ (List.getElem_mem hk);have ht:(t.1.take k).length=k:=by rw [List.length_take]; omega
  have mC:(t.1.take (k+1)).length=k+1:=by rw [List.length_take]; omega
  have d2:decide ((k+1) * 40≤140737488355328)=true:=decide_eq_true (by omega);have d3:decide (t.1[k].2.length * 16≤140737488355328)=true:=decide_eq_true (by omega);have d4:List.isEmpty (map n132 t.1[k].2)=false:=by
   cases hq:t.1[k].2 with
   |nil=>exact absurd hq h1
   |cons _ _=>rfl
  have es:t.1.take k++[(t.1[k].1,t.1[k].2)]=t.1.take (k+1):=by rw [List.take_add_one,List.getElem?_eq_getElem hk]; rfl
  simp only [ju,jK,aao,aax,a1,a2,aE hk,ap hk,ht,mC,d2,d3,d4,J7,es,cI,cJ,bX,bY,aaI,beq_self_eq_true,Bool.not_false,bg (show k < 9223372036854775807 by omega),aaq,aap,cond_true,aal,eq_self,decide_true]) (by
  simp only [ju,jK,aao,bc,List.take_length,cI,cJ,bX,bY,aaI,aaq,aap,cond_true,cond_false,aal,eq_self,decide_true]) N 0 (Nat.zero_le _) (by unfold fM at hN; omega)
 exact key
theorem OS (t:fx) (h:t.1.length≤1000) (hs:∀ x∈t.1,x.2≠[]∧x.2.length≤1000) (l:List qq):aB (qw N t) N ((),0,l,[])=some ((),l,t.1):=by
 have e:qw N t=ju N t:=rfl;rw [e];exact Gw hN t h hs l
omit hN in
theorem oC {t:fx} (h:eQ t=0):t.1.length≤16∧t.2.length≤64∧∀ x∈t.1,x.2≠[]∧x.2.length≤1000:=by
 obtain ⟨_,h2,h3,h4,_⟩:=OH h;unfold nH at h3;rw [Ei] at h3;refine ⟨h2,h4,fun x hx=>?_⟩;obtain ⟨k,hk,rfl⟩:=List.getElem_of_mem hx;have:=h3 (tw (t.1.take k) t.1[k]) (by rw [List.mem_mapIdx]; exact ⟨k,hk,rfl⟩);unfold tw at this;split at this
 ·cases this
 ·split at this
  ·cases this
  ·split at this
   ·cases this
   ·refine ⟨fun e=>?_,by omega⟩;have:t.1[k].2.length=0:=by rw [e]; rfl
    omega
def Cb (t:fx) (s:qq):Int:=if eQ t≠0 then eQ t else if t.2.length=64 then 5 else ma t t.2 s
def Gx (t:fx) (s:qq):fx × Int:=if Cb t s=0 then ((t.1,t.2++[s]),0) else (([],[]),Cb t s)
def yF (t:fx) (i:Int):Int:=if eQ t≠0 then eQ t else if i < 0∨(t.2.length:Int)≤i then 10 else 0
def Gy (t:fx) (i:Int):fx × Int:=if yF t i=0 then ((t.1,t.2.eraseIdx i.toNat),0) else (([],[]),yF t i)
omit hN in
theorem Xs (x y:Int):(bif allFit (fits C4) [(AV.int .i64 x),(AV.int .i64 y)] then some (map d29 [(AV.int .i64 x),(AV.int .i64 y)]) else none:Option (List Int))=some [x,y]:=rfl
omit hN in
theorem fz2 (x y:Int):bH [x,y]=if x≠0 then x else y:=by
 by_cases h:x=0
 ·rw [if_neg (by simpa using h)];by_cases hy:y=0 <;> simp [bH,h,hy]
 ·rw [if_pos h]; simp [bH,h]
omit hN in
theorem OT {n k:Nat} (h:n≤1000000) (hk:k≤40):decide ((0:Int)≤((n:Nat):Int)∧((n:Nat):Int)≤((n:Nat):Int)∧((n:Nat):Int)≤140737488355328∧((n:Nat):Int) * 40≤140737488355328)=true:=by
 rw [decide_eq_true_eq]; omega
omit hN in
theorem IT {n:Nat} (h:n≤1000000):decide ((0:Int)≤0∧0≤((n:Nat):Int)∧((n:Nat):Int)≤140737488355328∧((n:Nat):Int) * 40≤140737488355328)=true:=by
 rw [decide_eq_true_eq]; omega
omit hN in
theorem H8 (z:AV):aas (toNat 0) z=[]:=rfl
omit hN in
theorem z0b:(toNat 0).beq 0=true:=rfl
theorem Sm (t:fx) (s:qq) (hl:t.2.length≤1000000):WZ N (t,s)=some (Gx t s):=by
 have q:L8 N (t.1,t.2)=some (eQ t):=IP hN t;rw [show WZ N (t,s)=WZ N ((t.1,t.2),s) from rfl,W2];simp only [cI,cJ,bX,bY,Gd,aap,aaq,cond_true,aal,q,aao,beq_self_eq_true,nG,Xs,iN hN [_,_] (show 2≤9223372036854775806 by omega),fz2];unfold Gx Cb;by_cases h0:eQ t=0
 ·obtain ⟨h1,h2,h3⟩:=oC h0;rw [if_neg (show ¬ (eQ t≠0) by simpa using h0),if_neg (show ¬ (eQ t≠0) by simpa using h0)];by_cases h5:t.2.length=64
  ·have d:decide (((t.2.length:Nat):Int)≥64)=true:=by rw [decide_eq_true_eq]; omega
   rw [d,if_pos h5]; rfl
  ·have d:decide (((t.2.length:Nat):Int)≥64)=false:=by rw [decide_eq_false_iff_not]; omega
   have q2:Rm N ((t.1,t.2),(s.1,s.2.1,s.2.2.1,s.2.2.2.1,s.2.2.2.2),t.2)=some (ma t t.2 s):=OG hN t t.2 s hl;rw [d,if_neg h5];simp only [Bool.false_eq_true,if_false,bne_self_eq_false,cond_false,q2,aal];by_cases h6:ma t t.2 s=0
   ·have hc:aB (ju N (t.1,t.2)) N ((),0,t.2,[])=some ((),t.2,t.1):=Gw hN t (by omega) h3 t.2;rw [h6,if_pos rfl];have e1:decide ((0:Nat)+aav t.2.length t.2.length≤t.2.length)=true:=by rw [decide_eq_true_eq,show aav t.2.length t.2.length=t.2.length from aaM _]; omega
    have e2:decide ((t.2.length+1) * 40≤140737488355328)=true:=decide_eq_true (by omega);have e3:bu (aas t.2.length (AV.agg [(AV.int .i64 0),(AV.int .i64 0),(AV.int .i64 0),(AV.int .i64 0),(AV.bool false)])) 0 (aaL (aav t.2.length t.2.length) (map n110 t.2))=map n110 t.2:=by
     have:=IS t.2 (aas t.2.length (AV.agg [(AV.int .i64 0),(AV.int .i64 0),(AV.int .i64 0),(AV.int .i64 0),(AV.bool false)])) (by simp);rw [aao] at this;exact this
    have e4:map n110 t.2++[AV.agg [(AV.int .i64 s.1),(AV.int .i64 s.2.1),(AV.int .i64 s.2.2.1),(AV.int .i64 s.2.2.2.1),(AV.bool s.2.2.2.2)]]=map n110 (t.2++[s]):=J8 t.2 _ _ _ _ _;simp only [bne_self_eq_false,cond_false,OT (k:=40) (show t.2.length≤1000000 by omega) (by omega),IT (show t.1.length≤1000000 by omega),aax,aaK,aao,e1,e2,e3,e4,H8,z0b,List.length_nil,aaI,Ew,bX,bY,cI,cJ,hc,J9,Ka,List.length_append,List.length_singleton,aaq,aap,cond_true,aal,eq_self,decide_true]
   ·rw [B9 h6,if_neg h6]; rfl
 ·rw [if_pos h0,if_pos h0,B9 h0,if_neg h0]; rfl
theorem Sn (t:fx) (i:Int) (hl:t.2.length≤1000000):W3 N (t,i)=some (Gy t i):=by
 have q:L8 N (t.1,t.2)=some (eQ t):=IP hN t;rw [show W3 N (t,i)=W3 N ((t.1,t.2),i) from rfl,W5];have o:((L8 N (t.1,t.2)).bind fun y1=>(bif (decide (i < 0)) then (some [y1,10]).bind fun x5=>(Ek N x5).bind fun y4=>(some y4) else (some [y1,if decide (i≥((t.2.length:Nat):Int))=true then 10 else 0]).bind fun x8=>(Ek N x8).bind fun y7=>(some y7):Option Int))=some (yF t i):=by
  unfold yF;by_cases c:i < 0
  ·simp only [q,aal,decide_eq_true c,cond_true,iN hN [_,_] (show 2≤9223372036854775806 by omega),fz2];simp [c]
  ·simp only [q,aal,decide_eq_false c,cond_false,iN hN [_,_] (show 2≤9223372036854775806 by omega),fz2];simp [c]
 simp only [q,aal] at o;simp only [cI,cJ,bX,bY,aap,aaq,cond_true,aal,q,aao,nG,Xs,if_true,o];unfold Gy;by_cases h0:yF t i=0
 ·have ht:eQ t=0:=by
   by_cases h:eQ t=0
   ·exact h
   ·unfold yF at h0;rw [if_pos h] at h0;exact h0
  have hi:0≤i∧i < (t.2.length:Int):=by
   unfold yF at h0;rw [if_neg (show ¬ (eQ t≠0) by simpa using ht)] at h0;split at h0
   ·cases h0
   ·omega
  obtain ⟨h1,h2,h3⟩:=oC ht;obtain ⟨k,rfl⟩:∃ k:Nat,i=(k:Int):=⟨i.toNat,by omega⟩;have hk:k < t.2.length:=by omega
  have hc:aB (qw N (t.1,t.2)) N ((),0,t.2,[])=some ((),t.2,t.1):=OS hN t (by omega) h3 t.2;rw [h0,if_pos rfl];have e1:decide ((0:Nat)+aav t.2.length t.2.length≤t.2.length)=true:=by rw [decide_eq_true_eq,show aav t.2.length t.2.length=t.2.length from aaM _]; omega
  have e3:bu (aas t.2.length (AV.agg [(AV.int .i64 0),(AV.int .i64 0),(AV.int .i64 0),(AV.int .i64 0),(AV.bool false)])) 0 (aaL (aav t.2.length t.2.length) (map n110 t.2))=map n110 t.2:=by
   have:=IS t.2 (aas t.2.length (AV.agg [(AV.int .i64 0),(AV.int .i64 0),(AV.int .i64 0),(AV.int .i64 0),(AV.bool false)])) (by simp);rw [aao] at this;exact this
  have e4:aaL k (map n110 t.2)++List.drop (k+1) (map n110 t.2)=map n110 (t.2.eraseIdx k):=by
   rw [List.eraseIdx_eq_take_drop_succ,List.map_append,List.map_take,List.map_drop]
  have e5:decide ((0:Int)≤(k:Int)∧True∧(k:Int) < ((t.2.length:Nat):Int))=true:=by rw [decide_eq_true_eq]; exact ⟨by omega,trivial,by omega⟩
  have e6:(t.2.eraseIdx k).length=t.2.length - 1:=by rw [List.length_eraseIdx]; simp [hk]
  have e7:wrap .i64 ((k:Int)+1)=(k:Int)+1:=Pd (by omega);simp only [bne_self_eq_false,cond_false,OT (k:=40) (show t.2.length≤1000000 by omega) (by omega),IT (show t.1.length≤1000000 by omega),aax,aaK,aao,e1,e3,e4,e5,e6,e7,H8,z0b,List.length_nil,aaI,Ew,bX,bY,cI,cJ,hc,J9,Ka,aaq,aap,cond_true,aal,eq_self,decide_true]
 ·rw [B9 h0,if_neg h0]; rfl
end
end Go.Proofs.YtegoimldbgdeiaaGreat
