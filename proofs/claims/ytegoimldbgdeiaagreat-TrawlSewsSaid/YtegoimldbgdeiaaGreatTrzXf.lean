/- Plain laws: the program's flip: T47. -/
import Derived.Test.YtegoimldbgdeiaaGreatTrzXe
set_option linter.all false
open Bool renaming and_self→aaq, and_true→aas
open Int renaming toNat_natCast→aap
open List renaming length_map→aao
open Nat renaming zero_add→aav, beq_refl→aax
open Option renaming bind_some→aal
namespace Go.Proofs.YtegoimldbgdeiaaGreat
open Go Go.Am
open List (map)
open Int (toNat)
open Go.IntKind (wrap)
open Go.Am.aP (fits)
set_option maxRecDepth 100000
theorem Kd (l:List qq) (i:Nat) (a b c d:Int) (w:Bool):ak (map n110 l) i (AV.agg [AV.int .i64 a,AV.int .i64 b,AV.int .i64 c,AV.int .i64 d,AV.bool w])=map n110 (l.set i (a,b,c,d,w)):=by
 rw [dV,List.map_set]; rfl
section
variable {N:Nat} (hN:fM N)
include hN
theorem LR (t:fx) (h2:t.2.length≤1000000) (p:Int) (rows:List (List (Int × Int))) (pn:List (List UInt8 × Nat × Nat)) (j n:Nat) :
  aB (km N t) N (0,p,rows,t.2,pn,j,n)=some (p,rows,t.2.map (iT p (n:Int)),pn,j,n):=by
 have key:=bi (rd:=km N t) t.2.length (fun k=>((k:Int),p,rows,nI (iT p (n:Int)) t.2 k,pn,j,n)) (p,rows,t.2.map (iT p (n:Int)),pn,j,n) (fun k hk=>by
  have hl:=BD (iT p (n:Int)) t.2 (Nat.le_of_lt hk);have GM:k < (nI (iT p (n:Int)) t.2 k).length:=by omega
  obtain ⟨b1,b2⟩:=Bm (nI (iT p (n:Int)) t.2 k) GM;rw [Kc (iT p (n:Int)) t.2 hk] at b1;have es:=Dk (iT p (n:Int)) t.2 hk;have dk:decide (k < t.2.length)=true:=decide_eq_true hk;generalize nI (iT p (n:Int)) t.2 k=L at *;generalize nI (iT p (n:Int)) t.2 (k+1)=L' at *;generalize t.2[k]=s at *;obtain ⟨s1,s2,s3,s4,s5⟩:=s;by_cases c1:s1=p
  ·have d1:(s1 == p)=true:=by simp [c1]
   by_cases c2:s3=p
   ·have d2:(s3 == p)=true:=by simp [c2]
    have hv:iT p (n:Int) (s1,s2,s3,s4,s5)=(s1,wrap .i64 (wrap .i64 ((n:Int) - 1) - s2),s3,wrap .i64 (wrap .i64 ((n:Int) - 1) - s4),!(s5 == false)):=by
     unfold iT vS;simp only [c1,c2,if_true];cases s5 <;> rfl
    rw [hv] at es;simp only [km,kQ,jM,aao,aap,aav,aE hk,ap hk,hl,dk,b1,b2,d1,d2,Kd,es,qI,pJ,qG,qH,jl,jm,bX,bY,aax,beq_self_eq_true,Bool.not_true,bg (show k < 9223372036854775807 by omega),aaq,aas,cond_true,aal,eq_self,decide_true]
   ·have d2:(s3 == p)=false:=by simp [c2]
    have hv:iT p (n:Int) (s1,s2,s3,s4,s5)=(s1,wrap .i64 (wrap .i64 ((n:Int) - 1) - s2),s3,s4,!(s5 == true)):=by
     unfold iT vS;simp only [c1,c2,d2,if_true,if_false,beq_self_eq_true,Bool.true_eq_false];cases s5 <;> rfl
    rw [hv] at es;have d3:(true == false)=false:=rfl;simp only [km,kQ,jM,aao,aap,aav,aE hk,ap hk,hl,dk,b1,b2,d1,d2,d3,Kd,es,qI,pJ,qG,qH,jl,jm,bX,bY,aax,beq_self_eq_true,Bool.not_false,bg (show k < 9223372036854775807 by omega),aaq,aas,cond_true,cond_false,aal,eq_self,decide_true]
  ·have d1:(s1 == p)=false:=by simp [c1]
   by_cases c2:s3=p
   ·have d2:(s3 == p)=true:=by simp [c2]
    have hv:iT p (n:Int) (s1,s2,s3,s4,s5)=(s1,s2,s3,wrap .i64 (wrap .i64 ((n:Int) - 1) - s4),!(s5 == true)):=by
     unfold iT vS;simp only [c1,c2,d1,if_true,if_false,beq_self_eq_true,Bool.false_eq_true];cases s5 <;> rfl
    rw [hv] at es;have d3:(false == true)=false:=rfl;simp only [km,kQ,jM,aao,aap,aav,aE hk,ap hk,hl,dk,b1,b2,d1,d2,d3,Kd,es,qI,pJ,qG,qH,jl,jm,bX,bY,aax,beq_self_eq_true,Bool.not_false,bg (show k < 9223372036854775807 by omega),aaq,aas,cond_true,cond_false,aal,eq_self,decide_true]
   ·have d2:(s3 == p)=false:=by simp [c2]
    have hv:iT p (n:Int) (s1,s2,s3,s4,s5)=(s1,s2,s3,s4,!(s5 == false)):=by
     unfold iT vS;simp only [c1,c2,d1,d2,if_true,if_false];cases s5 <;> rfl
    rw [hv] at es;simp only [km,kQ,jM,aao,aap,aav,aE hk,ap hk,hl,dk,b1,b2,d1,d2,Kd,es,qI,pJ,qG,qH,jl,jm,bX,bY,aax,beq_self_eq_true,Bool.not_true,bg (show k < 9223372036854775807 by omega),aaq,aas,cond_true,cond_false,aal,eq_self,decide_true]) (by
  simp only [km,kQ,jM,aao,aap,bc,GA,qI,pJ,qG,qH,jl,jm,bX,bY,aaq,aas,cond_true,cond_false,aal,eq_self,decide_true]) N 0 (Nat.zero_le _) (by unfold fM at hN; omega)
 have e0:nI (iT p (n:Int)) t.2 0=t.2:=Dl _ _;rw [e0] at key;exact key
def yG (t:fx) (i:Int):Int:=if eQ t≠0 then eQ t else if i < 0∨(t.1.length:Int)≤i then 10 else 0
def GB (t:fx) (i:Int):fx × Int:=if yG t i=0 then (BB t i.toNat,0) else (([],[]),yG t i)
theorem Su (t:fx) (i:Int) (hl:t.2.length≤1000000):W8 N (t,i)=some (GB t i):=by
 have q:L8 N (t.1,t.2)=some (eQ t):=IP hN t;rw [show W8 N (t,i)=W8 N ((t.1,t.2),i) from rfl,Xa];have o:(bif decide (i < 0) then (Ek N [eQ t,10]).bind fun y4=>(some (y4,i)) else (Ek N [eQ t,if decide (i≥((t.1.length:Nat):Int))=true then 10 else 0]).bind fun y7=>(some (y7,i)):Option (Int × Int))=some (yG t i,i):=by
  unfold yG;by_cases c:i < 0
  ·simp only [aal,decide_eq_true c,cond_true,iN hN [_,_] (show 2≤9223372036854775806 by omega),fz2];simp [c]
  ·simp only [aal,decide_eq_false c,cond_false,iN hN [_,_] (show 2≤9223372036854775806 by omega),fz2];simp [c]
 simp only [cI,cJ,bX,bY,aas,aaq,cond_true,aal,q,aao,nG,Xs,beq_self_eq_true,if_true,o];unfold GB;by_cases h0:yG t i=0
 ·have ht:eQ t=0:=by
   by_cases h:eQ t=0
   ·exact h
   ·unfold yG at h0;rw [if_pos h] at h0;exact h0
  have hi:0≤i∧i < (t.1.length:Int):=by
   unfold yG at h0;rw [if_neg (show ¬ (eQ t≠0) by simpa using ht)] at h0;split at h0
   ·cases h0
   ·omega
  obtain ⟨h1,h2,h3⟩:=oC ht;obtain ⟨p,rfl⟩:∃ k:Nat,i=(k:Int):=⟨i.toNat,by omega⟩;have hp:p < t.1.length:=by omega
  have yl:=(h3 _ (List.getElem_mem hp)).2;have hc:aB (kP N (t.1,t.2)) N ((),0,(p:Int),[],t.2,[])=some ((),(p:Int),mG t.1,t.2,nU t.1):=OY hN t (by omega) h3 (p:Int) t.2;obtain ⟨a1,a2⟩:=gP t.1 hp;have P0:p < (mG t.1).length:=by rw [qy]; exact hp
  have k1:aB (pG N ((),(p:Int),mG t.1,t.2,nU t.1)) N (0,wrap .i64 ((t.1[p].2.length:Int) - 1),(p:Int),mG t.1,t.2,nU t.1,p,t.1[p].2.length)=some ((p:Int),(mG t.1).set p t.1[p].2.reverse,t.2,nU t.1,p,t.1[p].2.length):=by
   have:=Ss hN t p hp yl (p:Int) t.2 (p,t.1[p].2.length);rw [OW t.1 hp] at this;exact this
  have k2:aB (sI N ((p:Int),(mG t.1).set p t.1[p].2.reverse,t.2,nU t.1,p,t.1[p].2.length)) N (0,(p:Int),(mG t.1).set p t.1[p].2.reverse,t.2,nU t.1,p,t.1[p].2.length)=some ((p:Int),(mG t.1).set p (qx t.1[p].2),t.2,nU t.1,p,t.1[p].2.length):=by
   have hrl:t.1[p].2.reverse.length=t.1[p].2.length:=List.length_reverse;have:=OZ hN (mG t.1) p P0 t.1[p].2.reverse (by omega) (p:Int) t.2 (nU t.1) ((p:Int),(mG t.1).set p t.1[p].2.reverse,t.2,nU t.1);rw [hrl] at this;exact this
  have k3:aB (km N (t.1,t.2)) N (0,(p:Int),(mG t.1).set p (qx t.1[p].2),t.2,nU t.1,p,t.1[p].2.length)=some ((p:Int),(mG t.1).set p (qx t.1[p].2),t.2.map (iT (p:Int) (t.1[p].2.length:Int)),nU t.1,p,t.1[p].2.length):=LR hN t hl (p:Int) _ _ _ _;have wB:(qx t.1[p].2).length=t.1[p].2.length:=by simp [qx]
  have hR1:(mG t.1).set p (qx t.1[p].2)=mG (t.1.set p (t.1[p].1,qx t.1[p].2)):=(Sq _ _ _ _).symm;have YY:nU t.1=nU (t.1.set p (t.1[p].1,qx t.1[p].2)):=(Sr t.1 hp _ wB).symm;have u1:sZ 1 2 (aq (map n129 ((mG t.1).set p (qx t.1[p].2)))) (an (map gS (nU t.1)))=true:=by
   rw [hR1,YY]; exact aaE _
  have u2:map (yw 1 (aq (map n129 ((mG t.1).set p (qx t.1[p].2))))) (map gS (nU t.1))=map n131 (t.1.set p (t.1[p].1,qx t.1[p].2)):=by
   rw [hR1,YY]; exact aaF _
  rw [h0,if_pos rfl];have e1:decide (Nat.min t.2.length t.2.length≤t.2.length)=true:=by rw [decide_eq_true_eq,show Nat.min t.2.length t.2.length=t.2.length from Nat.min_self _]; omega
  have e3:bu (List.replicate t.2.length (AV.agg [(AV.int .i64 0),(AV.int .i64 0),(AV.int .i64 0),(AV.int .i64 0),(AV.bool false)])) 0 (List.take (Nat.min t.2.length t.2.length) (map n110 t.2))=map n110 t.2:=by
   have:=IS t.2 (List.replicate t.2.length (AV.agg [(AV.int .i64 0),(AV.int .i64 0),(AV.int .i64 0),(AV.int .i64 0),(AV.bool false)])) (by simp);rw [aao] at this;exact this
  have Xx:=mw t.1;have dp:decide (p < t.1.length)=true:=decide_eq_true hp;have ef:BB t ((p:Int).toNat)=(t.1.set p (t.1[p].1,qx t.1[p].2),t.2.map (iT (p:Int) (t.1[p].2.length:Int))):=by
   unfold BB;rw [aap,getD_at _ _ hp]
  rw [ef];simp only [bne_self_eq_false,cond_false,OT (k:=40) (show t.2.length≤1000000 by omega) (by omega),IT (show t.1.length≤1000000 by omega),aap,List.length_replicate,aao,e1,e3,H8,z0b,List.length_nil,aax,aes,Xt,aer,qG,qH,jl,jm,qI,pJ,bX,bY,cI,cJ,hc,Xx,ap hp,dp,a1,a2,aav,k1,k2,k3,u1,u2,List.length_set,J9,Ka,aaq,aas,cond_true,aal,eq_self,decide_true]
 ·rw [B9 h0,if_neg h0]; rfl
end
end Go.Proofs.YtegoimldbgdeiaaGreat
