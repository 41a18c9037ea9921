/- Plain laws: Sews. -/
import Derived.Test.YtegoimldbgdeiaaGreatTrzXf
import Derived.Test.YtegoimldbgdeiaaGreatTrzY
set_option linter.all false
open Bool renaming and_self→aao, and_true→aap
open List renaming map_nil→aaq, nil_append→aas, length_map→aav, isEmpty→aax
open Option renaming bind_some→aal
namespace Go.Proofs.YtegoimldbgdeiaaGreat
open Go Go.Am
open List (map)
open Int (toNat)
open Go.IntKind (wrap)
open Go.Am.aP (fits)
set_option maxRecDepth 100000
theorem aaJ (a b c d:Int) (w:Bool):allFit (fits tu) [AV.agg [AV.int .i64 a,AV.int .i64 b,AV.int .i64 c,AV.int .i64 d,AV.bool w]]=true:=rfl
theorem IU:bD ([]:List AV) ([]:List AV)=true:=rfl
section
variable {N:Nat} (hN:fM N)
include hN
theorem both (X:fx) (h1:X.1.length≤1000) (h2:∀ x∈X.1,x.2.length≤1000) (h3:X.2.length≤1000000):Sg N (X.1,X.2)=some X∧Sf N ((X.1,X.2),(X.1,X.2))=some true:=⟨OP hN X h1 h2 h3,OR hN X h1 h2 h3⟩
theorem Sv (t:fx) (s:qq) (i:Int × Int):T7 N (t,s,i)=some true:=by
 have k0:T8 N ()=some true:=rfl;obtain ⟨b,s1,s2⟩:=OL hN t 4;have s1:T9 N ((t.1,t.2),4)=some b:=s1;rw [show T7 N (t,s,i)=T7 N ((t.1,t.2),s,i) from rfl,aaH];simp only [k0,aal,Bool.not_true,cond_false,nS,nT,qN,qO,aao,aap,cond_true,s1];cases b with
 |false=>simp only [Bool.not_false,cond_true,aal]
 |true=>
  obtain ⟨b1,b2,b3⟩:=s2 rfl;have ow:=Sk hN t (by omega) (fun x hx=>by have:=b3 x hx; omega) (by omega);have ow:WU N (t.1,t.2)=some t:=ow;have q14:T14 N (t.1,t.2)=some (eQ t):=Xp hN t;have q45:WZ N ((t.1,t.2),(s.1,s.2.1,s.2.2.1,s.2.2.2.1,s.2.2.2.2))=some (Gx t s):=Sm hN t s (by omega);have q46:W3 N ((t.1,t.2),i.1)=some (Gy t i.1):=Sn hN t i.1 (by omega);have q47:W8 N ((t.1,t.2),i.2)=some (GB t i.2):=Su hN t i.2 (by omega);have q48:R6 N ((t.1,t.2),t.2,(s.1,s.2.1,s.2.2.1,s.2.2.2.1,s.2.2.2.2))=some (ma t t.2 s):=OF hN t t.2 s (by omega);obtain ⟨qE1,qE2⟩:=both hN ([],[]) (by simp) (by simp) (by simp);simp only [Bool.not_true,cond_false,aal,ow,cI,cJ,bX,bY,nS,nT,qN,qO,aao,aap,cond_true,show (t.1,t.2)=t from rfl,q45,q46,q47,q14,beq_self_eq_true];have hs3:∀ x∈t.1,x.2.length≤1000:=fun x hx=>by have:=b3 x hx; omega
  by_cases he:eQ t=0
  ·obtain ⟨qA1,qA2⟩:=both hN (t.1,t.2++[s]) (by dsimp only; omega) hs3 (by simp; omega);have GI:¬ (eQ t≠0):=by simpa using he
   have z0:((0:Int) == 0)=true:=rfl;have z1:((5:Int) == 0)=false:=rfl;have em:aax (map vA t.2)=decide (t.2=[]):=by cases t.2 <;> rfl
   have d40:decide ((0+List.length (map vA t.2)) * 40≤140737488355328)=true:=by rw [aav]; exact decide_eq_true (by omega)
   have e79:(map vA t.2)++[AV.agg [(AV.int .i64 s.1),(AV.int .i64 s.2.1),(AV.int .i64 s.2.2.1),(AV.int .i64 s.2.2.2.1),(AV.bool s.2.2.2.2)]]=map vA (t.2++[s]):=BA t.2 _ _ _ _ _
   -- sewn: what the law's reference says
   have hO:((bif (((t.2.length:Nat):Int) == 64) then (some 5) else (some (ma t t.2 s))):Option Int)=some (Cb t s):=by
    unfold Cb;rw [if_neg GI];by_cases h:t.2.length=64
    ·have:(((t.2.length:Nat):Int) == 64)=true:=by rw [h]; rfl
     rw [this,if_pos h]; rfl
    ·have:(((t.2.length:Nat):Int) == 64)=false:=by simp; omega
     rw [this,if_neg h]; rfl
   simp only [he,z0,z1,cond_true,cond_false,aal,q48,hO,aav,nS,nT,qN,qO,aao,aap];obtain ⟨p1,p2,p3⟩:=oC he;have TL:map d79 [AV.agg [AV.int .i64 s.1,AV.int .i64 s.2.1,AV.int .i64 s.2.2.1,AV.int .i64 s.2.2.2.1,AV.bool s.2.2.2.2]]=[s]:=rfl;have d41:decide (t.2.length * 40≤140737488355328)=true:=decide_eq_true (by omega);have d42:decide ((t.2.length+1) * 40≤140737488355328)=true:=decide_eq_true (by omega)
   -- unsewn
   have PB:∃ (B:fx) (eB:Int) (c:Bool),Gy t i.1=(B,eB)∧(bif decide (i.1 < 0) then some true else some (decide (i.1≥((t.2.length:Nat):Int))))=some c ∧
     (bif c then (bif allFit nE.fits []&&allFit tu.fits [] then some (10,map d92 [],map d79 []) else none).bind fun L4=>some L4 else (Xd N (t,i.1)).bind fun Xu=>some (0,Xu.1,Xu.2))=some (eB,B.1,B.2)∧Sg N (B.1,B.2)=some B∧Sf N ((B.1,B.2),(B.1,B.2))=some true:=by
    by_cases c:i.1 < 0∨(t.2.length:Int)≤i.1
    ·have e:yF t i.1=10:=by unfold yF; rw [if_neg GI,if_pos c]
     refine ⟨([],[]),10,true,by unfold Gy; rw [e]; rfl,?_,rfl,qE1,qE2⟩;by_cases d:i.1 < 0
     ·rw [decide_eq_true d]; rfl
     ·rw [decide_eq_false d,decide_eq_true (show i.1≥((t.2.length:Nat):Int) by omega)]; rfl
    ·have e:yF t i.1=0:=by unfold yF; rw [if_neg GI,if_neg c]
     obtain ⟨k,hk⟩:∃ k:Nat,i.1=(k:Int):=⟨i.1.toNat,by omega⟩;obtain ⟨r1,r2⟩:=both hN (t.1,t.2.eraseIdx k) (by dsimp only; omega) hs3 (by
      have:=List.length_eraseIdx_le t.2 k;dsimp only; omega)
     refine ⟨(t.1,t.2.eraseIdx k),0,false,?_,?_,?_,r1,r2⟩
     ·unfold Gy;rw [e,if_pos rfl,hk,Int.toNat_natCast]
     ·rw [decide_eq_false (show ¬ i.1 < 0 by omega),decide_eq_false (show ¬ i.1≥((t.2.length:Nat):Int) by omega)]; rfl
     ·rw [hk,Sl hN t k (by omega)]; rfl
   have PC:∃ (C:fx) (eC:Int) (c:Bool),GB t i.2=(C,eC)∧(bif decide (i.2 < 0) then some true else some (decide (i.2≥((t.1.length:Nat):Int))))=some c ∧
     ((c=true∧C=([],[])∧eC=10)∨(c=false∧eC=0∧Xg N (t,i.2)=some C))∧Sg N (C.1,C.2)=some C∧Sf N ((C.1,C.2),(C.1,C.2))=some true:=by
    by_cases c:i.2 < 0∨(t.1.length:Int)≤i.2
    ·have e:yG t i.2=10:=by unfold yG; rw [if_neg GI,if_pos c]
     refine ⟨([],[]),10,true,by unfold GB; rw [e]; rfl,?_,.inl ⟨rfl,rfl,rfl⟩,qE1,qE2⟩;by_cases d:i.2 < 0
     ·rw [decide_eq_true d]; rfl
     ·rw [decide_eq_false d,decide_eq_true (show i.2≥((t.1.length:Nat):Int) by omega)]; rfl
    ·have e:yG t i.2=0:=by unfold yG; rw [if_neg GI,if_neg c]
     obtain ⟨k,hk⟩:∃ k:Nat,i.2=(k:Int):=⟨i.2.toNat,by omega⟩;have hkl:k < t.1.length:=by omega
     have wB:(BB t k).1.length=t.1.length:=by unfold BB; exact List.length_set
     obtain ⟨r1,r2⟩:=both hN (BB t k) (by omega) (fun x hx=>by
      unfold BB at hx;rcases List.mem_or_eq_of_mem_set hx with hx|rfl
      ·exact hs3 x hx
      ·rw [getD_at _ _ hkl];have:=hs3 _ (List.getElem_mem hkl);simpa [qx] using this) (by unfold BB; simp; omega)
     refine ⟨BB t k,0,false,?_,?_,.inr ⟨rfl,rfl,?_⟩,r1,r2⟩
     ·unfold GB;rw [e,if_pos rfl,hk,Int.toNat_natCast]
     ·rw [decide_eq_false (show ¬ i.2 < 0 by omega),decide_eq_false (show ¬ i.2≥((t.1.length:Nat):Int) by omega)]; rfl
     ·rw [hk]; exact Sp hN t k hkl hs3 (by omega) (by omega)
   have PA:(Gx t s=((t.1,t.2++[s]),0)∧Cb t s=0)∨(Gx t s=(([],[]),Cb t s)∧(Cb t s == 0)=false):=by
    unfold Gx;by_cases h:Cb t s=0
    ·exact .inl ⟨by rw [if_pos h],h⟩
    ·exact .inr ⟨by rw [if_neg h],by simpa using h⟩
   obtain ⟨B,eB,cB,hB,hB1,hB2,X1,X2⟩:=PB;obtain ⟨C,eC,cC,hC,hC1,hC2,X3,X4⟩:=PC;simp only [hB,hC,hB1,hB2,hC1,aal];rcases PA with ⟨hA,hE⟩|⟨hA,hE⟩
   ·have Xv:(aax (map vA t.2)=true∧t.2=[])∨aax (map vA t.2)=false:=by
     cases hq:t.2 with
     |nil=>exact .inl ⟨rfl,rfl⟩
     |cons _ _=>exact .inr rfl
    rcases Xv with ⟨Xv,h0⟩|Xv
    ·rw [h0,aas] at hA qA1 qA2;rcases hC2 with ⟨rfl,rfl,rfl⟩|⟨rfl,rfl,qC⟩
     ·simp only [hA,hE,Xv,z0,cond_true,cond_false,aal,ye,tx,aas,Gq,Gr,IU,aaJ,TL,aao,aap,aaq,beq_self_eq_true,qA1,qA2,X1,X2,X3,X4]
     ·simp only [hA,hE,Xv,z0,cond_true,cond_false,aal,ye,tx,aas,Gq,Gr,IU,aaJ,TL,aao,aap,aaq,beq_self_eq_true,qA1,qA2,X1,X2,qC,X3,X4]
    ·rcases hC2 with ⟨rfl,rfl,rfl⟩|⟨rfl,rfl,qC⟩
     ·simp only [hA,hE,Xv,z0,cond_true,cond_false,aal,ye,tx,aas,Nat.zero_add,aav,d41,d42,decide_true,eq_self,e79,qN,qO,Gq,Gr,IU,aao,aap,aaq,beq_self_eq_true,qA1,qA2,X1,X2,X3,X4]
     ·simp only [hA,hE,Xv,z0,cond_true,cond_false,aal,ye,tx,aas,Nat.zero_add,aav,d41,d42,decide_true,eq_self,e79,qN,qO,Gq,Gr,IU,aao,aap,aaq,beq_self_eq_true,qA1,qA2,X1,X2,qC,X3,X4]
   ·rcases hC2 with ⟨rfl,rfl,rfl⟩|⟨rfl,rfl,qC⟩
    ·simp only [hA,hE,cond_true,cond_false,aal,ye,tx,Gq,Gr,IU,aao,aap,aaq,beq_self_eq_true,qE1,qE2,X1,X2,X3,X4]
    ·simp only [hA,hE,cond_true,cond_false,aal,ye,tx,Gq,Gr,IU,aao,aap,aaq,beq_self_eq_true,qE1,qE2,X1,X2,qC,X3,X4]
  ·have hA:Gx t s=(([],[]),eQ t):=by unfold Gx Cb; rw [if_pos he,if_neg he]
   have hB:Gy t i.1=(([],[]),eQ t):=by unfold Gy yF; rw [if_pos he,if_neg he]
   have hC:GB t i.2=(([],[]),eQ t):=by unfold GB yG; rw [if_pos he,if_neg he]
   have hb:(eQ t == 0)=false:=by simpa using he
   simp only [hA,hB,hC,hb,cond_false,aal,ye,tx,Ew,OI,aao,aap,cond_true,beq_self_eq_true,aaq,IU,qE1,qE2]
end
end Go.Proofs.YtegoimldbgdeiaaGreat
