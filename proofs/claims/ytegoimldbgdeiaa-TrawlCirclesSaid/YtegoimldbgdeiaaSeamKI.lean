/- Circles: the law's loops. -/
import Derived.Test.YtegoimldbgdeiaaSeamKH
import Derived.Test.YtegoimldbgdeiaaTrwW
set_option linter.all false
open Bool renaming and_self→aas, and_true→aat, not_true→aaK
open Int renaming toNat_natCast→aav
open List renaming length_map→aal, getElem?_eq_getElem→aau, getElem_mem→aax, getD_eq_getElem?_getD→aay, take_add_one→aaA, length_take→aaM, take_length→aaT, mem_of_mem_take→aa0, getElem_of_mem→aa3
open Nat renaming zero_le→aaP
open Option renaming bind_some→aae
open Sum renaming elim_inr→aa6
namespace Go.Proofs.Ytegoimldbgdeiaa
open Go Go.Am
open List (map)
open Int (toNat)
open Go.IntKind (wrap)
open Go.Am.aL (fits)
set_option maxRecDepth 100000
theorem On (a b v:Int) (m:List ((Int × Int) × Int)):dq KE (AV.agg [AV.int .i64 a,AV.int .i64 b]) (n3 v) (ar (map qG m))=ar (map qG (fx (a,b) v m)):=Sk a b v m
theorem age (a b v x:Int) (m:List ((Int × Int) × Int)):ng (ar (map qG (fx (a,b) v m))) (kI KE (AV.agg [AV.int .i64 a,AV.int .i64 b]) (ar (map qG m))) (AV.int .i64 x)=ar (map qG (fx (a,b) x m)):=by
 rw [← On,DH];exact Sk a b x m
theorem agf (a b v:Int) (m:List ((Int × Int) × Int)):decide (kI KE (AV.agg [AV.int .i64 a,AV.int .i64 b]) (ar (map qG m)) < (ar (map qG (fx (a,b) v m))).length)=true:=by
 rw [← On];exact decide_eq_true (Sj _ _ _ _)
theorem nn0 (n:Nat):decide (0≤(n:Int))=true:=decide_eq_true (by omega)
theorem agh (a b v:Int) (m:List ((Int × Int) × Int)):a7 (fx (a,b) v m) (a,b)=v:=by unfold a7; rw [DG,if_pos rfl]; rfl
def lx (l:List (Int × Int)):List ((Int × Int) × Int):=l.map fun x=>(x,1)
theorem Gs {l:List (Int × Int)} {x:Int × Int} (h:x∉l):getM x (lx l)=none:=by
 rw [getM_none];unfold lx;rw [List.map_map];show x∉l.map id;rw [List.map_id]; exact h
theorem TM {l:List (Int × Int)} {x:Int × Int} (h:x∉l) (v:Int):a7 (lx l) x=0:=by
 unfold a7; rw [Gs h]; rfl
theorem TN {l:List (Int × Int)} {x:Int × Int} (h:x∉l):fx x 1 (lx l)=lx (l++[x]):=by
 rw [yt (Gs h)];unfold lx;rw [List.map_append]; rfl
theorem Oo:∀ {l:List (Int × Int)} {x:Int × Int},x∈l→a7 (lx l) x=1
 |y :: l,x,h=>by
  show ((if x=y then some (1:Int) else getM x (lx l)).getD 0)=1;by_cases e:x=y
  ·rw [if_pos e]; rfl
  ·rw [if_neg e];exact Oo ((List.mem_cons.1 h).resolve_left e)
section
variable {N:Nat} (hN:eZ N)
include hN
theorem Xc {t:aZ} (v:Vd t) (i:Nat) (hi:i < (aD t).length) (l1 l2:Int) (m0:List ((Int × Int) × Int)) (U:List (Int × Int)) (j:Nat) (hj:j < ((aD t)[i]).length) (hU:((aD t)[i])[j]∉U) :
  il N t (aD t,0) ((i:Int),l1,l2,m0) (gW t (((aD t)[i]).take j),(j:Int),lx U)=some (.inl (gW t (((aD t)[i]).take (j+1)),((j+1:Nat):Int),lx (U++[((aD t)[i])[j]]))):=by
 have g:=v.gd;have hc:(aD t)[i]∈aD t:=aax hi;obtain ⟨cl,cp⟩:=pG v hc;obtain ⟨c,hcd⟩:∃ c,c=(aD t)[i]:=⟨_,rfl⟩;obtain ⟨a1,a2⟩:=SC (aD t) hi;rw [← hcd] at a1 cl cp hc;have low:=Qe g c hc;have sub:∀ e∈c,dw t e=true:=fun e he=>(bH.1 (rN g hc e he)).1
 simp only [← hcd] at hj hU ⊢;have hm:c[j]∈c:=aax hj;have lw:=low c[j] hm;have eb:=sub c[j] hm;obtain ⟨k,s,e,hk,hs⟩:=qg eb;obtain ⟨b1,b2⟩:=DJ c hj;obtain ⟨h1,h2⟩:=DJ c cp;have hd:c.getD 0 (0,0)=c[0]:=by rw [aay,aau cp]; rfl
 rw [hd] at lw;obtain ⟨z,hz⟩:∃ z,z=c[0]:=⟨_,rfl⟩;rw [← hz] at h1 lw;obtain ⟨e1,e2⟩:=D8 t.1 hk;obtain ⟨f1,f2⟩:=S5 t.1[k].2 hs;have q:=BV N t ((k:Int),(s:Int));rw [← e,eb,e] at q;have q:Wu N ((t.1,t.2),((k:Int),(s:Int)))=some true:=q;rw [e] at hU b1 lw;have sa:=D9 t hk hs;have r:=B2 v (c.take j) fun e h=>sub e (aa0 h)
 have m:=v.msh ((k:Int),(s:Int)) (by rw [← e]; exact eb);rw [sa] at m;have lt:(c.take j).length≤16000:=by rw [aaM]; omega
 have ws:wrap .i64 (gW t (c.take j)+(t.1[k].2[s]).1)=gW t (c.take (j+1)):=by
  rw [wR ⟨by omega,by omega⟩,aaA,aau hj,e,← sa];exact (Ew t _ _).symm
 have w1:wrap .i64 ((0:Int)+1)=1:=rfl;have d1:decide ((k:Int) < z.1)=false:=by
  refine decide_eq_false ?_;rcases lw with lw|lw|⟨lw,_⟩
  ·rw [← lw]; show ¬ (k:Int) < k; omega
  ·have lw:z.1 < (k:Int):=lw; omega
  ·have lw:z.1=(k:Int):=lw; omega
 have d2:((k:Int) == z.1)=true→decide ((s:Int) < z.2)=false:=fun h=>by
  have h:(k:Int)=z.1:=eq_of_beq h;refine decide_eq_false ?_;rcases lw with lw|lw|⟨_,lw⟩
  ·rw [← lw]; show ¬ (s:Int) < s; omega
  ·have lw:z.1 < (k:Int):=lw; omega
  ·have lw:z.2 < (s:Int):=lw; omega
 have wk:=bc (show j < 9223372036854775807 by omega);have v0:=TM hU 0;have p0:=TN hU;have tz:toNat 0=0:=rfl;rw [e];cases hq:((k:Int) == z.1)
 ·simp only [il,bQ,fI,iR,aav,tz,a1,aal,ay hj,ai hj,b1,b2,h1,aas,cond_true,cond_false,aaK,JC,JD,D3,D4,aat,aae,q,d1,hq,dX,df,dg,dY,Hx,Md,v0,Ht,Hu,On,agh,beq_self_eq_true,nn0,agf,age,w1,p0,ai hk,ai hs,e1,e2,f1,f2,ws,wk]
 ·have d3:=d2 hq;simp only [il,bQ,fI,iR,aav,tz,a1,aal,ay hj,ai hj,b1,b2,h1,aas,cond_true,cond_false,aaK,JC,JD,D3,D4,aat,aae,q,d1,hq,d3,dX,df,dg,dY,Hx,Md,v0,Ht,Hu,On,agh,beq_self_eq_true,nn0,agf,age,w1,p0,ai hk,ai hs,e1,e2,f1,f2,ws,wk]
theorem Qh {t:aZ} (v:Vd t) (i:Nat) (hi:i < (aD t).length) (l1 l2:Int) (m0:List ((Int × Int) × Int)) (U:List (Int × Int)) (hU:∀ e∈(aD t)[i],e∉U) :
  aw (il N t (aD t,0) ((i:Int),l1,l2,m0)) N (0,0,lx U)=some (.inr (gW t (aD t)[i],lx (U++(aD t)[i]))):=by
 have g:=v.gd;have hc:(aD t)[i]∈aD t:=aax hi;obtain ⟨cl,cp⟩:=pG v hc;obtain ⟨b,hb,hcb⟩:=(iQ g).Bo _ hc;have nd:((aD t)[i]).Nodup:=by rw [hcb]; exact Ms g hb
 obtain ⟨a1,a2⟩:=SC (aD t) hi;have st:∀ j (hj:j < ((aD t)[i]).length),((aD t)[i]).take j++[((aD t)[i])[j]]=((aD t)[i]).take (j+1):=fun j hj=>by
  rw [aaA,aau hj]; rfl
 have key:=aV (rd:=il N t (aD t,0) ((i:Int),l1,l2,m0)) ((aD t)[i]).length (fun j=>(gW t (((aD t)[i]).take j),(j:Int),lx (U++((aD t)[i]).take j))) (.inr (gW t (aD t)[i],lx (U++(aD t)[i]))) (fun j hj=>by
  have hm:((aD t)[i])[j]∈(aD t)[i]:=aax hj;rw [Xc hN v i hi l1 l2 m0 (U++((aD t)[i]).take j) j hj (fun h=>by
   rcases List.mem_append.1 h with h|h
   ·exact hU _ hm h
   ·obtain ⟨k,hk,e⟩:=aa3 h;rw [List.getElem_take] at e;rw [aaM] at hk;have:=(List.nodup_iff_pairwise_ne.1 nd);rw [List.pairwise_iff_getElem] at this;exact this k j (by omega) hj (by omega) e),List.append_assoc,st j hj]) (by
  simp only [il,bQ,fI,iR,aav,a1,aal,aS,cond_false,aaT,dX,df,dg,dY,aas,aat,cond_true,aae]) N 0 (aaP _) (by unfold eZ at hN; omega)
 simp only [List.take_zero,List.append_nil] at key;exact key
theorem MD {t:aZ} (v:Vd t) (mo:List (Int × Int) × Int × Int) (hw:∀ c∈aD t,gW t c≤mo.2.1):∃ a b,aw (pH N t (aD t,0) mo) N (0,-1,0,lx [])=some (.inr (a,b,lx (aD t).flatten)):=by
 have g:=v.gd;have op:=v.open;have inv:=iQ g;have ord:=Qf g;obtain ⟨la,hla⟩:∃ la:Nat→Int × Int,la=fun k=>if k=0 then (-1,0) else ((aD t).getD (k - 1) []).getD 0 (0,0):=⟨_,rfl⟩
 have st:∀ k (hk:k < (aD t).length),((aD t).take k).flatten++(aD t)[k]=((aD t).take (k+1)).flatten:=fun k hk=>by
  rw [aaA,aau hk,List.flatten_append];show _=((aD t).take k).flatten++[(aD t)[k]].flatten;simp
 have key:=aV (rd:=pH N t (aD t,0) mo) (aD t).length (fun k=>((k:Int),(la k).1,(la k).2,lx ((aD t).take k).flatten)) (.inr ((la (aD t).length).1,(la (aD t).length).2,lx (aD t).flatten)) (fun k hk=>by
  have hc:(aD t)[k]∈aD t:=aax hk;obtain ⟨cl,cp⟩:=pG v hc;obtain ⟨a1,a2⟩:=SC (aD t) hk;obtain ⟨h1,h2⟩:=DJ (aD t)[k] cp;have hd:((aD t)[k]).getD 0 (0,0)=((aD t)[k])[0]:=by rw [aay,aau cp]; rfl
  have fresh:∀ e∈(aD t)[k],e∉((aD t).take k).flatten:=fun e he h=>by
   obtain ⟨d,hdm,hed⟩:=List.mem_flatten.1 h;obtain ⟨j,hj,rfl⟩:=aa3 hdm;rw [List.getElem_take] at hed;rw [aaM] at hj;exact Tb inv.new (show j < k by omega) hk e hed he
  have q:=Qh hN v k hk (la k).1 (la k).2 (lx ((aD t).take k).flatten) _ fresh;rw [st k hk] at q;have wide:decide (gW t (aD t)[k] > mo.2.1)=false:=decide_eq_false (by have:=hw _ hc; omega);have la1:la (k+1)=((aD t)[k])[0]:=by
   rw [hla];show (if k+1=0 then (-1,0) else ((aD t).getD (k+1 - 1) []).getD 0 (0,0))=_;rw [if_neg (by omega),Nat.add_sub_cancel,aay (l:=aD t),aau hk];exact hd
  have he:dw t ((aD t)[k])[0]=true:=(bH.1 (rN g hc _ (aax cp))).1;have Ii:=dK.1 he;have before:Uk (la k) ((aD t)[k])[0]:=by
   rw [hla];dsimp only;by_cases c:k=0
   ·rw [if_pos c]; exact .inl (by show (-1:Int) < ((aD t)[k])[0].1; omega)
   ·rw [if_neg c,aay (l:=aD t),aau (show k - 1 < (aD t).length by omega),← hd];exact Tb ord (show k - 1 < k by omega) hk
  rw [la1];obtain ⟨z,hz⟩:∃ z,z=((aD t)[k])[0]:=⟨_,rfl⟩;rw [← hz] at h1 before ⊢;have d1:decide (z.1 < (la k).1)=false:=decide_eq_false (by rcases before with b | ⟨b,_⟩ <;> omega);have d2:(z.1 == (la k).1)=true→decide (z.2≤(la k).2)=false:=fun h=>by
   have h:z.1=(la k).1:=eq_of_beq h;refine decide_eq_false ?_;rcases before with b|⟨_,b⟩ <;> omega
  have d0:((((aD t)[k]).length:Int) == 0)=false:=beq_eq_false_iff_ne.2 (by omega);have d00:decide ((0:Int)≤0∧0 < (((aD t)[k]).length:Int))=true:=decide_eq_true ⟨Int.le_refl _,by omega⟩;have tz:toNat 0=0:=rfl;have wk:=bc (show k < 9223372036854775807 by omega);cases hq:(z.1 == (la k).1)
  ·simp only [pH,mi,aal,ay hk,ai hk,aav,tz,a1,a2,h1,h2,d0,d00,d1,hq,aas,aat,cond_true,cond_false,dX,df,dg,dY,aae,q,aa6,wide,wk]
  ·have d3:=d2 hq;simp only [pH,mi,aal,ay hk,ai hk,aav,tz,a1,a2,h1,h2,d0,d00,d1,d3,hq,aas,aat,cond_true,cond_false,dX,df,dg,dY,aae,q,aa6,wide,wk]) (by
  simp only [pH,mi,aal,aS,cond_false,aaT,dX,df,dg,dY,aas,aat,cond_true,aae]) N 0 (aaP _) (by unfold eZ at hN; omega)
 have e0:la 0=(-1,0):=by rw [hla]; rfl
 simp only [e0,List.take_zero,List.flatten_nil] at key;exact ⟨(la (aD t).length).1,(la (aD t).length).2,key⟩
theorem Xd {t:aZ} (v:Vd t) (x:Int) (U:List (Int × Int)) (hU:∀ e∈aT t,e∈U):aw (uS N (aT t,x)) N (0,lx U)=some (.inr (lx U)):=by
 have fr:=v.free;refine aV (rd:=uS N (aT t,x)) (aT t).length (fun k=>((k:Int),lx U)) (.inr (lx U)) (fun k hk=>?_) ?_ N 0 (aaP _) (by unfold eZ at hN; omega)
 ·obtain ⟨b1,b2⟩:=DJ (aT t) hk;have v1:a7 (lx U) ((aT t)[k].1,(aT t)[k].2)=1:=Oo (hU _ (aax hk));have ne:((1:Int) != 1)=false:=rfl;simp only [uS,aal,ay hk,ai hk,aav,b1,b2,aas,aat,cond_true,cond_false,Hx,Md,v1,Ht,Hu,ne,dX,df,dg,dY,aae,bc (show k < 9223372036854775807 by omega)]
 ·simp only [uS,aal,aS,cond_false,dX,df,dg,dY,aas,aat,cond_true,aae]
theorem TO {t:aZ} (v:Vd t) (l:List (Int × Int)) (z:Int × Int) (hl:l.length≤16000) (he:∀ e∈l,dw t e=true) (m:List ((Int × Int) × Int)):aw (oz N t (l,z)) N (0,0,m)=some (.inr (gW t l,m)):=by
 have key:=aV (rd:=oz N t (l,z)) l.length (fun k=>(gW t (l.take k),(k:Int),m)) (.inr (gW t l,m)) (fun k hk=>by
  obtain ⟨b1,b2⟩:=DJ l hk;have eb:=he _ (aax hk);obtain ⟨p,s,e,hp,hs⟩:=qg eb;obtain ⟨e1,e2⟩:=D8 t.1 hp;obtain ⟨f1,f2⟩:=S5 t.1[p].2 hs;have q:=BV N t ((p:Int),(s:Int));rw [← e,eb,e] at q;have q:Wu N ((t.1,t.2),((p:Int),(s:Int)))=some true:=q;rw [e] at b1;have sa:=D9 t hp hs;have r:=B2 v (l.take k) fun e h=>he e (aa0 h)
  have m:=v.msh ((p:Int),(s:Int)) (by rw [← e]; exact eb);rw [sa] at m;have lt:(l.take k).length≤16000:=by rw [aaM]; omega
  have ws:wrap .i64 (gW t (l.take k)+(t.1[p].2[s]).1)=gW t (l.take (k+1)):=by
   rw [wR ⟨by omega,by omega⟩,aaA,aau hk,e,← sa];exact (Ew t _ _).symm
  simp only [oz,aal,ay hk,ai hk,aav,b1,b2,JC,JD,D3,D4,aas,aat,cond_true,cond_false,aaK,aae,q,ai hp,ai hs,e1,e2,f1,f2,ws,dX,df,dg,dY,bc (show k < 9223372036854775807 by omega)]) (by
  simp only [oz,aal,aS,cond_false,aaT,dX,df,dg,dY,aas,aat,cond_true,aae]) N 0 (aaP _) (by unfold eZ at hN; omega)
 exact key
omit hN in
theorem akB (l:List (Bool × Int × Int)) {k:Nat} (hk:k < l.length):d76 (ae (map J5 l) k)=l[k]∧fits MC (ae (map J5 l) k)=true:=by
 rw [fY J5 l k hk,aka,aj9]; exact ⟨rfl,rfl⟩
omit hN in
theorem HQ {g:Nat→Int} {B:Int}:∀ n,(∀ k,k < n→-B≤g k∧g k≤B)→-(B * (n:Int))≤iD n g∧iD n g≤B * (n:Int)
 |0,_=>by show -(B * 0)≤0∧0≤B * 0; omega
 |n+1,h=>by
  have a:=HQ n fun k hk=>h k (by omega)
  have b:=h n (by omega);show -(B * ((n+1:Nat):Int))≤iD n g+g n∧iD n g+g n≤B * ((n+1:Nat):Int);have e:B * ((n+1:Nat):Int)=B * (n:Int)+B:=by rw [Int.natCast_add,Int.mul_add]; simp
  rw [e]; omega
theorem TP {t:aZ} (v:Vd t) (x:Int) (m:List ((Int × Int) × Int)):aw (mj N (mh t,x)) N (0,0,0,m)=some (.inr (nC t (au (ah t) (-1)),lA t (au (ah t) (-1)),m)):=by
 have p:=(mg v).2.1;have le:=v.le;have kl:(mh t).length=iT t:=by unfold mh; rw [aal,List.length_range]
 have bd:∀ k,-60000≤lA t (au (ah t) k)∧lA t (au (ah t) k)≤60000∧nC t (au (ah t) k)≤16000:=fun k=>by
  have b:=bds v (au (ah t) k);have b1:=b.Th;have b2:=b.sS;have b3:=b.fre;have b4:=b.E5;have b5:=b.gZ;unfold lA;omega
 have key:=aV (rd:=mj N (mh t,x)) (mh t).length (fun k=>(iD k (fun k=>(nC t (au (ah t) (k:Int)):Int)),iD k (fun k=>lA t (au (ah t) (k:Int))),(k:Int),m)) (.inr (iD (iT t) (fun k=>(nC t (au (ah t) (k:Int)):Int)),iD (iT t) (fun k=>lA t (au (ah t) (k:Int))),m)) (fun k hk=>by
  obtain ⟨a1,a2⟩:=akB (mh t) hk;have kT:k < iT t:=by rw [← kl]; exact hk
  have kd:(mh t)[k]=Gq t (k:Int):=by simp [mh]
  rw [kd] at a1;have nn:=TE v kT;have ev:=fun h=>TF v (k:=k) h
  obtain ⟨o,ho⟩:∃ o,o=au (ah t) (k:Int):=⟨_,rfl⟩;have b:=bd k;have s1:=HQ (g:=fun k=>(nC t (au (ah t) (k:Int)):Int)) (B:=16000) k fun j _=>by have:=bd j; omega
  have s2:=HQ (g:=fun k=>lA t (au (ah t) (k:Int))) (B:=60000) k fun j _=>by have:=bd j; omega
  have Qu:(k:Int)≤16:=by omega
  have hh:sZ t (au (ah t) k)=2 - lA t (au (ah t) k) - (nC t (au (ah t) k):Int):=rfl;have d2:decide ((nC t (au (ah t) k):Int) < 0)=false:=decide_eq_false (by omega);have w1:wrap .i64 (iD k (fun k=>(nC t (au (ah t) (k:Int)):Int))+(nC t (au (ah t) k):Int))=iD (k+1) (fun k=>(nC t (au (ah t) (k:Int)):Int)):=wR ⟨by omega,by omega⟩;have w2:wrap .i64 (2 - (nC t (au (ah t) k):Int))=2 - (nC t (au (ah t) k):Int):=wR ⟨by omega,by omega⟩;have w5:wrap .i64 (iD k (fun k=>lA t (au (ah t) (k:Int)))+lA t (au (ah t) k))=iD (k+1) (fun k=>lA t (au (ah t) (k:Int))):=wR ⟨by omega,by omega⟩;have wk:=bc (show k < 9223372036854775807 by omega);unfold Gq at a1;cases ht:J7 t (k:Int)
  ·rw [ht] at a1;simp only [Bool.false_eq_true,if_false] at a1;have d1:decide (sZ t (au (ah t) k) < 0)=false:=decide_eq_false (by omega);have w4:wrap .i64 (2 - (nC t (au (ah t) k):Int) - sZ t (au (ah t) k))=lA t (au (ah t) k):=by
    rw [wR ⟨by omega,by omega⟩]; omega
   simp only [mj,aal,ay hk,ai hk,aav,a1,a2,d1,d2,aas,aat,cond_true,cond_false,dX,df,dg,dY,aae,w1,w2,w4,w5,wk,Sum.elim_inl]
  ·rw [ht] at a1;simp only [if_true] at a1;have ev:=ev ht;rw [Int.tdiv_eq_ediv_of_nonneg nn] at a1;have d1:decide (sZ t (au (ah t) k) / 2 < 0)=false:=decide_eq_false (by omega);have w3:wrap .i64 (2 * (sZ t (au (ah t) k) / 2))=sZ t (au (ah t) k):=by
    rw [wR ⟨by omega,by omega⟩]; omega
   have w4:wrap .i64 (2 - (nC t (au (ah t) k):Int) - sZ t (au (ah t) k))=lA t (au (ah t) k):=by
    rw [wR ⟨by omega,by omega⟩]; omega
   simp only [mj,aal,ay hk,ai hk,aav,a1,a2,d1,d2,aas,aat,cond_true,cond_false,dX,df,dg,dY,aae,w1,w2,w3,w4,w5,wk,Sum.elim_inl]) (by
  rw [← kl];simp only [mj,aal,aS,cond_false,dX,df,dg,dY,aas,aat,cond_true,aae]) N 0 (aaP _) (by unfold eZ at hN; omega)
 rw [W7 v,W6 v] at key;exact key
end
end Go.Proofs.Ytegoimldbgdeiaa
namespace Go.Proofs.Ytegoimldbgdeiaa
open Go Go.Am
open List (map)
open Int (toNat)
open Go.IntKind (wrap)
open Go.Am.aL (fits)
set_option maxRecDepth 100000
theorem Ke {t:aZ} (g:Gd t):(aD t).flatten.length=(aT t).length∧∀ e,e∈(aD t).flatten↔e∈aT t:=by
 have inv:=iQ g;have fl:((aT t).foldl (HK t) ([],[])).2=(aD t).flatten:=inv.flat;have nd:=inv.nd;rw [fl] at nd;have mem:∀ e,e∈(aD t).flatten↔e∈aT t:=fun e=>by
  constructor
  ·intro h;obtain ⟨c,hc,he⟩:=List.mem_flatten.1 h;exact rN g hc e he
  ·intro h;have:=inv.all e h;rw [fl] at this;exact this
 exact ⟨SS nd ((uL t).filter _) mem,mem⟩
theorem Kf {t:aZ} (v:Vd t):aD t=[]↔(aT t).length=0:=by
 obtain ⟨h1,h2⟩:=Ke v.gd;constructor
 ·intro e;rw [← h1,e]; rfl
 ·intro e;cases ho:aD t with
  |nil=>rfl
  |cons c l=>
   exfalso;have hc:c∈aD t:=by rw [ho]; exact List.mem_cons_self
   have:=(pG v hc).2;rw [ho,List.flatten_cons,List.length_append] at h1;omega
section
variable {N:Nat} (hN:eZ N)
include hN
theorem Qi (t:aZ):∃ b,T16 N t=some b∧(b=true→kG t=0):=by
 obtain ⟨b,hb,_⟩:=PV hN t 4;have hb:T24 N ((t.1,t.2),4)=some b:=hb;have h2:=ab2 hN t;have h2:T28 N (t.1,t.2)=some (kG t):=h2;refine ⟨b&&(kG t == 0),?_,fun h=>?_⟩
 ·rw [show T16 N t=T16 N (t.1,t.2) from rfl,acx];simp only [JC,JD,D3,D4,aas,aat,cond_true,aae,hb,h2];cases b <;> rfl
 ·rw [Bool.and_eq_true] at h;exact eq_of_beq h.2
theorem Xe (t:aZ):T5 N t=some true:=by
 obtain ⟨b,hb,hv⟩:=Qi hN t;have hb:T16 N (t.1,t.2)=some b:=hb;rw [show T5 N t=T5 N (t.1,t.2) from rfl,agd];simp only [T10,JC,JD,D3,D4,aas,aat,cond_true,cond_false,aaK,aae,hb];cases b with
 |false=>rfl
 |true=>
  have v:=af9 (hv rfl);have g:=v.gd;have le:=v.le;have se:=v.sS;have fr:=v.free;have ow:=WB hN t (by omega) v.Gp (by omega);have ow:T17 N (t.1,t.2)=some t:=ow;have q8:=Ta hN t (by omega) v.Gp (by omega);rw [if_pos v.err] at q8;have q8:T18 N (t.1,t.2)=_:=q8;have q10:=TJ hN v;have q10:T19 N (t.1,t.2)=_:=q10;have q12:=Qb hN v;rw [J9 v,W9,W8,Xa,Om] at q12;have q12:T20 N (t.1,t.2)=_:=q12;have q14:=Qd hN v;have q14:T21 N (t.1,t.2)=_:=q14;have q16:=Qg hN v;have q16:T22 N (t.1,t.2)=_:=q16;obtain ⟨m1,m2,m3,m4,m5,m6⟩:=TH v;obtain ⟨f1,f2⟩:=Ke g;have kl:(mh t).length=iT t:=by unfold mh; rw [aal,List.length_range]
  have ws:wrap .i64 ((t.2.length:Int)+((aT t).length:Int))=(t.2.length:Int)+((aT t).length:Int):=wR ⟨by omega,by omega⟩;have ne:∀ z:Int,(z != z)=false:=fun z=>bne_self_eq_false z
  have bs:∀ z:Int,(z == z)=true:=fun z=>beq_self_eq_true z
  obtain ⟨la,lb,c1⟩:=MD hN v ((ik t).1,(ik t).2,if (ik t).2=0 then 7 else 0) m1;have c1:aw (pH N (t.1,t.2) (aD t,0) ((ik t).1,(ik t).2,if (ik t).2=0 then 7 else 0)) N (0,-1,0,[])=_:=c1;have c2:=Xd hN v 0 (aD t).flatten fun e he=>(f2 e).2 he
  have c3:=TO hN v (ik t).1 ((ik t).2,if (ik t).2=0 then 7 else 0) m5 m3 (lx (aD t).flatten);have c3:aw (oz N (t.1,t.2) ((ik t).1,(ik t).2,if (ik t).2=0 then 7 else 0)) N (0,0,lx (aD t).flatten)=_:=c3;have c4:=TP hN v 0 (lx (aD t).flatten);rw [Om] at c4;have ol:(lx (aD t).flatten).length=(aT t).length:=by unfold lx; rw [aal,f1]
  have f65:allFit (fits cg) ([]:List AV)=true:=rfl;have m65:map bS ([]:List AV)=[]:=rfl;have z00:((0:Int) != 0)=false:=rfl;have z77:((7:Int) != 7)=false:=rfl;have z70:((7:Int) != 0)=true:=rfl;have s70:((7:Int) == 0)=false:=rfl;have Km:(bif ((if (ik t).2=0 then 7 else 0:Int) != 0) then bif ((if (ik t).2=0 then 7 else 0:Int) != 7) then some true else some (!(((if (ik t).2=0 then 7 else 0:Int) == 0) == decide (((aT t).length:Int) > 0))) else some (!(((if (ik t).2=0 then 7 else 0:Int) == 0) == decide (((aT t).length:Int) > 0))):Option Bool)=some false:=by
   by_cases c:(ik t).2=0
   ·have:(aT t).length=0:=(Kf v).1 (m4.1 c);rw [if_pos c,this]; rfl
   ·have:(aT t).length≠0:=fun e=>c (m4.2 ((Kf v).2 e))
    rw [if_neg c];have d:decide (((aT t).length:Int) > 0)=true:=decide_eq_true (by omega);rw [d]; rfl
  simp only [aaK,cond_false,cond_true,ow,bN,bO,bZ,b8,gA,gB,aas,aat,aae,q8,q10,q12,q14,q16,z00,ws,ne,kl,aal,show (t.1,t.2)=t from rfl,Km,f65,m65,c0_,a0_];simp only [Km,aae,cond_false,c1,c2,c3,c4,aa6,dX,df,dg,dY,aas,aat,cond_true,E3,ol,ne,m2,bs]
end
end Go.Proofs.Ytegoimldbgdeiaa
