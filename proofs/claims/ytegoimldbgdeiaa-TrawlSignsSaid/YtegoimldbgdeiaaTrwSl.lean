/- Signs: the program's answer is the reference's. -/
import Derived.Test.YtegoimldbgdeiaaTrwSk
import Derived.Test.YtegoimldbgdeiaaTrwTs
set_option linter.all false
namespace Go.Proofs.Ytegoimldbgdeiaa
open Go Go.Am
open List (map)
open Int (toNat)
open Go.IntKind (wrap)
open Go.Am.aM (fits)
set_option maxRecDepth 100000
theorem Qs {t:cu} (h:dD t=0):uz t:=by
 obtain ⟨_,_,_,_,h5⟩:=EY h;intro i hi;unfold ux at h5;rw [C2] at h5;have:=h5 (oh t (t.2.take i) t.2[i]) (by rw [List.mem_mapIdx]; exact ⟨i,hi,rfl⟩);unfold oh at this;split at this
 ·cases this
 ·rename_i hc;have hc:(rK t (t.2[i].1,t.2[i].2.1)&&rK t (t.2[i].2.2.1,t.2[i].2.2.2.1))=true:=by simpa using hc
  rw [Bool.and_eq_true] at hc;obtain ⟨k1,i1,e1,b1,_⟩:=xD hc.1;obtain ⟨k2,i2,e2,b2,_⟩:=xD hc.2;rw [fC t hi];injection e1 with e1 _;injection e2 with e2 _;exact ⟨k1,k2,e1,b1,e2,b2⟩
structure Fin (t:cu) (y:List Int × List (List Int) × List Int):Prop where
 ls:y.1.length=t.1.length
 val:∀ q:Nat,q < t.1.length→gI y.1 q=1∨gI y.1 q=-1
 De:∀ q:Nat,q < t.1.length→∃ r:Nat,gI y.2.2 q=r∧r≤q∧gI y.1 r=1∧gI y.2.2 r=r∧b8 t (gL y.2.1 q) ((r:Int),false)=some ((q:Int),decide (gI y.1 q=-1))∧(gL y.2.1 q).length+1≤t.1.length
 inw:∀ q:Int,VW t (gL y.2.1 q)
 same:∀ i < t.2.length,gI y.2.2 (av t i).1=gI y.2.2 (av t i).2.2.1
theorem VX {t:cu} (hS:uz t):Fin t (eL t t.1.length):=by
 have inv:=uA hS t.1.length (Nat.le_refl _);have hl:(eL t t.1.length).1.length=t.1.length:=inv.ls;refine ⟨hl,fun q hq=>?_,fun q hq=>?_,fun q=>(Aj t t.1.length).at q,fun i hi=>?_⟩
 ·exact (inv.val q).resolve_left (inv.low q hq)
 ·obtain ⟨r,w1,w2,w3,w4,w5,w6⟩:=inv.De q hq (inv.low q hq);have:=B0 (eL t t.1.length).1;have w6:(gL (eL t t.1.length).2.1 q).length+1≤nz (eL t t.1.length).1:=w6;exact ⟨r,w1,w2,w3,w4,w5,by omega⟩
 ·obtain ⟨A,B,hA,om,hB,ow⟩:=hS i hi;have c:=(inv.Rs A om (inv.low A om) List.not_mem_nil i hi (fun e=>absurd e (by omega))).1 hA;have c:=c.2;rw [hA];exact c.symm
theorem RA {t:cu} (hS:uz t) {y:List Int × List (List Int) × List Int} (f:Fin t y) {j:Nat} (hj:j < t.2.length) (hc:gz y.1 (av t j)=false) :
  ∃ r:Nat,r < t.1.length∧(xe y j (av t j)).1=r∧VW t (xe y j (av t j)).2∧(xe y j (av t j)).2.length≤2 * t.1.length∧b8 t (xe y j (av t j)).2 ((r:Int),false)=some ((r:Int),true):=by
 obtain ⟨A,B,hA,om,hB,ow⟩:=hS j hj;obtain ⟨r,a1,a2,a3,a4,a5,a6⟩:=f.De A om;obtain ⟨r',b1,b2,b3,b4,b5,b6⟩:=f.De B ow;have hs:=f.same j hj;rw [hA,hB,a1,b1] at hs;have:r'=r:=by omega
 subst this;have vA:=f.val A om;have vB:=f.val B ow;unfold gz at hc;rw [hA,hB] at hc;unfold xe;rw [hA,hB];refine ⟨r',by omega,a1,fun i hi=>?_,?_,?_⟩
 ·rcases List.mem_append.1 hi with hi|hi
  ·rcases List.mem_append.1 hi with hi|hi
   ·exact f.inw A i hi
   ·exact ⟨j,by simpa using hi,hj⟩
  ·exact f.inw B i (List.mem_reverse.1 hi)
 ·simp only [List.length_append,List.length_reverse,List.length_singleton]; omega
 ·show b8 t (gL y.2.1 (A:Int)++[(j:Int)]++(gL y.2.1 (B:Int)).reverse) _=_;rw [ia,ia,a5];have st:cO (av t j) ((A:Int),decide (gI y.1 (A:Int)=-1))=some ((B:Int),decide (gI y.1 (A:Int)=-1) != (av t j).2.2.2.2):=by
   unfold cO; rw [hA,if_pos rfl,hB]
  show ((cO (av t (j:Int).toNat) ((A:Int),decide (gI y.1 (A:Int)=-1))).bind (b8 t [])).bind (b8 t (gL y.2.1 (B:Int)).reverse)=_;rw [Int.toNat_natCast,st];show b8 t (gL y.2.1 (B:Int)).reverse ((B:Int),_)=_;rw [wA,BZ t _ _ _ _ b5];show some ((r':Int),((decide (gI y.1 (A:Int)=-1) != (av t j).2.2.2.2) != decide (gI y.1 (B:Int)=-1)))=some ((r':Int),true);congr 2;rcases vA with vA|vA <;> rcases vB with vB|vB <;> rw [vA,vB] at hc ⊢ <;> revert hc <;> cases (av t j).2.2.2.2 <;> decide
section
variable {N:Nat} (hN:ey N)
include hN
theorem Nj {t:cu} (hS:uz t) (hP:t.1.length≤900) (hT:t.2.length≤100000) {y:List Int × List (List Int) × List Int} (f:Fin t y) :
  ((∀ i,i < t.2.length→gz y.1 (av t i)=true)→Ru N t=some (y.1,true))∧((∃ j,j < t.2.length∧gz y.1 (av t j)=false)→Ru N t=some ([],false)):=by
 obtain ⟨l,hl⟩:∃ l,l=e7 t t.2.length:=⟨_,rfl⟩;have ll:l.length=t.1.length:=by rw [hl]; exact my t _
 obtain ⟨pc,WG⟩:∃ pc,pc=IF l:=⟨_,rfl⟩
 -- pieces are what has the same start
 have ac6:∀ j q:Nat,j < t.1.length→q < t.1.length→gI l j=gI l q→gI y.2.2 j=gI y.2.2 q:=fun j q hj hq h=>Af hS (fun q=>gI y.2.2 q) f.same t.2.length (Nat.le_refl _) j q hj hq (by rw [← hl]; exact h)
 have Nk:∀ q r:Nat,q < t.1.length→gI y.2.2 q=r→gI l q=gI l r:=fun q r hq h=>by
  obtain ⟨r',a1,a2,a3,a4,a5,a6⟩:=f.De q hq;have:r'=r:=by omega
  subst this;exact z6 t (g:=fun z=>gI l z) (gL y.2.1 q) (fun i hi=>by
   obtain ⟨k,rfl,hk⟩:=f.inw q i hi;rw [Int.toNat_natCast];show gI l _=gI l _;rw [hl]; exact B7 hS t.2.length (Nat.le_refl _) k hk) _ _ a5
 have ac7:∀ j q:Nat,j < t.1.length→q < t.1.length→gI y.2.2 j=gI y.2.2 q→gI l j=gI l q:=fun j q hj hq h=>by
  obtain ⟨r,a1,_⟩:=f.De q hq;rw [Nk q r hq a1,Nk j r hj (by rw [h,a1])]
 have Nl:∀ j q:Nat,j < t.1.length→q < t.1.length→(gI pc j=gI pc q↔gI y.2.2 j=gI y.2.2 q):=fun j q hj hq=>by
  rw [WG,Qr l (by omega) (by omega)];exact ⟨ac6 j q hj hq,ac7 j q hj hq⟩
 have first:∀ q:Nat,q < t.1.length→(gm pc q q=true↔gI y.2.2 q=q):=fun q hq=>by
  rw [Ag];obtain ⟨r,a1,a2,a3,a4,a5,a6⟩:=f.De q hq;constructor
  ·intro h;rcases Nat.lt_or_ge r q with c|c
   ·exact absurd ((Nl r q (by omega) hq).2 (by rw [a4,a1])) (h r c)
   ·have:r=q:=by omega
    rw [a1,this]
  ·intro h b hb e;have e:=(Nl b q (by omega) hq).1 e;obtain ⟨r',b1,b2,_⟩:=f.De b (by omega);omega
 have isg:=Ae pc t.1.length;have VY:∀ m:Nat,gI (px pc t.1.length t.1.length) m≠0→m < t.1.length∧gI y.2.2 m=m∧gI (px pc t.1.length t.1.length) m=1:=fun m hm=>by
  rw [xG pc _ m _ (Nat.le_refl _)] at hm ⊢;split at hm
  ·rename_i c;exact ⟨c.1,(first m c.1).1 c.2,by rw [if_pos c]⟩
  ·exact absurd rfl hm
 have Nn:∀ r:Nat,r < t.1.length→gI y.2.2 r=r→gI (px pc t.1.length t.1.length) r=1:=fun r hr h=>by
  rw [xG pc _ r _ (Nat.le_refl _),if_pos ⟨hr,(first r hr).2 h⟩]
 obtain ⟨R,hR⟩:∃ R,R=iQ t (px pc t.1.length t.1.length) t.1.length:=⟨_,rfl⟩;have Zp:=jU hS isg t.1.length;rw [← hR] at Zp;obtain ⟨rsg,ae8,VZ⟩:=Zp;have total:∀ q:Nat,q < t.1.length→gI R q≠0:=fun q hq=>by
  obtain ⟨r,a1,a2,a3,a4,a5,a6⟩:=f.De q hq;have hr:=Nn r (by omega) a4;rw [hR];exact wF hS isg t.1.length (gL y.2.1 q).length (by omega) (uG hS isg (by omega:r < t.1.length) (by rw [hr]; decide) _ (gL y.2.1 q) rfl (f.inw q) q false _ a5)
 have res:=Qp hN t hS hP hT R (by rw [hR,WG,hl]);constructor
 ·intro hc;have ag:∀ k < t.2.length,ms (av t k) (fun z=>gI y.1 z):=fun k hk=>by
   obtain ⟨A,B,hA,om,hB,ow⟩:=hS k hk;have c:=hc k hk;unfold gz at c;unfold ms;rw [hA,hB] at c ⊢;have vA:=f.val A om;have vB:=f.val B ow;show gI y.1 B=if _ then - gI y.1 A else gI y.1 A
   rcases vA with vA|vA <;> rcases vB with vB|vB <;> rw [vA,vB] at c ⊢ <;> revert c <;> cases (av t k).2.2.2.2 <;> decide
  have eq:∀ q:Nat,q < t.1.length→gI R q=gI y.1 q:=fun q hq=>VZ _ ag (fun m hm=>by
   obtain ⟨m1,m2,m3⟩:=VY m hm;obtain ⟨r,a1,a2,a3,_⟩:=f.De m m1;have:r=m:=by omega
   rw [m3,← this,a3]) q (total q hq)
  have hRy:R=y.1:=by
   apply List.ext_getElem
   ·rw [rsg.len,f.ls]
   ·intro m h1 h2;have:=eq m (by rw [← rsg.len]; exact h1);rwa [jw _ h1,jw _ h2] at this
  rcases res with ⟨e,_⟩|⟨_,i,hi,e⟩
  ·rw [e,hRy]
  ·rw [hRy,hc i hi] at e; cases e
 ·rintro ⟨j,hj,hc⟩;rcases res with ⟨_,e⟩|⟨e,_⟩
  ·exfalso;obtain ⟨r,hr,w1,w2,w3,w4⟩:=RA hS f hj hc;have ag:∀ k < t.2.length,ms (av t k) (fun z=>gI R z):=fun k hk=>by
    obtain ⟨A,B,hA,om,hB,ow⟩:=hS k hk;have c:=e k hk;unfold gz at c;unfold ms;rw [hA,hB] at c ⊢;have vA:=(rsg.val A).resolve_left (total A om);have vB:=(rsg.val B).resolve_left (total B ow);show gI R B=if _ then - gI R A else gI R A
    rcases vA with vA|vA <;> rcases vB with vB|vB <;> rw [vA,vB] at c ⊢ <;> revert c <;> cases (av t k).2.2.2.2 <;> decide
   have:=wB t (g:=fun z=>gI R z) _ (fun i hi=>by
    obtain ⟨k,rfl,hk⟩:=w2 i hi;rw [Int.toNat_natCast]; exact ag k hk) _ _ _ _ w4
   simp only [if_true,Bool.false_eq_true,if_false] at this;have:=total r hr;omega
  ·exact e
theorem No (l:List Int) (h:l.length≤1000000):Z9 N (l,l)=some true:=by
 have key:=aU (rd:=Ab N l l) l.length (fun k=>(k:Int)) (.inr ()) (fun k hk=>by
  obtain ⟨a1,a2⟩:=EG l hk;simp only [Ab,List.length_map,Int.toNat_natCast,a1,a2,ap hk,ah hk,bne_self_eq_false,aR (show k < 9223372036854775807 by omega),Bool.and_self,Bool.and_true,cond_true,cond_false]) (by
  simp only [Ab,List.length_map,aJ,cond_false]) N 0 (Nat.zero_le _) (by unfold ey at hN; omega)
 have key:ar (Ab N l l) N 0=some (.inr ()):=key;rw [VT,bne_self_eq_false,cond_false,key]; rfl
theorem Ks {t:cu}:WC N t=if dD t≠0 then some ([],dD t) else (IC N t).bind fun r=>match r with | .inl o=>some (o.1.1,0) | .inr _=>some ([],29):=by
 have k0:=Hj hN t;have k0:MC N (t.1,t.2)=some (dD t):=k0;have f0:allFit (fits p3) ([]:List AV)=true:=rfl;have m0:map d3 ([]:List AV)=[]:=rfl;rw [show WC N t=WC N (t.1,t.2) from rfl,VE];simp only [bW,cj,bX,ck,f0,m0,Bool.and_self,Bool.and_true,cond_true,Option.bind_some,k0];by_cases h:dD t≠0
 ·have:(dD t != 0)=true:=by simpa using h
  rw [if_pos h,this]; rfl
 ·have:(dD t != 0)=false:=by simpa using h
  rw [if_neg h,this];simp only [cond_false];show (IC N t).bind _=_;cases IC N t with
  |none=>rfl
  |some r=>cases r with
   |inl o=>simp only [Option.bind_some,Sum.elim_inl,dI,dJ,cond_true]
   |inr o=>rfl
theorem Kt {t:cu}:WD N t=if dD t≠0 then some ((0,[]),dD t) else (IC N t).bind fun r=>match r with | .inl _=>some ((0,[]),7) | .inr o=>some (o.2,0):=by
 have k0:=Hj hN t;have k0:MC N (t.1,t.2)=some (dD t):=k0;have f0:allFit (fits p3) ([]:List AV)=true:=rfl;have m0:map d3 ([]:List AV)=[]:=rfl;rw [show WD N t=WD N (t.1,t.2) from rfl,VG];simp only [bW,cj,bX,ck,f0,m0,Bool.and_self,Bool.and_true,cond_true,Option.bind_some,k0];by_cases h:dD t≠0
 ·have:(dD t != 0)=true:=by simpa using h
  rw [if_pos h,this]; rfl
 ·have:(dD t != 0)=false:=by simpa using h
  rw [if_neg h,this];simp only [cond_false];show (IC N t).bind _=_;cases IC N t with
  |none=>rfl
  |some r=>cases r with
   |inl o=>rfl
   |inr o=>simp only [Option.bind_some,Sum.elim_inr,dI,dJ,cond_true]
theorem Qt (t:cu) (w:Int × List Int):T6 N (t,w)=some true:=by
 rw [show T6 N (t,w)=T6 N ((t.1,t.2),(w.1,w.2)) from rfl,Zn];obtain ⟨b,hb,Gl⟩:=Kb hN t 4;simp only [Z0,J2,J3,EP,EQ,Bool.and_self,Bool.and_true,cond_true,cond_false,Bool.not_true,Option.bind_some,show (t.1,t.2)=t from rfl,show (w.1,w.2)=w from rfl,hb,List.length_map];cases b with
 |false=>rfl
 |true=>
  obtain ⟨h1,h2,h3⟩:=Gl rfl;have hs:∀ x∈t.1,x.2.length≤1000:=fun x hx=>by have:=h3 x hx; omega
  have f0:allFit (fits p3) ([]:List AV)=true:=rfl;have m0:map d3 ([]:List AV)=[]:=rfl;have bs:∀ z:Int,(z == z)=true:=fun z=>beq_self_eq_true z
  -- the length of the way is small
  by_cases afb:w.2.length > 258
  ·have e3:decide ((w.2.length:Int) > 258)=true:=decide_eq_true (by omega);have e1:decide ((w.2.length:Int) > 20)=true:=decide_eq_true (by omega);have e2:decide ((w.2.length:Int)≤256)=false:=decide_eq_false (by omega);simp only [Bool.not_true,cond_false,e1,e2,e3,cond_true,Option.bind_some]
  ·have e3:decide ((w.2.length:Int) > 258)=false:=decide_eq_false (by omega);have hwl:decide ((0+w.2.length) * 8≤140737488355328)=true:=decide_eq_true (by omega);have rF:∀ X:Option Bool,X=some true→((((bif decide ((w.2.length:Int) > 20) then bif decide ((w.2.length:Int)≤256) then some true else some false else some false):Option Bool).bind fun o4=>bif o4 then some true else X)=some true):=by
    intro X hX;cases decide ((w.2.length:Int) > 20) <;> cases decide ((w.2.length:Int)≤256) <;> first | exact hX | rfl
   have VV:(bif (map n3 w.2).isEmpty then (NP N (t,w.1,[])).bind fun Zo=>some Zo else (NP N (t,w)).bind fun Zo=>some Zo)=NP N (t,w):=by
    have bs2:∀ x:Option Int,(x.bind fun y=>some y)=x:=fun x=>by cases x <;> rfl
    obtain ⟨p,l⟩:=w;cases l with
    |nil=>exact bs2 _
    |cons a l=>exact bs2 _
   simp only [Bool.not_true,cond_false,e3,Qa hN t (by omega) hs (by omega),bW,bX,cj,ck,dI,dJ,f0,m0,WI,bs,hwl,Bool.and_self,Bool.and_true,cond_true,Option.bind_some,List.nil_append,show (t.1,t.2)=t from rfl,show (w.1,w.2)=w from rfl];refine rF _ ?_;rw [VV,Qq hN,Ks hN,Kt hN,Vq hN,II hN];have nl:((([]:List Int).length:Nat):Int)=0:=rfl;by_cases h:dD t≠0
   ·have hb:(dD t != 0)=true:=by simpa using h
    simp only [if_pos h,Option.bind_some,hb,cond_true,bs,nl]
   ·have hz:dD t=0:=by simpa using h
    have hS:=Qs hz;obtain ⟨p1,p2,_,p3,_⟩:=EY hz;have f:=VX hS;obtain ⟨b1,b2⟩:=Nj hN hS (by omega) (by omega) f;have nb:(dD t != 0)=false:=by rw [hz]; rfl
    have ne:∀ z:Int,(z != z)=false:=fun z=>bne_self_eq_false z
    rcases Na hN t hS p1 (by omega) (by omega) with ⟨e,hc⟩|⟨j,hj,hc,e⟩
    ·have ly:(eL t t.1.length).1.length≤1000000:=by rw [f.ls]; omega
     simp only [if_neg h,e,b1 hc,Option.bind_some,nb,cond_false,ne,bs,cond_true,No hN _ ly,nl]
    ·obtain ⟨r,r1,r2,r3,r4,r5⟩:=RA hS f hj hc;have ew:B6 t (xe (eL t t.1.length) j (av t j))=0:=by
      unfold B6;rw [if_neg (by omega),r2,if_neg (by omega),if_neg (by
       unfold pI;rw [Bool.not_eq_true,List.any_eq_false];intro i hi;obtain ⟨k,rfl,hk⟩:=r3 i hi;simp; omega)]
      unfold Kq;rw [r2,if_pos r5]
     simp only [if_neg h,e,b2 ⟨j,hj,hc⟩,Option.bind_some,nb,cond_false,ne,bs,cond_true,nl,II hN,show ∀ x:Int × List Int,(x.1,x.2)=x from fun _=>rfl,ew]
end
end Go.Proofs.Ytegoimldbgdeiaa
