/- Counts,kinds and mouths. -/
import Derived.Test.YtegoimldbgdeiaaSeamKG
import Derived.Test.YtegoimldbgdeiaaTrwV
set_option linter.all false
open Bool renaming and_self→aal, and_true→aau, false_eq_true→aay, true_and→acG
open Int renaming toNat_natCast→aat, le_refl→aa3, zero_add→acK
open List renaming length_map→aas, length_filter_le→aav, getElem?_eq_getElem→aax, getD_eq_getElem?_getD→aaA, filter_congr→aaK, filter_eq_self→aaM, mem_cons_self→aaP, getElem_mem→aaT, length_cons→aa0, foldl_cons→aa6, mem_cons_of_mem→abd, length_nil→acg, filter_eq_nil_iff→acz, mem_cons→acC, getElem_of_mem→acH
open Nat renaming lt_trichotomy→abQ, le_trans→ab9, zero_le→acv
open Option renaming bind_some→aae
open Sum renaming elim_inl→acI, elim_inr→acJ
namespace Go.Proofs.Ytegoimldbgdeiaa
open Go Go.Am
open List (map)
open Int (toNat)
open Go.IntKind (wrap)
open Go.Am.aL (fits)
set_option maxRecDepth 100000
structure Vd (t:aZ):Prop where
 err:kG t=0
 ne:t.1.length≠0
 le:t.1.length≤16
 sS:t.2.length≤64
 gd:Gd t
 sd:∀ x∈t.1,x.2.length≤8
 msh:∀ e,dw t e=true→1≤(BU t e).1∧(BU t e).1≤10000
theorem af9 {t:aZ} (h:kG t=0):Vd t:=by
 obtain ⟨h1,h2,_,h4,_⟩:=Ed h;obtain ⟨g,m⟩:=acn h;refine ⟨h,h1,h2,h4,g,fun x hx=>?_,m⟩;obtain ⟨k,hk,rfl⟩:=acH hx;have:=(g.E5 k (by omega) (by omega)).2;rw [zV t hk] at this;exact this
section
variable {t:aZ} (v:Vd t)
include v
theorem Vd.Gp:∀ x∈t.1,x.2.length≤1000:=fun x hx=>by have:=v.sd x hx; omega
theorem Vd.acF:(cT t).length≤16000:=by
 have:=ot t.1 0 v.Gp;have:=v.le;unfold cT;omega
theorem Vd.free:(aT t).length≤16000:=by
 have:=v.acF;have:=aav (fun e:Int × Int=>(zX t e).isNone) (cT t);unfold aT;omega
theorem Vd.open:(aD t).length≤16000:=by
 have:=(iQ v.gd).head.length_le;rw [aas] at this;have:=v.free;unfold aD;omega
end
def iT (t:aZ):Nat:=((ah t).foldl (fun m x=>if x > m then x else m) (-1)+1).toNat
theorem J6:∀ (l:List Int) (m:Int),m≤l.foldl (fun m x=>if x > m then x else m) m∧(∀ x∈l,x≤l.foldl (fun m x=>if x > m then x else m) m)∧(l.foldl (fun m x=>if x > m then x else m) m=m∨l.foldl (fun m x=>if x > m then x else m) m∈l)
 |[],m=>⟨aa3 _,fun _ h=>(nomatch h),.inl rfl⟩
 |a :: l,m=>by
  rw [aa6];obtain ⟨h1,h2,h3⟩:=J6 l (if a > m then a else m);have hm:m≤(if a > m then a else m)∧a≤(if a > m then a else m):=by split <;> omega
  refine ⟨by omega,fun x hx=>?_,?_⟩
  ·rcases acC.1 hx with rfl|hx
   ·omega
   ·exact h2 x hx
  ·rcases h3 with h3|h3
   ·by_cases c:a > m
    ·rw [if_pos c] at h3 ⊢;exact .inr (by rw [h3]; exact aaP)
    ·rw [if_neg c] at h3 ⊢;exact .inl h3
   ·exact .inr (abd _ h3)
theorem mg {t:aZ} (v:Vd t):0 < iT t∧iT t≤t.1.length∧(∀ p∈bf t.1.length,∃ k:Nat,k < iT t∧(ah t).getD p.toNat 0=(k:Int))∧(∀ k,k < iT t→∃ p∈bf t.1.length,(ah t).getD p.toNat 0=(k:Int))∧(ah t).foldl (fun m x=>if x > m then x else m) (-1)=(iT t:Int) - 1:=by
 obtain ⟨_,n,h1,h2,h3⟩:=qk v.gd;obtain ⟨_,m2,m3⟩:=J6 (ah t) (-1);have len:=BY t;have at_:∀ i (hi:i < t.1.length),(ah t)[i]'(by omega)=(ah t).getD ((i:Int).toNat) 0:=fun i hi=>by
  rw [aat,aaA,aax (by omega)]; rfl
 have n0:0 < n:=by
  obtain ⟨k,hk,_⟩:=h2 0 (dx.2 ⟨aa3 _,by have:=v.ne; omega⟩);omega
 have e:(ah t).foldl (fun m x=>if x > m then x else m) (-1)=(n:Int) - 1:=by
  obtain ⟨p,hp,e⟩:=h3 (n - 1) (by omega);have hp':=dx.1 hp;have lo:((n - 1:Nat):Int)≤(ah t).foldl (fun m x=>if x > m then x else m) (-1):=by
   refine m2 _ ?_;rw [← e,aaA,aax (by omega)];exact aaT _
  rcases m3 with m3|m3
  ·omega
  ·obtain ⟨i,hi,e2⟩:=acH m3;obtain ⟨k,hk,e3⟩:=h2 (i:Int) (dx.2 ⟨by omega,by omega⟩);rw [← at_ i (by omega),e2] at e3;omega
 have en:iT t=n:=by
  unfold iT;rw [e]; omega
 rw [en];exact ⟨n0,h1,h2,h3,e⟩
section
variable {N:Nat} (hN:eZ N)
include hN
theorem Oh {t:aZ} (v:Vd t):XZ N (ah t)=some ((iT t:Int) - 1):=by
 obtain ⟨p1,p2,p3,_,p4⟩:=mg v;have len:=BY t;have ne:=v.ne;have le:=v.le;have l0:0 < (ah t).length:=by omega
 obtain ⟨a1,a2⟩:=Pz (ah t) l0;have key:=dQ (rd:=yu N (ah t)) (ah t) (fun (s:Int) k=>(s,(k:Int))) (fun m x=>if x > m then x else m) (fun s=>s) (fun _ _=>True) (fun s k hk _=>by
  obtain ⟨b1,b2⟩:=Pz (ah t) hk;refine ⟨?_,trivial⟩;simp only [yu,aas,ay hk,ai hk,aat,b1,b2,bc (show k < 9223372036854775807 by omega),aal,cond_true]) (fun s _=>by
  simp only [yu,aas,aS,cond_false]) N (ah t)[0] 1 (by omega) (by unfold eZ at hN; omega) trivial
 have key:aw (yu N (ah t)) N ((ah t)[0],1)=_:=key;rw [aaZ];have d1:decide (((ah t).length:Int) < 1)=false:=decide_eq_false (by omega);have d2:decide ((0:Int)≤0∧0 < ((ah t).length:Int))=true:=decide_eq_true ⟨aa3 _,by omega⟩;simp only [aas,d1,d2,cond_false,cond_true,show toNat 0=0 from rfl,a1,a2,aal,key,aae];rw [← p4];congr 1;have hp:0≤(ah t)[0]:=by
  obtain ⟨k,_,e⟩:=p3 0 (dx.2 ⟨aa3 _,by omega⟩);have:(ah t)[0]=(ah t).getD (0:Int).toNat 0:=by
   show _=(ah t).getD 0 0;rw [aaA,aax l0]; rfl
  omega
 have e:ah t=(ah t)[0] :: (ah t).drop 1:=by
  rw [List.getElem_cons_drop]; rfl
 have e2:(ah t).foldl (fun m x=>if x > m then x else m) (-1)=((ah t)[0] :: (ah t).drop 1).foldl (fun m x=>if x > m then x else m) (-1):=congrArg (fun l:List Int=>l.foldl (fun m x=>if x > m then x else m) (-1)) e;rw [e2,aa6,if_pos (by omega)]
theorem TD {t:aZ} (v:Vd t) (piece:Int):Sx N (t,piece)=some (Jx t piece (ah t) (dF t) (aT t) (aD t) ((iT t:Int) - 1)):=by
 have g:=v.gd;have s:=v.Gp;have le:=v.le;have se:=v.sS;have fr:=v.free;have op:=v.open;have co:=v.acF;have pl:=BY t;have inr:∀ e,dw t e=true→Jv (ah t) e.1:=fun e he=>by
  have:=dK.1 he;unfold Jv;omega
 obtain ⟨u1,_⟩:=uO (uL t) (JZ g);have pk:(dF t).map Prod.fst=cT t:=u1;have inv:=iQ g;refine F7 hN t piece (aT t) (aD t) _ (Ef hN t (by omega) s (by omega)) (Eu hN g (by omega) (by omega) s) (Oh hN v) (by omega) s (by omega) (TB g) (by omega) (by omega) (fun e he=>?_) (fun x hx=>?_) (fun e he=>?_) (fun l hl=>?_) (fun l hl=>?_) ?_
 ·have:e.1∈cT t:=by rw [← pk]; exact List.mem_map_of_mem he
  exact inr _ (iO.1 this)
 ·exact inr (sA x) (g.sS x hx).1
 ·exact inr e (bH.1 he).1
 ·obtain ⟨b,hb,rfl⟩:=inv.Bo l hl;obtain ⟨r,hr⟩:=jq g hb;rw [hr]; exact List.cons_ne_nil _ _
 ·obtain ⟨b,hb,rfl⟩:=inv.Bo l hl;obtain ⟨r,hr⟩:=jq g hb;rw [hr]; exact inr b (bH.1 hb).1
 ·rw [← aas (f:=Prod.fst),pk]; omega
end
def E6 (t:aZ) (piece:Int) (s:kQ):Bool:=((ah t).getD s.1.toNat 0 == piece)&&!qj (fF t t.1.length).1 s
def J7 (t:aZ) (piece:Int):Bool:=!t.2.any (E6 t piece)
theorem J8 {α:Type} (q:α→Bool):∀ l:List α,(l.any q=true∧∃ i,l.findIdx? q=some i)∨(l.any q=false∧l.findIdx? q=none):=fun l=>by
 cases h:l.findIdx? q with
 |none=>
  rw [List.findIdx?_eq_none_iff] at h;exact .inr ⟨by rw [List.any_eq_false]; exact fun x hx=>by rw [h x hx]; decide,rfl⟩
 |some i=>
  have h':=h;rw [List.findIdx?_eq_some_iff_getElem] at h';obtain ⟨hi,h1,_⟩:=h';exact .inl ⟨List.any_eq_true.2 ⟨_,aaT hi,h1⟩,i,rfl⟩
section
variable {N:Nat} (hN:eZ N)
include hN
theorem W2 {t:aZ} (v:Vd t) (piece:Int):T61 N (t,piece)=some (J7 t piece):=by
 have g:=v.gd;have hS:=Of v.err;have le:=v.le;have se:=v.sS;have pl:=BY t;have f:=Tr hS;obtain ⟨y,hy⟩:∃ y,y=fF t t.1.length:=⟨_,rfl⟩;rw [← hy] at f;have q1:Ud N (t.1,t.2)=some (ah t):=sO hN t (by omega) (by omega);have cs:∀ i (hi:i < t.2.length),∃ A B:Nat,t.2[i].1=(A:Int)∧A < t.1.length∧t.2[i].2.2.1=(B:Int)∧B < t.1.length:=fun i hi=>by
  have:=hS i hi;rw [lm t hi] at this;exact this
 have body:∀ (W:List (List Int)) (k:Nat) (hk:k < t.2.length) (rd:Int × Int × List Int × List Int × List (List Int)→Option ((Int × Int × List Int × List Int × List (List Int)) ⊕ ((Int × Int × List Int × List Int × List (List Int)) ⊕ (Int × List Int × List Int × List (List Int))))),(rd=ij N t∨rd=gl N t)→rd ((k:Int),piece,ah t,y.1,W)=some (if E6 t piece t.2[k]=true then .inr (.inl ((k:Int),piece,ah t,y.1,W)) else .inl (((k+1:Nat):Int),piece,ah t,y.1,W)):=by
  intro W k hk rd hrd;obtain ⟨A,B,hA,JW,hB,Mx⟩:=cs k hk;obtain ⟨b1,b2⟩:=uE t.2 hk;obtain ⟨c1,c2⟩:=Pz (ah t) (show A < (ah t).length by omega);obtain ⟨d1,d2⟩:=g3 y.1 (show A < y.1.length by rw [f.ls]; exact JW);obtain ⟨e1,e2⟩:=g3 y.1 (show B < y.1.length by rw [f.ls]; exact Mx);have ga:(ah t).getD t.2[k].1.toNat 0=(ah t)[A]'(by omega):=by
   rw [hA,aat,aaA,aax (by omega)]; rfl
  have bad:E6 t piece t.2[k]=(((ah t)[A]'(by omega) == piece)&&!((gI y.1 (A:Int) != gI y.1 (B:Int)) == t.2[k].2.2.2.2)):=by
   unfold E6 qj;rw [ga,← hy,hA,hB]
  rw [bad];have w:=bc (show k < 9223372036854775807 by omega);rcases hrd with rfl|rfl
  ·cases hp:((ah t)[A]'(by omega) == piece)
   ·simp only [ij,aas,ay hk,ai hk,aat,b1,b2,hA,hB,ai (show A < (ah t).length by omega),c1,c2,hp,aal,Bool.false_and,cond_true,cond_false,gw,gy,jD,jE,aae,w,aay,if_false]
   ·simp only [ij,aas,ay hk,ai hk,aat,b1,b2,hA,hB,ai (show A < (ah t).length by omega),ai (show A < y.1.length by rw [f.ls]; exact JW),ai (show B < y.1.length by rw [f.ls]; exact Mx),c1,c2,d1,d2,e1,e2,hp,aal,acG,cond_true,cond_false,gw,gy,jD,jE,aae,w];cases ((gI y.1 (A:Int) != gI y.1 (B:Int)) == t.2[k].2.2.2.2) <;> rfl
  ·cases hp:((ah t)[A]'(by omega) == piece)
   ·simp only [gl,aas,ay hk,ai hk,aat,b1,b2,hA,hB,ai (show A < (ah t).length by omega),c1,c2,hp,aal,Bool.false_and,cond_true,cond_false,gw,gy,jD,jE,aae,w,aay,if_false]
   ·simp only [gl,aas,ay hk,ai hk,aat,b1,b2,hA,hB,ai (show A < (ah t).length by omega),ai (show A < y.1.length by rw [f.ls]; exact JW),ai (show B < y.1.length by rw [f.ls]; exact Mx),c1,c2,d1,d2,e1,e2,hp,aal,acG,cond_true,cond_false,gw,gy,jD,jE,aae,w];cases ((gI y.1 (A:Int) != gI y.1 (B:Int)) == t.2[k].2.2.2.2) <;> rfl
 have fin:∀ (W:List (List Int)) (rd:Int × Int × List Int × List Int × List (List Int)→Option ((Int × Int × List Int × List Int × List (List Int)) ⊕ ((Int × Int × List Int × List Int × List (List Int)) ⊕ (Int × List Int × List Int × List (List Int))))),(rd=ij N t∨rd=gl N t)→rd ((t.2.length:Int),piece,ah t,y.1,W)=some (.inr (.inr (piece,ah t,y.1,W))):=by
  intro W rd hrd;rcases hrd with rfl|rfl
  ·simp only [ij,aas,aS,cond_false,gw,gy,jD,jE,aal,cond_true,aae]
  ·simp only [gl,aas,aS,cond_false,gw,gy,jD,jE,aal,cond_true,aae]
 have key:∀ (W:List (List Int)) (rd:Int × Int × List Int × List Int × List (List Int)→Option ((Int × Int × List Int × List Int × List (List Int)) ⊕ ((Int × Int × List Int × List Int × List (List Int)) ⊕ (Int × List Int × List Int × List (List Int))))),(rd=ij N t∨rd=gl N t)→aw rd N (0,piece,ah t,y.1,W)=_:=fun W rd hrd=>wV (rd:=rd) t.2 (E6 t piece) (fun k=>((k:Int),piece,ah t,y.1,W)) (fun k=>.inl ((k:Int),piece,ah t,y.1,W)) (.inr (piece,ah t,y.1,W)) (fun k hk=>body W k hk rd hrd) (fin W rd hrd) N (by unfold eZ at hN; omega)
 have d1:decide ((-1:Int)≥0)=false:=rfl;have dn:∀ i:Nat,decide ((i:Int)≥0)=true:=fun i=>decide_eq_true (by omega)
 rw [show T61 N (t,piece)=T61 N ((t.1,t.2),piece) from rfl,acB];simp only [bN,bO,bZ,b8,aal,aau,cond_true,aae,q1];unfold J7;rcases Tq hN t hS v.ne (by omega) (by omega) with ⟨e,_⟩|⟨j,_,_,e⟩
 ·have e:WI N (t.1,t.2)=_:=e;rw [e,← hy];have k:=key y.2.1 (ij N t) (.inl rfl);have k:aw (ij N (t.1,t.2)) N (0,piece,ah t,y.1,y.2.1)=_:=k;simp only [aae,acI,gw,gy,jD,jE,aal,cond_true,k];rcases J8 (E6 t piece) t.2 with ⟨a,i,b⟩|⟨a,b⟩
  ·simp only [a,b,aae,acI,gw,gy,jD,jE,aal,cond_true,dn]
  ·simp only [a,b,aae,acJ,gw,gy,jD,jE,aal,cond_true,d1]
 ·have e:WI N (t.1,t.2)=_:=e;rw [e,← hy];have k:=key y.2.1 (gl N t) (.inr rfl);have k:aw (gl N (t.1,t.2)) N (0,piece,ah t,y.1,y.2.1)=_:=k;simp only [aae,acJ,gw,gy,jD,jE,aal,cond_true,k];rcases J8 (E6 t piece) t.2 with ⟨a,i,b⟩|⟨a,b⟩
  ·simp only [a,b,aae,acI,gw,gy,jD,jE,aal,cond_true,dn]
  ·simp only [a,b,aae,acJ,gw,gy,jD,jE,aal,cond_true,d1]
end
end Go.Proofs.Ytegoimldbgdeiaa
namespace Go.Proofs.Ytegoimldbgdeiaa
open Go Go.Am
open List (map)
open Int (toNat)
open Go.IntKind (wrap)
open Go.Am.aL (fits)
set_option maxRecDepth 100000
theorem W3 {α β:Type} [DecidableEq β] (g:α→β) (L:List α):pM g L≤L.length:=by
 have:=AT (qI (L.map g)) (m:=L.map g) fun x hx=>(jc _ _).1 hx
 rwa [aas] at this
def nC (t:aZ) (q:Int→Bool):Nat:=((aD t).filter fun c=>q (c.getD 0 (0,0)).1).length
def Bq (t:aZ) (q:Int→Bool):Nat:=((aT t).filter fun e=>q e.1).length
def lA (t:aZ) (q:Int→Bool):Int:=(uN t q:Int) - ((qJ t q:Int)+(Bq t q:Int))+((me t q).length:Int)
structure Bds (t:aZ) (q:Int→Bool):Prop where
 Th:uN t q≤32000
 sS:qJ t q≤64
 fre:Bq t q≤16000
 E5:(me t q).length≤16
 gZ:nC t q≤16000
theorem bds {t:aZ} (v:Vd t) (q:Int→Bool):Bds t q where
 Th:=by
  have h1:=W3 (bT (fE t q)) (fO t q);have h2:=v.acF;have h3:=aav (fun e:Int × Int=>q e.1) (cT t);have h4:(fO t q).length=2 * ((cT t).filter fun e=>q e.1).length:=vv _;unfold uN;omega
 sS:=ab9 (aav _ _) v.sS
 fre:=ab9 (aav _ _) v.free
 E5:=ab9 (aav _ _) (by rw [gn]; exact v.le)
 gZ:=ab9 (aav _ _) v.open
theorem J9 {t:aZ} (v:Vd t) (piece:Int):Jx t piece (ah t) (dF t) (aT t) (aD t) ((iT t:Int) - 1)=((uN t (au (ah t) piece):Int),(qJ t (au (ah t) piece):Int)+(Bq t (au (ah t) piece):Int),((me t (au (ah t) piece)).length:Int),(iT t:Int),(nC t (au (ah t) piece):Int),lA t (au (ah t) piece)):=by
 have b:=bds v (au (ah t) piece);have b1:=b.Th;have b2:=b.sS;have b3:=b.fre;have b4:=b.E5;have p:=(mg v).2.1;have le:=v.le;have e1:nB (ah t) piece E4 (List.range t.1.length) 0=((me t (au (ah t) piece)).length:Int):=by
  rw [uR,acK];unfold me bf;rw [List.filter_map,aas];rfl
 have e2:nB (ah t) piece (fun x:Int × Int=>x.1) (aT t) (nB (ah t) piece (fun x:kQ=>x.1) t.2 0)=(qJ t (au (ah t) piece):Int)+(Bq t (au (ah t) piece):Int):=by
  rw [uR,uR,acK]; rfl
 have e3:nB (ah t) piece (fun x:List (Int × Int)=>(x.getD 0 (0,0)).1) (aD t) 0=(nC t (au (ah t) piece):Int):=by
  rw [uR,acK]; rfl
 have w1:wrap .i64 ((iT t:Int) - 1+1)=(iT t:Int):=by rw [wR ⟨by omega,by omega⟩]; omega
 have w2:wrap .i64 ((uN t (au (ah t) piece):Int) - ((qJ t (au (ah t) piece):Int)+(Bq t (au (ah t) piece):Int)))=(uN t (au (ah t) piece):Int) - ((qJ t (au (ah t) piece):Int)+(Bq t (au (ah t) piece):Int)):=wR ⟨by omega,by omega⟩;have w3:wrap .i64 (lA t (au (ah t) piece))=lA t (au (ah t) piece):=wR (by unfold lA; constructor <;> omega);unfold Jx;simp only [Tt v.gd piece,e1,e2,e3,w1,w2];unfold lA at w3 ⊢;rw [w3]
def sZ (t:aZ) (q:Int→Bool):Int:=2 - lA t q - (nC t q:Int)
def Gq (t:aZ) (k:Int):Bool × Int × Int:=(J7 t k,if J7 t k=true then Int.tdiv (sZ t (au (ah t) k)) 2 else sZ t (au (ah t) k),(nC t (au (ah t) k):Int))
theorem Oi {t:aZ} (g:Gd t) {q:Int→Bool} (hq:Eg t q):sZ t q=2+(qJ t q:Int) - ((me t q).length:Int) - (pD t q:Int):=by
 have h:pD t q+Bq t q=uN t q+nC t q:=WH g hq;unfold sZ lA;omega
theorem TE {t:aZ} (v:Vd t) {k:Nat} (hk:k < iT t):0≤sZ t (au (ah t) k):=by
 have g:=v.gd;have hq:=Et g (k:Int);have e:=JQ t.1 (au (ah t) k) _ t.2 rfl g hq;have e:(me t (au (ah t) k)).length+pD t (au (ah t) k)≤qJ t (au (ah t) k)+2 * Bn t (au (ah t) k):=e;rw [WU g (mg v).2.2.2.1 hk] at e;rw [Oi g hq];omega
theorem TF {t:aZ} (v:Vd t) {k:Nat} (ht:J7 t k=true):sZ t (au (ah t) k) % 2=0:=by
 have g:=v.gd;have hq:=Et g (k:Int);have f:=Tr (Of v.err);have e:=Gj t.1 (au (ah t) k) (fun p=>decide (gI (fF t t.1.length).1 p=-1)) _ t.2 rfl g hq (fun s hs hm=>by
  unfold J7 at ht;have ht:t.2.any (E6 t k)=false:=by
   cases h:t.2.any (E6 t k)
   ·rfl
   ·rw [h] at ht; cases ht
  rw [List.any_eq_false] at ht;have hb:=ht s hs;unfold E6 at hb;have hm:((ah t).getD s.1.toNat 0 == (k:Int))=true:=by
   unfold au at hm;rwa [if_neg (by omega)] at hm
  rw [hm,acG] at hb;have hb:qj (fF t t.1.length).1 s=true:=by
   cases h:qj (fF t t.1.length).1 s
   ·rw [h] at hb; exact absurd rfl hb
   ·rfl
  unfold qj at hb;have r:=JY g hs;have a:=f.val s.1.toNat (by omega);have b:=f.val s.2.2.1.toNat (by omega);rw [show ((s.1.toNat:Nat):Int)=s.1 by omega] at a;rw [show ((s.2.2.1.toNat:Nat):Int)=s.2.2.1 by omega] at b;rcases a with a|a <;> rcases b with b|b <;> rw [a,b] at hb ⊢ <;> revert hb <;> cases s.2.2.2.2 <;> decide)
 have e:((me t (au (ah t) k)).length+pD t (au (ah t) k)+qJ t (au (ah t) k)) % 2=0:=e;rw [Oi g hq];omega
theorem TG (l:List (Bool × Int × Int)) (a:Bool) (b c:Int):map J5 l++[AV.agg [AV.bool a,AV.int .i64 b,AV.int .i64 c]]=map J5 (l++[(a,b,c)]):=by rw [List.map_append]; rfl
theorem aga:allFit (fits MC) ([]:List AV)=true:=rfl
theorem agb:map d76 ([]:List AV)=[]:=rfl
def mh (t:aZ):List (Bool × Int × Int):=(List.range (iT t)).map fun k:Nat=>Gq t (k:Int)
section
variable {N:Nat} (hN:eZ N)
include hN
theorem Qb {t:aZ} (v:Vd t):T20 N t=some (Jx t (-1) (ah t) (dF t) (aT t) (aD t) ((iT t:Int) - 1),0):=by
 have k0:=Ec hN t;have k0:NN N (t.1,t.2)=some (kG t):=k0;have q:=TD hN v (-1);have q:Sx N ((t.1,t.2),-1)=_:=q;rw [show T20 N t=T20 N (t.1,t.2) from rfl,abf];simp only [bN,bZ,bO,b8,aal,aau,cond_true,aae,k0,v.err,bne_self_eq_false,cond_false,q]
theorem Qd {t:aZ} (v:Vd t):T21 N t=some (mh t,0):=by
 have k0:=Ec hN t;have k0:NN N (t.1,t.2)=some (kG t):=k0;have le:=v.le;have se:=v.sS;obtain ⟨p0,p1,_⟩:=mg v;have q1:Ud N (t.1,t.2)=some (ah t):=sO hN t (by omega) (by omega);have q2:=Oh hN v;have wp:wrap .i64 ((iT t:Int) - 1+1)=(iT t:Int):=by rw [wR ⟨by omega,by omega⟩]; omega
 have pK:∀ (k:Nat) (A:List (Bool × Int × Int)),k < iT t→A.length≤1000→sY N t ((iT t:Int) - 1) (A,(k:Int))=some (.inl (A++[Gq t (k:Int)],((k+1:Nat):Int))):=fun k A hk hA=>by
  have r1:=TD hN v (k:Int);rw [J9 v] at r1;have r1:Sx N ((t.1,t.2),(k:Int))=_:=r1;have r2:=W2 hN v (k:Int);have r2:T61 N ((t.1,t.2),(k:Int))=_:=r2;have b:=bds v (au (ah t) k);have b1:=b.Th;have b2:=b.sS;have b3:=b.fre;have b4:=b.E5;have b5:=b.gZ;have eb:-20000≤lA t (au (ah t) k)∧lA t (au (ah t) k)≤40000:=by unfold lA; constructor <;> omega
  have w1:wrap .i64 (wrap .i64 (2 - lA t (au (ah t) k)) - (nC t (au (ah t) k):Int))=sZ t (au (ah t) k):=by
   rw [wR (x:=2 - lA t (au (ah t) k)) ⟨by omega,by omega⟩,wR ⟨by omega,by omega⟩]; rfl
  have hb:-70000≤sZ t (au (ah t) k)∧sZ t (au (ah t) k)≤70000:=by unfold sZ; constructor <;> omega
  have w2:wrap .i64 (Int.tdiv (sZ t (au (ah t) k)) 2)=Int.tdiv (sZ t (au (ah t) k)) 2:=by
   have h0:=TE v hk;rw [Int.tdiv_eq_ediv_of_nonneg h0];exact wR ⟨by omega,by omega⟩
  have d2:decide ((A.length+1) * 24≤140737488355328)=true:=decide_eq_true (by omega);have lk:decide ((k:Int) < (iT t:Int))=true:=decide_eq_true (by omega);have wk:=bc (show k < 9223372036854775807 by omega);unfold Gq;cases ht:J7 t (k:Int)
  ·simp only [sY,wp,lk,bN,bZ,bO,b8,WZ,W0,aal,aau,cond_true,cond_false,aae,r1,r2,ht,beq_self_eq_true,w1,TG,aas,eq_self,decide_true,d2,wk,List.length_append,aa0,acg,Nat.zero_add,aay,if_false]
  ·simp only [sY,wp,lk,bN,bZ,bO,b8,WZ,W0,aal,aau,cond_true,cond_false,aae,r1,r2,ht,beq_self_eq_true,w1,w2,TG,aas,eq_self,decide_true,d2,wk,List.length_append,aa0,acg,Nat.zero_add,if_true]
 have key:=aV (rd:=sY N t ((iT t:Int) - 1)) (iT t) (fun k=>((List.range k).map (fun k:Nat=>Gq t (k:Int)),(k:Int))) (mh t) (fun k hk=>by
  rw [pK k _ hk (by rw [aas,List.length_range]; omega),List.range_succ,List.map_append];rfl) (by
  simp only [sY,wp,aS,WZ,W0,aal,aau,cond_true,cond_false,aae,eq_self,decide_true];rfl) N 0 (acv _) (by unfold eZ at hN; omega)
 have key:aw (sY N (t.1,t.2) ((iT t:Int) - 1)) N ([],0)=some (mh t):=key;rw [show T21 N t=T21 N (t.1,t.2) from rfl,acE];simp only [bN,bZ,bO,b8,gw,gy,WZ,W0,aga,agb,List.map_nil,acg,aal,aau,cond_true,aae,k0,v.err,bne_self_eq_false,cond_false,q1,q2,eq_self,decide_true,key]
end
end Go.Proofs.Ytegoimldbgdeiaa
namespace Go.Proofs.Ytegoimldbgdeiaa
open Go Go.Am
open List (map)
open Int (toNat)
open Go.IntKind (wrap)
open Go.Am.aL (fits)
set_option maxRecDepth 100000
def gW (t:aZ) (l:List (Int × Int)):Int:=l.foldl (fun s e=>s+(BU t e).1) 0
theorem Ew (t:aZ) (l:List (Int × Int)) (e:Int × Int):gW t (l++[e])=gW t l+(BU t e).1:=by unfold gW; rw [List.foldl_append]; rfl
theorem B2 {t:aZ} (v:Vd t):∀ (l:List (Int × Int)),(∀ e∈l,dw t e=true)→(l.length:Int)≤gW t l∧gW t l≤10000 * (l.length:Int):=by
 have gen:∀ (l:List (Int × Int)) (s:Int),(∀ e∈l,dw t e=true)→s+(l.length:Int)≤l.foldl (fun s e=>s+(BU t e).1) s∧l.foldl (fun s e=>s+(BU t e).1) s≤s+10000 * (l.length:Int):=by
  intro l
  induction l with
  |nil=>intro s _; exact ⟨by show s+0≤s; omega,by show s≤s+10000 * 0; omega⟩
  |cons e l ih=>
   intro s h;have a:=v.msh e (h e aaP);have b:=ih (s+(BU t e).1) fun x hx=>h x (abd _ hx)
   rw [aa6,aa0];omega
 intro l h;have:=gen l 0 h;unfold gW;omega
def Ad (t:aZ) (s:List (Int × Int) × Int) (c:List (Int × Int)):List (Int × Int) × Int:=if gW t c > s.2 then (c,gW t c) else s
def ik (t:aZ):List (Int × Int) × Int:=(aD t).foldl (Ad t) ([],0)
theorem Ka (t:aZ):∀ (l:List (List (Int × Int))) (s:List (Int × Int) × Int),s.2≤(l.foldl (Ad t) s).2∧(∀ c∈l,gW t c≤(l.foldl (Ad t) s).2)∧(l.foldl (Ad t) s=s∨∃ c∈l,l.foldl (Ad t) s=(c,gW t c))
 |[],s=>⟨aa3 _,fun _ h=>(nomatch h),.inl rfl⟩
 |c :: l,s=>by
  rw [aa6];obtain ⟨h1,h2,h3⟩:=Ka t l (Ad t s c);have hs:s.2≤(Ad t s c).2∧gW t c≤(Ad t s c).2∧(Ad t s c=s∨Ad t s c=(c,gW t c)):=by
   unfold Ad;by_cases k:gW t c > s.2
   ·rw [if_pos k]; exact ⟨by show s.2≤gW t c; omega,aa3 _,.inr rfl⟩
   ·rw [if_neg k]; exact ⟨aa3 _,by omega,.inl rfl⟩
  obtain ⟨a,b,d⟩:=hs;refine ⟨by omega,fun x hx=>?_,?_⟩
  ·rcases acC.1 hx with rfl|hx
   ·omega
   ·exact h2 x hx
  ·rcases h3 with h3|⟨x,hx,h3⟩
   ·rw [h3];rcases d with d|d
    ·exact .inl d
    ·exact .inr ⟨c,aaP,d⟩
   ·exact .inr ⟨x,abd _ hx,h3⟩
theorem rN {t:aZ} (g:Gd t) {c:List (Int × Int)} (hc:c∈aD t):∀ e∈c,e∈aT t:=fun e he=>by
 obtain ⟨b,hb,rfl⟩:=(iQ g).Bo c hc;exact HJ g hb he
theorem pG {t:aZ} (v:Vd t) {c:List (Int × Int)} (hc:c∈aD t):c.length≤16000∧0 < c.length:=by
 obtain ⟨b,hb,rfl⟩:=(iQ v.gd).Bo c hc;have:=AT (Ms v.gd hb) (m:=aT t) fun e he=>HJ v.gd hb he
 have:=v.free;obtain ⟨r,hr⟩:=jq v.gd hb;exact ⟨by omega,by rw [hr]; exact Nat.succ_pos _⟩
theorem TH {t:aZ} (v:Vd t):(∀ c∈aD t,gW t c≤(ik t).2)∧gW t (ik t).1=(ik t).2∧(∀ e∈(ik t).1,dw t e=true)∧((ik t).2=0↔aD t=[])∧(ik t).1.length≤16000∧0≤(ik t).2:=by
 obtain ⟨h1,h2,h3⟩:=Ka t (aD t) ([],0);have h1:0≤(ik t).2:=h1;have pos:∀ c∈aD t,1≤gW t c:=fun c hc=>by
  have:=(B2 v c fun e he=>(bH.1 (rN v.gd hc e he)).1).1;have:=(pG v hc).2;omega
 refine ⟨h2,?_,?_,?_,?_,h1⟩
 ·rcases h3 with h3|⟨c,hc,h3⟩
  ·unfold ik; rw [h3]; rfl
  ·unfold ik; rw [h3]
 ·rcases h3 with h3|⟨c,hc,h3⟩
  ·unfold ik; rw [h3]; exact fun e he=>nomatch he
  ·unfold ik; rw [h3]; exact fun e he=>(bH.1 (rN v.gd hc e he)).1
 ·constructor
  ·intro e;cases ho:aD t with
   |nil=>rfl
   |cons c l=>
    have hc:c∈aD t:=by rw [ho]; exact aaP
    have a:=pos c hc;have b:gW t c≤(ik t).2:=h2 c hc;omega
  ·intro e;unfold ik; rw [e]; rfl
 ·rcases h3 with h3|⟨c,hc,h3⟩
  ·unfold ik; rw [h3]; exact acv _
  ·unfold ik; rw [h3]; exact (pG v hc).1
theorem Kb {t:aZ} (g:Gd t):∀ (l p:List (Int × Int)) (s:List (List (Int × Int)) × List (Int × Int)),p++l=aT t→JU t p s→(∀ c∈s.1,∀ e∈c,e=c.getD 0 (0,0)∨Uk (c.getD 0 (0,0)) e)→∀ c∈(l.foldl (HK t) s).1,∀ e∈c,e=c.getD 0 (0,0)∨Uk (c.getD 0 (0,0)) e
 |[],p,s,_,_,h=>h
 |b :: l,p,s,hp,I,h=>by
  rw [aa6];have hb:b∈aT t:=by rw [← hp]; exact List.mem_append_right _ aaP
  refine Kb g l (p++[b]) (HK t s b) (by rw [List.append_assoc]; exact hp) (I.step g hb) ?_;unfold HK;by_cases c:b∈s.2
  ·rw [if_pos c]; exact h
  ·rw [if_neg c];intro d hd;rcases List.mem_append.1 hd with hd|hd
   ·exact h d hd
   ·rw [List.mem_singleton.1 hd];obtain ⟨r,hr⟩:=jq g hb;have hh:(j7 t b).getD 0 (0,0)=b:=by rw [hr]; rfl
    rw [hh];intro e he;have ap:=z7 g hb I.Tl c e he;have ef:=HJ g hb he;have od:(aT t).Pairwise Uk:=(zZ t).filter _;rw [← hp] at ef od;rcases List.mem_append.1 ef with ef|ef
    ·exact absurd (I.all e ef) ap
    ·rcases acC.1 ef with ef|ef
     ·exact .inl ef
     ·exact .inr ((List.pairwise_cons.1 (List.pairwise_append.1 od).2.1).1 e ef)
theorem Qe {t:aZ} (g:Gd t):∀ c∈aD t,∀ e∈c,e=c.getD 0 (0,0)∨Uk (c.getD 0 (0,0)) e:=
 Kb g (aT t) [] ([],[]) rfl JU.nil fun _ h=>nomatch h
theorem Qf {t:aZ} (g:Gd t):(aD t).Pairwise fun c d=>Uk (c.getD 0 (0,0)) (d.getD 0 (0,0)):=by
 have h:=(iQ g).head;have od:(aT t).Pairwise Uk:=(zZ t).filter _;have:=od.sublist h;rw [List.pairwise_map] at this;exact this
section
variable {N:Nat} (hN:eZ N)
include hN
theorem W4 {t:aZ} (v:Vd t) (l:List (Int × Int)) (hl:l.length≤16000) (he:∀ e∈l,dw t e=true):T62 N (t,l)=some (gW t l):=by
 have key:=aV (rd:=DS N t l) l.length (fun k=>(gW t (l.take k),(k:Int))) (gW t l) (fun k hk=>by
  obtain ⟨b1,b2⟩:=DJ l hk;have q:=Ea N t l[k] (he _ (aaT hk));have q:T88 N ((t.1,t.2),(l[k].1,l[k].2))=_:=q;have r:=B2 v (l.take k) fun e h=>he e (List.mem_of_mem_take h)
  have m:=v.msh l[k] (he _ (aaT hk));have lt:(l.take k).length≤16000:=by rw [List.length_take]; omega
  have ws:wrap .i64 (gW t (l.take k)+(BU t l[k]).1)=gW t (l.take (k+1)):=by
   rw [wR ⟨by omega,by omega⟩,List.take_add_one,aax hk];exact (Ew t _ _).symm
  simp only [DS,aas,ay hk,ai hk,aat,b1,b2,bN,bZ,bO,b8,aal,aau,cond_true,aae,q,ws,bc (show k < 9223372036854775807 by omega)]) (by
  simp only [DS,aas,aS,cond_false,List.take_length]) N 0 (acv _) (by unfold eZ at hN; omega)
 have key:aw (DS N (t.1,t.2) l) N (0,0)=some (gW t l):=key;rw [show T62 N (t,l)=T62 N ((t.1,t.2),l) from rfl,aaV,key]; rfl
theorem Qg {t:aZ} (v:Vd t):T22 N t=some ((ik t).1,(ik t).2,if (ik t).2=0 then 7 else 0):=by
 have g:=v.gd;have le:=v.le;have se:=v.sS;have op:=v.open;have k0:=Ec hN t;have k0:NN N (t.1,t.2)=some (kG t):=k0;have q:=Eu hN g (by omega) (by omega) v.Gp;have q:NO N (t.1,t.2)=_:=q;have key:=dQ (rd:=vp N t (aD t)) (aD t) (fun (s:List (Int × Int) × Int) k=>(s.1,s.2,(k:Int))) (Ad t) (fun s=>(s.1,s.2)) (fun _ _=>True) (fun s k hk _=>by
  refine ⟨?_,trivial⟩;obtain ⟨b1,b2⟩:=SC (aD t) hk;have hc:(aD t)[k]∈aD t:=aaT hk;have q:=W4 hN v (aD t)[k] (pG v hc).1 fun e he=>(bH.1 (rN g hc e he)).1
  have q:T62 N ((t.1,t.2),(aD t)[k])=_:=q;have wk:=bc (show k < 9223372036854775807 by omega);unfold Ad;by_cases c:gW t (aD t)[k] > s.2
  ·have d:decide (gW t (aD t)[k] > s.2)=true:=decide_eq_true c;simp only [vp,aas,ay hk,ai hk,aat,b1,b2,bN,bZ,bO,b8,gA,gB,aal,aau,cond_true,aae,q,d,if_pos c,wk]
  ·have d:decide (gW t (aD t)[k] > s.2)=false:=decide_eq_false c;simp only [vp,aas,ay hk,ai hk,aat,b1,b2,bN,bZ,bO,b8,gA,gB,aal,aau,cond_true,cond_false,aae,q,d,if_neg c,wk]) (fun s _=>by
  simp only [vp,aas,aS,cond_false,gA,gB,cond_true,aae,aal]) N ([],0) 0 (acv _) (by unfold eZ at hN; omega) trivial
 rw [List.drop_zero] at key;have key:aw (vp N (t.1,t.2) (aD t)) N ([],0,0)=some (ik t):=key;rw [show T22 N t=T22 N (t.1,t.2) from rfl,aa8];simp only [bN,bZ,bO,b8,gA,gB,Jo,Jp,aal,aau,cond_true,aae,k0,v.err,bne_self_eq_false,cond_false,q,key,uK];by_cases c:(ik t).2=0
 ·rw [c]; rfl
 ·have d:((ik t).2 == 0)=false:=by rw [beq_eq_false_iff_ne]; exact c
  rw [d,if_neg c]; rfl
theorem TJ {t:aZ} (v:Vd t):T19 N t=some (aD t,0):=by
 have le:=v.le;have se:=v.sS;have k0:=Ec hN t;have k0:NN N (t.1,t.2)=some (kG t):=k0;have q:=Eu hN v.gd (by omega) (by omega) v.Gp;have q:NO N (t.1,t.2)=_:=q;rw [show T19 N t=T19 N (t.1,t.2) from rfl,aa5];simp only [bN,bZ,bO,b8,Mg,Mh,aal,aau,cond_true,aae,k0,v.err,bne_self_eq_false,cond_false,q]
end
end Go.Proofs.Ytegoimldbgdeiaa
namespace Go.Proofs.Ytegoimldbgdeiaa
open Go Go.Am
open List (map)
open Int (toNat)
open Go.IntKind (wrap)
open Go.Am.aL (fits)
set_option maxRecDepth 100000
def iD:Nat→(Nat→Int)→Int
 |0,_=>0
 |n+1,g=>iD n g+g n
theorem Kc (a b c d:Nat→Int):∀ n,iD n (fun k=>a k - (b k+c k)+d k)=iD n a - (iD n b+iD n c)+iD n d
 |0=>rfl
 |n+1=>by
  show iD n _+_=(iD n a+a n) - ((iD n b+b n)+(iD n c+c n))+(iD n d+d n);rw [Kc a b c d n]; dsimp only; omega
theorem wY {g h:Nat→Int}:∀ n,(∀ k,k < n→g k=h k)→iD n g=iD n h
 |0,_=>rfl
 |n+1,e=>by
  show iD n g+g n=iD n h+h n;rw [wY n fun k hk=>e k (by omega),e n (by omega)]
theorem Kd {α:Type} (f:α→Nat) (l:List α):∀ n,iD n (fun k=>((l.filter fun x=>f x == k).length:Int))=((l.filter fun x=>decide (f x < n)).length:Int)
 |0=>by
  rw [show (l.filter fun x=>decide (f x < 0))=[] from acz.2 fun x _=>by simp];rfl
 |n+1=>by
  show iD n _+_=_;rw [Kd f l n];dsimp only
  induction l with
  |nil=>rfl
  |cons x l ih=>
   simp only [List.filter_cons];rcases abQ (f x) n with h|h|h
   ·have h1:decide (f x < n)=true:=decide_eq_true h;have h2:(f x == n)=false:=by simp; omega
    have h3:decide (f x < n+1)=true:=decide_eq_true (by omega);simp only [h1,h2,h3,if_true,aay,if_false,aa0];omega
   ·have h1:decide (f x < n)=false:=decide_eq_false (by omega);have h2:(f x == n)=true:=by simp; omega
    have h3:decide (f x < n+1)=true:=decide_eq_true (by omega);simp only [h1,h2,h3,if_true,aay,if_false,aa0];omega
   ·have h1:decide (f x < n)=false:=decide_eq_false (by omega);have h2:(f x == n)=false:=by simp; omega
    have h3:decide (f x < n+1)=false:=decide_eq_false (by omega);simp only [h1,h2,h3,aay,if_false];omega
theorem Oj {α β:Type} [DecidableEq β] {g:α→β} (f:α→Nat) (l:List α) (h:∀ x∈l,∀ y∈l,g x=g y→f x=f y):∀ n,iD n (fun k=>(pM g (l.filter fun x=>f x == k):Int))=(pM g (l.filter fun x=>decide (f x < n)):Int)
 |0=>by
  rw [show (l.filter fun x=>decide (f x < 0))=[] from acz.2 fun x _=>by simp];rfl
 |n+1=>by
  show iD n _+_=_;rw [Oj f l h n];have s:=zT (g:=g) (fun x=>decide (f x < n)) (L:=l.filter fun x=>decide (f x < n+1)) (fun x hx y hy e=>by
   rw [h x (List.mem_filter.1 hx).1 y (List.mem_filter.1 hy).1 e])
  rw [List.filter_filter,List.filter_filter] at s;have e1:(l.filter fun x=>decide (f x < n)&&decide (f x < n+1))=l.filter fun x=>decide (f x < n):=by
   refine aaK fun x _=>?_
   rcases Nat.lt_or_ge (f x) n with c|c
   ·rw [decide_eq_true c,decide_eq_true (by omega:f x < n+1)]; rfl
   ·rw [decide_eq_false (by omega:¬ f x < n)]; rfl
  have e2:(l.filter fun x=>!decide (f x < n)&&decide (f x < n+1))=l.filter fun x=>f x == n:=by
   refine aaK fun x _=>?_
   rcases abQ (f x) n with c|c|c
   ·rw [decide_eq_true c,show (f x == n)=false by simp; omega]; rfl
   ·rw [decide_eq_false (by omega:¬ f x < n),decide_eq_true (by omega:f x < n+1),show (f x == n)=true by simp; omega]; rfl
   ·rw [decide_eq_false (by omega:¬ f x < n),decide_eq_false (by omega:¬ f x < n+1),show (f x == n)=false by simp; omega]; rfl
  rw [e1,e2] at s;dsimp only;omega
def Gr (t:aZ) (p:Int):Nat:=((ah t).getD p.toNat 0).toNat
theorem Ok {t:aZ} (v:Vd t) (k:Nat) {p:Int} (hp:p∈bf t.1.length):au (ah t) (k:Int) p=(Gr t p == k):=by
 obtain ⟨j,hj,e⟩:=(mg v).2.2.1 p hp;unfold au Gr;rw [if_neg (by omega),e,aat];rcases abQ j k with c|c|c
 ·rw [show (j == k)=false by simp; omega]; simp; omega
 ·rw [c]; simp
 ·rw [show (j == k)=false by simp; omega]; simp; omega
theorem Yz {t:aZ} (v:Vd t) {p:Int} (hp:p∈bf t.1.length):Gr t p < iT t:=by
 obtain ⟨j,hj,e⟩:=(mg v).2.2.1 p hp;unfold Gr;rw [e,aat]; exact hj
theorem rO (t:aZ):au (ah t) (-1)=fun _=>true:=by
 funext p;unfold au;rw [if_pos (by omega)]
theorem B3 {t:aZ} {e:Int × Int} (he:dw t e=true):e.1∈bf t.1.length:=by
 have:=dK.1 he;exact dx.2 ⟨this.1,this.2.1⟩
theorem B4 {t:aZ} (v:Vd t) {α:Type} (key:α→Int) (l:List α) (h:∀ x∈l,key x∈bf t.1.length):iD (iT t) (fun k=>((l.filter fun x=>au (ah t) (k:Int) (key x)).length:Int))=((l.filter fun x=>au (ah t) (-1) (key x)).length:Int):=by
 rw [wY (g:=fun k=>((l.filter fun x=>au (ah t) (k:Int) (key x)).length:Int)) (h:=fun k=>((l.filter fun x=>Gr t (key x) == k).length:Int)) _ fun k _=>by
  rw [show (l.filter fun x=>au (ah t) (k:Int) (key x))=l.filter fun x=>Gr t (key x) == k from aaK fun x hx=>Ok v k (h x hx)]]
 rw [Kd (fun x=>Gr t (key x)) l];congr 2;refine aaK fun x hx=>?_
 rw [rO,decide_eq_true (Yz v (h x hx))]
theorem Ol {t:aZ} (g:Gd t) {q:Int→Bool} (hq:Eg t q):uN t q=pM (bT (fE t fun _=>true)) (fO t q):=by
 unfold uN;refine lZ fun x hx y hy=>?_
 rw [cm,cm,← sX g hq hx hy];exact (sX g (PZ t) (aM.2 ⟨(aM.1 hx).1,rfl⟩) (aM.2 ⟨(aM.1 hy).1,rfl⟩)).symm
theorem yT {α:Type} (p:α→Bool):∀ l:List α,(l.filter p).flatMap (fun e=>[(e,true),(e,false)])=(l.flatMap fun e=>[(e,true),(e,false)]).filter fun h:α × Bool=>p h.1
 |[]=>rfl
 |a :: l=>by
  rw [List.flatMap_cons,List.filter_append,← yT p l];cases h:p a
  ·rw [List.filter_cons_of_neg (by rw [h]; decide)];simp [h]
  ·rw [List.filter_cons_of_pos h,List.flatMap_cons];simp [h]
theorem W5 {t:aZ} (v:Vd t):iD (iT t) (fun k=>(uN t (au (ah t) (k:Int)):Int))=(uN t (au (ah t) (-1)):Int):=by
 have g:=v.gd;have all:fO t (fun _=>true)=(cT t).flatMap fun e=>[(e,true),(e,false)]:=by
  unfold fO;rw [show ((cT t).filter fun e:Int × Int=>(fun _:Int=>true) e.1)=cT t from aaM.2 fun _ _=>rfl]
 have fl:∀ q:Int→Bool,fO t q=(fO t fun _=>true).filter fun h=>q h.1.1:=fun q=>by
  rw [all];exact yT (fun e:Int × Int=>q e.1) (cT t)
 rw [wY (g:=fun k=>(uN t (au (ah t) (k:Int)):Int)) (h:=fun k=>(pM (bT (fE t fun _=>true)) ((fO t fun _=>true).filter fun x=>Gr t x.1.1 == k):Int)) _ fun k _=>by
  rw [Ol g (Et g k),fl];congr 2;exact aaK fun x hx=>Ok v k (B3 (aM.1 hx).1)]
 rw [Oj (g:=bT (fE t fun _=>true)) (fun x:Fl=>Gr t x.1.1) _ (fun x hx y hy e=>by
  have c:=(sX g (PZ t) hx hy).2 ((cm _ _ _).1 e);rw [cm] at e;have:(fun p:Int=>Gr t p == Gr t x.1.1) y.1.1=true:=by
   have hq:Eg t fun p=>Gr t p == Gr t x.1.1:=fun s hs=>by
    have h:=(qk g).1 s.1 (dx.2 (JY g hs).1) s.2.2.1 (dx.2 (JY g hs).2);have:(ah t).getD s.1.toNat 0=(ah t).getD s.2.2.1.toNat 0:=h.2 (.one (List.mem_map.2 ⟨s,hs,rfl⟩));show (Gr t s.1 == _)=(Gr t s.2.2.1 == _);unfold Gr;rw [this]
   have xm:x∈fO t fun p=>Gr t p == Gr t x.1.1:=aM.2 ⟨(aM.1 hx).1,beq_self_eq_true _⟩
   refine (aM.1 (Cn.yB (P:=fun z=>z∈fO t fun p=>Gr t p == Gr t x.1.1) (fun a b e=>?_) e xm)).2;rw [jJ] at e;obtain ⟨ha,e|e⟩:=e
   ·have ha:=(aM.1 ha).1;subst e;rw [aM,aM];exact ⟨fun k=>⟨BW k.1,by rw [vt]; exact k.2⟩,fun k=>⟨ha,by rw [← vt t a]; exact k.2⟩⟩
   ·have hm:=N2 g e;have q:=Ym g hq e;rw [aM,aM];exact ⟨fun k=>⟨hm.2,by rw [q]; exact k.2⟩,fun k=>⟨hm.1,by rw [← q]; exact k.2⟩⟩
  exact (eq_of_beq this).symm)]
 rw [Ol g (Et g (-1)),fl (au (ah t) (-1))];congr 2;refine aaK fun x hx=>?_
 rw [rO,decide_eq_true (Yz v (B3 (aM.1 hx).1))]
theorem W6 {t:aZ} (v:Vd t):iD (iT t) (fun k=>lA t (au (ah t) (k:Int)))=lA t (au (ah t) (-1)):=by
 have g:=v.gd;unfold lA;rw [Kc (fun k=>(uN t (au (ah t) (k:Int)):Int)) (fun k=>(qJ t (au (ah t) (k:Int)):Int)) (fun k=>(Bq t (au (ah t) (k:Int)):Int)) (fun k=>((me t (au (ah t) (k:Int))).length:Int)),W5 v];have h1:iD (iT t) (fun k=>(qJ t (au (ah t) (k:Int)):Int))=(qJ t (au (ah t) (-1)):Int):=B4 v (fun s:kQ=>s.1) t.2 fun s hs=>dx.2 (JY g hs).1
 have h2:iD (iT t) (fun k=>(Bq t (au (ah t) (k:Int)):Int))=(Bq t (au (ah t) (-1)):Int):=B4 v (fun e:Int × Int=>e.1) (aT t) fun e he=>B3 (bH.1 he).1
 have h3:iD (iT t) (fun k=>((me t (au (ah t) (k:Int))).length:Int))=((me t (au (ah t) (-1))).length:Int):=B4 v (fun p:Int=>p) (bf t.1.length) fun p hp=>hp
 rw [h1,h2,h3]
theorem W7 {t:aZ} (v:Vd t):iD (iT t) (fun k=>(nC t (au (ah t) (k:Int)):Int))=(nC t (au (ah t) (-1)):Int):=
 B4 v (fun c:List (Int × Int)=>(c.getD 0 (0,0)).1) (aD t) fun c hc=>by
  obtain ⟨b,hb,rfl⟩:=(iQ v.gd).Bo c hc;obtain ⟨r,hr⟩:=jq v.gd hb;have hh:(j7 t b).getD 0 (0,0)=b:=by rw [hr]; rfl
  rw [hh];exact B3 (bH.1 hb).1
theorem Om (t:aZ):nC t (au (ah t) (-1))=(aD t).length:=by
 unfold nC;rw [rO];congr 1;exact aaM.2 fun _ _=>rfl
theorem W8 (t:aZ):Bq t (au (ah t) (-1))=(aT t).length:=by
 unfold Bq;rw [rO];congr 1;exact aaM.2 fun _ _=>rfl
theorem W9 (t:aZ):qJ t (au (ah t) (-1))=t.2.length:=by
 unfold qJ;rw [rO];congr 1;exact aaM.2 fun _ _=>rfl
theorem Xa (t:aZ):(me t (au (ah t) (-1))).length=t.1.length:=by
 unfold me;rw [rO,← gn t.1.length];congr 1;rw [gn];exact aaM.2 fun _ _=>rfl
end Go.Proofs.Ytegoimldbgdeiaa
