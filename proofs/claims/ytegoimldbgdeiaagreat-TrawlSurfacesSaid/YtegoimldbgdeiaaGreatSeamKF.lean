/- Groups by union,numbered by their first elements: the numbers do not depend on the labels. -/
import Derived.Test.YtegoimldbgdeiaaGreatSeamKE
import Derived.Test.YtegoimldbgdeiaaGreatTrzSk
import Derived.Test.YtegoimldbgdeiaaGreatTrzR
import Derived.Test.YtegoimldbgdeiaaGreatTrzSg
set_option linter.all false
open Bool renaming and_self→aah, and_true→abY
open Int renaming toNat_natCast→aak
open List renaming length_map→aaa, foldl_cons→aaq, map_append→aas, getElem?_eq_getElem→aaG, map_cons→aaN, length→abp, length_singleton→abr, mem_cons_of_mem→abt, getD_eq_getElem?_getD→abu, getElem_append_right→abv, length_append→abw, mem_append_right→abx, mem_append_left→abz, mem_cons_self→abA, append_assoc→abJ, flatten_cons→abK, foldl_append→abL, getElem_append_left→abN, length_take→abR, getElem_mem→abS, map_map→acy
open Nat renaming zero_add→aar, zero_le→aaF, beq_refl→abO
open Option renaming bind_some→aag
namespace Go.Proofs.YtegoimldbgdeiaaGreat
open Go Go.Am
open List (map)
open Int (toNat)
open Go.IntKind (wrap)
open Go.Am.aM (fits)
set_option maxRecDepth 100000
section
variable {K:Type} [DecidableEq K]
theorem OX {f g:K→Int} {x:K}:∀ (s:List K),(∀ y∈s,(f y=f x↔g y=g x))→(s.map f).idxOf (f x)=(s.map g).idxOf (g x)
 |[],_=>rfl
 |y :: s,h=>by
  rw [aaN,aaN,List.idxOf_cons,List.idxOf_cons];have h1:=h y abA;have e:(f y == f x)=(g y == g x):=by
   rw [Bool.eq_iff_iff,beq_iff_eq,beq_iff_eq]; exact h1
  rw [e,OX s fun z hz=>h z (abt _ hz)]
theorem No {f g:K→Int}:∀ (l:List K) (s:List K) (o:List Int),(∀ x∈s++l,∀ y∈s++l,(f x=f y↔g x=g y))→((l.map f).foldl jT (s.map f,o)).2=((l.map g).foldl jT (s.map g,o)).2
 |[],_,_,_=>rfl
 |x :: l,s,o,h=>by
  rw [aaN,aaN,aaq,aaq];have e:=OX (f:=f) (g:=g) (x:=x) s fun y hy=>h y (abz _ hy) x (abx _ abA)
  unfold jT;simp only [e,aaa];by_cases c:(s.map g).idxOf (g x)=s.length
  ·simp only [c,if_true];have hm:∀ k:K→Int,s.map k++[k x]=(s++[x]).map k:=fun k=>by rw [aas]; rfl
   rw [hm f,hm g];exact No l (s++[x]) _ fun a ha b hb=>h a (by simpa using ha) b (by simpa using hb)
  ·simp only [c,if_false];exact No l s _ fun a ha b hb=>h a (by
    rcases List.mem_append.1 ha with k|k
    ·exact abz _ k
    ·exact abx _ (abt _ k)) b (by
    rcases List.mem_append.1 hb with k|k
    ·exact abz _ k
    ·exact abx _ (abt _ k))
theorem XS {f g:K→Int} {l:List K} (h:∀ x∈l,∀ y∈l,(f x=f y↔g x=g y)):Ue (l.map f)=Ue (l.map g):=
 No l [] [] (by simpa using h)
theorem AQ (m:List (K × Int)):∀ (l:List K) (p o:List Int) (ns:List (Int × Int)),p.Nodup→xC p ns→((l.map (aK m)).foldl jT (p,o)).1.Nodup∧xC ((l.map (aK m)).foldl jT (p,o)).1 (l.foldl (rY m) ns)
 |[],p,o,ns,hn,h=>⟨hn,h⟩
 |x :: l,p,o,ns,hn,h=>by
  rw [aaN,aaq,aaq];have len:ns.length=p.length:=by rw [← h.1,aaa]
  unfold rY jT;by_cases c:aK m x∈p
  ·obtain ⟨v,hv⟩:=zC (m:=ns) (k:=aK m x) (by rw [h.1]; exact c);have c2:¬ p.idxOf (aK m x)=p.length:=by have:=List.idxOf_lt_length_of_mem c; omega
   simp only [c2,if_false];rw [if_pos (by rw [hv]; rfl)];exact AQ m l p _ ns hn h
  ·have hv:getM (aK m x) ns=none:=getM_none.2 (by rw [h.1]; exact c);have c2:p.idxOf (aK m x)=p.length:=List.idxOf_eq_length c;simp only [c2,if_true];rw [if_neg (by rw [hv]; decide),len];exact AQ m l (p++[aK m x]) _ _ (List.nodup_append.2 ⟨hn,by simp,fun a ha b hb e=>c (by rw [← List.mem_singleton.1 hb,← e]; exact ha)⟩) (h.put c)
theorem GK {l:List K} (hl:l.Nodup) {ps:List (K × K)} (hp:∀ p∈ps,p.1∈l∧p.2∈l) {F:K→Int} (hF:∀ x∈l,∀ y∈l,(F x=F y↔Cn (fun a b=>(a,b)∈ps) x y)) :
  l.map (aK (eN l ps))=Ue (l.map F):=by
 have u:=AN.fold ps _ _ (AN.first hl) hp;obtain ⟨m,hm⟩:∃ m,m=ps.foldl kA (mu l):=⟨_,rfl⟩;rw [← hm] at u;have e:eN l ps=m.map fun e=>(e.1,aK (l.foldl (rY m) []) e.2):=by unfold eN; rw [hm]
 obtain ⟨h1,h2⟩:=AQ m l [] [] [] List.nodup_nil ⟨rfl,fun i hi=>absurd hi (Nat.not_lt_zero _)⟩;have QC:∀ x∈l,∀ y∈l,(F x=F y↔aK m x=aK m y):=fun x hx y hy=>by
  rw [hF x hx y hy,u.QC x hx y hy];exact ⟨Cn.mono fun a b c=>.one (.inr c),Cn.mono fun a b c=>.one (c.resolve_left id)⟩
 rw [XS (f:=F) (g:=aK m) QC];obtain ⟨_,q2,q3⟩:=OW (l.map (aK m)) ([],[]);have e2:Ue (l.map (aK m))=(l.map (aK m)).map fun x=>((((l.map (aK m)).foldl jT ([],[])).1.idxOf x:Nat):Int):=by unfold Ue; rw [q3]; rfl
 rw [e2,acy];obtain ⟨S,hS⟩:∃ S,S=((l.map (aK m)).foldl jT ([],[])).1:=⟨_,rfl⟩;rw [← hS] at h1 h2 q2 ⊢;refine List.map_congr_left fun x hx=>?_
 have E3:aK m x∈S:=q2 _ (List.mem_map_of_mem hx);have get:aK (eN l ps) x=aK (l.foldl (rY m) []) (aK m x):=by
  have:getM x (eN l ps)=some (aK (l.foldl (rY m) []) (aK m x)):=by
   rw [e,vT];obtain ⟨v,hv⟩:=zC (m:=m) (k:=x) (by rw [u.keys]; exact hx);rw [hv];unfold aK;rw [hv]; rfl
  rw [aK,this]; rfl
 rw [get];have cE:=List.idxOf_lt_length_of_mem E3;have:=h2.2 (S.idxOf (aK m x)) cE;rw [List.getElem_idxOf cE] at this;show (getM (aK m x) _).getD 0=_;rw [this]; rfl
end
end Go.Proofs.YtegoimldbgdeiaaGreat
namespace Go.Proofs.YtegoimldbgdeiaaGreat
open Go Go.Am
open List (map)
open Int (toNat)
open Go.IntKind (wrap)
open Go.Am.aM (fits)
set_option maxRecDepth 100000
def iy (rows:List (List Int)):List (Nat × Nat):=(List.range rows.length).map fun j=>(j,(rows.getD j []).length)
theorem dF (rows:List (List Int)):(iy rows).length=rows.length:=by simp [iy]
theorem EP (rows:List (List Int)) {j:Nat} (hj:j < rows.length):(iy rows)[j]'(by rw [dF]; exact hj)=(j,rows[j].length):=by
 simp [iy,abu,aaG hj]
theorem OY {r s:List (List Int)} (h:r.length=s.length) (k:∀ j (hj:j < r.length),r[j].length=(s[j]'(by omega)).length):iy r=iy s:=by
 apply List.ext_getElem
 ·rw [dF,dF,h]
 ·intro j h1 h2;rw [dF] at h1 h2;rw [EP r h1,EP s h2,k j h1]
theorem Ug (rows:List (List Int)) (r:List Int):iy rows++[(rows.length,r.length)]=iy (rows++[r]):=by
 apply List.ext_getElem
 ·simp [dF]
 ·intro j h1 h2;rw [dF] at h2;rw [EP _ h2];rw [abw,abr] at h2;rcases Nat.lt_or_ge j rows.length with c|c
  ·rw [abN (by rw [dF]; exact c),abN c,EP _ c]
  ·have e:j=rows.length:=by omega
   subst e;rw [abv (by rw [dF]; omega),abv (Nat.le_refl _)];simp
theorem XU (rows:List (List Int)) (j:Nat) (r:List Int) (h:r.length=(rows.getD j []).length):iy (rows.set j r)=iy rows:=by
 refine OY (by simp) fun i hi=>?_
 rw [List.length_set] at hi;rw [List.getElem_set];split
 ·rename_i e;subst e;rw [h,abu,aaG hi]; rfl
 ·rfl
theorem Np (rows:List (List Int)):ai (map lF rows)=rows.map (map n3):=by
 unfold ai;rw [acy]; rfl
theorem nN (rows:List (List Int)):cD 1 (ai (map lF rows))=map lF rows:=by
 rw [Np]; unfold cD; rw [acy]; rfl
theorem ex3:∀ l:List Int,gP (map n3 l)=true
 |[]=>rfl
 |x :: l=>by
  show ((n3 x).exact&&gP (map n3 l))=true;rw [ex3 l]; rfl
theorem mK:∀ rows:List (List Int),dK (ai (map lF rows))=true
 |[]=>rfl
 |r :: rows=>by
  show (gP (map n3 r)&&dK (ai (map lF rows)))=true;rw [ex3,mK rows]; rfl
theorem akQ (rows:List (List Int)):(ai (map lF rows)).length=rows.length:=by rw [Np,aaa]
theorem akR (rows:List (List Int)) (r:List Int):ai (map lF rows)++[map n3 r]=ai (map lF (rows++[r])):=by
 rw [Np,Np,aas]; rfl
theorem Ic (rows:List (List Int)) {j:Nat} (hj:j < rows.length):rowOf (ai (map lF rows)) j=map n3 rows[j]:=by
 unfold rowOf;rw [Np,aV,List.getElem?_map,aaG hj]; rfl
theorem agX (rows:List (List Int)) (j:Nat) (r:List Int):aC (ai (map lF rows)) j (map n3 r)=ai (map lF (rows.set j r)):=by
 rw [Np,Np,fg,List.map_set]
theorem atR (ls:List (Nat × Nat)) {j:Nat} (hj:j < ls.length):aO (af (map fZ ls) j)=ls[j]∧fits gn (af (map fZ ls) j)=true:=by
 rw [gb fZ ls j hj,Xw,Xv]; exact ⟨rfl,rfl⟩
theorem snR (ls:List (Nat × Nat)) (a b:Nat):map fZ ls++[AV.gH 0 a 1 b]=map fZ (ls++[(a,b)]):=by rw [aas]; rfl
theorem gR (rows:List (List Int)) {j:Nat} (hj:j < rows.length):aO (af (map fZ (iy rows)) j)=(j,rows[j].length)∧fits gn (af (map fZ (iy rows)) j)=true:=by
 obtain ⟨h1,h2⟩:=atR (iy rows) (j:=j) (by rw [dF]; exact hj);rw [EP rows hj] at h1;exact ⟨h1,h2⟩
theorem rx0:dK ([]:List (List AV))=true:=rfl
def EQ (p n:Nat):List Int:=(List.range n).map fun k:Nat=>(p:Int) * 8+(k:Int)
def qE (t:bk) (k:Nat):List (List Int):=(List.range k).map fun p=>EQ p (kh t (p:Int))
theorem GM (t:bk) (k:Nat):(qE t k).length=k:=by simp [qE]
theorem ER (t:bk) (k:Nat):qE t k++[EQ k (kh t (k:Int))]=qE t (k+1):=by
 unfold qE;rw [List.range_succ,aas]; rfl
theorem zG (p n:Nat):(EQ p n).length=n:=by simp [EQ]
theorem QE (p n:Nat):EQ p n++[(p:Int) * 8+(n:Int)]=EQ p (n+1):=by
 unfold EQ;rw [List.range_succ,aas]; rfl
section
variable {N:Nat} (hN:eQ N)
include hN
theorem XV (t:bk) {p:Nat} (hp:p < t.1.length) (hP:t.1.length≤900) (hs:kh t (p:Int)≤1000) (rows:List (List Int)) :
  aA (sq N t ((),(p:Int),rows,iy rows)) N ((),0,rows,iy rows,[])=some ((),rows,iy rows,EQ p (kh t (p:Int))):=by
 obtain ⟨a1,a2⟩:=zv t.1 hp;have sl:t.1[p].2.length=kh t (p:Int):=(pO t hp).symm;have key:=aF (rd:=sq N t ((),(p:Int),rows,iy rows)) (kh t (p:Int)) (fun k=>((),(k:Int),rows,iy rows,EQ p k)) ((),rows,iy rows,EQ p (kh t (p:Int))) (fun k hk=>by
  have w:wrap .i64 ((k:Int)+1)=((k+1:Nat):Int):=aS (by omega);have w1:wrap .i64 ((p:Int) * 8)=(p:Int) * 8:=KZ (by omega);have w2:wrap .i64 ((p:Int) * 8+(k:Int))=(p:Int) * 8+(k:Int):=KZ (by omega);have c1:decide ((k+1) * 8≤140737488355328)=true:=decide_eq_true (by omega);simp only [sq,aaa,aak,ah hp,a1,a2,sl,ar hk,w1,w2,zG,c1,yX,QE,nN,lB,lC,dU,dV,ji,jj,mK,aah,decide_true,cond_true,abO,aag,w]) (by
  simp only [sq,aaa,aak,ah hp,a1,a2,sl,aI,cond_false,zG,nN,lB,lC,dU,dV,ji,jj,mK,aah,cond_true,abO,aag]) N 0 (aaF _) (by unfold eQ at hN; omega)
 exact key
theorem Uh (t:bk) (hP:t.1.length≤900) (hs:∀ p:Nat,p < t.1.length→kh t (p:Int)≤1000) :
  aA (Ez N t) N ((),0,[],[])=some ((),qE t t.1.length,iy (qE t t.1.length)):=by
 have key:=aF (rd:=Ez N t) t.1.length (fun k=>((),(k:Int),qE t k,iy (qE t k))) ((),qE t t.1.length,iy (qE t t.1.length)) (fun k hk=>by
  have w:wrap .i64 ((k:Int)+1)=((k+1:Nat):Int):=aS (by omega);have c1:decide ((k+1) * 24≤140737488355328)=true:=decide_eq_true (by omega);have k1:=XV hN t hk hP (hs k hk) (qE t k);have f0:allFit (fits p3) ([]:List AV)=true:=rfl;have m0:map d3 ([]:List AV)=[]:=rfl;have e:=Ug (qE t k) (EQ k (kh t (k:Int)));rw [ER,zG,GM] at e;simp only [Ez,aaa,ar hk,f0,m0,nN,lB,lC,dU,dV,mK,aah,decide_true,cond_true,abO,aag,List.length_nil,k1,cl3,dF,GM,c1,akQ,zG,snR,e,akR,ER,w]) (by
  simp only [Ez,aaa,aI,cond_false,nN,lB,lC,dU,dV,mK,aah,cond_true,abO,aag]) N 0 (aaF _) (by unfold eQ at hN; omega)
 exact key
end
end Go.Proofs.YtegoimldbgdeiaaGreat
namespace Go.Proofs.YtegoimldbgdeiaaGreat
open Go Go.Am
open List (map)
open Int (toNat)
open Go.IntKind (wrap)
open Go.Am.aM (fits)
set_option maxRecDepth 100000
theorem OZ (rows:List (List Int)) {j:Nat} (hj:j < rows.length) (x:List Int):rowOf (ai (map lF (rows.set j x))) j=map n3 x:=by
 rw [Ic _ (by rw [List.length_set]; exact hj)];simp
def pV (f:Int→Int) (rows:List (List Int)) (k:Nat):List (List Int):=(rows.take k).map (map f)++rows.drop k
theorem zH (f:Int→Int) (rows:List (List Int)) (k:Nat) (hk:k≤rows.length):(pV f rows k).length=rows.length:=by simp [pV]; omega
theorem Ie (f:Int→Int) (rows:List (List Int)) (k:Nat) (hk:k < rows.length):(pV f rows k)[k]'(by rw [zH _ _ _ (by omega)]; exact hk)=rows[k]:=by
 unfold pV;rw [abv (by simp; omega)];simp [show min k rows.length=k by omega]
theorem ES (f:Int→Int) (rows:List (List Int)) (k:Nat) (hk:k < rows.length):(pV f rows k).set k (rows[k].map f)=pV f rows (k+1):=by
 unfold pV;rw [List.set_append_right _ _ (by simp; omega),List.take_succ_eq_append_getElem hk,aas,abJ,aaa,abR,show k - min k rows.length=0 by omega,List.drop_eq_getElem_cons hk];rfl
theorem Kv (f:Int→Int) (rows:List (List Int)):pV f rows rows.length=rows.map (map f):=by simp [pV]
theorem pW (f:Int→Int) (rows:List (List Int)):∀ (k:Nat),k≤rows.length→iy (pV f rows k)=iy rows
 |0,_=>by simp [pV]
 |k+1,hk=>by
  rw [← ES f rows k hk,XU,pW f rows k (by omega)];have h:=Ie f rows k hk;rw [abu,aaG (by rw [zH _ _ _ (by omega)]; exact hk),h];simp
section
variable {N:Nat} (hN:eQ N)
include hN
theorem Ig (eh:Unit × Int × (List (List Int)) × (List (Nat × Nat))) (tX:Int × Int) (eE:Int × Int × Int × Int × (List (List Int)) × (List (Nat × Nat))) (A B:Int) (hA:d3 (af (rowOf (ai (map lF eE.2.2.2.2.1)) (aO (af (map fZ eE.2.2.2.2.2) (toNat tX.1))).1) (toNat tX.2))=A) (hB:d3 (af (rowOf (ai (map lF eE.2.2.2.2.1)) (aO (af (map fZ eE.2.2.2.2.2) (toNat eE.1))).1) (toNat eE.2.1))=B) (rows:List (List Int)) (hv:eh.2.2.2.length=rows.length) {j:Nat} (hj:j < rows.length) (hr:rows[j].length≤1000) :
  aA (lr N eh tX eE ((j:Int),rows,iy rows)) N (0,rows,iy rows)=some (rows.set j (rows[j].map fun x=>if x=A then B else x),iy rows):=by
 obtain ⟨r,er⟩:∃ r,r=rows[j]:=⟨_,rfl⟩;rw [← er] at hr ⊢;obtain ⟨g1,g2⟩:=gR rows hj;rw [← er] at g1;have dj:decide (j < rows.length)=true:=decide_eq_true hj;have key:=aF (rd:=lr N eh tX eE ((j:Int),rows,iy rows)) r.length (fun k=>((k:Int),rows.set j (pT (fun x=>if x=A then B else x) r k),iy rows)) (rows.set j (r.map fun x=>if x=A then B else x),iy rows) (fun k hk=>by
  have ml:=pU (fun x=>if x=A then B else x) r k (by omega);obtain ⟨m1,m2⟩:=g3 (pT (fun x=>if x=A then B else x) r k) (k:=k) (by omega);rw [Cu _ r k hk] at m1;have w:wrap .i64 ((k:Int)+1)=((k+1:Nat):Int):=aS (by omega);have dk:decide (k < r.length)=true:=decide_eq_true hk;cases hc:(gI r (k:Int) == A) with
  |true=>
   have he:gI r (k:Int)=A:=by simpa using hc
   have rN:=zE (fun x=>if x=A then B else x) r k hk;simp only [he,if_true] at rN;simp only [lr,j9,ka,lS,aaa,dF,hv,aak,ah hj,dj,aar,g1,g2,ar hk,ah hk,OZ rows hj,ml,dk,m1,m2,hA,hB,hc,adv,agX,List.set_set,rN,nN,lB,lC,dU,dV,mK,aah,decide_true,cond_true,aag,w]
  |false=>
   have he:¬ gI r (k:Int)=A:=by simpa using hc
   have Ku:=AP (fun x=>if x=A then B else x) r k hk (by simp only [if_neg he]);simp only [lr,j9,ka,lS,aaa,dF,hv,aak,ah hj,dj,aar,g1,g2,ar hk,ah hk,OZ rows hj,ml,dk,m1,m2,hA,hB,hc,nN,lB,lC,dU,dV,mK,aah,decide_true,cond_true,cond_false,aag,w,← Ku]) (by
  simp only [lr,j9,ka,lS,aaa,dF,hv,aak,ah hj,dj,aar,g1,g2,aI,cond_false,nN,lB,lC,dU,dV,mK,aah,decide_true,cond_true,aag,EM]) N 0 (aaF _) (by unfold eQ at hN; omega)
 have e0:rows.set j (pT (fun x=>if x=A then B else x) r 0)=rows:=by
  have:pT (fun x=>if x=A then B else x) r 0=r:=by simp [pT]
  rw [this,er,List.set_getElem_self]
 rw [e0] at key;exact key
theorem wQ (eh:Unit × Int × (List (List Int)) × (List (Nat × Nat))) (tX:Int × Int) (eE:Int × Int × Int × Int × (List (List Int)) × (List (Nat × Nat))) (A B:Int) (hA:d3 (af (rowOf (ai (map lF eE.2.2.2.2.1)) (aO (af (map fZ eE.2.2.2.2.2) (toNat tX.1))).1) (toNat tX.2))=A) (hB:d3 (af (rowOf (ai (map lF eE.2.2.2.2.1)) (aO (af (map fZ eE.2.2.2.2.2) (toNat eE.1))).1) (toNat eE.2.1))=B) (rows:List (List Int)) (hv:eh.2.2.2.length=rows.length) (hl:rows.length≤1000) (hr:∀ r∈rows,r.length≤1000) :
  aA (sr N eh tX eE) N (0,rows,iy rows)=some (rows.map (map fun x=>if x=A then B else x),iy rows):=by
 have key:=aF (rd:=sr N eh tX eE) rows.length (fun k=>((k:Int),pV (fun x=>if x=A then B else x) rows k,iy (pV (fun x=>if x=A then B else x) rows k))) (rows.map (map fun x=>if x=A then B else x),iy (pV (fun x=>if x=A then B else x) rows rows.length)) (fun k hk=>by
  have ml:=zH (fun x=>if x=A then B else x) rows k (by omega);have at_:=Ie (fun x=>if x=A then B else x) rows k hk;have w:wrap .i64 ((k:Int)+1)=((k+1:Nat):Int):=aS (by omega);have k1:=Ig hN eh tX eE A B hA hB (pV (fun x=>if x=A then B else x) rows k) (by omega) (j:=k) (by omega) (by rw [at_]; exact hr _ (abS hk));rw [at_,ES _ rows k hk] at k1;simp only [pW _ rows k (Nat.le_of_lt hk),pW _ rows (k+1) hk] at k1 ⊢;simp only [sr,aaa,hv,ar hk,nN,lB,lC,dU,dV,mK,aah,cond_true,aag,k1,w]) (by
  simp only [sr,aaa,hv,aI,cond_false,nN,lB,lC,dU,dV,mK,aah,cond_true,aag,Kv]) N 0 (aaF _) (by unfold eQ at hN; omega)
 have e0:pV (fun x=>if x=A then B else x) rows 0=rows:=by simp [pV]
 rw [e0,pW _ rows rows.length (Nat.le_refl _)] at key;exact key
theorem Fv (eh:Unit × Int × (List (List Int)) × (List (Nat × Nat))) (tU:Int × Int) (eE:Int × Int × Int × Int × (List (List Int)) × (List (Nat × Nat))) (mS:(List (List Int)) × (List (Nat × Nat))) (A B:Int) (hA:d3 (af (rowOf (ai (map lF mS.1)) (aO (af (map fZ mS.2) (toNat tU.1))).1) (toNat tU.2))=A) (hB:d3 (af (rowOf (ai (map lF mS.1)) (aO (af (map fZ mS.2) (toNat eE.2.2.1))).1) (toNat eE.2.2.2.1))=B) (rows:List (List Int)) (hv:eh.2.2.2.length=rows.length) {j:Nat} (hj:j < rows.length) (hr:rows[j].length≤1000) :
  aA (kb N eh tU eE mS ((j:Int),rows,iy rows)) N (0,rows,iy rows)=some (rows.set j (rows[j].map fun x=>if x=A then B else x),iy rows):=by
 obtain ⟨r,er⟩:∃ r,r=rows[j]:=⟨_,rfl⟩;rw [← er] at hr ⊢;obtain ⟨g1,g2⟩:=gR rows hj;rw [← er] at g1;have dj:decide (j < rows.length)=true:=decide_eq_true hj;have key:=aF (rd:=kb N eh tU eE mS ((j:Int),rows,iy rows)) r.length (fun k=>((k:Int),rows.set j (pT (fun x=>if x=A then B else x) r k),iy rows)) (rows.set j (r.map fun x=>if x=A then B else x),iy rows) (fun k hk=>by
  have ml:=pU (fun x=>if x=A then B else x) r k (by omega);obtain ⟨m1,m2⟩:=g3 (pT (fun x=>if x=A then B else x) r k) (k:=k) (by omega);rw [Cu _ r k hk] at m1;have w:wrap .i64 ((k:Int)+1)=((k+1:Nat):Int):=aS (by omega);have dk:decide (k < r.length)=true:=decide_eq_true hk;cases hc:(gI r (k:Int) == A) with
  |true=>
   have he:gI r (k:Int)=A:=by simpa using hc
   have rN:=zE (fun x=>if x=A then B else x) r k hk;simp only [he,if_true] at rN;simp only [kb,jq,jr,kB,aaa,dF,hv,aak,ah hj,dj,aar,g1,g2,ar hk,ah hk,OZ rows hj,ml,dk,m1,m2,hA,hB,hc,adv,agX,List.set_set,rN,nN,lB,lC,dU,dV,mK,aah,decide_true,cond_true,aag,w]
  |false=>
   have he:¬ gI r (k:Int)=A:=by simpa using hc
   have Ku:=AP (fun x=>if x=A then B else x) r k hk (by simp only [if_neg he]);simp only [kb,jq,jr,kB,aaa,dF,hv,aak,ah hj,dj,aar,g1,g2,ar hk,ah hk,OZ rows hj,ml,dk,m1,m2,hA,hB,hc,nN,lB,lC,dU,dV,mK,aah,decide_true,cond_true,cond_false,aag,w,← Ku]) (by
  simp only [kb,jq,jr,kB,aaa,dF,hv,aak,ah hj,dj,aar,g1,g2,aI,cond_false,nN,lB,lC,dU,dV,mK,aah,decide_true,cond_true,aag,EM]) N 0 (aaF _) (by unfold eQ at hN; omega)
 have e0:rows.set j (pT (fun x=>if x=A then B else x) r 0)=rows:=by
  have:pT (fun x=>if x=A then B else x) r 0=r:=by simp [pT]
  rw [this,er,List.set_getElem_self]
 rw [e0] at key;exact key
theorem vq (eh:Unit × Int × (List (List Int)) × (List (Nat × Nat))) (tU:Int × Int) (eE:Int × Int × Int × Int × (List (List Int)) × (List (Nat × Nat))) (mS:(List (List Int)) × (List (Nat × Nat))) (A B:Int) (hA:d3 (af (rowOf (ai (map lF mS.1)) (aO (af (map fZ mS.2) (toNat tU.1))).1) (toNat tU.2))=A) (hB:d3 (af (rowOf (ai (map lF mS.1)) (aO (af (map fZ mS.2) (toNat eE.2.2.1))).1) (toNat eE.2.2.2.1))=B) (rows:List (List Int)) (hv:eh.2.2.2.length=rows.length) (hl:rows.length≤1000) (hr:∀ r∈rows,r.length≤1000) :
  aA (pM N eh tU eE mS) N (0,rows,iy rows)=some (rows.map (map fun x=>if x=A then B else x),iy rows):=by
 have key:=aF (rd:=pM N eh tU eE mS) rows.length (fun k=>((k:Int),pV (fun x=>if x=A then B else x) rows k,iy (pV (fun x=>if x=A then B else x) rows k))) (rows.map (map fun x=>if x=A then B else x),iy (pV (fun x=>if x=A then B else x) rows rows.length)) (fun k hk=>by
  have ml:=zH (fun x=>if x=A then B else x) rows k (by omega);have at_:=Ie (fun x=>if x=A then B else x) rows k hk;have w:wrap .i64 ((k:Int)+1)=((k+1:Nat):Int):=aS (by omega);have k1:=Fv hN eh tU eE mS A B hA hB (pV (fun x=>if x=A then B else x) rows k) (by omega) (j:=k) (by omega) (by rw [at_]; exact hr _ (abS hk));rw [at_,ES _ rows k hk] at k1;simp only [pW _ rows k (Nat.le_of_lt hk),pW _ rows (k+1) hk] at k1 ⊢;simp only [pM,aaa,hv,ar hk,nN,lB,lC,dU,dV,mK,aah,cond_true,aag,k1,w]) (by
  simp only [pM,aaa,hv,aI,cond_false,nN,lB,lC,dU,dV,mK,aah,cond_true,aag,Kv]) N 0 (aaF _) (by unfold eQ at hN; omega)
 have e0:pV (fun x=>if x=A then B else x) rows 0=rows:=by simp [pV]
 rw [e0,pW _ rows rows.length (Nat.le_refl _)] at key;exact key
end
end Go.Proofs.YtegoimldbgdeiaaGreat
namespace Go.Proofs.YtegoimldbgdeiaaGreat
open Go Go.Am
open List (map)
open Int (toNat)
open Go.IntKind (wrap)
open Go.Am.aM (fits)
set_option maxRecDepth 100000
def qX (s:List Int × List (List Int)) (r:List Int):List Int × List (List Int):=((r.foldl jT (s.1,[])).1,s.2++[(r.foldl jT (s.1,[])).2])
def ZF (rows:List (List Int)):List (List Int):=(rows.foldl qX ([],[])).2
theorem XW (l:List Int):∀ (p o:List Int),(l.foldl jT (p,o)).1=(l.foldl jT (p,[])).1∧(l.foldl jT (p,o)).2=o++(l.foldl jT (p,[])).2:=by
 induction l with
 |nil=>intro p o; exact ⟨rfl,by simp⟩
 |cons x l ih=>
  intro p o;rw [aaq,aaq];have e:∀ o:List Int,jT (p,o) x=((jT (p,[]) x).1,o++[(p.idxOf x:Int)]):=fun o=>rfl
  rw [e o,e []];obtain ⟨h1,h2⟩:=ih (jT (p,[]) x).1 (o++[(p.idxOf x:Int)]);obtain ⟨k1,k2⟩:=ih (jT (p,[]) x).1 ([]++[(p.idxOf x:Int)]);rw [h1,h2,k1,k2];exact ⟨rfl,by simp⟩
theorem Kw:∀ (rows:List (List Int)) (p:List Int) (o:List (List Int)),(rows.foldl qX (p,o)).2.flatten=o.flatten++(rows.flatten.foldl jT (p,[])).2∧(rows.foldl qX (p,o)).2.map abp=o.map abp++rows.map abp
 |[],p,o=>by simp
 |r :: rows,p,o=>by
  rw [aaq];obtain ⟨h1,h2⟩:=Kw rows (qX (p,o) r).1 (qX (p,o) r).2;have e:qX (p,o) r=((qX (p,o) r).1,(qX (p,o) r).2):=rfl;rw [e,h1,h2];have n2:=(EN r (p,[])).2;refine ⟨?_,?_⟩
  ·rw [abK,abL];have k:=XW rows.flatten (r.foldl jT (p,[])).1 (r.foldl jT (p,[])).2;have e2:((r.foldl jT (p,[])).1,(r.foldl jT (p,[])).2)=r.foldl jT (p,[]):=rfl;rw [e2] at k;rw [k.2];show (o++[(r.foldl jT (p,[])).2]).flatten++_=_;rw [List.flatten_append,abJ];simp [qX]
  ·show (o++[(r.foldl jT (p,[])).2]).map abp++_=_;rw [aas,abJ];simp [n2]
theorem Ui (rows:List (List Int)):(ZF rows).flatten=Ue rows.flatten∧(ZF rows).map abp=rows.map abp:=by
 obtain ⟨h1,h2⟩:=Kw rows [] [];exact ⟨by unfold ZF Ue; rw [h1]; rfl,by unfold ZF; rw [h2]; rfl⟩
theorem O0 {α:Type}:∀ (a b:List (List α)),a.map abp=b.map abp→a.flatten=b.flatten→a=b
 |[],[],_,_=>rfl
 |[],_ :: _,h,_=>by simp at h
 |_ :: _,[],h,_=>by simp at h
 |x :: a,y :: b,h,k=>by
  rw [aaN,aaN,List.cons.injEq] at h;rw [abK,abK] at k;obtain ⟨e1,e2⟩:=List.append_inj k h.1;rw [e1,O0 a b h.2 e2]
section
variable {N:Nat} (hN:eQ N)
include hN
theorem Uj (rows:List (List Int)) (i:Nat) (hi:i < rows.length) (j:Nat) (hj:j < rows[i].length) (vQ:Unit × List (List Int) × List (Nat × Nat)) (ho:vQ.2.2.length=rows.length)
  (v:List Int × List (List Int) × Int × List (List Int) × List (Nat × Nat)) (hv:v.2.2.1=(i:Int)) (u:List Int × List (List Int) × List Int × Int × List (List Int) × List (Nat × Nat)) (hu:u.2.2.2.1=(j:Int)) (seen:List Int) (out:List (List Int)) (row:List Int) (hs:seen.length≤100000) :
  aA (iN N vQ v u) N (seen,out,row,0,rows,iy rows)=some (seen,out,row,((seen.idxOf (gI rows[i] j):Nat):Int),rows,iy rows):=by
 have hle:seen.idxOf (gI rows[i] j)≤seen.length:=List.idxOf_le_length;obtain ⟨g1,g2⟩:=gR rows hi;have di:decide (i < rows.length)=true:=decide_eq_true hi;have dj:decide (j < rows[i].length)=true:=decide_eq_true hj;obtain ⟨j1,j2⟩:=g3 rows[i] hj;have key:=aF (rd:=iN N vQ v u) (seen.idxOf (gI rows[i] j)) (fun k=>(seen,out,row,(k:Int),rows,iy rows)) (seen,out,row,((seen.idxOf (gI rows[i] j):Nat):Int),rows,iy rows) (fun k hk=>by
  have zP:k < seen.length:=by omega
  obtain ⟨s1,s2⟩:=Iq seen zP;have df:(seen[k] != gI rows[i] (j:Int))=true:=by
   have:=List.not_of_lt_findIdx (p:=(· == gI rows[i] (j:Int))) (show k < List.findIdx (· == gI rows[i] (j:Int)) seen from hk);simpa using this
  have w:wrap .i64 ((k:Int)+1)=((k+1:Nat):Int):=aS (by omega);simp only [iN,aaa,dF,ho,hv,hu,ar zP,ah zP,aak,s1,s2,ah hi,di,aar,g1,g2,ah hj,dj,Ic rows hi,j1,j2,df,ji,jj,lB,lC,dU,dV,nN,mK,aah,decide_true,cond_true,aag,w]) (by
  by_cases he:seen.idxOf (gI rows[i] j)=seen.length
  ·simp only [iN,aaa,he,aI,cond_false,ji,jj,lB,lC,dU,dV,nN,mK,aah,decide_true,cond_true,aag]
  ·have zP:seen.idxOf (gI rows[i] j) < seen.length:=by omega
   obtain ⟨s1,s2⟩:=Iq seen zP;have df:(seen[seen.idxOf (gI rows[i] (j:Int))] != gI rows[i] (j:Int))=false:=by rw [List.getElem_idxOf zP]; simp
   simp only [iN,aaa,dF,ho,hv,hu,ar zP,ah zP,aak,s1,s2,ah hi,di,aar,g1,g2,ah hj,dj,Ic rows hi,j1,j2,df,ji,jj,lB,lC,dU,dV,nN,mK,aah,decide_true,cond_true,cond_false,aag]) N 0 (aaF _) (by unfold eQ at hN; omega)
 exact key
omit hN in
theorem Nq (l:List Int) (p:List Int) (k:Nat) (hk:k < l.length):(l.take (k+1)).foldl jT (p,[])=jT ((l.take k).foldl jT (p,[])) (gI l (k:Int)):=by
 rw [List.take_succ_eq_append_getElem hk,abL,zD _ hk]; rfl
theorem adw (rows:List (List Int)) (i:Nat) (hi:i < rows.length) (hr:rows[i].length≤1000) (vQ:Unit × List (List Int) × List (Nat × Nat)) (ho:vQ.2.2.length=rows.length)
  (v:List Int × List (List Int) × Int × List (List Int) × List (Nat × Nat)) (hv:v.2.2.1=(i:Int)) (seen:List Int) (out:List (List Int)) (hs:seen.length≤90000) (Sf:out.length≤1000) :
  aA (jb N vQ v) N (seen,out,[],0,rows,iy rows)=some ((rows[i].foldl jT (seen,[])).1,out,(rows[i].foldl jT (seen,[])).2,rows,iy rows):=by
 obtain ⟨g1,g2⟩:=gR rows hi;have di:decide (i < rows.length)=true:=decide_eq_true hi;have key:=aF (rd:=jb N vQ v) rows[i].length (fun k=>(((rows[i].take k).foldl jT (seen,[])).1,out,((rows[i].take k).foldl jT (seen,[])).2,(k:Int),rows,iy rows)) ((rows[i].foldl jT (seen,[])).1,out,(rows[i].foldl jT (seen,[])).2,rows,iy rows) (fun k hk=>by
  obtain ⟨n1,n2⟩:=EN (rows[i].take k) (seen,[]);simp only [Nq rows[i] seen k hk];generalize (rows[i].take k).foldl jT (seen,[])=s at *;obtain ⟨sn,ro⟩:=s;have n1:sn.length≤seen.length+(rows[i].take k).length:=n1;have n2:ro.length=0+(rows[i].take k).length:=n2;rw [abR] at n1 n2;have k1:=Uj hN rows i hi k hk vQ ho v hv (sn,out,ro,(k:Int),rows,iy rows) rfl sn out ro (by omega);have w:wrap .i64 ((k:Int)+1)=((k+1:Nat):Int):=aS (by omega);have dk:decide (k < rows[i].length)=true:=decide_eq_true hk;obtain ⟨j1,j2⟩:=g3 rows[i] hk;have c1:decide ((sn.length+1) * 8≤140737488355328)=true:=decide_eq_true (by omega);have c2:decide ((ro.length+1) * 8≤140737488355328)=true:=decide_eq_true (by omega);show jb N vQ v (sn,out,ro,(k:Int),rows,iy rows)=some (.inl ((jT (sn,ro) (gI rows[i] (k:Int))).1,out,(jT (sn,ro) (gI rows[i] (k:Int))).2,((k+1:Nat):Int),rows,iy rows));have e2:(jT (sn,ro) (gI rows[i] (k:Int))).2=ro++[((sn.idxOf (gI rows[i] (k:Int)):Nat):Int)]:=rfl;have e1:(jT (sn,ro) (gI rows[i] (k:Int))).1=if sn.idxOf (gI rows[i] (k:Int))=sn.length then sn++[gI rows[i] (k:Int)] else sn:=rfl
  rw [e1,e2];cases hc:(((sn.idxOf (gI rows[i] (k:Int)):Nat):Int) == ((sn.length:Nat):Int)) with
  |true=>
   have he:sn.idxOf (gI rows[i] (k:Int))=sn.length:=by have:=beq_iff_eq.1 hc; omega
   rw [if_pos he];simp only [jb,aaa,dF,ho,hv,aak,ah hi,di,aar,g1,g2,ar hk,ah hk,dk,Ic rows hi,j1,j2,k1,hc,yX,c1,c2,ji,jj,lB,lC,dU,dV,nN,mK,aah,decide_true,cond_true,aag,w,abw,abr,abY]
  |false=>
   have he:¬ sn.idxOf (gI rows[i] (k:Int))=sn.length:=fun e=>by rw [e] at hc; simp at hc
   rw [if_neg he];simp only [jb,aaa,dF,ho,hv,aak,ah hi,di,aar,g1,g2,ar hk,ah hk,dk,Ic rows hi,j1,j2,k1,hc,yX,c1,c2,ji,jj,lB,lC,dU,dV,nN,mK,aah,decide_true,cond_true,cond_false,aag,w,abw,abr,abY]) (by
  rw [List.take_length];simp only [jb,aaa,dF,ho,hv,aak,ah hi,di,aar,g1,g2,aI,cond_false,ji,jj,lB,lC,dU,dV,nN,mK,aah,decide_true,cond_true,aag]) N 0 (aaF _) (by unfold eQ at hN; omega)
 exact key
omit hN in
theorem Kx:∀ (l:List (List Int)) (s:List Int × List (List Int)),(∀ r∈l,r.length≤1000)→(l.foldl qX s).1.length≤s.1.length+1000 * l.length∧(l.foldl qX s).2.length=s.2.length+l.length
 |[],s,_=>⟨by simp,by simp⟩
 |r :: l,s,h=>by
  obtain ⟨h1,h2⟩:=Kx l (qX s r) fun x hx=>h x (abt _ hx)
  have n1:=(EN r (s.1,[])).1;have hr:=h r abA;have e1:(qX s r).1.length≤s.1.length+1000:=Nat.le_trans n1 (by show s.1.length+r.length≤_; omega);have e2:(qX s r).2.length=s.2.length+1:=by simp [qX]
  exact ⟨by rw [aaq,List.length_cons]; omega,by rw [aaq,List.length_cons]; omega⟩
omit hN in
theorem adx (l:List (List Int)) (x:List Int):map lF l++[AV.list .iu 1 (map n3 x)]=map lF (l++[x]):=by rw [aas]; rfl
theorem XX (rows:List (List Int)) (hl:rows.length≤80) (hr:∀ r∈rows,r.length≤1000) (vQ:Unit × List (List Int) × List (Nat × Nat)) (ho:vQ.2.2.length=rows.length) :
  aA (mH N vQ) N ([],[],0,rows,iy rows)=some (ZF rows,rows,iy rows):=by
 have key:=aF (rd:=mH N vQ) rows.length (fun k=>(((rows.take k).foldl qX ([],[])).1,((rows.take k).foldl qX ([],[])).2,(k:Int),rows,iy rows)) (ZF rows,rows,iy rows) (fun k hk=>by
  obtain ⟨n1,n2⟩:=Kx (rows.take k) ([],[]) fun r h=>hr r (List.mem_of_mem_take h)
  have e:(rows.take (k+1)).foldl qX ([],[])=qX ((rows.take k).foldl qX ([],[])) rows[k]:=by
   rw [List.take_succ_eq_append_getElem hk,abL]; rfl
  simp only [e];generalize (rows.take k).foldl qX ([],[])=s at *;obtain ⟨sn,out⟩:=s;have n1:sn.length≤0+1000 * (rows.take k).length:=n1;have n2:out.length=0+(rows.take k).length:=n2;rw [abR] at n1 n2;have k1:=adw hN rows k hk (hr _ (abS hk)) vQ ho (sn,out,(k:Int),rows,iy rows) rfl sn out (by omega) (by omega);have w:wrap .i64 ((k:Int)+1)=((k+1:Nat):Int):=aS (by omega);have c1:decide ((out.length+1) * 24≤140737488355328)=true:=decide_eq_true (by omega);have f0:allFit (fits p3) ([]:List AV)=true:=rfl;have m0:map d3 ([]:List AV)=[]:=rfl;have m1:map n3 []=([]:List AV):=rfl;show mH N vQ (sn,out,(k:Int),rows,iy rows)=some (.inl ((rows[k].foldl jT (sn,[])).1,out++[(rows[k].foldl jT (sn,[])).2],((k+1:Nat):Int),rows,iy rows));simp only [mH,aaa,ho,ar hk,f0,m0,m1,List.length_nil,k1,c1,adx,ji,jj,lB,lC,dU,dV,nN,mK,aah,decide_true,cond_true,aag,w,abw,abr,abY]) (by
  rw [List.take_length];simp only [mH,aaa,ho,aI,cond_false,ji,jj,lB,lC,dU,dV,nN,mK,aah,decide_true,cond_true,aag];rfl) N 0 (aaF _) (by unfold eQ at hN; omega)
 exact key
end
end Go.Proofs.YtegoimldbgdeiaaGreat
