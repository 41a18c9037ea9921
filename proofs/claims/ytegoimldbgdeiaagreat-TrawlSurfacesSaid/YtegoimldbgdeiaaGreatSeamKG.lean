/- Pieces,points and kinds of a valid trawl. -/
import Derived.Test.YtegoimldbgdeiaaGreatSeamKE
import Derived.Test.YtegoimldbgdeiaaGreatTrzSl
import Derived.Test.YtegoimldbgdeiaaGreatTrzV
import Derived.Test.YtegoimldbgdeiaaGreatSeamKF
set_option linter.all false
open Bool renaming and_self→aah, and_true→abp, and_eq_true→abN, not_false→acJ
open Int renaming toNat_natCast→aak, le_refl→ac8
open List renaming length_map→aaa, range→aaq, length_filter_le→aar, getElem?_eq_getElem→aas, getD_eq_getElem?_getD→aaF, map_congr_left→aaG, length_set→aaN, getElem_mem→abr, replicate→abt, map_map→abu, mem_map→abv, getElem_of_mem→abx, mem_range→abz, ext_getElem→abA, length_nil→abJ, length_cons→abR, getElem_set→abS, map_append→abY, foldl_cons→acy, mem_cons_self→acP, getElem?_map→acR, mem_flatMap→acU, getElem_map→acX, mem_cons_of_mem→ade, map_nil→adK, length→adO
open Nat renaming beq_refl→abw, zero_add→abK, zero_le→abL, le_trans→acC
open Option renaming bind_some→aag
open Option.some renaming inj→ac0
open Prod renaming ext→abO, fst→acD
namespace Go.Proofs.YtegoimldbgdeiaaGreat
open Go Go.Am
open List (map)
open Int (toNat)
open Go.IntKind (wrap)
open Go.Am.aM (fits)
set_option maxRecDepth 100000
theorem ady {t:bk} (h:iO t=0):Gd t∧∀ e,eK t e=true→1≤(It t e).1∧(It t e).1≤10000:=by
 obtain ⟨_,_,h3,_,h5⟩:=Km h;unfold pQ at h3;rw [oA] at h3;unfold zy at h5;rw [oA] at h5;have hp:∀ (k:Nat) (hk:k < t.1.length),3≤t.1[k].2.length∧t.1[k].2.length≤8∧∀ s∈t.1[k].2,pP s=0:=fun k hk=>by
  have:=h3 (wP (t.1.take k) t.1[k]) (by rw [List.mem_mapIdx]; exact ⟨k,hk,rfl⟩);unfold wP at this;split at this
  ·cases this
  ·split at this
   ·cases this
   ·split at this
    ·cases this
    ·rw [oA] at this;exact ⟨by omega,by omega,fun s hs=>this _ (List.mem_map_of_mem hs)⟩
 have hs:∀ (i:Nat) (hi:i < t.2.length),eK t (sA t.2[i])=true∧eK t (sB t.2[i])=true∧sA t.2[i]≠sB t.2[i]∧(t.2.take i).any (H4 t.2[i])=false:=fun i hi=>by
  have:=h5 (sx t (t.2.take i) t.2[i]) (by rw [List.mem_mapIdx]; exact ⟨i,hi,rfl⟩);unfold sx at this;split at this
  ·cases this
  ·rename_i c1;split at this
   ·cases this
   ·rename_i c2;split at this
    ·cases this
    ·rename_i c3;have c1:(eK t (sA t.2[i])&&eK t (sB t.2[i]))=true:=by
      cases hc:(eK t (sA t.2[i])&&eK t (sB t.2[i]))
      ·exact absurd hc c1
      ·rfl
     rw [abN] at c1;exact ⟨c1.1,c1.2,fun e=>c2 (eO.2 e),by simpa using c3⟩
 refine ⟨⟨fun p h1 h2=>?_,fun s hsm=>?_,?_⟩,fun e he=>?_⟩
 ·obtain ⟨k,rfl⟩:∃ k:Nat,p=k:=⟨p.toNat,by omega⟩;have hk:k < t.1.length:=by omega
  rw [pO t hk];exact ⟨(hp k hk).1,(hp k hk).2.1⟩
 ·obtain ⟨i,hi,rfl⟩:=abx hsm;exact ⟨(hs i hi).1,(hs i hi).2.1,(hs i hi).2.2.1⟩
 ·rw [List.pairwise_iff_getElem];intro i j hi hj hij;have c:=(hs j hj).2.2.2;rw [List.any_eq_false] at c;have c:=c t.2[i] (by
   rw [List.mem_iff_getElem];exact ⟨i,by rw [List.length_take]; omega,List.getElem_take⟩)
  unfold H4 at c;simp only [Bool.or_eq_true,eO,not_or] at c;exact ⟨c.1,c.2.1,c.2.2.1,c.2.2.2⟩
 ·obtain ⟨k,i,rfl,hk,hi⟩:=Cr he;rw [Nh t hk hi];have:=(hp k hk).2.2 _ (abr hi);unfold pP at this;rw [oA] at this;have:=this (QZ t.1[k].2[i].1 1 10000) acP;unfold QZ at this;split at this
  ·cases this
  ·omega
theorem Uk {t:bk} (g:Gd t) {s:oN} (hs:s∈t.2):(0≤s.1∧s.1 < (t.1.length:Int))∧0≤s.2.2.1∧s.2.2.1 < (t.1.length:Int):=by
 have:=g.tV s hs;have a:=fq.1 this.1;have b:=fq.1 this.2.1;exact ⟨⟨a.1,a.2.1⟩,b.1,b.2.1⟩
theorem Ul {t:bk} (g:Gd t):∀ p∈t.2.map qd,p.1∈bh t.1.length∧p.2∈bh t.1.length:=by
 intro p hp;obtain ⟨s,hs,rfl⟩:=abv.1 hp;exact ⟨ic.2 (Uk g hs).1,ic.2 (Uk g hs).2⟩
theorem Ih (t:bk) {p:Int} (hp:p∈bh t.1.length):(ax t).getD p.toNat 0=aK (eN (bh t.1.length) (t.2.map qd)) p:=by
 have h:=ic.1 hp;unfold ax bh;simp only [abu];rw [aaF,acR,List.getElem?_range (by omega)];show aK _ ((p.toNat:Nat):Int)=_;rw [show ((p.toNat:Nat):Int)=p by omega]
theorem zI (t:bk):(ax t).length=t.1.length:=by unfold ax; simp only [aaa,gw]
theorem BA {t:bk} (g:Gd t):(∀ p∈bh t.1.length,∀ r∈bh t.1.length,((ax t).getD p.toNat 0=(ax t).getD r.toNat 0↔Cn (fun a b=>(a,b)∈t.2.map qd) p r)) ∧
  ∃ n:Nat,n≤t.1.length∧(∀ p∈bh t.1.length,∃ k:Nat,k < n∧(ax t).getD p.toNat 0=(k:Int))∧∀ k,k < n→∃ p∈bh t.1.length,(ax t).getD p.toNat 0=(k:Int):=by
 obtain ⟨_,h2,n,h3,h4,h5⟩:=nL (AK t.1.length) (Ul g);rw [gw] at h3;refine ⟨fun p hp r hr=>by rw [Ih t hp,Ih t hr]; exact h2 p hp r hr,n,h3,fun p hp=>?_,fun k hk=>?_⟩
 ·obtain ⟨k,a,b,_⟩:=h4 p hp;exact ⟨k,a,by rw [Ih t hp]; exact b⟩
 ·obtain ⟨p,hp,e⟩:=h5 k hk;exact ⟨p,hp,by rw [Ih t hp]; exact e⟩
theorem adz {t:bk} (g:Gd t) (piece:Int):Qw t (eR (ax t) piece):=fun s hs=>by
 have h:=(BA g).1 s.1 (ic.2 (Uk g hs).1) s.2.2.1 (ic.2 (Uk g hs).2);have:(ax t).getD s.1.toNat 0=(ax t).getD s.2.2.1.toNat 0:=h.2 (.one (abv.2 ⟨s,hs,rfl⟩));unfold eR;split
 ·rfl
 ·rw [this]
def bV (t:bk) (h:Fl):Int × Int:=if h.2=true then h.1 else E5 t h.1
theorem vU {t:bk} {h:Fl} (he:eK t h.1=true):eK t (bV t h)=true:=by
 unfold bV;split
 ·exact he
 ·exact Cs he
theorem Cv (t:bk) (h:Fl):(bV t h).1=h.1.1:=by
 unfold bV; split <;> rfl
theorem Um {t:bk} {h:Fl} (he:eK t h.1=true):bV t (e7 t h)=bV t h:=by
 obtain ⟨e,b⟩:=h;cases b
 ·rfl
 ·exact Zz he
theorem mT {t:bk} (g:Gd t) {e:Int × Int} (he:eK t e=true):wo t e=E5 t e:=by
 have h:=fq.1 he;have p:=g.E4 e.1 h.1 h.2.1;unfold wo E5;have w:wrap .i64 (e.2+1)=e.2+1:=KZ ⟨by omega,by omega⟩;rw [w];refine abO rfl ?_;show Int.tmod (e.2+1) (kh t e.1:Int)=if e.2+1=(kh t e.1:Int) then 0 else e.2+1
 split
 ·rename_i c;rw [c,Int.tmod_self]
 ·rw [Int.tmod_eq_of_lt (by omega) (by omega)]
theorem vV {t:bk} (g:Gd t) {x y:Int × Int}:(x,y)∈(cZ t).map vO↔∃ s∈t.2,∃ b:Bool,x=bV t (sA s,b)∧y=bV t (sB s,b == s.2.2.2.2):=by
 unfold cZ;rw [abv];constructor
 ·rintro ⟨p,hp,e⟩;rw [acU] at hp;obtain ⟨s,hs,hp⟩:=hp;have u1:=mT g (g.tV s hs).1;have u2:=mT g (g.tV s hs).2.1;simp only [List.mem_cons,List.not_mem_nil,or_false] at hp;unfold cu at hp;rcases hp with rfl|rfl
  ·refine ⟨s,hs,true,?_⟩;cases hw:s.2.2.2.2 <;> rw [hw] at e <;> cases e
   ·exact ⟨rfl,u2⟩
   ·exact ⟨rfl,rfl⟩
  ·refine ⟨s,hs,false,?_⟩;cases hw:s.2.2.2.2 <;> rw [hw] at e <;> cases e
   ·exact ⟨u1,rfl⟩
   ·exact ⟨u1,u2⟩
 ·rintro ⟨s,hs,b,rfl,rfl⟩;have u1:=mT g (g.tV s hs).1;have u2:=mT g (g.tV s hs).2.1;cases b
  ·refine ⟨(cu t s).2,acU.2 ⟨s,hs,by simp⟩,?_⟩;unfold cu;cases hw:s.2.2.2.2
   ·exact abO u1 rfl
   ·exact abO u1 u2
  ·refine ⟨(cu t s).1,acU.2 ⟨s,hs,by simp⟩,?_⟩;unfold cu;cases hw:s.2.2.2.2
   ·exact abO rfl u2
   ·exact abO rfl rfl
theorem Ii {t:bk} (g:Gd t) {s:oN} (hs:s∈t.2) (b:Bool):lx t (sA s,b)=some (sB s,b == s.2.2.2.2):=by
 unfold lx;rw [(fW g).2 ⟨s,hs,rfl,.inl ⟨rfl,rfl⟩⟩]; rfl
theorem XY {t:bk} (g:Gd t) {h y:Fl} (hm:lx t h=some y):(bV t h,bV t y)∈(cZ t).map vO∨(bV t y,bV t h)∈(cZ t).map vO:=by
 unfold lx at hm;cases hs:fP t h.1 with
 |none=>rw [hs] at hm; cases hm
 |some z=>
  obtain ⟨o,w⟩:=z;rw [hs] at hm;have hm:(o,h.2 == w)=y:=ac0 hm;obtain ⟨e,b⟩:=h;obtain ⟨s,hsm,rfl,⟨h1,h2⟩|⟨h1,h2⟩⟩:=(fW g).1 hs
  ·left;rw [vV g];have h1:sA s=e:=h1;exact ⟨s,hsm,b,by rw [h1],by rw [← hm,← h2]⟩
  ·right;rw [vV g];have h1:sB s=e:=h1;refine ⟨s,hsm,b == s.2.2.2.2,by rw [← hm,← h2],?_⟩;rw [h1];have:((b == s.2.2.2.2) == s.2.2.2.2)=b:=by cases b <;> cases s.2.2.2.2 <;> rfl
   rw [this]
theorem Nr {t:bk} (g:Gd t) {q:Int→Bool} (hq:Qw t q) {x y:Fl} (hx:x∈nG t q) (hy:y∈nG t q):Cn (fun a b=>(a,b)∈(cZ t).map vO) (bV t x) (bV t y)↔Cn (fun a b=>(a,b)∈fE t q) x y:=by
 have Ij:∀ {h:Fl},h∈nG t q→Cn (fun a b=>(a,b)∈fE t q) h (bV t h,true):=fun {h} hh=>by
  obtain ⟨e,b⟩:=h;cases b
  ·exact .one (Nk.2 ⟨hh,.inl rfl⟩)
  ·exact .refl _
 have Ns:∀ {h:Fl},h∈nG t q→(bV t h,true)∈nG t q:=fun {h} hh=>by
  rw [dW] at hh ⊢;exact ⟨vU hh.1,by show q (bV t h).1=true; rw [Cv]; exact hh.2⟩
 constructor
 ·intro c;have key:(bV t y,true)∈nG t q∧Cn (fun a b=>(a,b)∈fE t q) (bV t x,true) (bV t y,true):=by
   refine Cn.TN (P:=fun v=>((v,true):Fl)∈nG t q∧Cn (fun a b=>(a,b)∈fE t q) (bV t x,true) (v,true)) (fun u v e=>?_) c ⟨Ns hx,.refl _⟩;rw [vV g] at e;obtain ⟨s,hs,b,rfl,rfl⟩:=e;have ea:=(g.tV s hs).1;have eb:=(g.tV s hs).2.1;have qq:=hq s hs;have tr:∀ (ma:((sA s,b):Fl)∈nG t q) (mb:((sB s,b == s.2.2.2.2):Fl)∈nG t q),Cn (fun a b=>(a,b)∈fE t q) (bV t (sA s,b),true) (bV t (sB s,b == s.2.2.2.2),true):=fun ma mb=>(Ij ma).symm.trans ((Cn.one (Nk.2 ⟨ma,.inr (Ii g hs b)⟩)).trans (Ij mb))
   constructor
   ·rintro ⟨k,d⟩;have k:=(dW.1 k).2;have k:q (bV t (sA s,b)).1=true:=k;rw [Cv] at k;have ma:((sA s,b):Fl)∈nG t q:=dW.2 ⟨ea,k⟩;have mb:((sB s,b == s.2.2.2.2):Fl)∈nG t q:=dW.2 ⟨eb,by rw [← k]; exact qq.symm⟩;exact ⟨Ns mb,d.trans (tr ma mb)⟩
   ·rintro ⟨k,d⟩;have k:=(dW.1 k).2;have k:q (bV t (sB s,b == s.2.2.2.2)).1=true:=k;rw [Cv] at k;have mb:((sB s,b == s.2.2.2.2):Fl)∈nG t q:=dW.2 ⟨eb,k⟩;have ma:((sA s,b):Fl)∈nG t q:=dW.2 ⟨ea,by rw [← k]; exact qq⟩;exact ⟨Ns ma,d.trans (tr ma mb).symm⟩
  exact (Ij hx).trans (key.2.trans (Ij hy).symm)
 ·intro c;have key:Cn (fun a b=>(a,b)∈(cZ t).map vO) (bV t x) (bV t y):=by
   refine Cn.TN (P:=fun v=>Cn (fun a b=>(a,b)∈(cZ t).map vO) (bV t x) (bV t v)) (fun u v e=>?_) c (.refl _);rw [Nk] at e;obtain ⟨hu,e|e⟩:=e
   ·rw [e,Um (dW.1 hu).1]
   ·rcases XY g e with k|k
    ·exact ⟨fun z=>.step z k,fun z=>.back z k⟩
    ·exact ⟨fun z=>.back z k,fun z=>.step z k⟩
  exact key
theorem sC {t:bk} (g:Gd t):∀ p∈(cZ t).map vO,p.1∈cn t∧p.2∈cn t:=by
 rintro ⟨x,y⟩ hp;rw [vV g] at hp;obtain ⟨s,hs,b,rfl,rfl⟩:=hp;exact ⟨gT.2 (vU (g.tV s hs).1),gT.2 (vU (g.tV s hs).2.1)⟩
theorem qF {K:Type} [DecidableEq K] {m:List (K × Int)} (hn:(m.map acD).Nodup) {e:K × Int}:e∈m↔e.1∈m.map acD∧e.2=aK m e.1:=by
 constructor
 ·intro h;refine ⟨List.mem_map_of_mem h,?_⟩;obtain ⟨i,hi,rfl⟩:=abx h;unfold aK;rw [Ib m i hi hn]; rfl
 ·rintro ⟨h1,h2⟩;obtain ⟨x,hx,e1⟩:=abv.1 h1;obtain ⟨i,hi,rfl⟩:=abx hx;have:aK m e.1=m[i].2:=by
   unfold aK;rw [← e1,Ib m i hi hn]; rfl
  rw [this] at h2;rw [show e=m[i] from abO e1.symm h2];exact hx
theorem Un {t:bk} (g:Gd t) (piece:Int):(vg (ax t) piece (bE t)).length=XP t (eR (ax t) piece):=by
 obtain ⟨h1,h2,_⟩:=nL (pR t) (sC g);obtain ⟨d1,d2⟩:=xz (ax t) piece (bE t);have nd:((bE t).map acD).Nodup:=by
  show ((eN (cn t) ((cZ t).map vO)).map acD).Nodup;rw [h1]; exact pR t
 have hq:=adz g piece;have QC:∀ x∈nG t (eR (ax t) piece),∀ y∈nG t (eR (ax t) piece),(aK (bE t) (bV t x)=aK (bE t) (bV t y)↔dJ (fE t (eR (ax t) piece)) x=dJ (fE t (eR (ax t) piece)) y):=fun x hx y hy=>by
  rw [gC,← Nr g hq hx hy];exact h2 _ (gT.2 (vU (dW.1 hx).1)) _ (gT.2 (vU (dW.1 hy).1))
 unfold XP;rw [AF QC];refine (TL (g:=fun x=>aK (bE t) (bV t x)) d1 fun x=>?_).symm;rw [d2];constructor
 ·rintro ⟨e,he,hm,rfl⟩;rw [qF nd] at he;obtain ⟨k1,k2⟩:=he;have k1:e.1∈cn t:=by rw [← h1]; exact k1
  exact ⟨(e.1,true),dW.2 ⟨gT.1 k1,hm⟩,k2.symm⟩
 ·rintro ⟨y,hy,rfl⟩;have hy:=dW.1 hy;refine ⟨(bV t y,aK (bE t) (bV t y)),(qF nd).2 ⟨?_,rfl⟩,by rw [Cv]; exact hy.2,rfl⟩;show bV t y∈(eN (cn t) ((cZ t).map vO)).map acD;rw [h1];exact gT.2 (vU hy.1)
theorem Kz {α:Type} (pc:List Int) (piece:Int) (key:α→Int):∀ (l:List α) (s:Int),qe pc piece key l s=s+((l.filter fun x=>eR pc piece (key x)).length:Int)
 |[],s=>by show s=s+0; omega
 |x :: l,s=>by
  show qe pc piece key l (if eR pc piece (key x)=true then s+1 else s)=_;rw [Kz pc piece key l];by_cases h:eR pc piece (key x)=true
  ·rw [if_pos h,List.filter_cons_of_pos (p:=fun x=>eR pc piece (key x)) h,abR]; omega
  ·rw [if_neg h,List.filter_cons_of_neg (p:=fun x=>eR pc piece (key x)) h]
end Go.Proofs.YtegoimldbgdeiaaGreat
namespace Go.Proofs.YtegoimldbgdeiaaGreat
open Go Go.Am
open List (map)
open Int (toNat)
open Go.IntKind (wrap)
open Go.Am.aM (fits)
set_option maxRecDepth 100000
theorem KA:jw KE (fun k:Int × Int=>AV.agg [AV.int .i64 k.1,AV.int .i64 k.2]) AV.bool r7:=⟨fun a b=>HS a b,fun _=>rfl,fun _=>rfl⟩
theorem O1 (a b:Int) (m:List ((Int × Int) × Bool)):cW KE (AV.agg [AV.int .i64 a,AV.int .i64 b]) (az (map r7 m))=true:=KA.keys (a,b) m
theorem ZG (a b:Int) (v:Bool) (m:List ((Int × Int) × Bool)):eu KE (AV.agg [AV.int .i64 a,AV.int .i64 b]) (AV.bool v) (az (map r7 m))=az (map r7 (gl (a,b) v m)):=KA.put (a,b) v m
theorem KB (m:List ((Int × Int) × Bool)):ae (az (map r7 m))=map r7 m:=KA.cells m
theorem KC (m:List ((Int × Int) × Bool)):iD (az (map r7 m))=true:=KA.iD m
theorem agY (a b:Int) (m:List ((Int × Int) × Bool)):bS KE (AV.agg [AV.int .i64 a,AV.int .i64 b]) (AV.bool false) (az (map r7 m))=AV.bool ((getM (a,b) m).getD false):=KA.getD (a,b) false m
theorem Uo (l:List (List (Int × Int))) (x:List (Int × Int)):map n37 l++[AV.list .iu 2 (map n100 x)]=map n37 (l++[x]):=by rw [abY]; rfl
theorem agZ:allFit (fits OB) ([]:List AV)=true:=rfl
theorem ag0:map d37 ([]:List AV)=[]:=rfl
theorem adA:allFit (fits pH) ([]:List AV)=true:=rfl
theorem adB:map vd ([]:List AV)=[]:=rfl
def nO (l:List (Int × Int)):List ((Int × Int) × Bool):=l.map fun x=>(x,true)
theorem Up (l:List (Int × Int)) (x:Int × Int):(getM x (nO l)).getD false=decide (x∈l):=by
 unfold nO;rw [AB];by_cases h:x∈l
 ·rw [if_pos h]; simp [h]
 ·rw [if_neg h]; simp [h]
theorem Uq {l:List (Int × Int)} {x:Int × Int} (h:x∉l):gl x true (nO l)=nO (l++[x]):=by
 have:getM x (nO l)=none:=by unfold nO; rw [AB,if_neg h]
 rw [Eb this];unfold nO;rw [abY]; rfl
theorem Ur {t:bk} (g:Gd t) {e:Int × Int} (he:eK t e=true):(E5 t e).2≠e.2:=by
 have h:=fq.1 he;have p:=g.E4 e.1 h.1 h.2.1;unfold E5;dsimp only;split <;> omega
theorem XZ {t:bk} (g:Gd t) {h:Fl} (he:eK t h.1=true):(h.1.2 == (bV t h).2)=h.2:=by
 obtain ⟨e,b⟩:=h;cases b
 ·show (e.2 == (E5 t e).2)=false;rw [beq_eq_false_iff_ne];exact fun k=>Ur g he k.symm
 ·exact beq_self_eq_true _
theorem zJ {t:bk} (g:Gd t) {e:Int × Int} (he:eK t e=true) (b c:Bool):mJ (bV t (e,b)) (bV t (e,c))=(b == c):=by
 cases b <;> cases c
 ·exact eO.2 rfl
 ·show mJ (E5 t e) e=false;cases h:mJ (E5 t e) e
  ·rfl
  ·exact absurd (congrArg Prod.snd (eO.1 h)) (Ur g he)
 ·show mJ e (E5 t e)=false;cases h:mJ e (E5 t e)
  ·rfl
  ·exact absurd (congrArg Prod.snd (eO.1 h)).symm (Ur g he)
 ·exact eO.2 rfl
theorem Us {t:bk} (g:Gd t) {s:oN} (hs:s∈t.2):cu t s=(((bV t (sA s,true)).1,(bV t (sA s,true)).2,(bV t (sB s,true == s.2.2.2.2)).1,(bV t (sB s,true == s.2.2.2.2)).2),((bV t (sA s,false)).1,(bV t (sA s,false)).2,(bV t (sB s,false == s.2.2.2.2)).1,(bV t (sB s,false == s.2.2.2.2)).2)):=by
 have u1:=mT g (g.tV s hs).1;have u2:=mT g (g.tV s hs).2.1;have u1:wo t (s.1,s.2.1)=E5 t (sA s):=u1;have u2:wo t (s.2.2.1,s.2.2.2.1)=E5 t (sB s):=u2;unfold cu;simp only [u1,u2];cases s.2.2.2.2 <;> rfl
section
variable {N:Nat} (hN:eQ N)
omit hN in
theorem Ut {t:bk} (g:Gd t) {h:Fl} (he:eK t h.1=true):M4 N (t,h.1,bV t h)=some (e7 t h).1:=by
 obtain ⟨f,b⟩:=h;obtain ⟨k,i,e,hk,hi⟩:=Cr he;have e:f=((k:Int),(i:Int)):=e;subst e;have hb:=fq.1 he;have p:3≤kh t (k:Int)∧kh t (k:Int)≤8:=g.E4 (k:Int) hb.1 hb.2.1;obtain ⟨a1,a2⟩:=tM t.1 hk;have sk:=pO t hk;have lb:((i:Int) == (bV t (((k:Int),(i:Int)),b)).2)=b:=XZ g he;rw [show M4 N (t,(((k:Int),(i:Int)),b).1,bV t (((k:Int),(i:Int)),b))=M4 N ((t.1,t.2),((k:Int),(i:Int)),((bV t (((k:Int),(i:Int)),b)).1,(bV t (((k:Int),(i:Int)),b)).2)) from rfl,WU];simp only [lb,aaa,ah hk,aak,a1,a2,aah,cond_true];rw [sk] at p;cases b
 ·rfl
 ·have d:decide ((t.1[k].2.length:Int)=0)=false:=decide_eq_false (by omega);simp only [d,acJ,cond_true];show some _=some (T3 t ((k:Int),(i:Int)));congr 1;refine abO rfl ?_;show Int.tmod (wrap .i64 (wrap .i64 ((i:Int)+(t.1[k].2.length:Int)) - 1)) (t.1[k].2.length:Int)=if (i:Int)=0 then (kh t (k:Int):Int) - 1 else (i:Int) - 1
  rw [sk,KZ (x:=(i:Int)+(t.1[k].2.length:Int)) ⟨by omega,by omega⟩,KZ ⟨by omega,by omega⟩];split
  ·rename_i c;rw [c,Int.zero_add,Int.tmod_eq_of_lt (by omega) (by omega)]
  ·rw [Int.tmod_eq_emod_of_nonneg (by omega),show (i:Int)+(t.1[k].2.length:Int) - 1=((i:Int) - 1)+(t.1[k].2.length:Int) by omega,Int.add_emod_right,Int.emod_eq_of_lt (by omega) (by omega)]
include hN
theorem X0 {t:bk} (g:Gd t) {i:Nat} (hi:i < t.2.length) (o:Int × Int) (y:Bool) (h' z:Fl) (hh:lx t h'=some z) (hm:(h'.1=sA t.2[i]∧z.1=sB t.2[i])∨(h'.1=sB t.2[i]∧z.1=sA t.2[i])) :
  aA (lj N t h'.1 (o,(i:Int),y) ((cu t t.2[i]).1.1,(cu t t.2[i]).1.2.1,(cu t t.2[i]).1.2.2.1,(cu t t.2[i]).1.2.2.2,(cu t t.2[i]).2.1,(cu t t.2[i]).2.2.1,(cu t t.2[i]).2.2.2.1,(cu t t.2[i]).2.2.2.2)) N (0,(bV t h').1,(bV t h').2)=some (bV t z):=by
 have hs:=abr hi;obtain ⟨ea,eb,ne⟩:=g.tV _ hs;obtain ⟨a1,a2⟩:=Bv t.2 hi;have jl:=Us g hs;have big:2 < N:=by unfold eQ at hN; omega
 have w01:wrap .i64 (0+1)=1:=rfl;have rt:∀ (c d:Int × Int),(some (Sum.inr (c.1,c.2)):Option ((Int × Int × Int) ⊕ (Int × Int)))=some (Sum.inr c):=fun _ _=>rfl
 have hA:∀ e,mJ (t.2[i].1,t.2[i].2.1) e=mJ (sA t.2[i]) e:=fun _=>rfl
 have hB:∀ e,mJ (t.2[i].2.2.1,t.2[i].2.2.2.1) e=mJ (sB t.2[i]) e:=fun _=>rfl
 rcases hm with ⟨m1,m2⟩|⟨m1,m2⟩
 ·have zz:=Ii g hs h'.2;rw [← m1] at zz;have zz:lx t h'=_:=zz;rw [hh] at zz;have zz:=ac0 zz;have cA:mJ (sA t.2[i]) h'.1=true:=eO.2 m1.symm;have cB:mJ (sB t.2[i]) h'.1=false:=by
   cases h:mJ (sB t.2[i]) h'.1
   ·rfl
   ·exact absurd ((eO.1 h).trans m1).symm ne
  obtain ⟨f,b⟩:=h';have m1:f=sA t.2[i]:=m1;subst m1;rw [zz];have c1:=zJ g ea true b;have c2:=zJ g ea false b;cases b
  ·refine aF 1 (fun k=>((k:Int),(bV t (sA t.2[i],false)).1,(bV t (sA t.2[i],false)).2)) _ (fun k hk=>?_) ?_ N 0 (by omega) (by omega)
   ·have:k=0:=by omega
    subst this;simp only [lj,jl,show decide (((0:Nat):Int) < 2)=true from rfl,show decide (((0:Nat):Int)=0)=true from rfl,cond_true,aag,aaa,ah hi,aak,a1,a2,aah,gS,hA,hB,cA,cB,c1,c2,cond_false,w01];rfl
   ·simp only [lj,jl,show decide (((1:Nat):Int) < 2)=true from rfl,show decide (((1:Nat):Int)=0)=false from rfl,show decide (((1:Nat):Int)=1)=true from rfl,cond_true,cond_false,aag,aaa,ah hi,aak,a1,a2,aah,gS,hA,hB,cA,cB,c1,c2];rfl
  ·refine aF 0 (fun k=>((k:Int),(bV t (sA t.2[i],true)).1,(bV t (sA t.2[i],true)).2)) _ (fun k hk=>absurd hk (by omega)) ?_ N 0 (by omega) (by omega);simp only [lj,jl,show decide (((0:Nat):Int) < 2)=true from rfl,show decide (((0:Nat):Int)=0)=true from rfl,cond_true,aag,aaa,ah hi,aak,a1,a2,aah,gS,hA,hB,cA,cB,c1,c2];rfl
 ·have zz:=Ii g hs z.2;rw [← m2] at zz;have zz:lx t z=_:=zz;have hz:=OR g hh;rw [hz] at zz;have zz:=ac0 zz;have cB:mJ (sB t.2[i]) h'.1=true:=eO.2 m1.symm;have cA:mJ (sA t.2[i]) h'.1=false:=by
   cases h:mJ (sA t.2[i]) h'.1
   ·rfl
   ·exact absurd ((eO.1 h).trans m1) ne
  obtain ⟨f,b⟩:=z;have m2:f=sA t.2[i]:=m2;subst m2;rw [zz] at cA cB ⊢;have cA:mJ (sA t.2[i]) (sB t.2[i])=false:=cA;have cB:mJ (sB t.2[i]) (sB t.2[i])=true:=cB;have c1:=zJ g eb (true == t.2[i].2.2.2.2) (b == t.2[i].2.2.2.2);have c2:=zJ g eb (false == t.2[i].2.2.2.2) (b == t.2[i].2.2.2.2);cases b
  ·have d1:((true == t.2[i].2.2.2.2) == (false == t.2[i].2.2.2.2))=false:=by cases t.2[i].2.2.2.2 <;> rfl
   have d2:((false == t.2[i].2.2.2.2) == (false == t.2[i].2.2.2.2))=true:=by cases t.2[i].2.2.2.2 <;> rfl
   rw [d1] at c1;rw [d2] at c2;refine aF 1 (fun k=>((k:Int),(bV t (sB t.2[i],false == t.2[i].2.2.2.2)).1,(bV t (sB t.2[i],false == t.2[i].2.2.2.2)).2)) _ (fun k hk=>?_) ?_ N 0 (by omega) (by omega)
   ·have:k=0:=by omega
    subst this;simp only [lj,jl,show decide (((0:Nat):Int) < 2)=true from rfl,show decide (((0:Nat):Int)=0)=true from rfl,cond_true,aag,aaa,ah hi,aak,a1,a2,aah,gS,hA,hB,cA,cB,c1,c2,cond_false,w01];rfl
   ·simp only [lj,jl,show decide (((1:Nat):Int) < 2)=true from rfl,show decide (((1:Nat):Int)=0)=false from rfl,show decide (((1:Nat):Int)=1)=true from rfl,cond_true,cond_false,aag,aaa,ah hi,aak,a1,a2,aah,gS,hA,hB,cA,cB,c1,c2]
  ·have d1:((true == t.2[i].2.2.2.2) == (true == t.2[i].2.2.2.2))=true:=by cases t.2[i].2.2.2.2 <;> rfl
   rw [d1] at c1;refine aF 0 (fun k=>((k:Int),(bV t (sB t.2[i],true == t.2[i].2.2.2.2)).1,(bV t (sB t.2[i],true == t.2[i].2.2.2.2)).2)) _ (fun k hk=>absurd hk (by omega)) ?_ N 0 (by omega) (by omega);simp only [lj,jl,show decide (((0:Nat):Int) < 2)=true from rfl,show decide (((0:Nat):Int)=0)=true from rfl,cond_true,cond_false,aag,aaa,ah hi,aak,a1,a2,aah,gS,hA,hB,cA,cB,c1,c2]
end
end Go.Proofs.YtegoimldbgdeiaaGreat
namespace Go.Proofs.YtegoimldbgdeiaaGreat
open Go Go.Am
open List (map)
open Int (toNat)
open Go.IntKind (wrap)
open Go.Am.aM (fits)
set_option maxRecDepth 100000
theorem KD {t:bk} (h1:t.1.length≤1000) (hs:∀ x∈t.1,x.2.length≤1000):(cn t).length≤1000000:=by
 have:=mz t.1 0 hs;unfold cn;omega
theorem KF {t:bk} (h1:t.1.length≤1000) (hs:∀ x∈t.1,x.2.length≤1000):nK t≤2000000:=by
 have:=KD h1 hs;unfold nK nG;rw [AM];have:=aar (fun e:Int × Int=>(fun _=>true) e.1) (cn t);omega
theorem zK {t:bk} (h1:t.1.length≤1000) (hs:∀ x∈t.1,x.2.length≤1000):(bf t).length≤1000000:=by
 have:=KD h1 hs;have:=aar (fun e:Int × Int=>(qB t e).isNone) (cn t);unfold bf;omega
theorem Nt {t:bk} (g:Gd t):∀ s∈t.2,WJ t s=true:=fun s hs=>by
 obtain ⟨a,b,_⟩:=g.tV s hs;have ok:∀ e,eK t e=true→WI t e=true:=fun e he=>by
  have:=fq.1 he;unfold WI;simp only [abN,decide_eq_true_eq,Bool.not_eq_true',beq_eq_false_iff_ne];exact ⟨⟨this.1,this.2.1⟩,by omega⟩
 unfold WJ;rw [abN];exact ⟨ok _ a,ok _ b⟩
section
variable {N:Nat} (hN:eQ N)
include hN
theorem O2 {t:bk} (g:Gd t) (ht:t.2.length≤1000000) {x:Fl} (he:eK t x.1=true) :
  AD N t (x.1.1,x.1.2,(bV t x).1,(bV t x).2,0,0)=match lx t (e7 t x) with
   |some y=>some (.inl (y.1.1,y.1.2,(bV t y).1,(bV t y).2,0,0))
   |none=>some (.inr ((e7 t x).2,(e7 t x).1.1,(e7 t x).1.2,(bV t x).1,(bV t x).2,(e7 t x).1.1,(e7 t x).1.2)):=by
 have q1:=Ut (N:=N) g he;have q1:M4 N ((t.1,t.2),(x.1.1,x.1.2),((bV t x).1,(bV t x).2))=some (e7 t x).1:=q1;have q2:=GB hN t (e7 t x).1 ht;have q2:HV N ((t.1,t.2),((e7 t x).1.1,(e7 t x).1.2))=_:=q2;have sl:=Um he;have se:=H7 he;simp only [AD,bT,bU,cg,cj,aah,abp,cond_true,aag,q1,q2];cases hm:qB t (e7 t x).1 with
 |none=>
  have hmu:lx t (e7 t x)=none:=by unfold lx fP; rw [hm]; rfl
  have e1:mJ (e7 t x).1 (bV t x)=(e7 t x).2:=by
   have:=zJ g se true (e7 t x).2;rw [← sl];have this:mJ (e7 t x).1 (bV t (e7 t x))=(true == (e7 t x).2):=this;rw [this]; cases (e7 t x).2 <;> rfl
  simp only [Kn,hm,hmu,acJ,cond_true,beq_self_eq_true,abp,EE];rw [show ((e7 t x).1.1,(e7 t x).1.2)=(e7 t x).1 from rfl,show ((bV t x).1,(bV t x).2)=bV t x from rfl,e1]
 |some i=>
  obtain ⟨hi,hh⟩:=Kp hm;obtain ⟨a1,a2⟩:=Bv t.2 hi;have hmu:lx t (e7 t x)=some (wq (fm t i) (e7 t x).1,(e7 t x).2 == (fm t i).2.2.2.2):=by unfold lx fP; rw [hm]; rfl
  have ok:=Nt g _ (abr hi);have q3:=Gq N t t.2[i] ok;have q3:MR N ((t.1,t.2),(t.2[i].1,t.2[i].2.1,t.2[i].2.2.1,t.2[i].2.2.2.1,t.2[i].2.2.2.2))=_:=q3;have q4:=X0 hN g hi (wq (fm t i) (e7 t x).1) true (e7 t x) _ hmu (by
   rw [zA] at hh;have ne:=(g.tV _ (abr hi)).2.2;rw [lU t hi];unfold wq;by_cases c:mJ (t.2[i].1,t.2[i].2.1) (e7 t x).1=true
   ·rw [if_pos c]; exact .inl ⟨(eO.1 c).symm,rfl⟩
   ·rw [if_neg c]; exact .inr ⟨(hh.resolve_left fun d=>c (eO.2 d)).symm,rfl⟩)
  rw [sl] at q4;simp only [Kn,hm,hmu,Bool.not_true,cond_false,cond_true,aaa,ah hi,aak,a1,a2,aah,q3,aag];rw [q4];rfl
theorem X1 {t:bk} (g:Gd t) (ht:t.2.length≤1000000) (h1:t.1.length≤1000) (hs:∀ x∈t.1,x.2.length≤1000) {h:Fl} (hf:lW t h):J2 N (t,h.1,bV t h)=some (Iu t (nK t) h):=by
 have I:=inv2 g (T6 t);obtain ⟨m,x,hm,w1,w2,e,hx⟩:=ZB g hf;have gY:h∈nG t fun _=>true:=dW.2 ⟨hf.1,rfl⟩
 have st:∀ k,k < m→∃ y z,pX (fun x=>lx t (e7 t x)) h k=some y∧lx t (e7 t y)=some z∧pX (fun x=>lx t (e7 t x)) h (k+1)=some z∧eK t y.1=true:=fun k hk=>by
  obtain ⟨z,hz⟩:=qz (f:=fun x=>lx t (e7 t x)) (k+1) x (m - (k+1)) (by rw [show k+1+(m - (k+1))=m by omega]; exact w1);obtain ⟨y,a,b⟩:=hX hz;exact ⟨y,z,a,b,hz,(dW.1 (kd (f:=fun x=>lx t (e7 t x)) gY I.cl k y a)).1⟩
 have key:=aF (rd:=AD N t) m (fun k=>((((pX (fun x=>lx t (e7 t x)) h k).getD h).1.1,((pX (fun x=>lx t (e7 t x)) h k).getD h).1.2,(bV t ((pX (fun x=>lx t (e7 t x)) h k).getD h)).1,(bV t ((pX (fun x=>lx t (e7 t x)) h k).getD h)).2,(0:Int),(0:Int)):Int × Int × Int × Int × Int × Int)) ((e7 t x).2,(e7 t x).1.1,(e7 t x).1.2,(bV t x).1,(bV t x).2,(e7 t x).1.1,(e7 t x).1.2) (fun k hk=>by
  obtain ⟨y,z,a,b,c,d⟩:=st k hk;simp only [a,c,Option.getD_some];rw [O2 hN g ht d,b]) (by
  simp only [w1,Option.getD_some];rw [O2 hN g ht hx,w2]) N 0 (abL _) (by have:=KF h1 hs; unfold eQ at hN; omega)
 have key:aA (AD N t) N (h.1.1,h.1.2,(bV t h).1,(bV t h).2,0,0)=_:=key;rw [show J2 N (t,h.1,bV t h)=J2 N ((t.1,t.2),(h.1.1,h.1.2),((bV t h).1,(bV t h).2)) from rfl,WW];have key:aA (AD N (t.1,t.2)) N (h.1.1,h.1.2,(bV t h).1,(bV t h).2,0,0)=_:=key;simp only [key,aag];rw [e]
theorem adC {t:bk} (g:Gd t) (ht:t.2.length≤1000000) (h1:t.1.length≤1000) (hs:∀ x∈t.1,x.2.length≤1000) (fr:List (Int × Int)) (i:Nat) (hi:i < fr.length) (a b:List (List (Int × Int))) (m:List ((Int × Int) × Bool)) (out:List (List (Int × Int))) (Bz U:List (Int × Int)) {h:Fl} (hf:lW t h) (hU:h.1∉U) (hl:Bz.length≤1000000) (ho:out.length≤1000000) :
  mA N t fr (a,(i:Int),m) (out,Bz,!h.2,h.1.1,h.1.2,nO U)=some (if (tQ t h).1=fr[i] then .inr (out++[Bz++[h.1]],(tQ t h).1.1,(tQ t h).1.2,nO (U++[h.1])) else .inl (out,Bz++[h.1],!(tQ t h).2,(tQ t h).1.1,(tQ t h).1.2,nO (U++[h.1]))):=by
 obtain ⟨b1,b2⟩:=JZ fr hi;have ok:WI t h.1=true:=by
  have:=fq.1 hf.1;unfold WI;simp only [abN,decide_eq_true_eq,Bool.not_eq_true',beq_eq_false_iff_ne];exact ⟨⟨this.1,this.2.1⟩,by omega⟩
 have q1:=Ef N t h.1 ok;rw [mT g hf.1] at q1;have q1:BX N ((t.1,t.2),(h.1.1,h.1.2))=_:=q1;have q2:=X1 hN g ht h1 hs hf;have d1:decide ((Bz.length+1) * 16≤140737488355328)=true:=decide_eq_true (by omega);have d2:decide ((out.length+1) * 24≤140737488355328)=true:=decide_eq_true (by omega);have pe:gl (h.1.1,h.1.2) true (nO U)=nO (U++[h.1]):=Uq hU;have en:tQ t h=((Iu t (nK t) h).1,!(Iu t (nK t) h).2):=rfl;have lu:∀ c:Int × Int,bV t h=c→J2 N ((t.1,t.2),(h.1.1,h.1.2),(c.1,c.2))=some (Iu t (nK t) h):=fun c hc=>by rw [← hc]; exact q2
 have sn:map n100 Bz++[AV.agg [AV.int .i64 h.1.1,AV.int .i64 h.1.2]]=map n100 (Bz++[h.1]):=HT Bz h.1.1 h.1.2;have main:∀ c:Int × Int,bV t h=c→(J2 N ((t.1,t.2),(h.1.1,h.1.2),(c.1,c.2))).bind (fun J3=>(bif mJ J3.1 fr[i] then some (Sum.inr (out++[Bz++[h.1]],J3.1.1,J3.1.2,nO (U++[h.1]))) else some (Sum.inl (out,Bz++[h.1],J3.2,J3.1.1,J3.1.2,nO (U++[h.1]))):Option ((List (List (Int × Int)) × List (Int × Int) × Bool × Int × Int × List ((Int × Int) × Bool)) ⊕ (List (List (Int × Int)) × Int × Int × List ((Int × Int) × Bool)))))=some (if (tQ t h).1=fr[i] then .inr (out++[Bz++[h.1]],(tQ t h).1.1,(tQ t h).1.2,nO (U++[h.1])) else .inl (out,Bz++[h.1],!(tQ t h).2,(tQ t h).1.1,(tQ t h).1.2,nO (U++[h.1]))):=fun c hc=>by
  rw [lu c hc,aag];by_cases k:(Iu t (nK t) h).1=fr[i]
  ·have k':(tQ t h).1=fr[i]:=k;rw [eO.2 k,cond_true,if_pos k']; rfl
  ·have:mJ (Iu t (nK t) h).1 fr[i]=false:=by
    cases hh:mJ (Iu t (nK t) h).1 fr[i]
    ·rfl
    ·exact absurd (eO.1 hh) k
   have k':¬ (tQ t h).1=fr[i]:=k;rw [this,cond_false,if_neg k',en];simp only [Bool.not_not]
 cases hb:h.2
 ·have lc:bV t h=E5 t h.1:=by unfold bV; rw [hb]; rfl
  have:=main _ lc;simp only [mA,iT,qx,aaa,eq_self,decide_true,d1,d2,O1,bT,bU,cg,cj,fC,fD,P9,Qa,sn,ZG,pe,KB,KC,Eg,Eh,Uo,q1,aah,abp,acJ,cond_true,cond_false,aag,List.length_append,abR,abJ,abK,aak,b1,gS,show ((fr[i]).1,(fr[i]).2)=fr[i] from rfl];exact this
 ·have lc:bV t h=h.1:=by unfold bV; rw [hb]; rfl
  have:=main _ lc;simp only [mA,iT,qx,aaa,eq_self,decide_true,d1,d2,O1,bT,bU,cg,cj,fC,fD,P9,Qa,sn,ZG,pe,KB,KC,Eg,Eh,Uo,q1,aah,abp,Bool.not_true,cond_true,cond_false,aag,List.length_append,abR,abJ,abK,aak,b1,gS,show ((fr[i]).1,(fr[i]).2)=fr[i] from rfl];exact this
theorem X2 {t:bk} (g:Gd t) (ht:t.2.length≤1000000) (h1:t.1.length≤1000) (hs:∀ x∈t.1,x.2.length≤1000) (fr:List (Int × Int)) (i:Nat) (hi:i < fr.length) (hb:fr[i]∈bf t) (a:List (List (Int × Int))) (m:List ((Int × Int) × Bool)) (out:List (List (Int × Int))) (U:List (Int × Int)) (hU:∀ e∈pS t fr[i],e∉U) (ho:out.length≤1000000) :
  aA (mA N t fr (a,(i:Int),m)) N (out,[],true,fr[i].1,fr[i].2,nO U)=some (out++[pS t fr[i]],fr[i].1,fr[i].2,nO (U++pS t fr[i])):=by
 obtain ⟨k,k1,k2,k3,k4,ec,k5⟩:=sy g hb;have fl:=zK h1 hs;obtain ⟨k,rfl⟩:∃ j,k=j+1:=⟨k - 1,by omega⟩;have it:∀ j,j≤k→(jD t fr[i] j).1∉U++(aaq j).map fun j=>(jD t fr[i] j).1:=fun j hj hm=>by
  rcases List.mem_append.1 hm with hm|hm
  ·exact hU _ (by rw [ec]; exact abv.2 ⟨j,abz.2 (by omega),rfl⟩) hm
  ·obtain ⟨l,hl,e⟩:=abv.1 hm;exact k4 l j (abz.1 hl) (by omega) e
 have rs:∀ j,((aaq j).map fun j=>(jD t fr[i] j).1)++[(jD t fr[i] j).1]=(aaq (j+1)).map fun j=>(jD t fr[i] j).1:=fun j=>by rw [List.range_succ,abY]; rfl
 have rd:=fun j (hj:j≤k)=>adC hN g ht h1 hs fr i hi a a m out ((aaq j).map fun j=>(jD t fr[i] j).1) (U++(aaq j).map fun j=>(jD t fr[i] j).1) (qC g hb j) (it j hj) (by rw [aaa,List.length_range]; omega) ho
 have key:=aF (rd:=mA N t fr (a,(i:Int),m)) k (fun j=>(out,(aaq j).map (fun j=>(jD t fr[i] j).1),!(jD t fr[i] j).2,(jD t fr[i] j).1.1,(jD t fr[i] j).1.2,nO (U++(aaq j).map fun j=>(jD t fr[i] j).1))) (out++[pS t fr[i]],fr[i].1,fr[i].2,nO (U++pS t fr[i])) (fun j hj=>by
  rw [rd j (by omega),List.append_assoc,rs j];have:¬ (tQ t (jD t fr[i] j)).1=fr[i]:=k5 (j+1) (by omega) (by omega);rw [if_neg this];rfl) (by
  rw [rd k (Nat.le_refl _),List.append_assoc,rs k];have e:tQ t (jD t fr[i] k)=(fr[i],false):=k3;rw [e,if_pos rfl,← ec]) N 0 (abL _) (by unfold eQ at hN; omega)
 have e0:U++(aaq 0).map (fun j=>(jD t fr[i] j).1)=U:=by simp
 rw [e0] at key;exact key
theorem X3 {t:bk} (g:Gd t) (ht:t.2.length≤1000000) (h1:t.1.length≤1000) (hs:∀ x∈t.1,x.2.length≤1000):∃ U,aA (tx N t (bf t)) N ([],0,nO [])=some (qD t,nO U):=by
 have fl:=zK h1 hs;have inv:∀ k,k≤(bf t).length→Iv t ((bf t).take k) (((bf t).take k).foldl (Ct t) ([],[])):=fun k hk=>by
  have:=Iv.fold g ((bf t).take k) [] ([],[]) (fun x hx=>List.mem_of_mem_take hx) Iv.nil;exact this
 have key:=aF (rd:=tx N t (bf t)) (bf t).length (fun k=>((((bf t).take k).foldl (Ct t) ([],[])).1,(k:Int),nO (((bf t).take k).foldl (Ct t) ([],[])).2)) (qD t,nO ((bf t).foldl (Ct t) ([],[])).2) (fun k hk=>by
  obtain ⟨b1,b2⟩:=JZ (bf t) hk;have hb:(bf t)[k]∈bf t:=abr hk;have I:=inv k (by omega);obtain ⟨s,hsd⟩:∃ s,s=((bf t).take k).foldl (Ct t) ([],[]):=⟨_,rfl⟩;have nx:((bf t).take (k+1)).foldl (Ct t) ([],[])=Ct t s (bf t)[k]:=by
   rw [List.take_add_one,aas hk,hsd];show ((bf t).take k++[(bf t)[k]]).foldl (Ct t) ([],[])=_;rw [List.foldl_append]; rfl
  rw [← hsd] at I ⊢;rw [nx];have so:s.1.length≤1000000:=by
   have:=I.head.length_le;rw [aaa,List.length_take] at this;omega
  have gm:bS KE (AV.agg [AV.int .i64 (bf t)[k].1,AV.int .i64 (bf t)[k].2]) (AV.bool false) (az (map r7 (nO s.2)))=AV.bool (decide ((bf t)[k]∈s.2)):=by
   rw [agY,Up]
  have f4:∀ b,fits p4 (AV.bool b)=true:=fun _=>rfl
  have g4:∀ b,d4 (AV.bool b)=b:=fun _=>rfl
  unfold Ct;by_cases c:(bf t)[k]∈s.2
  ·rw [if_pos c];have dc:decide ((bf t)[k]∈s.2)=true:=decide_eq_true c;simp only [tx,vf,aaa,ar hk,ah hk,aak,b1,b2,O1,gm,f4,g4,dc,P9,Qa,KB,KC,Eg,Eh,aS (show k < 9223372036854775807 by omega),aah,abp,cond_true,aag,eq_self,decide_true]
  ·rw [if_neg c];have dc:decide ((bf t)[k]∈s.2)=false:=decide_eq_false c;have q:=X2 hN g ht h1 hs (bf t) k hk hb s.1 (nO s.2) s.1 s.2 (AL g hb I.Uc c) so;simp only [tx,vf,aaa,ar hk,ah hk,aak,b1,b2,O1,gm,f4,g4,dc,P9,Qa,MZ,M0,adK,abJ,KB,KC,Eg,Eh,aS (show k < 9223372036854775807 by omega),aah,abp,cond_true,cond_false,aag,eq_self,decide_true,q]) (by
  rw [List.take_length];simp only [tx,vf,aaa,aI,P9,Qa,KB,KC,Eg,Eh,aah,abp,cond_true,cond_false,aag,eq_self,decide_true];rfl) N 0 (abL _) (by unfold eQ at hN; omega)
 exact ⟨_,key⟩
theorem Uu {t:bk} (g:Gd t) (ht:t.2.length≤1000000) (h1:t.1.length≤1000) (hs:∀ x∈t.1,x.2.length≤1000):UU N t=some (qD t):=by
 have q:=Kq hN t h1 hs ht;have q:Q5 N (t.1,t.2)=_:=q;obtain ⟨U,key⟩:=X3 hN g ht h1 hs;have key:aA (tx N (t.1,t.2) (bf t)) N ([],0,[])=_:=key;rw [show UU N t=UU N (t.1,t.2) from rfl,abX];simp only [bT,bU,cg,cj,aah,abp,cond_true,aag,q,agZ,ag0,adA,adB,c0_,a0_,adK,abJ,eq_self,decide_true,key,P9,Qa]
end
end Go.Proofs.YtegoimldbgdeiaaGreat
namespace Go.Proofs.YtegoimldbgdeiaaGreat
open Go Go.Am
open List (map)
open Int (toNat)
open Go.IntKind (wrap)
open Go.Am.aM (fits)
set_option maxRecDepth 100000
structure Vd (t:bk):Prop where
 err:iO t=0
 ne:t.1.length≠0
 le:t.1.length≤16
 tV:t.2.length≤64
 gd:Gd t
 sd:∀ x∈t.1,x.2.length≤8
 msh:∀ e,eK t e=true→1≤(It t e).1∧(It t e).1≤10000
theorem ag2 {t:bk} (h:iO t=0):Vd t:=by
 obtain ⟨h1,h2,_,h4,_⟩:=Km h;obtain ⟨g,m⟩:=ady h;refine ⟨h,h1,h2,h4,g,fun x hx=>?_,m⟩;obtain ⟨k,hk,rfl⟩:=abx hx;have:=(g.E4 k (by omega) (by omega)).2;rw [pO t hk] at this;exact this
section
variable {t:bk} (v:Vd t)
include v
theorem Vd.KG:∀ x∈t.1,x.2.length≤1000:=fun x hx=>by have:=v.sd x hx; omega
theorem Vd.adD:(cn t).length≤16000:=by
 have:=mz t.1 0 v.KG;have:=v.le;unfold cn;omega
theorem Vd.free:(bf t).length≤16000:=by
 have:=v.adD;have:=aar (fun e:Int × Int=>(qB t e).isNone) (cn t);unfold bf;omega
theorem Vd.open:(qD t).length≤16000:=by
 have:=(GJ v.gd).head.length_le;rw [aaa] at this;have:=v.free;unfold qD;omega
end
def ET (t:bk):Nat:=((ax t).foldl (fun m x=>if x > m then x else m) (-1)+1).toNat
theorem EU:∀ (l:List Int) (m:Int),m≤l.foldl (fun m x=>if x > m then x else m) m∧(∀ x∈l,x≤l.foldl (fun m x=>if x > m then x else m) m)∧(l.foldl (fun m x=>if x > m then x else m) m=m∨l.foldl (fun m x=>if x > m then x else m) m∈l)
 |[],m=>⟨ac8 _,fun _ h=>(nomatch h),.inl rfl⟩
 |a :: l,m=>by
  rw [acy];obtain ⟨h1,h2,h3⟩:=EU l (if a > m then a else m);have hm:m≤(if a > m then a else m)∧a≤(if a > m then a else m):=by split <;> omega
  refine ⟨by omega,fun x hx=>?_,?_⟩
  ·rcases List.mem_cons.1 hx with rfl|hx
   ·omega
   ·exact h2 x hx
  ·rcases h3 with h3|h3
   ·by_cases c:a > m
    ·rw [if_pos c] at h3 ⊢;exact .inr (by rw [h3]; exact acP)
    ·rw [if_neg c] at h3 ⊢;exact .inl h3
   ·exact .inr (ade _ h3)
theorem GN {t:bk} (v:Vd t):0 < ET t∧ET t≤t.1.length∧(∀ p∈bh t.1.length,∃ k:Nat,k < ET t∧(ax t).getD p.toNat 0=(k:Int))∧(∀ k,k < ET t→∃ p∈bh t.1.length,(ax t).getD p.toNat 0=(k:Int))∧(ax t).foldl (fun m x=>if x > m then x else m) (-1)=(ET t:Int) - 1:=by
 obtain ⟨_,n,h1,h2,h3⟩:=BA v.gd;obtain ⟨_,m2,m3⟩:=EU (ax t) (-1);have len:=zI t;have at_:∀ i (hi:i < t.1.length),(ax t)[i]'(by omega)=(ax t).getD ((i:Int).toNat) 0:=fun i hi=>by
  rw [aak,aaF,aas (by omega)]; rfl
 have n0:0 < n:=by
  obtain ⟨k,hk,_⟩:=h2 0 (ic.2 ⟨ac8 _,by have:=v.ne; omega⟩);omega
 have e:(ax t).foldl (fun m x=>if x > m then x else m) (-1)=(n:Int) - 1:=by
  obtain ⟨p,hp,e⟩:=h3 (n - 1) (by omega);have UN:=ic.1 hp;have lo:((n - 1:Nat):Int)≤(ax t).foldl (fun m x=>if x > m then x else m) (-1):=by
   refine m2 _ ?_;rw [← e,aaF,aas (by omega)];exact abr _
  rcases m3 with m3|m3
  ·omega
  ·obtain ⟨i,hi,e2⟩:=abx m3;obtain ⟨k,hk,e3⟩:=h2 (i:Int) (ic.2 ⟨by omega,by omega⟩);rw [← at_ i (by omega),e2] at e3;omega
 have en:ET t=n:=by
  unfold ET;rw [e]; omega
 rw [en];exact ⟨n0,h1,h2,h3,e⟩
section
variable {N:Nat} (hN:eQ N)
include hN
theorem X4 {t:bk} (v:Vd t):T60 N (ax t)=some ((ET t:Int) - 1):=by
 obtain ⟨p1,p2,p3,_,p4⟩:=GN v;have len:=zI t;have ne:=v.ne;have le:=v.le;have l0:0 < (ax t).length:=by omega
 obtain ⟨a1,a2⟩:=Iq (ax t) l0;have key:=dT (rd:=za N (ax t)) (ax t) (fun (s:Int) k=>(s,(k:Int))) (fun m x=>if x > m then x else m) (fun s=>s) (fun _ _=>True) (fun s k hk _=>by
  obtain ⟨b1,b2⟩:=Iq (ax t) hk;refine ⟨?_,trivial⟩;simp only [za,aaa,ar hk,ah hk,aak,b1,b2,aS (show k < 9223372036854775807 by omega),aah,cond_true]) (fun s _=>by
  simp only [za,aaa,aI,cond_false]) N (ax t)[0] 1 (by omega) (by unfold eQ at hN; omega) trivial
 have key:aA (za N (ax t)) N ((ax t)[0],1)=_:=key;rw [ab0];have d1:decide (((ax t).length:Int) < 1)=false:=decide_eq_false (by omega);have d2:decide ((0:Int)≤0∧0 < ((ax t).length:Int))=true:=decide_eq_true ⟨ac8 _,by omega⟩;simp only [aaa,d1,d2,cond_false,cond_true,show toNat 0=0 from rfl,a1,a2,aah,key,aag];rw [← p4];congr 1;have hp:0≤(ax t)[0]:=by
  obtain ⟨k,_,e⟩:=p3 0 (ic.2 ⟨ac8 _,by omega⟩);have:(ax t)[0]=(ax t).getD (0:Int).toNat 0:=by
   show _=(ax t).getD 0 0;rw [aaF,aas l0]; rfl
  omega
 have e:ax t=(ax t)[0] :: (ax t).drop 1:=by
  rw [List.getElem_cons_drop]; rfl
 have e2:(ax t).foldl (fun m x=>if x > m then x else m) (-1)=((ax t)[0] :: (ax t).drop 1).foldl (fun m x=>if x > m then x else m) (-1):=congrArg (fun l:List Int=>l.foldl (fun m x=>if x > m then x else m) (-1)) e;rw [e2,acy,if_pos (by omega)]
theorem adE {t:bk} (v:Vd t) (piece:Int):WY N (t,piece)=some (J8 t piece (ax t) (bE t) (bf t) (qD t) ((ET t:Int) - 1)):=by
 have g:=v.gd;have s:=v.KG;have le:=v.le;have se:=v.tV;have fr:=v.free;have op:=v.open;have co:=v.adD;have pl:=zI t;have inr:∀ e,eK t e=true→J6 (ax t) e.1:=fun e he=>by
  have:=fq.1 he;unfold J6;omega
 obtain ⟨u1,_⟩:=nL (pR t) (sC g);have pk:(bE t).map acD=cn t:=u1;have inv:=GJ g;refine Gv hN t piece (bf t) (qD t) _ (Kq hN t (by omega) s (by omega)) (Uu hN g (by omega) (by omega) s) (X4 hN v) (by omega) s (by omega) (Nt g) (by omega) (by omega) (fun e he=>?_) (fun x hx=>?_) (fun e he=>?_) (fun l hl=>?_) (fun l hl=>?_) ?_
 ·have:e.1∈cn t:=by rw [← pk]; exact List.mem_map_of_mem he
  exact inr _ (gT.1 this)
 ·exact inr (sA x) (g.tV x hx).1
 ·exact inr e (vS.1 he).1
 ·obtain ⟨b,hb,rfl⟩:=inv.Bz l hl;obtain ⟨r,hr⟩:=EJ g hb;rw [hr]; exact List.cons_ne_nil _ _
 ·obtain ⟨b,hb,rfl⟩:=inv.Bz l hl;obtain ⟨r,hr⟩:=EJ g hb;rw [hr]; exact inr b (vS.1 hb).1
 ·rw [← aaa (f:=acD),pk]; omega
end
section
variable {N:Nat} (hN:eQ N)
include hN
end
end Go.Proofs.YtegoimldbgdeiaaGreat
namespace Go.Proofs.YtegoimldbgdeiaaGreat
open Go Go.Am
open List (map)
open Int (toNat)
open Go.IntKind (wrap)
open Go.Am.aM (fits)
set_option maxRecDepth 100000
theorem X5 {α β:Type} [DecidableEq β] (g:α→β) (L:List α):Cp g L≤L.length:=by
 have:=EB (EC (L.map g)) (m:=L.map g) fun x hx=>(tE _ _).1 hx
 rwa [aaa] at this
def akS (t:bk) (q:Int→Bool):Nat:=((qD t).filter fun c=>q (c.getD 0 (0,0)).1).length
def akT (t:bk) (q:Int→Bool):Nat:=((bf t).filter fun e=>q e.1).length
structure Bds (t:bk) (q:Int→Bool):Prop where
 ZB:XP t q≤32000
 tV:akM t q≤64
 fre:akT t q≤16000
 E4:(akL t q).length≤16
 iu:akS t q≤16000
theorem bds {t:bk} (v:Vd t) (q:Int→Bool):Bds t q where
 ZB:=by
  have h1:=X5 (dJ (fE t q)) (nG t q);have h2:=v.adD;have h3:=aar (fun e:Int × Int=>q e.1) (cn t);have h4:(nG t q).length=2 * ((cn t).filter fun e=>q e.1).length:=AM _;unfold XP;omega
 tV:=acC (aar _ _) v.tV
 fre:=acC (aar _ _) v.free
 E4:=acC (aar _ _) (by rw [gw]; exact v.le)
 iu:=acC (aar _ _) v.open
section
variable {N:Nat} (hN:eQ N)
include hN
theorem QF {t:bk} (v:Vd t):Tg N t=some (J8 t (-1) (ax t) (bE t) (bf t) (qD t) ((ET t:Int) - 1),0):=by
 have k0:=AH hN t;have k0:OD N (t.1,t.2)=some (iO t):=k0;have q:=adE hN v (-1);have q:WY N ((t.1,t.2),-1)=_:=q;rw [show Tg N t=Tg N (t.1,t.2) from rfl,Th];simp only [bT,cg,bU,cj,aah,abp,cond_true,aag,k0,v.err,bne_self_eq_false,cond_false,q]
end
end Go.Proofs.YtegoimldbgdeiaaGreat
namespace Go.Proofs.YtegoimldbgdeiaaGreat
open Go Go.Am
open List (map)
open Int (toNat)
open Go.IntKind (wrap)
open Go.Am.aM (fits)
set_option maxRecDepth 100000
section
variable {N:Nat} (hN:eQ N)
include hN
end
end Go.Proofs.YtegoimldbgdeiaaGreat
namespace Go.Proofs.YtegoimldbgdeiaaGreat
open Go Go.Am
open List (map)
open Int (toNat)
open Go.IntKind (wrap)
open Go.Am.aM (fits)
set_option maxRecDepth 100000
end Go.Proofs.YtegoimldbgdeiaaGreat
namespace Go.Proofs.YtegoimldbgdeiaaGreat
open Go Go.Am
open List (map)
open Int (toNat)
open Go.IntKind (wrap)
open Go.Am.aM (fits)
set_option maxRecDepth 100000
def bp (t:bk) (F:Int × Int→Int):List (List Int):=(aaq t.1.length).map fun p:Nat=>(aaq (kh t (p:Int))).map fun k:Nat=>F ((p:Int),(k:Int))
theorem eL (t:bk) (F:Int × Int→Int):(bp t F).length=t.1.length:=by simp [bp]
theorem GP (t:bk) (F:Int × Int→Int) {p:Nat} (hp:p < t.1.length):(bp t F)[p]'(by rw [eL]; exact hp)=(aaq (kh t (p:Int))).map fun k:Nat=>F ((p:Int),(k:Int)):=by simp [bp]
theorem mL (t:bk) (F:Int × Int→Int) {p:Nat} (hp:p < t.1.length):((bp t F)[p]'(by rw [eL]; exact hp)).length=kh t (p:Int):=by rw [GP t F hp]; simp
theorem KH (t:bk) (F:Int × Int→Int) {p k:Nat} (hp:p < t.1.length) (hk:k < kh t (p:Int)):gI ((bp t F)[p]'(by rw [eL]; exact hp)) (k:Int)=F ((p:Int),(k:Int)):=by
 rw [GP t F hp,zD _ (by simpa using hk)];simp
theorem vW (t:bk) (F:Int × Int→Int) (a c:Int × Int):(bp t F).map (map fun x=>if x=F a then F c else x)=bp t (ir F (a,c)):=by
 unfold bp;rw [abu];refine aaG fun p _=>?_
 show map _ (map _ _)=_;rw [abu];rfl
def F0 (e:Int × Int):Int:=e.1 * 8+e.2
theorem X6 (t:bk):qE t t.1.length=bp t F0:=rfl
theorem GQ (t:bk) (F G:Int × Int→Int):iy (bp t F)=iy (bp t G):=OY (by rw [eL,eL]) fun j hj=>by
 rw [eL] at hj;rw [mL t F hj,mL t G hj]
theorem O3 {N:Nat} (t:bk) (e:Int × Int):T39 N (t,e)=some e:=by rw [acZ]
theorem O4 {N:Nat} {t:bk} {e:Int × Int} (he:eK t e=true):T40 N (t,e)=some (wo t e):=by
 have h:=fq.1 he;obtain ⟨p,hp⟩:∃ p:Nat,e.1=p:=⟨e.1.toNat,by omega⟩;have Q8:p < t.1.length:=by omega
 obtain ⟨a1,a2⟩:=zv t.1 Q8;have sl:t.1[p].2.length=kh t (p:Int):=(pO t Q8).symm;have hn:decide (((kh t (p:Int):Nat):Int)=0)=false:=by
  rw [hp] at h;exact decide_eq_false (by omega)
 rw [ac2];simp only [aaa,hp,ah Q8,aak,a1,a2,sl,hn,aah,acJ,cond_true];unfold wo;rw [hp]
section
variable {N:Nat} (hN:eQ N)
include hN
theorem KI (t:bk) (F:Int × Int→Int) {p s:Nat} (hp:p < t.1.length) (hs:s < kh t (p:Int)) :
  d3 (af (rowOf (ai (map lF (bp t F))) (aO (af (map fZ (iy (bp t F))) p)).1) s)=F ((p:Int),(s:Int)):=by
 have UN:p < (bp t F).length:=by rw [eL]; exact hp
 obtain ⟨g1,g2⟩:=gR (bp t F) UN;rw [g1,Ic _ UN,(g3 _ (by rw [mL t F hp]; exact hs)).1,KH t F hp hs]
theorem Uv {t:bk} (g:Gd t) (hP:t.1.length≤80) (hT:t.2.length≤100000) {k:Nat} (hk:k < t.2.length) (F:Int × Int→Int) :
  tC N t ((),(k:Int),bp t F,iy (bp t F))=some (.inl ((),((k+1:Nat):Int),bp t (ir (ir F (vO (cu t t.2[k]).1)) (vO (cu t t.2[k]).2)),iy (bp t (ir (ir F (vO (cu t t.2[k]).1)) (vO (cu t t.2[k]).2))))):=by
 obtain ⟨a1,a2⟩:=Ng t.2 hk;obtain ⟨eA,eB,_⟩:=g.tV t.2[k] (abr hk);have fA:=O4 (N:=N) eA;have fB:=O4 (N:=N) eB;have uA:eK t (wo t (sA t.2[k]))=true:=by rw [mT g eA]; exact Cs eA
 have uB:eK t (wo t (sB t.2[k]))=true:=by rw [mT g eB]; exact Cs eB
 have w:wrap .i64 ((k:Int)+1)=((k+1:Nat):Int):=aS (by omega);have hr:∀ G:Int × Int→Int,∀ r∈bp t G,r.length≤1000:=fun G r hr=>by
  obtain ⟨p,hp,rfl⟩:=abv.1 hr;have:=g.E4 (p:Int) (by omega) (by have:=abz.1 hp; omega);simp; omega
 have nat:∀ e:Int × Int,eK t e=true→∃ p s:Nat,e=((p:Int),(s:Int))∧p < t.1.length∧s < kh t (p:Int):=fun e he=>by
  have h:=fq.1 he;have h1:((e.1.toNat:Nat):Int)=e.1:=by omega
  have h2:((e.2.toNat:Nat):Int)=e.2:=by omega
  refine ⟨e.1.toNat,e.2.toNat,?_,by omega,?_⟩
  ·rw [h1,h2]
  ·rw [h1]; omega
 obtain ⟨s,es⟩:∃ s,s=t.2[k]:=⟨_,rfl⟩;rw [← es] at a1 eA eB fA fB uA uB ⊢;obtain ⟨pa,sa,q1,q2,q3⟩:=nat _ eA;obtain ⟨pb,sb,r1,r2,r3⟩:=nat _ eB;obtain ⟨UZ,U0,q4,q5,q6⟩:=nat _ uA;obtain ⟨QG,QH,r4,r5,r6⟩:=nat _ uB;obtain ⟨s1,s2,s3,s4,tw⟩:=s;have q1:(s1,s2)=((pa:Int),(sa:Int)):=q1;have r1:(s3,s4)=((pb:Int),(sb:Int)):=r1;rw [Prod.mk.injEq] at q1 r1;obtain ⟨h1,h2⟩:=q1;obtain ⟨h3,h4⟩:=r1;subst h1 h2 h3 h4;have Q4:wo t ((pa:Int),(sa:Int))=((UZ:Int),(U0:Int)):=q4;have R4:wo t ((pb:Int),(sb:Int))=((QG:Int),(QH:Int)):=r4;have FA:T40 N (t,(pa:Int),(sa:Int))=some ((UZ:Int),(U0:Int)):=by rw [← Q4]; exact fA
 have FB:T40 N (t,(pb:Int),(sb:Int))=some ((QG:Int),(QH:Int)):=by rw [← R4]; exact fB
 have bA:T39 N (t,(pa:Int),(sa:Int))=some ((pa:Int),(sa:Int)):=O3 t _;have bB:T39 N (t,(pb:Int),(sb:Int))=some ((pb:Int),(sb:Int)):=O3 t _;have rd:∀ (G:Int × Int→Int) {p z:Nat},p < t.1.length→z < kh t (p:Int) →
   (decide ((0:Int)≤(p:Int)∧(p:Int) < (t.1.length:Int))=true∧decide (p < t.1.length)=true) ∧
   (aO (af (map fZ (iy (bp t G))) p)=(p,kh t (p:Int))∧fits gn (af (map fZ (iy (bp t G))) p)=true) ∧
   (decide ((0:Int)≤(z:Int)∧(z:Int) < ((kh t (p:Int):Nat):Int))=true∧decide (z < kh t (p:Int))=true) ∧
   ((rowOf (ai (map lF (bp t G))) p).length=kh t (p:Int)∧d3 (af (rowOf (ai (map lF (bp t G))) p) z)=G ((p:Int),(z:Int))∧fits p3 (af (rowOf (ai (map lF (bp t G))) p) z)=true):=fun G {p z} hp hz=>by
  have UN:p < (bp t G).length:=by rw [eL]; exact hp
  obtain ⟨g1,g2⟩:=gR (bp t G) UN;rw [mL t G hp] at g1;have:=g3 ((bp t G)[p]) (k:=z) (by rw [mL t G hp]; exact hz);rw [KH t G hp hz] at this;refine ⟨⟨ah hp,decide_eq_true hp⟩,⟨g1,g2⟩,⟨ah hz,decide_eq_true hz⟩,?_,?_,?_⟩
  ·rw [Ic _ UN,aaa,mL t G hp]
  ·rw [Ic _ UN]; exact this.1
  ·rw [Ic _ UN]; exact this.2
 cases tw with
 |true=>
  have hj:cu t ((pa:Int),(sa:Int),(pb:Int),(sb:Int),true)=(((pa:Int),(sa:Int),(pb:Int),(sb:Int)),((UZ:Int),(U0:Int),(QG:Int),(QH:Int))):=by
   unfold cu;simp only [Q4,R4,if_true]
  rw [hj];have k1:=wQ hN ((),(k:Int),bp t F,iy (bp t F)) ((pa:Int),(sa:Int)) ((pb:Int),(sb:Int),(QG:Int),(QH:Int),bp t F,iy (bp t F)) (F ((pa:Int),(sa:Int))) (F ((pb:Int),(sb:Int))) (KI hN t F q2 q3) (KI hN t F r2 r3) (bp t F) (dF _) (by rw [eL]; omega) (hr F);rw [vW,GQ t F (ir F (((pa:Int),(sa:Int)),((pb:Int),(sb:Int))))] at k1;generalize hG:ir F (((pa:Int),(sa:Int)),((pb:Int),(sb:Int)))=G at k1;have k2:=vq hN ((),(k:Int),bp t F,iy (bp t G)) ((UZ:Int),(U0:Int)) ((pb:Int),(sb:Int),(QG:Int),(QH:Int),bp t F,iy (bp t G)) (bp t G,iy (bp t G)) (G ((UZ:Int),(U0:Int))) (G ((QG:Int),(QH:Int))) (KI hN t G q5 q6) (KI hN t G r5 r6) (bp t G) (by rw [dF]) (by rw [eL]; omega) (hr G);rw [vW] at k2;obtain ⟨⟨x1,x2⟩,⟨x3,x4⟩,⟨x5,x6⟩,x7,x8,x9⟩:=rd F q2 q3;obtain ⟨⟨y1,y2⟩,⟨y3,y4⟩,⟨y5,y6⟩,y7,y8,y9⟩:=rd F r2 r3;obtain ⟨⟨z1,z2⟩,⟨z3,z4⟩,⟨z5,z6⟩,z7,z8,z9⟩:=rd G q5 q6;obtain ⟨⟨v1,v2⟩,⟨v3,v4⟩,⟨v5,v6⟩,v7,v8,v9⟩:=rd G r5 r6;have ix:=GQ t F G;rw [ix] at x3 x4 y3 y4;have ix2:=GQ t (ir G (((UZ:Int),(U0:Int)),((QG:Int),(QH:Int)))) G;simp only [ix] at k1 k2 ⊢;simp only [tC,nE,vj,vk,vO,hG,aaa,dF,eL,ar hk,ah hk,aak,a1,a2,bA,bB,FA,FB,TT,TU,BZ,Ep,B0,Er,beq_self_eq_true,abK,x1,x2,x3,x4,x5,x6,x7,x9,y1,y2,y3,y4,y5,y6,y7,y9,z1,z2,z3,z4,z5,z6,z7,z9,v1,v2,v3,v4,v5,v6,v7,v9,k1,k2,lB,lC,dU,dV,nN,mK,aah,decide_true,cond_true,abw,aag,w];rw [ix2]
 |false=>
  have hj:cu t ((pa:Int),(sa:Int),(pb:Int),(sb:Int),false)=(((pa:Int),(sa:Int),(QG:Int),(QH:Int)),((UZ:Int),(U0:Int),(pb:Int),(sb:Int))):=by
   unfold cu;simp only [Q4,R4];rfl
  rw [hj];have k1:=wQ hN ((),(k:Int),bp t F,iy (bp t F)) ((pa:Int),(sa:Int)) ((QG:Int),(QH:Int),(pb:Int),(sb:Int),bp t F,iy (bp t F)) (F ((pa:Int),(sa:Int))) (F ((QG:Int),(QH:Int))) (KI hN t F q2 q3) (KI hN t F r5 r6) (bp t F) (dF _) (by rw [eL]; omega) (hr F);rw [vW,GQ t F (ir F (((pa:Int),(sa:Int)),((QG:Int),(QH:Int))))] at k1;generalize hG:ir F (((pa:Int),(sa:Int)),((QG:Int),(QH:Int)))=G at k1;have k2:=vq hN ((),(k:Int),bp t F,iy (bp t G)) ((UZ:Int),(U0:Int)) ((QG:Int),(QH:Int),(pb:Int),(sb:Int),bp t F,iy (bp t G)) (bp t G,iy (bp t G)) (G ((UZ:Int),(U0:Int))) (G ((pb:Int),(sb:Int))) (KI hN t G q5 q6) (KI hN t G r2 r3) (bp t G) (by rw [dF]) (by rw [eL]; omega) (hr G);rw [vW] at k2;obtain ⟨⟨x1,x2⟩,⟨x3,x4⟩,⟨x5,x6⟩,x7,x8,x9⟩:=rd F q2 q3;obtain ⟨⟨y1,y2⟩,⟨y3,y4⟩,⟨y5,y6⟩,y7,y8,y9⟩:=rd F r5 r6;obtain ⟨⟨z1,z2⟩,⟨z3,z4⟩,⟨z5,z6⟩,z7,z8,z9⟩:=rd G q5 q6;obtain ⟨⟨v1,v2⟩,⟨v3,v4⟩,⟨v5,v6⟩,v7,v8,v9⟩:=rd G r2 r3;have ix:=GQ t F G;rw [ix] at x3 x4 y3 y4;have ix2:=GQ t (ir G (((UZ:Int),(U0:Int)),((pb:Int),(sb:Int)))) G;simp only [ix] at k1 k2 ⊢;simp only [tC,nE,vj,vk,vO,hG,aaa,dF,eL,ar hk,ah hk,aak,a1,a2,bA,bB,FA,FB,TT,TU,BZ,Ep,B0,Er,beq_self_eq_true,abK,x1,x2,x3,x4,x5,x6,x7,x9,y1,y2,y3,y4,y5,y6,y7,y9,z1,z2,z3,z4,z5,z6,z7,z9,v1,v2,v3,v4,v5,v6,v7,v9,k1,k2,lB,lC,dU,dV,nN,mK,aah,decide_true,cond_true,cond_false,abw,aag,w];rw [ix2]
def sD (t:bk) (k:Nat):Int × Int→Int:=((t.2.take k).flatMap fun s=>[vO (cu t s).1,vO (cu t s).2]).foldl ir F0
omit hN in
theorem QI (t:bk) {k:Nat} (hk:k < t.2.length):sD t (k+1)=ir (ir (sD t k) (vO (cu t t.2[k]).1)) (vO (cu t t.2[k]).2):=by
 unfold sD;rw [List.take_succ_eq_append_getElem hk,List.flatMap_append,List.foldl_append];rfl
theorem QJ {t:bk} (g:Gd t) (hP:t.1.length≤80) (hT:t.2.length≤100000) :
  aA (tC N t) N ((),0,bp t F0,iy (bp t F0))=some ((),bp t (sD t t.2.length),iy (bp t (sD t t.2.length))):=by
 have key:=aF (rd:=tC N t) t.2.length (fun k=>((),(k:Int),bp t (sD t k),iy (bp t (sD t k)))) ((),bp t (sD t t.2.length),iy (bp t (sD t t.2.length))) (fun k hk=>by
  have:=Uv hN g hP hT hk (sD t k);rw [← QI t hk] at this;exact this) (by
  simp only [tC,nE,vj,vk,aaa,aI,cond_false,lB,lC,dU,dV,nN,mK,aah,cond_true,abw,aag]) N 0 (abL _) (by unfold eQ at hN; omega)
 exact key
theorem Uw {t:bk} (g:Gd t) (hP:t.1.length≤80) (hT:t.2.length≤100000):Zw N t=some (ZF (bp t (sD t t.2.length))):=by
 have hs:∀ p:Nat,p < t.1.length→kh t (p:Int)≤8:=fun p hp=>(g.E4 (p:Int) (by omega) (by omega)).2
 have k1:=Uh hN t (by omega) fun p hp=>acC (hs p hp) (by omega)
 have k2:=QJ hN g hP hT;have hr:∀ r∈bp t (sD t t.2.length),r.length≤1000:=fun r hr=>by
  obtain ⟨p,hp,rfl⟩:=abv.1 hr;have:=hs p (abz.1 hp);simp; omega
 have k3:=XX hN (bp t (sD t t.2.length)) (by rw [eL]; omega) hr ((),bp t (sD t t.2.length),iy (bp t (sD t t.2.length))) (dF _);rw [X6] at k1;have f0:allFit (fits p3) ([]:List AV)=true:=rfl;have m0:map d3 ([]:List AV)=[]:=rfl;have f1:allFit (fits kH) ([]:List AV)=true:=rfl;have m1:map d59 ([]:List AV)=[]:=rfl;have f2:allFit (fits gn) ([]:List AV)=true:=rfl;have m2:map aO ([]:List AV)=[]:=rfl;have z:cD 1 ([]:List (List AV))=[]:=rfl;rw [ac5];simp only [z,f0,m0,f1,m1,f2,m2,rx0,abJ,adK,k1,k2,k3,lB,lC,dU,dV,nN,mK,aah,decide_true,cond_true,abw,aag]
end
end Go.Proofs.YtegoimldbgdeiaaGreat
namespace Go.Proofs.YtegoimldbgdeiaaGreat
open Go Go.Am
open List (map)
open Int (toNat)
open Go.IntKind (wrap)
open Go.Am.aM (fits)
set_option maxRecDepth 100000
theorem BB:∀ (l:List xG) (p:Nat) (g:Nat→Nat) (_:∀ k (hk:k < l.length),g k=l[k].2.length),((aaq l.length).map fun k=>(aaq (g k)).map fun i:Nat=>((((p+k:Nat):Int)),(i:Int))).flatten=gk l p
 |[],p,g,h=>rfl
 |x :: l,p,g,h=>by
  rw [abR,List.range_succ_eq_map,List.map_cons,List.flatten_cons,abu];unfold gk eg;have h0:=h 0 (by simp);have ih:=BB l (p+1) (fun k=>g (k+1)) fun k hk=>h (k+1) (by simpa using hk)
  rw [h0,← ih];congr 2;refine aaG fun k _=>?_
  refine aaG fun i _=>?_
  simp only [Prod.mk.injEq,and_true];omega
theorem xD (t:bk) (F:Int × Int→Int):(bp t F).flatten=(cn t).map F:=by
 have h:=BB t.1 0 (fun k=>kh t (k:Int)) fun k hk=>pO t hk
 unfold cn;rw [← h,List.map_flatten,abu];unfold bp;congr 1;refine aaG fun k _=>?_
 show _=map F (map _ _);rw [abu];refine aaG fun i _=>?_
 simp
theorem Nu (t:bk) (F G:Int × Int→Int):(bp t F).map adO=(bp t G).map adO:=by
 unfold bp;rw [abu,abu];exact aaG fun p _=>by simp
theorem GR {α:Type} [DecidableEq α] {l:List α} {c:α→Int} (hc:∀ x∈l,∀ y∈l,c x=c y→x=y):∀ (E:List (α × α)) (g:α→α) (G:α→Int),(∀ p∈E,p.1∈l∧p.2∈l)→(∀ x∈l,g x∈l)→(∀ x∈l,G x=c (g x)) →
  ∀ x∈l,E.foldl ir G x=c (E.foldl ir g x)∧E.foldl ir g x∈l
 |[],g,G,_,h1,h2,x,hx=>⟨h2 x hx,h1 x hx⟩
 |p :: E,g,G,hE,h1,h2,x,hx=>by
  obtain ⟨p1,p2⟩:=hE p acP;rw [acy,acy];refine GR hc E (ir g p) (ir G p) (fun q hq=>hE q (ade _ hq)) (fun y hy=>?_) (fun y hy=>?_) x hx
  ·unfold ir;split
   ·exact h1 _ p2
   ·exact h1 y hy
  ·unfold ir;rw [h2 y hy,h2 _ p1,h2 _ p2];by_cases e:g y=g p.1
   ·rw [if_pos (by rw [e]),if_pos e]
   ·rw [if_neg fun k=>e (hc _ (h1 y hy) _ (h1 _ p1) k),if_neg e]
theorem X7 (t:bk):((t.2.take t.2.length).flatMap fun s=>[vO (cu t s).1,vO (cu t s).2])=(cZ t).map vO:=by
 rw [List.take_length];unfold cZ;rw [List.map_flatMap];rfl
theorem KJ {t:bk} (g:Gd t):∀ x∈cn t,∀ y∈cn t,F0 x=F0 y→x=y:=fun x hx y hy e=>by
 have h:=fq.1 (gT.1 hx);have k:=fq.1 (gT.1 hy);have a:=g.E4 x.1 h.1 h.2.1;have b:=g.E4 y.1 k.1 k.2.1;unfold F0 at e;have e1:x.1=y.1:=by omega
 have e2:x.2=y.2:=by omega
 exact abO e1 e2
theorem X8 {t:bk} (g:Gd t):∀ x∈cn t,∀ y∈cn t,(sD t t.2.length x=sD t t.2.length y↔Cn (fun a b=>(a,b)∈(cZ t).map vO) x y):=fun x hx y hy=>by
 have hp:=sC g;unfold sD;rw [X7];have fc:=GR (KJ g) ((cZ t).map vO) id F0 hp (fun _ h=>h) (fun _ _=>rfl);rw [(fc x hx).1,(fc y hy).1];have:=gC ((cZ t).map vO) x y;unfold dJ at this;rw [← this];exact ⟨fun e=>KJ g _ (fc x hx).2 _ (fc y hy).2 e,fun e=>by rw [e]⟩
def qG (t:bk):List (List Int):=bp t (aK (bE t))
theorem Ux {t:bk} (g:Gd t):ZF (bp t (sD t t.2.length))=qG t:=by
 obtain ⟨h1,h2⟩:=Ui (bp t (sD t t.2.length));refine O0 _ _ (h2.trans (Nu t _ _)) ?_;unfold qG;rw [h1,xD,xD];unfold bE;exact (GK (pR t) (sC g) (X8 g)).symm
end Go.Proofs.YtegoimldbgdeiaaGreat
namespace Go.Proofs.YtegoimldbgdeiaaGreat
open Go Go.Am
open List (map)
open Int (toNat)
open Go.IntKind (wrap)
open Go.Am.aM (fits)
set_option maxRecDepth 100000
def EV (rows:List (List Int)):List (Nat × List Int):=(aaq rows.length).map fun j=>(j,rows.getD j [])
def GS (rows:List (List Int)):List Nat:=rows.map adO
theorem kI (rows:List (List Int)):(EV rows).length=rows.length:=by simp [EV]
theorem Ik (rows:List (List Int)) {j:Nat} (hj:j < rows.length):(EV rows)[j]'(by rw [kI]; exact hj)=(j,rows[j]):=by
 simp [EV,aaF,aas hj]
theorem gF (rows:List (List Int)) {j:Nat} (hj:j < rows.length):kP (af (map ib (EV rows)) j)=(j,rows[j])∧fits mF (af (map ib (EV rows)) j)=true:=by
 rw [gb ib (EV rows) j (by rw [kI]; exact hj),Xu,Xt,Ik rows hj]; exact ⟨rfl,rfl⟩
theorem akV (rows:List (List Int)) {j:Nat} (hj:j < rows.length):K9 (GS rows) j rows[j].length=true:=by
 have:nth (GS rows) j=some rows[j].length:=by
  unfold GS;rw [aV,acR,aas hj]; rfl
 unfold K9;rw [this,decide_eq_true rfl,Bool.true_or]
theorem akW (rows:List (List Int)) {j:Nat} (hj:j < rows.length) (x:List Int):CA (GS rows) j x.length=GS (rows.set j x):=by
 have:nth (GS rows) j=some rows[j].length:=by
  unfold GS;rw [aV,acR,aas hj]; rfl
 rw [RH this,fg];unfold GS;rw [List.map_set]
theorem stF (rows:List (List Int)) (j:Nat) (x:List Int):aC (map ib (EV rows)) j (AV.list (.aY 2 j) 1 (map n3 x))=map ib (EV (rows.set j x)):=by
 rw [fg];have e:AV.list (.aY 2 j) 1 (map n3 x)=ib (j,x):=rfl;rw [e,← List.map_set];congr 1;apply abA
 ·rw [aaN,kI,kI,aaN]
 ·intro i h1 h2;rw [kI,aaN] at h2;rw [Ik _ (by rw [aaN]; exact h2),abS,abS];split
  ·rename_i e; subst e; rfl
  ·rw [Ik rows h2]
theorem wkF (rows:List (List Int)):map AV.jB (map ib (EV rows))=map lF rows:=by
 apply abA
 ·rw [aaa,aaa,kI,aaa]
 ·intro i h1 h2;rw [aaa] at h2;rw [acX,acX,Ik rows h2,acX];rfl
theorem inF (n:Nat):map (fun j=>AV.list (.aY 2 (0+j)) 1 []) (aaq n)=map ib (EV (abt n [])):=by
 unfold EV;rw [abu,List.length_replicate];refine aaG fun j hj=>?_
 have hj:=abz.1 hj;show _=ib (j,(abt n []).getD j []);rw [aaF,List.getElem?_replicate,if_pos hj,abK];rfl
theorem lnF (n:Nat):abt n 0=GS (abt n []):=by simp [GS]
theorem EW:∀ n,ur (abt n (AV.list .nil 0 []))=true
 |0=>rfl
 |n+1=>EW n
def tG (V:Int × Int→Int) (p k:Nat):List Int:=(aaq k).map fun i:Nat=>V ((p:Int),(i:Int))
theorem QK (V:Int × Int→Int) (p k:Nat):tG V p k++[V ((p:Int),(k:Int))]=tG V p (k+1):=by
 unfold tG;rw [List.range_succ,abY]; rfl
theorem KK (V:Int × Int→Int) (p k:Nat):(tG V p k).length=k:=by simp [tG]
def ki (t:bk) (V:Int × Int→Int) (p:Nat):List (List Int):=(aaq t.1.length).map fun q=>if q < p then tG V q (kh t (q:Int)) else []
theorem vX (t:bk) (V:Int × Int→Int) (p:Nat):(ki t V p).length=t.1.length:=by simp [ki]
theorem EX (t:bk) (V:Int × Int→Int) (p:Nat) {i:Nat} (hi:i < (ki t V p).length):(ki t V p)[i]=if i < p then tG V i (kh t (i:Int)) else []:=by simp [ki]
theorem QL (t:bk) (V:Int × Int→Int) {p:Nat} (hp:p < t.1.length):(ki t V p).set p (tG V p (kh t (p:Int)))=ki t V (p+1):=by
 apply abA
 ·rw [aaN,vX,vX]
 ·intro i h1 h2;rw [abS,EX t V (p+1) h2];split
  ·rename_i e; subst e;rw [if_pos (by omega)]
  ·rw [EX];by_cases c:i < p
   ·rw [if_pos c,if_pos (by omega)]
   ·rw [if_neg c,if_neg (by omega)]
theorem X9 (t:bk) (V:Int × Int→Int) {p:Nat} (hp:p < t.1.length):(ki t V p).set p (tG V p 0)=ki t V p:=by
 apply abA
 ·rw [aaN]
 ·intro i h1 h2;rw [abS];split
  ·rename_i e; subst e;rw [EX,if_neg (by omega)];rfl
  ·rfl
theorem QM (t:bk) (V:Int × Int→Int):ki t V t.1.length=bp t V:=by
 unfold ki bp;exact aaG fun q hq=>by rw [if_pos (abz.1 hq)]; rfl
theorem QN (t:bk) (V:Int × Int→Int):ki t V 0=abt t.1.length []:=by
 unfold ki;apply abA
 ·simp
 ·intro i h1 h2; simp
section
variable {N:Nat} (hN:eQ N)
include hN
theorem adF (t:bk) {p:Nat} (hp:p < t.1.length) (hP:t.1.length≤1000) (hs:kh t (p:Int)≤1000) (pm:List ((Int × Int) × Int)) (x1:List Int) (x2:List (Nat × List Int)) (rows:List (List Int)) (hr:rows.length=t.1.length) :
  aA (lT N ((p:Int),pm,(),x1,x2,(),t)) N (0,pm,(),iq (GS (rows.set p (tG (aK pm) p 0))),EV (rows.set p (tG (aK pm) p 0)),(),t)=some (pm,(),iq (GS (rows.set p (tG (aK pm) p (kh t (p:Int))))),EV (rows.set p (tG (aK pm) p (kh t (p:Int)))),(),t):=by
 obtain ⟨a1,a2⟩:=tM t.1 hp;have sl:t.1[p].2.length=kh t (p:Int):=(pO t hp).symm;have key:=aF (rd:=lT N ((p:Int),pm,(),x1,x2,(),t)) (kh t (p:Int)) (fun k=>((k:Int),pm,(),iq (GS (rows.set p (tG (aK pm) p k))),EV (rows.set p (tG (aK pm) p k)),(),t)) (pm,(),iq (GS (rows.set p (tG (aK pm) p (kh t (p:Int))))),EV (rows.set p (tG (aK pm) p (kh t (p:Int)))),(),t) (fun k hk=>by
  have Q8:p < (rows.set p (tG (aK pm) p k)).length:=by rw [aaN,hr]; exact hp
  obtain ⟨g1,g2⟩:=gF _ Q8;have m1:=akV _ Q8;have s1:=akW _ Q8 (tG (aK pm) p (k+1));rw [List.getElem_set_self] at g1 m1;rw [KK] at m1 s1;have w:wrap .i64 ((k:Int)+1)=((k+1:Nat):Int):=aS (by omega);have c1:decide ((k+1) * 8≤140737488355328)=true:=decide_eq_true (by omega);have dp:decide (p < t.1.length)=true:=decide_eq_true hp;simp only [lT,js,aaa,aak,a1,a2,sl,ar hk,kI,aaN,hr,ah hp,abK,g1,g2,Ee,JY,Gl,Gm,jC,KK,m1,c1,dp,yX,QK,s1,stF,List.set_set,cR,cS,cL,cM,mw,my,zq,zr,bT,bU,cg,cj,beq_self_eq_true,abw,aah,decide_true,cond_true,aag,w]) (by
  simp only [lT,js,aaa,aak,a1,a2,sl,aI,cond_false,kI,jC,cR,cS,cL,cM,mw,my,zq,zr,bT,bU,cg,cj,abw,aah,decide_true,cond_true,aag]) N 0 (abL _) (by unfold eQ at hN; omega)
 exact key
theorem Ya (t:bk) (hP:t.1.length≤1000) (hs:∀ p:Nat,p < t.1.length→kh t (p:Int)≤1000) (pm:List ((Int × Int) × Int)) :
  aA (oP N t) N (0,pm,(),iq (GS (abt t.1.length [])),EV (abt t.1.length []),(),t)=some (pm,(),iq (GS (bp t (aK pm))),EV (bp t (aK pm)),(),t):=by
 have key:=aF (rd:=oP N t) t.1.length (fun p=>((p:Int),pm,(),iq (GS (ki t (aK pm) p)),EV (ki t (aK pm) p),(),t)) (pm,(),iq (GS (ki t (aK pm) t.1.length)),EV (ki t (aK pm) t.1.length),(),t) (fun p hp=>by
  obtain ⟨a1,a2⟩:=tM t.1 hp;have w:wrap .i64 ((p:Int)+1)=((p+1:Nat):Int):=aS (by omega);have k1:=adF hN t hp hP (hs p hp) pm (iq (GS (ki t (aK pm) p))) (EV (ki t (aK pm) p)) (ki t (aK pm) p) (vX _ _ _);rw [X9 t _ hp,QL t _ hp] at k1;simp only [oP,tD,aaa,aak,ar hp,ah hp,a2,kI,vX,jC,cR,cS,cL,cM,mw,my,zq,zr,bT,bU,cg,cj,abw,aah,decide_true,cond_true,aag,k1,w]) (by
  simp only [oP,tD,aaa,aI,cond_false,kI,jC,cR,cS,cL,cM,mw,my,zq,zr,bT,bU,cg,cj,abw,aah,decide_true,cond_true,aag]) N 0 (abL _) (by unfold eQ at hN; omega)
 rw [QM] at key;have key:aA (oP N t) N (((0:Nat):Int),pm,(),iq (GS (ki t (aK pm) 0)),EV (ki t (aK pm) 0),(),t)=_:=key;rw [QN] at key;exact key
end
end Go.Proofs.YtegoimldbgdeiaaGreat
