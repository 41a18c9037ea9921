/- Pieces,points and kinds of a valid trawl. -/
import Derived.Test.YtegoimldbgdeiaaSeamKF
import Derived.Test.YtegoimldbgdeiaaTrwSl
set_option linter.all false
open Bool renaming and_self→aat, and_true→aau, and_eq_true→aaA, not_false→abd
open Int renaming toNat_natCast→aas
open List renaming length_map→aal, getElem_mem→aav, range→aax, mem_map→aay, length_nil→aaK, getElem_of_mem→aaM, mem_flatMap→aaT, length_cons→aa0, map_append→aa6, length_filter_le→abQ
open Option renaming bind_some→aae
open Option.some renaming inj→aa3
open Prod renaming ext→aaP, fst→ab9
namespace Go.Proofs.Ytegoimldbgdeiaa
open Go Go.Am
open List (map)
open Int (toNat)
open Go.IntKind (wrap)
open Go.Am.aL (fits)
set_option maxRecDepth 100000
theorem acn {t:aZ} (h:kG t=0):Gd t∧∀ e,dw t e=true→1≤(BU t e).1∧(BU t e).1≤10000:=by
 obtain ⟨_,_,h3,_,h5⟩:=Ed h;unfold pA at h3;rw [ld] at h3;unfold wi at h5;rw [ld] at h5;have hp:∀ (k:Nat) (hk:k < t.1.length),3≤t.1[k].2.length∧t.1[k].2.length≤8∧∀ s∈t.1[k].2,py s=0:=fun k hk=>by
  have:=h3 (wh (t.1.take k) t.1[k]) (by rw [List.mem_mapIdx]; exact ⟨k,hk,rfl⟩);unfold wh at this;split at this
  ·cases this
  ·split at this
   ·cases this
   ·split at this
    ·cases this
    ·rw [ld] at this;exact ⟨by omega,by omega,fun s hs=>this _ (List.mem_map_of_mem hs)⟩
 have hs:∀ (i:Nat) (hi:i < t.2.length),dw t (sA t.2[i])=true∧dw t (sB t.2[i])=true∧sA t.2[i]≠sB t.2[i]∧(t.2.take i).any (HE t.2[i])=false:=fun i hi=>by
  have:=h5 (pz t (t.2.take i) t.2[i]) (by rw [List.mem_mapIdx]; exact ⟨i,hi,rfl⟩);unfold pz at this;split at this
  ·cases this
  ·rename_i c1;split at this
   ·cases this
   ·rename_i c2;split at this
    ·cases this
    ·rename_i c3;have c1:(dw t (sA t.2[i])&&dw t (sB t.2[i]))=true:=by
      cases hc:(dw t (sA t.2[i])&&dw t (sB t.2[i]))
      ·exact absurd hc c1
      ·rfl
     rw [aaA] at c1;exact ⟨c1.1,c1.2,fun e=>c2 (dS.2 e),by simpa using c3⟩
 refine ⟨⟨fun p h1 h2=>?_,fun s hsm=>?_,?_⟩,fun e he=>?_⟩
 ·obtain ⟨k,rfl⟩:∃ k:Nat,p=k:=⟨p.toNat,by omega⟩;have hk:k < t.1.length:=by omega
  rw [zV t hk];exact ⟨(hp k hk).1,(hp k hk).2.1⟩
 ·obtain ⟨i,hi,rfl⟩:=aaM hsm;exact ⟨(hs i hi).1,(hs i hi).2.1,(hs i hi).2.2.1⟩
 ·rw [List.pairwise_iff_getElem];intro i j hi hj hij;have c:=(hs j hj).2.2.2;rw [List.any_eq_false] at c;have c:=c t.2[i] (by
   rw [List.mem_iff_getElem];exact ⟨i,by rw [List.length_take]; omega,List.getElem_take⟩)
  unfold HE at c;simp only [Bool.or_eq_true,dS,not_or] at c;exact ⟨c.1,c.2.1,c.2.2.1,c.2.2.2⟩
 ·obtain ⟨k,i,rfl,hk,hi⟩:=qg he;rw [D9 t hk hi];have:=(hp k hk).2.2 _ (aav hi);unfold py at this;rw [ld] at this;have:=this (Qq t.1[k].2[i].1 1 10000) List.mem_cons_self;unfold Qq at this;split at this
  ·cases this
  ·omega
theorem JY {t:aZ} (g:Gd t) {s:kQ} (hs:s∈t.2):(0≤s.1∧s.1 < (t.1.length:Int))∧0≤s.2.2.1∧s.2.2.1 < (t.1.length:Int):=by
 have:=g.sS s hs;have a:=dK.1 this.1;have b:=dK.1 this.2.1;exact ⟨⟨a.1,a.2.1⟩,b.1,b.2.1⟩
theorem aco {t:aZ} (g:Gd t):∀ p∈t.2.map lE,p.1∈bf t.1.length∧p.2∈bf t.1.length:=by
 intro p hp;obtain ⟨s,hs,rfl⟩:=aay.1 hp;exact ⟨dx.2 (JY g hs).1,dx.2 (JY g hs).2⟩
theorem HN (t:aZ) {p:Int} (hp:p∈bf t.1.length):(ah t).getD p.toNat 0=a7 (gb (bf t.1.length) (t.2.map lE)) p:=by
 have h:=dx.1 hp;unfold ah bf;simp only [List.map_map];rw [List.getD_eq_getElem?_getD,List.getElem?_map,List.getElem?_range (by omega)];show a7 _ ((p.toNat:Nat):Int)=_;rw [show ((p.toNat:Nat):Int)=p by omega]
theorem BY (t:aZ):(ah t).length=t.1.length:=by unfold ah; simp only [aal,gn]
theorem qk {t:aZ} (g:Gd t):(∀ p∈bf t.1.length,∀ r∈bf t.1.length,((ah t).getD p.toNat 0=(ah t).getD r.toNat 0↔Cn (fun a b=>(a,b)∈t.2.map lE) p r)) ∧
  ∃ n:Nat,n≤t.1.length∧(∀ p∈bf t.1.length,∃ k:Nat,k < n∧(ah t).getD p.toNat 0=(k:Int))∧∀ k,k < n→∃ p∈bf t.1.length,(ah t).getD p.toNat 0=(k:Int):=by
 obtain ⟨_,h2,n,h3,h4,h5⟩:=uO (Gh t.1.length) (aco g);rw [gn] at h3;refine ⟨fun p hp r hr=>by rw [HN t hp,HN t hr]; exact h2 p hp r hr,n,h3,fun p hp=>?_,fun k hk=>?_⟩
 ·obtain ⟨k,a,b,_⟩:=h4 p hp;exact ⟨k,a,by rw [HN t hp]; exact b⟩
 ·obtain ⟨p,hp,e⟩:=h5 k hk;exact ⟨p,hp,by rw [HN t hp]; exact e⟩
theorem Et {t:aZ} (g:Gd t) (piece:Int):Eg t (au (ah t) piece):=fun s hs=>by
 have h:=(qk g).1 s.1 (dx.2 (JY g hs).1) s.2.2.1 (dx.2 (JY g hs).2);have:(ah t).getD s.1.toNat 0=(ah t).getD s.2.2.1.toNat 0:=h.2 (.one (aay.2 ⟨s,hs,rfl⟩));unfold au;split
 ·rfl
 ·rw [this]
theorem WU {t:aZ} (g:Gd t) {n:Nat} (hn:∀ k,k < n→∃ p∈bf t.1.length,(ah t).getD p.toNat 0=(k:Int)) {k:Nat} (hk:k < n):Bn t (au (ah t) k)=1:=by
 obtain ⟨p,hp,e⟩:=hn k hk;have af5:∀ r,au (ah t) k r=true↔(ah t).getD r.toNat 0=(k:Int):=fun r=>by
  unfold au;rw [if_neg (by omega),beq_iff_eq]
 unfold Bn;rw [uI (g:=bT (t.2.map lE)) (L:=me t (au (ah t) k)) (m:=[bT (t.2.map lE) p]) (by simp)]
 ·rfl
 ·intro x;rw [List.mem_singleton];constructor
  ·rintro rfl;exact ⟨p,pE.2 ⟨dx.1 hp,(af5 p).2 e⟩,rfl⟩
  ·rintro ⟨y,hy,rfl⟩;rw [pE,af5] at hy;rw [cm];exact ((qk g).1 y (dx.2 hy.1) p hp).1 (by rw [hy.2,e])
def bP (t:aZ) (h:Fl):Int × Int:=if h.2=true then h.1 else EB t h.1
theorem vx {t:aZ} {h:Fl} (he:dw t h.1=true):dw t (bP t h)=true:=by
 unfold bP;split
 ·exact he
 ·exact NY he
theorem BZ (t:aZ) (h:Fl):(bP t h).1=h.1.1:=by
 unfold bP; split <;> rfl
theorem Ts {t:aZ} {h:Fl} (he:dw t h.1=true):bP t (gk t h)=bP t h:=by
 obtain ⟨e,b⟩:=h;cases b
 ·rfl
 ·exact Yl he
theorem sW {t:aZ} (g:Gd t) {e:Int × Int} (he:dw t e=true):Jr t e=EB t e:=by
 have h:=dK.1 he;have p:=g.E5 e.1 h.1 h.2.1;unfold Jr EB;have w:wrap .i64 (e.2+1)=e.2+1:=wR ⟨by omega,by omega⟩;rw [w];refine aaP rfl ?_;show Int.tmod (e.2+1) (BQ t e.1:Int)=if e.2+1=(BQ t e.1:Int) then 0 else e.2+1
 split
 ·rename_i c;rw [c,Int.tmod_self]
 ·rw [Int.tmod_eq_of_lt (by omega) (by omega)]
theorem vy {t:aZ} (g:Gd t) {x y:Int × Int}:(x,y)∈(dU t).map Kr↔∃ s∈t.2,∃ b:Bool,x=bP t (sA s,b)∧y=bP t (sB s,b == s.2.2.2.2):=by
 unfold dU;rw [aay];constructor
 ·rintro ⟨p,hp,e⟩;rw [aaT] at hp;obtain ⟨s,hs,hp⟩:=hp;have u1:=sW g (g.sS s hs).1;have u2:=sW g (g.sS s hs).2.1;simp only [List.mem_cons,List.not_mem_nil,or_false] at hp;unfold dE at hp;rcases hp with rfl|rfl
  ·refine ⟨s,hs,true,?_⟩;cases hw:s.2.2.2.2 <;> rw [hw] at e <;> cases e
   ·exact ⟨rfl,u2⟩
   ·exact ⟨rfl,rfl⟩
  ·refine ⟨s,hs,false,?_⟩;cases hw:s.2.2.2.2 <;> rw [hw] at e <;> cases e
   ·exact ⟨u1,rfl⟩
   ·exact ⟨u1,u2⟩
 ·rintro ⟨s,hs,b,rfl,rfl⟩;have u1:=sW g (g.sS s hs).1;have u2:=sW g (g.sS s hs).2.1;cases b
  ·refine ⟨(dE t s).2,aaT.2 ⟨s,hs,by simp⟩,?_⟩;unfold dE;cases hw:s.2.2.2.2
   ·exact aaP u1 rfl
   ·exact aaP u1 u2
  ·refine ⟨(dE t s).1,aaT.2 ⟨s,hs,by simp⟩,?_⟩;unfold dE;cases hw:s.2.2.2.2
   ·exact aaP rfl u2
   ·exact aaP rfl rfl
theorem HO {t:aZ} (g:Gd t) {s:kQ} (hs:s∈t.2) (b:Bool):kN t (sA s,b)=some (sB s,b == s.2.2.2.2):=by
 unfold kN;rw [(eM g).2 ⟨s,hs,rfl,.inl ⟨rfl,rfl⟩⟩]; rfl
theorem WV {t:aZ} (g:Gd t) {h y:Fl} (hm:kN t h=some y):(bP t h,bP t y)∈(dU t).map Kr∨(bP t y,bP t h)∈(dU t).map Kr:=by
 unfold kN at hm;cases hs:eF t h.1 with
 |none=>rw [hs] at hm; cases hm
 |some z=>
  obtain ⟨o,w⟩:=z;rw [hs] at hm;have hm:(o,h.2 == w)=y:=aa3 hm;obtain ⟨e,b⟩:=h;obtain ⟨s,hsm,rfl,⟨h1,h2⟩|⟨h1,h2⟩⟩:=(eM g).1 hs
  ·left;rw [vy g];have h1:sA s=e:=h1;exact ⟨s,hsm,b,by rw [h1],by rw [← hm,← h2]⟩
  ·right;rw [vy g];have h1:sB s=e:=h1;refine ⟨s,hsm,b == s.2.2.2.2,by rw [← hm,← h2],?_⟩;rw [h1];have:((b == s.2.2.2.2) == s.2.2.2.2)=b:=by cases b <;> cases s.2.2.2.2 <;> rfl
   rw [this]
theorem sX {t:aZ} (g:Gd t) {q:Int→Bool} (hq:Eg t q) {x y:Fl} (hx:x∈fO t q) (hy:y∈fO t q):Cn (fun a b=>(a,b)∈(dU t).map Kr) (bP t x) (bP t y)↔Cn (fun a b=>(a,b)∈fE t q) x y:=by
 have HP:∀ {h:Fl},h∈fO t q→Cn (fun a b=>(a,b)∈fE t q) h (bP t h,true):=fun {h} hh=>by
  obtain ⟨e,b⟩:=h;cases b
  ·exact .one (jJ.2 ⟨hh,.inl rfl⟩)
  ·exact .refl _
 have MB:∀ {h:Fl},h∈fO t q→(bP t h,true)∈fO t q:=fun {h} hh=>by
  rw [aM] at hh ⊢;exact ⟨vx hh.1,by show q (bP t h).1=true; rw [BZ]; exact hh.2⟩
 constructor
 ·intro c;have key:(bP t y,true)∈fO t q∧Cn (fun a b=>(a,b)∈fE t q) (bP t x,true) (bP t y,true):=by
   refine Cn.yB (P:=fun v=>((v,true):Fl)∈fO t q∧Cn (fun a b=>(a,b)∈fE t q) (bP t x,true) (v,true)) (fun u v e=>?_) c ⟨MB hx,.refl _⟩;rw [vy g] at e;obtain ⟨s,hs,b,rfl,rfl⟩:=e;have ea:=(g.sS s hs).1;have eb:=(g.sS s hs).2.1;have qq:=hq s hs;have tr:∀ (ma:((sA s,b):Fl)∈fO t q) (mb:((sB s,b == s.2.2.2.2):Fl)∈fO t q),Cn (fun a b=>(a,b)∈fE t q) (bP t (sA s,b),true) (bP t (sB s,b == s.2.2.2.2),true):=fun ma mb=>(HP ma).symm.trans ((Cn.one (jJ.2 ⟨ma,.inr (HO g hs b)⟩)).trans (HP mb))
   constructor
   ·rintro ⟨k,d⟩;have k:=(aM.1 k).2;have k:q (bP t (sA s,b)).1=true:=k;rw [BZ] at k;have ma:((sA s,b):Fl)∈fO t q:=aM.2 ⟨ea,k⟩;have mb:((sB s,b == s.2.2.2.2):Fl)∈fO t q:=aM.2 ⟨eb,by rw [← k]; exact qq.symm⟩;exact ⟨MB mb,d.trans (tr ma mb)⟩
   ·rintro ⟨k,d⟩;have k:=(aM.1 k).2;have k:q (bP t (sB s,b == s.2.2.2.2)).1=true:=k;rw [BZ] at k;have mb:((sB s,b == s.2.2.2.2):Fl)∈fO t q:=aM.2 ⟨eb,k⟩;have ma:((sA s,b):Fl)∈fO t q:=aM.2 ⟨ea,by rw [← k]; exact qq⟩;exact ⟨MB ma,d.trans (tr ma mb).symm⟩
  exact (HP hx).trans (key.2.trans (HP hy).symm)
 ·intro c;have key:Cn (fun a b=>(a,b)∈(dU t).map Kr) (bP t x) (bP t y):=by
   refine Cn.yB (P:=fun v=>Cn (fun a b=>(a,b)∈(dU t).map Kr) (bP t x) (bP t v)) (fun u v e=>?_) c (.refl _);rw [jJ] at e;obtain ⟨hu,e|e⟩:=e
   ·rw [e,Ts (aM.1 hu).1]
   ·rcases WV g e with k|k
    ·exact ⟨fun z=>.step z k,fun z=>.back z k⟩
    ·exact ⟨fun z=>.back z k,fun z=>.step z k⟩
  exact key
theorem JZ {t:aZ} (g:Gd t):∀ p∈(dU t).map Kr,p.1∈cT t∧p.2∈cT t:=by
 rintro ⟨x,y⟩ hp;rw [vy g] at hp;obtain ⟨s,hs,b,rfl,rfl⟩:=hp;exact ⟨iO.2 (vx (g.sS s hs).1),iO.2 (vx (g.sS s hs).2.1)⟩
theorem AY {K:Type} [DecidableEq K] {m:List (K × Int)} (hn:(m.map ab9).Nodup) {e:K × Int}:e∈m↔e.1∈m.map ab9∧e.2=a7 m e.1:=by
 constructor
 ·intro h;refine ⟨List.mem_map_of_mem h,?_⟩;obtain ⟨i,hi,rfl⟩:=aaM h;unfold a7;rw [HM m i hi hn]; rfl
 ·rintro ⟨h1,h2⟩;obtain ⟨x,hx,e1⟩:=aay.1 h1;obtain ⟨i,hi,rfl⟩:=aaM hx;have:a7 m e.1=m[i].2:=by
   unfold a7;rw [← e1,HM m i hi hn]; rfl
  rw [this] at h2;rw [show e=m[i] from aaP e1.symm h2];exact hx
theorem Tt {t:aZ} (g:Gd t) (piece:Int):(F6 (ah t) piece (dF t)).length=uN t (au (ah t) piece):=by
 obtain ⟨h1,h2,_⟩:=uO (uL t) (JZ g);obtain ⟨d1,d2⟩:=DV (ah t) piece (dF t);have nd:((dF t).map ab9).Nodup:=by
  show ((gb (cT t) ((dU t).map Kr)).map ab9).Nodup;rw [h1]; exact uL t
 have hq:=Et g piece;have Ul:∀ x∈fO t (au (ah t) piece),∀ y∈fO t (au (ah t) piece),(a7 (dF t) (bP t x)=a7 (dF t) (bP t y)↔bT (fE t (au (ah t) piece)) x=bT (fE t (au (ah t) piece)) y):=fun x hx y hy=>by
  rw [cm,← sX g hq hx hy];exact h2 _ (iO.2 (vx (aM.1 hx).1)) _ (iO.2 (vx (aM.1 hy).1))
 unfold uN;rw [lZ Ul];refine (uI (g:=fun x=>a7 (dF t) (bP t x)) d1 fun x=>?_).symm;rw [d2];constructor
 ·rintro ⟨e,he,hm,rfl⟩;rw [AY nd] at he;obtain ⟨k1,k2⟩:=he;have k1:e.1∈cT t:=by rw [← h1]; exact k1
  exact ⟨(e.1,true),aM.2 ⟨iO.1 k1,hm⟩,k2.symm⟩
 ·rintro ⟨y,hy,rfl⟩;have hy:=aM.1 hy;refine ⟨(bP t y,a7 (dF t) (bP t y)),(AY nd).2 ⟨?_,rfl⟩,by rw [BZ]; exact hy.2,rfl⟩;show bP t y∈(gb (cT t) ((dU t).map Kr)).map ab9;rw [h1];exact iO.2 (vx hy.1)
theorem uR {α:Type} (pc:List Int) (piece:Int) (key:α→Int):∀ (l:List α) (s:Int),nB pc piece key l s=s+((l.filter fun x=>au pc piece (key x)).length:Int)
 |[],s=>by show s=s+0; omega
 |x :: l,s=>by
  show nB pc piece key l (if au pc piece (key x)=true then s+1 else s)=_;rw [uR pc piece key l];by_cases h:au pc piece (key x)=true
  ·rw [if_pos h,List.filter_cons_of_pos (p:=fun x=>au pc piece (key x)) h,aa0]; omega
  ·rw [if_neg h,List.filter_cons_of_neg (p:=fun x=>au pc piece (key x)) h]
end Go.Proofs.Ytegoimldbgdeiaa
namespace Go.Proofs.Ytegoimldbgdeiaa
open Go Go.Am
open List (map)
open Int (toNat)
open Go.IntKind (wrap)
open Go.Am.aL (fits)
set_option maxRecDepth 100000
theorem J0:jo KE (fun k:Int × Int=>AV.agg [AV.int .i64 k.1,AV.int .i64 k.2]) AV.bool rG:=⟨fun a b=>ND a b,fun _=>rfl,fun _=>rfl⟩
theorem Og (a b:Int) (m:List ((Int × Int) × Bool)):cX KE (AV.agg [AV.int .i64 a,AV.int .i64 b]) (ar (map rG m))=true:=J0.keys (a,b) m
theorem Yy (a b:Int) (v:Bool) (m:List ((Int × Int) × Bool)):dq KE (AV.agg [AV.int .i64 a,AV.int .i64 b]) (AV.bool v) (ar (map rG m))=ar (map rG (fx (a,b) v m)):=J0.put (a,b) v m
theorem J1 (m:List ((Int × Int) × Bool)):ab (ar (map rG m))=map rG m:=J0.cells m
theorem J2 (m:List ((Int × Int) × Bool)):iz (ar (map rG m))=true:=J0.iz m
theorem af6 (a b:Int) (m:List ((Int × Int) × Bool)):bK KE (AV.agg [AV.int .i64 a,AV.int .i64 b]) (AV.bool false) (ar (map rG m))=AV.bool ((getM (a,b) m).getD false):=J0.getD (a,b) false m
theorem Tu (l:List (List (Int × Int))) (x:List (Int × Int)):map kD l++[AV.list .gZ 2 (map lg x)]=map kD (l++[x]):=by rw [aa6]; rfl
theorem af7:allFit (fits Js) ([]:List AV)=true:=rfl
theorem af8:map d50 ([]:List AV)=[]:=rfl
theorem acp:allFit (fits pj) ([]:List AV)=true:=rfl
theorem acq:map uG ([]:List AV)=[]:=rfl
def mW (l:List (Int × Int)):List ((Int × Int) × Bool):=l.map fun x=>(x,true)
theorem Tv (l:List (Int × Int)) (x:Int × Int):(getM x (mW l)).getD false=decide (x∈l):=by
 unfold mW;rw [zQ];by_cases h:x∈l
 ·rw [if_pos h]; simp [h]
 ·rw [if_neg h]; simp [h]
theorem Tw {l:List (Int × Int)} {x:Int × Int} (h:x∉l):fx x true (mW l)=mW (l++[x]):=by
 have:getM x (mW l)=none:=by unfold mW; rw [zQ,if_neg h]
 rw [yt this];unfold mW;rw [aa6]; rfl
theorem Tx {t:aZ} (g:Gd t) {e:Int × Int} (he:dw t e=true):(EB t e).2≠e.2:=by
 have h:=dK.1 he;have p:=g.E5 e.1 h.1 h.2.1;unfold EB;dsimp only;split <;> omega
theorem WW {t:aZ} (g:Gd t) {h:Fl} (he:dw t h.1=true):(h.1.2 == (bP t h).2)=h.2:=by
 obtain ⟨e,b⟩:=h;cases b
 ·show (e.2 == (EB t e).2)=false;rw [beq_eq_false_iff_ne];exact fun k=>Tx g he k.symm
 ·exact beq_self_eq_true _
theorem yS {t:aZ} (g:Gd t) {e:Int × Int} (he:dw t e=true) (b c:Bool):mT (bP t (e,b)) (bP t (e,c))=(b == c):=by
 cases b <;> cases c
 ·exact dS.2 rfl
 ·show mT (EB t e) e=false;cases h:mT (EB t e) e
  ·rfl
  ·exact absurd (congrArg Prod.snd (dS.1 h)) (Tx g he)
 ·show mT e (EB t e)=false;cases h:mT e (EB t e)
  ·rfl
  ·exact absurd (congrArg Prod.snd (dS.1 h)).symm (Tx g he)
 ·exact dS.2 rfl
theorem Ty {t:aZ} (g:Gd t) {s:kQ} (hs:s∈t.2):dE t s=(((bP t (sA s,true)).1,(bP t (sA s,true)).2,(bP t (sB s,true == s.2.2.2.2)).1,(bP t (sB s,true == s.2.2.2.2)).2),((bP t (sA s,false)).1,(bP t (sA s,false)).2,(bP t (sB s,false == s.2.2.2.2)).1,(bP t (sB s,false == s.2.2.2.2)).2)):=by
 have u1:=sW g (g.sS s hs).1;have u2:=sW g (g.sS s hs).2.1;have u1:Jr t (s.1,s.2.1)=EB t (sA s):=u1;have u2:Jr t (s.2.2.1,s.2.2.2.1)=EB t (sB s):=u2;unfold dE;simp only [u1,u2];cases s.2.2.2.2 <;> rfl
section
variable {N:Nat} (hN:eZ N)
omit hN in
theorem Tz {t:aZ} (g:Gd t) {h:Fl} (he:dw t h.1=true):Mj N (t,h.1,bP t h)=some (gk t h).1:=by
 obtain ⟨f,b⟩:=h;obtain ⟨k,i,e,hk,hi⟩:=qg he;have e:f=((k:Int),(i:Int)):=e;subst e;have hb:=dK.1 he;have p:3≤BQ t (k:Int)∧BQ t (k:Int)≤8:=g.E5 (k:Int) hb.1 hb.2.1;obtain ⟨a1,a2⟩:=wg t.1 hk;have sk:=zV t hk;have lb:((i:Int) == (bP t (((k:Int),(i:Int)),b)).2)=b:=WW g he;rw [show Mj N (t,(((k:Int),(i:Int)),b).1,bP t (((k:Int),(i:Int)),b))=Mj N ((t.1,t.2),((k:Int),(i:Int)),((bP t (((k:Int),(i:Int)),b)).1,(bP t (((k:Int),(i:Int)),b)).2)) from rfl,V3];simp only [lb,aal,ai hk,aas,a1,a2,aat,cond_true];rw [sk] at p;cases b
 ·rfl
 ·have d:decide ((t.1[k].2.length:Int)=0)=false:=decide_eq_false (by omega);simp only [d,abd,cond_true];show some _=some (Qy t ((k:Int),(i:Int)));congr 1;refine aaP rfl ?_;show Int.tmod (wrap .i64 (wrap .i64 ((i:Int)+(t.1[k].2.length:Int)) - 1)) (t.1[k].2.length:Int)=if (i:Int)=0 then (BQ t (k:Int):Int) - 1 else (i:Int) - 1
  rw [sk,wR (x:=(i:Int)+(t.1[k].2.length:Int)) ⟨by omega,by omega⟩,wR ⟨by omega,by omega⟩];split
  ·rename_i c;rw [c,Int.zero_add,Int.tmod_eq_of_lt (by omega) (by omega)]
  ·rw [Int.tmod_eq_emod_of_nonneg (by omega),show (i:Int)+(t.1[k].2.length:Int) - 1=((i:Int) - 1)+(t.1[k].2.length:Int) by omega,Int.add_emod_right,Int.emod_eq_of_lt (by omega) (by omega)]
include hN
theorem acr {t:aZ} (g:Gd t) {i:Nat} (hi:i < t.2.length) (o:Int × Int) (y:Bool) (h' z:Fl) (hh:kN t h'=some z) (hm:(h'.1=sA t.2[i]∧z.1=sB t.2[i])∨(h'.1=sB t.2[i]∧z.1=sA t.2[i])) :
  aw (mR N t h'.1 (o,(i:Int),y) ((dE t t.2[i]).1.1,(dE t t.2[i]).1.2.1,(dE t t.2[i]).1.2.2.1,(dE t t.2[i]).1.2.2.2,(dE t t.2[i]).2.1,(dE t t.2[i]).2.2.1,(dE t t.2[i]).2.2.2.1,(dE t t.2[i]).2.2.2.2)) N (0,(bP t h').1,(bP t h').2)=some (bP t z):=by
 have hs:=aav hi;obtain ⟨ea,eb,ne⟩:=g.sS _ hs;obtain ⟨a1,a2⟩:=uE t.2 hi;have jl:=Ty g hs;have big:2 < N:=by unfold eZ at hN; omega
 have w01:wrap .i64 (0+1)=1:=rfl;have rt:∀ (c d:Int × Int),(some (Sum.inr (c.1,c.2)):Option ((Int × Int × Int) ⊕ (Int × Int)))=some (Sum.inr c):=fun _ _=>rfl
 have hA:∀ e,mT (t.2[i].1,t.2[i].2.1) e=mT (sA t.2[i]) e:=fun _=>rfl
 have hB:∀ e,mT (t.2[i].2.2.1,t.2[i].2.2.2.1) e=mT (sB t.2[i]) e:=fun _=>rfl
 rcases hm with ⟨m1,m2⟩|⟨m1,m2⟩
 ·have zz:=HO g hs h'.2;rw [← m1] at zz;have zz:kN t h'=_:=zz;rw [hh] at zz;have zz:=aa3 zz;have cA:mT (sA t.2[i]) h'.1=true:=dS.2 m1.symm;have cB:mT (sB t.2[i]) h'.1=false:=by
   cases h:mT (sB t.2[i]) h'.1
   ·rfl
   ·exact absurd ((dS.1 h).trans m1).symm ne
  obtain ⟨f,b⟩:=h';have m1:f=sA t.2[i]:=m1;subst m1;rw [zz];have c1:=yS g ea true b;have c2:=yS g ea false b;cases b
  ·refine aV 1 (fun k=>((k:Int),(bP t (sA t.2[i],false)).1,(bP t (sA t.2[i],false)).2)) _ (fun k hk=>?_) ?_ N 0 (by omega) (by omega)
   ·have:k=0:=by omega
    subst this;simp only [mR,jl,show decide (((0:Nat):Int) < 2)=true from rfl,show decide (((0:Nat):Int)=0)=true from rfl,cond_true,aae,aal,ai hi,aas,a1,a2,aat,gU,hA,hB,cA,cB,c1,c2,cond_false,w01];rfl
   ·simp only [mR,jl,show decide (((1:Nat):Int) < 2)=true from rfl,show decide (((1:Nat):Int)=0)=false from rfl,show decide (((1:Nat):Int)=1)=true from rfl,cond_true,cond_false,aae,aal,ai hi,aas,a1,a2,aat,gU,hA,hB,cA,cB,c1,c2];rfl
  ·refine aV 0 (fun k=>((k:Int),(bP t (sA t.2[i],true)).1,(bP t (sA t.2[i],true)).2)) _ (fun k hk=>absurd hk (by omega)) ?_ N 0 (by omega) (by omega);simp only [mR,jl,show decide (((0:Nat):Int) < 2)=true from rfl,show decide (((0:Nat):Int)=0)=true from rfl,cond_true,aae,aal,ai hi,aas,a1,a2,aat,gU,hA,hB,cA,cB,c1,c2];rfl
 ·have zz:=HO g hs z.2;rw [← m2] at zz;have zz:kN t z=_:=zz;have hz:=N1 g hh;rw [hz] at zz;have zz:=aa3 zz;have cB:mT (sB t.2[i]) h'.1=true:=dS.2 m1.symm;have cA:mT (sA t.2[i]) h'.1=false:=by
   cases h:mT (sA t.2[i]) h'.1
   ·rfl
   ·exact absurd ((dS.1 h).trans m1) ne
  obtain ⟨f,b⟩:=z;have m2:f=sA t.2[i]:=m2;subst m2;rw [zz] at cA cB ⊢;have cA:mT (sA t.2[i]) (sB t.2[i])=false:=cA;have cB:mT (sB t.2[i]) (sB t.2[i])=true:=cB;have c1:=yS g eb (true == t.2[i].2.2.2.2) (b == t.2[i].2.2.2.2);have c2:=yS g eb (false == t.2[i].2.2.2.2) (b == t.2[i].2.2.2.2);cases b
  ·have d1:((true == t.2[i].2.2.2.2) == (false == t.2[i].2.2.2.2))=false:=by cases t.2[i].2.2.2.2 <;> rfl
   have d2:((false == t.2[i].2.2.2.2) == (false == t.2[i].2.2.2.2))=true:=by cases t.2[i].2.2.2.2 <;> rfl
   rw [d1] at c1;rw [d2] at c2;refine aV 1 (fun k=>((k:Int),(bP t (sB t.2[i],false == t.2[i].2.2.2.2)).1,(bP t (sB t.2[i],false == t.2[i].2.2.2.2)).2)) _ (fun k hk=>?_) ?_ N 0 (by omega) (by omega)
   ·have:k=0:=by omega
    subst this;simp only [mR,jl,show decide (((0:Nat):Int) < 2)=true from rfl,show decide (((0:Nat):Int)=0)=true from rfl,cond_true,aae,aal,ai hi,aas,a1,a2,aat,gU,hA,hB,cA,cB,c1,c2,cond_false,w01];rfl
   ·simp only [mR,jl,show decide (((1:Nat):Int) < 2)=true from rfl,show decide (((1:Nat):Int)=0)=false from rfl,show decide (((1:Nat):Int)=1)=true from rfl,cond_true,cond_false,aae,aal,ai hi,aas,a1,a2,aat,gU,hA,hB,cA,cB,c1,c2]
  ·have d1:((true == t.2[i].2.2.2.2) == (true == t.2[i].2.2.2.2))=true:=by cases t.2[i].2.2.2.2 <;> rfl
   rw [d1] at c1;refine aV 0 (fun k=>((k:Int),(bP t (sB t.2[i],true == t.2[i].2.2.2.2)).1,(bP t (sB t.2[i],true == t.2[i].2.2.2.2)).2)) _ (fun k hk=>absurd hk (by omega)) ?_ N 0 (by omega) (by omega);simp only [mR,jl,show decide (((0:Nat):Int) < 2)=true from rfl,show decide (((0:Nat):Int)=0)=true from rfl,cond_true,cond_false,aae,aal,ai hi,aas,a1,a2,aat,gU,hA,hB,cA,cB,c1,c2]
end
end Go.Proofs.Ytegoimldbgdeiaa
namespace Go.Proofs.Ytegoimldbgdeiaa
open Go Go.Am
open List (map)
open Int (toNat)
open Go.IntKind (wrap)
open Go.Am.aL (fits)
set_option maxRecDepth 100000
theorem J3 {t:aZ} (h1:t.1.length≤1000) (hs:∀ x∈t.1,x.2.length≤1000):(cT t).length≤1000000:=by
 have:=ot t.1 0 hs;unfold cT;omega
theorem TA {t:aZ} (h1:t.1.length≤1000) (hs:∀ x∈t.1,x.2.length≤1000):j6 t≤2000000:=by
 have:=J3 h1 hs;unfold j6 fO;rw [vv];have:=abQ (fun e:Int × Int=>(fun _=>true) e.1) (cT t);omega
theorem J4 {t:aZ} (h1:t.1.length≤1000) (hs:∀ x∈t.1,x.2.length≤1000):(aT t).length≤1000000:=by
 have:=J3 h1 hs;have:=abQ (fun e:Int × Int=>(zX t e).isNone) (cT t);unfold aT;omega
theorem TB {t:aZ} (g:Gd t):∀ s∈t.2,VS t s=true:=fun s hs=>by
 obtain ⟨a,b,_⟩:=g.sS s hs;have ok:∀ e,dw t e=true→VR t e=true:=fun e he=>by
  have:=dK.1 he;unfold VR;simp only [aaA,decide_eq_true_eq,Bool.not_eq_true',beq_eq_false_iff_ne];exact ⟨⟨this.1,this.2.1⟩,by omega⟩
 unfold VS;rw [aaA];exact ⟨ok _ a,ok _ b⟩
section
variable {N:Nat} (hN:eZ N)
include hN
theorem TC {t:aZ} (g:Gd t) (ht:t.2.length≤1000000) {x:Fl} (he:dw t x.1=true) :
  F5 N t (x.1.1,x.1.2,(bP t x).1,(bP t x).2,0,0)=match kN t (gk t x) with
   |some y=>some (.inl (y.1.1,y.1.2,(bP t y).1,(bP t y).2,0,0))
   |none=>some (.inr ((gk t x).2,(gk t x).1.1,(gk t x).1.2,(bP t x).1,(bP t x).2,(gk t x).1.1,(gk t x).1.2)):=by
 have q1:=Tz (N:=N) g he;have q1:Mj N ((t.1,t.2),(x.1.1,x.1.2),((bP t x).1,(bP t x).2))=some (gk t x).1:=q1;have q2:=JM hN t (gk t x).1 ht;have q2:V0 N ((t.1,t.2),((gk t x).1.1,(gk t x).1.2))=_:=q2;have sl:=Ts he;have se:=BW he;simp only [F5,bN,bO,bZ,b8,aat,aau,cond_true,aae,q1,q2];cases hm:zX t (gk t x).1 with
 |none=>
  have hmu:kN t (gk t x)=none:=by unfold kN eF; rw [hm]; rfl
  have e1:mT (gk t x).1 (bP t x)=(gk t x).2:=by
   have:=yS g se true (gk t x).2;rw [← sl];have this:mT (gk t x).1 (bP t (gk t x))=(true == (gk t x).2):=this;rw [this]; cases (gk t x).2 <;> rfl
  simp only [JK,hm,hmu,abd,cond_true,beq_self_eq_true,aau,Eb];rw [show ((gk t x).1.1,(gk t x).1.2)=(gk t x).1 from rfl,show ((bP t x).1,(bP t x).2)=bP t x from rfl,e1]
 |some i=>
  obtain ⟨hi,hh⟩:=JL hm;obtain ⟨a1,a2⟩:=uE t.2 hi;have hmu:kN t (gk t x)=some (Bm (bj t i) (gk t x).1,(gk t x).2 == (bj t i).2.2.2.2):=by unfold kN eF; rw [hm]; rfl
  have ok:=TB g _ (aav hi);have q3:=FZ N t t.2[i] ok;have q3:L7 N ((t.1,t.2),(t.2[i].1,t.2[i].2.1,t.2[i].2.2.1,t.2[i].2.2.2.1,t.2[i].2.2.2.2))=_:=q3;have q4:=acr hN g hi (Bm (bj t i) (gk t x).1) true (gk t x) _ hmu (by
   rw [yN] at hh;have ne:=(g.sS _ (aav hi)).2.2;rw [lm t hi];unfold Bm;by_cases c:mT (t.2[i].1,t.2[i].2.1) (gk t x).1=true
   ·rw [if_pos c]; exact .inl ⟨(dS.1 c).symm,rfl⟩
   ·rw [if_neg c]; exact .inr ⟨(hh.resolve_left fun d=>c (dS.2 d)).symm,rfl⟩)
  rw [sl] at q4;simp only [JK,hm,hmu,Bool.not_true,cond_false,cond_true,aal,ai hi,aas,a1,a2,aat,q3,aae];rw [q4];rfl
theorem acs {t:aZ} (g:Gd t) (ht:t.2.length≤1000000) (h1:t.1.length≤1000) (hs:∀ x∈t.1,x.2.length≤1000) {h:Fl} (hf:eO t h):XY N (t,h.1,bP t h)=some (EC t (j6 t) h):=by
 have I:=inv2 g (PZ t);obtain ⟨m,x,hm,w1,w2,e,hx⟩:=Th g hf;have gK:h∈fO t fun _=>true:=aM.2 ⟨hf.1,rfl⟩
 have st:∀ k,k < m→∃ y z,qN (fun x=>kN t (gk t x)) h k=some y∧kN t (gk t y)=some z∧qN (fun x=>kN t (gk t x)) h (k+1)=some z∧dw t y.1=true:=fun k hk=>by
  obtain ⟨z,hz⟩:=sQ (f:=fun x=>kN t (gk t x)) (k+1) x (m - (k+1)) (by rw [show k+1+(m - (k+1))=m by omega]; exact w1);obtain ⟨y,a,b⟩:=gj hz;exact ⟨y,z,a,b,hz,(aM.1 (jb (f:=fun x=>kN t (gk t x)) gK I.cl k y a)).1⟩
 have key:=aV (rd:=F5 N t) m (fun k=>((((qN (fun x=>kN t (gk t x)) h k).getD h).1.1,((qN (fun x=>kN t (gk t x)) h k).getD h).1.2,(bP t ((qN (fun x=>kN t (gk t x)) h k).getD h)).1,(bP t ((qN (fun x=>kN t (gk t x)) h k).getD h)).2,(0:Int),(0:Int)):Int × Int × Int × Int × Int × Int)) ((gk t x).2,(gk t x).1.1,(gk t x).1.2,(bP t x).1,(bP t x).2,(gk t x).1.1,(gk t x).1.2) (fun k hk=>by
  obtain ⟨y,z,a,b,c,d⟩:=st k hk;simp only [a,c,Option.getD_some];rw [TC hN g ht d,b]) (by
  simp only [w1,Option.getD_some];rw [TC hN g ht hx,w2]) N 0 (Nat.zero_le _) (by have:=TA h1 hs; unfold eZ at hN; omega)
 have key:aw (F5 N t) N (h.1.1,h.1.2,(bP t h).1,(bP t h).2,0,0)=_:=key;rw [show XY N (t,h.1,bP t h)=XY N ((t.1,t.2),(h.1.1,h.1.2),((bP t h).1,(bP t h).2)) from rfl,aaX];have key:aw (F5 N (t.1,t.2)) N (h.1.1,h.1.2,(bP t h).1,(bP t h).2,0,0)=_:=key;simp only [key,aae];rw [e]
theorem acu {t:aZ} (g:Gd t) (ht:t.2.length≤1000000) (h1:t.1.length≤1000) (hs:∀ x∈t.1,x.2.length≤1000) (fr:List (Int × Int)) (i:Nat) (hi:i < fr.length) (a b:List (List (Int × Int))) (m:List ((Int × Int) × Bool)) (out:List (List (Int × Int))) (Bo U:List (Int × Int)) {h:Fl} (hf:eO t h) (hU:h.1∉U) (hl:Bo.length≤1000000) (ho:out.length≤1000000) :
  lU N t fr (a,(i:Int),m) (out,Bo,!h.2,h.1.1,h.1.2,mW U)=some (if (sT t h).1=fr[i] then .inr (out++[Bo++[h.1]],(sT t h).1.1,(sT t h).1.2,mW (U++[h.1])) else .inl (out,Bo++[h.1],!(sT t h).2,(sT t h).1.1,(sT t h).1.2,mW (U++[h.1]))):=by
 obtain ⟨b1,b2⟩:=DJ fr hi;have ok:VR t h.1=true:=by
  have:=dK.1 hf.1;unfold VR;simp only [aaA,decide_eq_true_eq,Bool.not_eq_true',beq_eq_false_iff_ne];exact ⟨⟨this.1,this.2.1⟩,by omega⟩
 have q1:=Hy N t h.1 ok;rw [sW g hf.1] at q1;have q1:Qr N ((t.1,t.2),(h.1.1,h.1.2))=_:=q1;have q2:=acs hN g ht h1 hs hf;have d1:decide ((Bo.length+1) * 16≤140737488355328)=true:=decide_eq_true (by omega);have d2:decide ((out.length+1) * 24≤140737488355328)=true:=decide_eq_true (by omega);have pe:fx (h.1.1,h.1.2) true (mW U)=mW (U++[h.1]):=Tw hU;have en:sT t h=((EC t (j6 t) h).1,!(EC t (j6 t) h).2):=rfl;have lu:∀ c:Int × Int,bP t h=c→XY N ((t.1,t.2),(h.1.1,h.1.2),(c.1,c.2))=some (EC t (j6 t) h):=fun c hc=>by rw [← hc]; exact q2
 have sn:map lg Bo++[AV.agg [AV.int .i64 h.1.1,AV.int .i64 h.1.2]]=map lg (Bo++[h.1]):=Me Bo h.1.1 h.1.2;have main:∀ c:Int × Int,bP t h=c→(XY N ((t.1,t.2),(h.1.1,h.1.2),(c.1,c.2))).bind (fun Jt=>(bif mT Jt.1 fr[i] then some (Sum.inr (out++[Bo++[h.1]],Jt.1.1,Jt.1.2,mW (U++[h.1]))) else some (Sum.inl (out,Bo++[h.1],Jt.2,Jt.1.1,Jt.1.2,mW (U++[h.1]))):Option ((List (List (Int × Int)) × List (Int × Int) × Bool × Int × Int × List ((Int × Int) × Bool)) ⊕ (List (List (Int × Int)) × Int × Int × List ((Int × Int) × Bool)))))=some (if (sT t h).1=fr[i] then .inr (out++[Bo++[h.1]],(sT t h).1.1,(sT t h).1.2,mW (U++[h.1])) else .inl (out,Bo++[h.1],!(sT t h).2,(sT t h).1.1,(sT t h).1.2,mW (U++[h.1]))):=fun c hc=>by
  rw [lu c hc,aae];by_cases k:(EC t (j6 t) h).1=fr[i]
  ·have k':(sT t h).1=fr[i]:=k;rw [dS.2 k,cond_true,if_pos k']; rfl
  ·have:mT (EC t (j6 t) h).1 fr[i]=false:=by
    cases hh:mT (EC t (j6 t) h).1 fr[i]
    ·rfl
    ·exact absurd (dS.1 hh) k
   have k':¬ (sT t h).1=fr[i]:=k;rw [this,cond_false,if_neg k',en];simp only [Bool.not_not]
 cases hb:h.2
 ·have lc:bP t h=EB t h.1:=by unfold bP; rw [hb]; rfl
  have:=main _ lc;simp only [lU,hX,qe,aal,eq_self,decide_true,d1,d2,Og,bN,bO,bZ,b8,gA,gB,Mg,Mh,sn,Yy,pe,J1,J2,DL,DM,Tu,q1,aat,aau,abd,cond_true,cond_false,aae,List.length_append,aa0,aaK,Nat.zero_add,aas,b1,gU,show ((fr[i]).1,(fr[i]).2)=fr[i] from rfl];exact this
 ·have lc:bP t h=h.1:=by unfold bP; rw [hb]; rfl
  have:=main _ lc;simp only [lU,hX,qe,aal,eq_self,decide_true,d1,d2,Og,bN,bO,bZ,b8,gA,gB,Mg,Mh,sn,Yy,pe,J1,J2,DL,DM,Tu,q1,aat,aau,Bool.not_true,cond_true,cond_false,aae,List.length_append,aa0,aaK,Nat.zero_add,aas,b1,gU,show ((fr[i]).1,(fr[i]).2)=fr[i] from rfl];exact this
theorem WX {t:aZ} (g:Gd t) (ht:t.2.length≤1000000) (h1:t.1.length≤1000) (hs:∀ x∈t.1,x.2.length≤1000) (fr:List (Int × Int)) (i:Nat) (hi:i < fr.length) (hb:fr[i]∈aT t) (a:List (List (Int × Int))) (m:List ((Int × Int) × Bool)) (out:List (List (Int × Int))) (U:List (Int × Int)) (hU:∀ e∈j7 t fr[i],e∉U) (ho:out.length≤1000000) :
  aw (lU N t fr (a,(i:Int),m)) N (out,[],true,fr[i].1,fr[i].2,mW U)=some (out++[j7 t fr[i]],fr[i].1,fr[i].2,mW (U++j7 t fr[i])):=by
 obtain ⟨k,k1,k2,k3,k4,ec,k5⟩:=mV g hb;have fl:=J4 h1 hs;obtain ⟨k,rfl⟩:∃ j,k=j+1:=⟨k - 1,by omega⟩;have it:∀ j,j≤k→(kO t fr[i] j).1∉U++(aax j).map fun j=>(kO t fr[i] j).1:=fun j hj hm=>by
  rcases List.mem_append.1 hm with hm|hm
  ·exact hU _ (by rw [ec]; exact aay.2 ⟨j,List.mem_range.2 (by omega),rfl⟩) hm
  ·obtain ⟨l,hl,e⟩:=aay.1 hm;exact k4 l j (List.mem_range.1 hl) (by omega) e
 have rs:∀ j,((aax j).map fun j=>(kO t fr[i] j).1)++[(kO t fr[i] j).1]=(aax (j+1)).map fun j=>(kO t fr[i] j).1:=fun j=>by rw [List.range_succ,aa6]; rfl
 have rd:=fun j (hj:j≤k)=>acu hN g ht h1 hs fr i hi a a m out ((aax j).map fun j=>(kO t fr[i] j).1) (U++(aax j).map fun j=>(kO t fr[i] j).1) (lr g hb j) (it j hj) (by rw [aal,List.length_range]; omega) ho
 have key:=aV (rd:=lU N t fr (a,(i:Int),m)) k (fun j=>(out,(aax j).map (fun j=>(kO t fr[i] j).1),!(kO t fr[i] j).2,(kO t fr[i] j).1.1,(kO t fr[i] j).1.2,mW (U++(aax j).map fun j=>(kO t fr[i] j).1))) (out++[j7 t fr[i]],fr[i].1,fr[i].2,mW (U++j7 t fr[i])) (fun j hj=>by
  rw [rd j (by omega),List.append_assoc,rs j];have:¬ (sT t (kO t fr[i] j)).1=fr[i]:=k5 (j+1) (by omega) (by omega);rw [if_neg this];rfl) (by
  rw [rd k (Nat.le_refl _),List.append_assoc,rs k];have e:sT t (kO t fr[i] k)=(fr[i],false):=k3;rw [e,if_pos rfl,← ec]) N 0 (Nat.zero_le _) (by unfold eZ at hN; omega)
 have e0:U++(aax 0).map (fun j=>(kO t fr[i] j).1)=U:=by simp
 rw [e0] at key;exact key
theorem WY {t:aZ} (g:Gd t) (ht:t.2.length≤1000000) (h1:t.1.length≤1000) (hs:∀ x∈t.1,x.2.length≤1000):∃ U,aw (sP N t (aT t)) N ([],0,mW [])=some (aD t,mW U):=by
 have fl:=J4 h1 hs;have inv:∀ k,k≤(aT t).length→JU t ((aT t).take k) (((aT t).take k).foldl (HK t) ([],[])):=fun k hk=>by
  have:=JU.fold g ((aT t).take k) [] ([],[]) (fun x hx=>List.mem_of_mem_take hx) JU.nil;exact this
 have key:=aV (rd:=sP N t (aT t)) (aT t).length (fun k=>((((aT t).take k).foldl (HK t) ([],[])).1,(k:Int),mW (((aT t).take k).foldl (HK t) ([],[])).2)) (aD t,mW ((aT t).foldl (HK t) ([],[])).2) (fun k hk=>by
  obtain ⟨b1,b2⟩:=DJ (aT t) hk;have hb:(aT t)[k]∈aT t:=aav hk;have I:=inv k (by omega);obtain ⟨s,hsd⟩:∃ s,s=((aT t).take k).foldl (HK t) ([],[]):=⟨_,rfl⟩;have nx:((aT t).take (k+1)).foldl (HK t) ([],[])=HK t s (aT t)[k]:=by
   rw [List.take_add_one,List.getElem?_eq_getElem hk,hsd];show ((aT t).take k++[(aT t)[k]]).foldl (HK t) ([],[])=_;rw [List.foldl_append]; rfl
  rw [← hsd] at I ⊢;rw [nx];have so:s.1.length≤1000000:=by
   have:=I.head.length_le;rw [aal,List.length_take] at this;omega
  have gm:bK KE (AV.agg [AV.int .i64 (aT t)[k].1,AV.int .i64 (aT t)[k].2]) (AV.bool false) (ar (map rG (mW s.2)))=AV.bool (decide ((aT t)[k]∈s.2)):=by
   rw [af6,Tv]
  have f4:∀ b,fits p4 (AV.bool b)=true:=fun _=>rfl
  have g4:∀ b,d4 (AV.bool b)=b:=fun _=>rfl
  unfold HK;by_cases c:(aT t)[k]∈s.2
  ·rw [if_pos c];have dc:decide ((aT t)[k]∈s.2)=true:=decide_eq_true c;simp only [sP,uH,aal,ay hk,ai hk,aas,b1,b2,Og,gm,f4,g4,dc,Mg,Mh,J1,J2,DL,DM,bc (show k < 9223372036854775807 by omega),aat,aau,cond_true,aae,eq_self,decide_true]
  ·rw [if_neg c];have dc:decide ((aT t)[k]∈s.2)=false:=decide_eq_false c;have q:=WX hN g ht h1 hs (aT t) k hk hb s.1 (mW s.2) s.1 s.2 (z7 g hb I.Tl c) so;simp only [sP,uH,aal,ay hk,ai hk,aas,b1,b2,Og,gm,f4,g4,dc,Mg,Mh,Jo,Jp,List.map_nil,aaK,J1,J2,DL,DM,bc (show k < 9223372036854775807 by omega),aat,aau,cond_true,cond_false,aae,eq_self,decide_true,q]) (by
  rw [List.take_length];simp only [sP,uH,aal,aS,Mg,Mh,J1,J2,DL,DM,aat,aau,cond_true,cond_false,aae,eq_self,decide_true];rfl) N 0 (Nat.zero_le _) (by unfold eZ at hN; omega)
 exact ⟨_,key⟩
theorem Eu {t:aZ} (g:Gd t) (ht:t.2.length≤1000000) (h1:t.1.length≤1000) (hs:∀ x∈t.1,x.2.length≤1000):NO N t=some (aD t):=by
 have q:=Ef hN t h1 hs ht;have q:PA N (t.1,t.2)=_:=q;obtain ⟨U,key⟩:=WY hN g ht h1 hs;have key:aw (sP N (t.1,t.2) (aT t)) N ([],0,[])=_:=key;rw [show NO N t=NO N (t.1,t.2) from rfl,aaY];simp only [bN,bO,bZ,b8,aat,aau,cond_true,aae,q,af7,af8,acp,acq,c0_,a0_,List.map_nil,aaK,eq_self,decide_true,key,Mg,Mh]
end
end Go.Proofs.Ytegoimldbgdeiaa
