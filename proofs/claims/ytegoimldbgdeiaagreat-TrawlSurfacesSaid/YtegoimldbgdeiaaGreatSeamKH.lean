/- Corners,Pieces and Count of the program; rows compared; the greatest number in rows. -/
import Derived.Test.YtegoimldbgdeiaaGreatSeamKG
import Derived.Test.YtegoimldbgdeiaaGreatTrzW
import Derived.Test.YtegoimldbgdeiaaGreatTrzSl
set_option linter.all false
open Bool renaming and_self→aah, and_true→aak, not_true→aaG, not_false→abp
open Int renaming toNat_natCast→aaq
open List renaming length_map→aag, mem_map→aar, range→aas, length_nil→aaF, getElem_mem→aaN, mem_range→abr, length_range→abt, map_append→abu, length_replicate→abw, mem_cons_of_mem→abx
open Nat renaming zero_le→abv
open Option renaming bind_some→aaa
namespace Go.Proofs.YtegoimldbgdeiaaGreat
open Go Go.Am
open List (map)
open Int (toNat)
open Go.IntKind (wrap)
open Go.Am.aM (fits)
set_option maxRecDepth 100000
section
variable {N:Nat} (hN:eQ N)
include hN
theorem Uy {t:bk} (v:Vd t):TH N t=some (qG t,0):=by
 have g:=v.gd;have k0:=AH hN t;have k0:OD N (t.1,t.2)=some (iO t):=k0;have le:=v.le;have se:=v.tV;have hs:∀ p:Nat,p < t.1.length→kh t (p:Int)≤1000:=fun p hp=>by
  have:=(g.E4 (p:Int) (by omega) (by omega)).2;omega
 have k1:=xx hN t (by omega) v.KG (by omega) (Nt g);have k1:Ww N (t.1,t.2)=some (bE t):=k1;have k2:=Ya hN t (by omega) hs (bE t);have d1:decide ((0:Int)≤(t.1.length:Int)∧(t.1.length:Int)≤(t.1.length:Int)∧(t.1.length:Int)≤140737488355328∧(t.1.length:Int) * 24≤140737488355328)=true:=decide_eq_true (by omega);have hz:(List.replicate t.1.length (AV.list .nil 0 [])).length=t.1.length:=abw;have l2:(EV (List.replicate t.1.length [])).length=t.1.length:=by rw [kI,abw]
 rw [show TH N t=TH N (t.1,t.2) from rfl,TJ];simp only [bT,cg,bU,cj,aah,aak,cond_true,aaa,k0,v.err,bne_self_eq_false,cond_false,k1,aag,d1,aaq,EW,hz,aaF,List.nil_append,inF,lnF,cR,cS,cL,cM,mw,my,zq,zr,l2,abt,Nat.beq_refl,k2,kI,eL,decide_true,wkF,agW,lB,lC];rfl
theorem Yb {t:bk} (h:iO t≠0):TH N t=some ([],iO t):=by
 have k0:=AH hN t;have k0:OD N (t.1,t.2)=some (iO t):=k0;have hb:(iO t != 0)=true:=by simpa using h
 have f0:allFit (fits kH) ([]:List AV)=true:=rfl;have m0:map d59 ([]:List AV)=[]:=rfl;rw [show TH N t=TH N (t.1,t.2) from rfl,TJ];simp only [bT,cg,bU,cj,aah,aak,cond_true,aaa,k0,hb,f0,m0]
theorem Yc {t:bk} (v:Vd t):Tc N t=some (ax t,0):=by
 have k0:=AH hN t;have k0:OD N (t.1,t.2)=some (iO t):=k0;have le:=v.le;have se:=v.tV;have q1:YY N (t.1,t.2)=some (ax t):=xw hN t (by omega) (by omega);rw [show Tc N t=Tc N (t.1,t.2) from rfl,Td];simp only [bT,cg,bU,cj,aah,aak,cond_true,aaa,k0,v.err,bne_self_eq_false,cond_false,q1,ji,jj]
theorem Yd {t:bk} (h:iO t≠0):Tc N t=some ([],iO t):=by
 have k0:=AH hN t;have k0:OD N (t.1,t.2)=some (iO t):=k0;have hb:(iO t != 0)=true:=by simpa using h
 have f0:allFit (fits p3) ([]:List AV)=true:=rfl;have m0:map d3 ([]:List AV)=[]:=rfl;rw [show Tc N t=Tc N (t.1,t.2) from rfl,Td];simp only [bT,cg,bU,cj,aah,aak,cond_true,aaa,k0,hb,f0,m0]
theorem Ye {t:bk} (h:iO t≠0):Tg N t=some ((0,0,0,0,0,0),iO t):=by
 have k0:=AH hN t;have k0:OD N (t.1,t.2)=some (iO t):=k0;have hb:(iO t != 0)=true:=by simpa using h
 rw [show Tg N t=Tg N (t.1,t.2) from rfl,Th];simp only [bT,cg,bU,cj,aah,aak,cond_true,aaa,k0,hb]
theorem Uz (l:List (List Int)) (h:l.length≤1000000) (hr:∀ r∈l,r.length≤1000000):T24 N (l,l)=some true:=by
 have key:=aF (rd:=EY N l l) l.length (fun k=>(k:Int)) (.inr ()) (fun k hk=>by
  obtain ⟨a1,a2⟩:=g59 l hk;have q:T26 N (gL l (k:Int),gL l (k:Int))=some true:=Ky hN _ (by rw [Ud l hk]; exact hr _ (aaN hk));have w:wrap .i64 ((k:Int)+1)=((k+1:Nat):Int):=aS (by omega);simp only [EY,aag,ar hk,ah hk,aaq,a1,a2,ji,jj,aah,aak,cond_true,aaa,q,aaG,cond_false,w]) (by
  simp only [EY,aag,aI,cond_false]) N 0 (abv _) (by unfold eQ at hN; omega)
 have key:aA (EY N l l) N 0=_:=key;rw [adH];simp only [aag,bne_self_eq_false,cond_false,key,aaa];rfl
omit hN in
theorem EZ {α β:Type} (f:β→α→β):∀ (l:List (List α)) (b:β),l.foldl (fun b r=>r.foldl f b) b=l.flatten.foldl f b
 |[],_=>rfl
 |r :: l,b=>by rw [List.foldl_cons,List.flatten_cons,List.foldl_append,EZ f l]
theorem O5 (l:List (List Int)) (h:l.length≤1000000) (hr:∀ r∈l,r.length≤1000000):T74 N l=some (l.flatten.foldl (fun m x=>if x > m then x else m) (-1)):=by
 have inn:∀ (k:Nat) (hk:k < l.length) (s:Int),aA (vl N l (s,(k:Int))) N (s,0)=some ((l[k]).foldl (fun m x=>if x > m then x else m) s):=fun k hk s=>by
  obtain ⟨a1,a2⟩:=g59 l hk;rw [Ud l hk] at a1;have hl:=hr _ (aaN hk);exact dT (rd:=vl N l (s,(k:Int))) l[k] (fun (s:Int) j=>(s,(j:Int))) (fun m x=>if x > m then x else m) (fun s=>s) (fun _ _=>True) (fun s' j hj _=>by
   obtain ⟨b1,b2⟩:=Iq l[k] hj;refine ⟨?_,trivial⟩;simp only [vl,aag,ah hk,aaq,a1,a2,ar hj,ah hj,b1,b2,aS (show j < 9223372036854775807 by omega),aah,cond_true]) (fun s' _=>by
   simp only [vl,aag,ah hk,aaq,a1,a2,aI,aah,cond_true,cond_false]) N s 0 (by omega) (by unfold eQ at hN; omega) trivial
 have key:=dT (rd:=EA N l) l (fun (s:Int) k=>(s,(k:Int))) (fun s r=>r.foldl (fun m x=>if x > m then x else m) s) (fun s=>s) (fun _ _=>True) (fun s k hk _=>by
  refine ⟨?_,trivial⟩;simp only [EA,aag,ar hk,inn k hk s,cond_true,aaa,aS (show k < 9223372036854775807 by omega)]) (fun s _=>by
  simp only [EA,aag,aI,cond_false]) N (-1) 0 (by omega) (by unfold eQ at hN; omega) trivial
 rw [ac7];have key:aA (EA N l) N (-1,0)=_:=key;rw [key,← EZ];rfl
end
end Go.Proofs.YtegoimldbgdeiaaGreat
namespace Go.Proofs.YtegoimldbgdeiaaGreat
open Go Go.Am
open List (map)
open Int (toNat)
open Go.IntKind (wrap)
open Go.Am.aM (fits)
set_option maxRecDepth 100000
theorem KL:jw KE (fun k:Int × Int=>AV.agg [AV.int .i64 k.1,AV.int .i64 k.2]) n3 tP:=⟨fun a b=>HS a b,fun _=>rfl,fun _=>rfl⟩
theorem O6 (a b:Int) (m:List ((Int × Int) × Int)):cW KE (AV.agg [AV.int .i64 a,AV.int .i64 b]) (az (map tP m))=true:=KL.keys (a,b) m
theorem O7 (a b:Int) (m:List ((Int × Int) × Int)):bS KE (AV.agg [AV.int .i64 a,AV.int .i64 b]) (AV.int .i64 0) (az (map tP m))=n3 (aK m (a,b)):=KL.getD (a,b) 0 m
theorem ag5 (a b v:Int) (m:List ((Int × Int) × Int)):eu KE (AV.agg [AV.int .i64 a,AV.int .i64 b]) (AV.int .i64 v) (az (map tP m))=az (map tP (gl (a,b) v m)):=KL.put (a,b) v m
theorem KM (m:List ((Int × Int) × Int)):ae (az (map tP m))=map tP m:=KL.cells m
theorem KN (m:List ((Int × Int) × Int)):iD (az (map tP m))=true:=KL.iD m
def qf (l:List (Int × Int)):List ((Int × Int) × Int):=l.map fun x=>(x,1)
theorem KO (l:List (Int × Int)) (x:Int × Int):aK (qf l) x=if x∈l then 1 else 0:=by
 unfold aK
 induction l with
 |nil=>rfl
 |cons y l ih=>
  show (if x=y then some (1:Int) else getM x (qf l)).getD 0=_;by_cases e:x=y
  ·rw [if_pos e,if_pos (by rw [e]; exact List.mem_cons_self)]; rfl
  ·rw [if_neg e,ih];by_cases h:x∈l
   ·rw [if_pos h,if_pos (abx _ h)]
   ·rw [if_neg h,if_neg fun k=>(List.mem_cons.1 k).elim e h]
theorem UA {l:List (Int × Int)} {x:Int × Int} (h:x∉l):gl x 1 (qf l)=qf (l++[x]):=by
 induction l with
 |nil=>rfl
 |cons y l ih=>
  have hy:¬ x=y:=fun e=>h (by rw [e]; exact List.mem_cons_self)
  show (if x=y then (x,(1:Int)) :: qf l else (y,1) :: gl x 1 (qf l))=(y,1) :: qf (l++[x]);rw [if_neg hy,ih fun k=>h (abx _ k)]
theorem adI (l:List (List (Int × Int))) (x:List (Int × Int)):map OM l++[AV.list .iu 2 (map BY x)]=map OM (l++[x]):=by rw [abu]; rfl
theorem ag6 (l:List (Int × Int)) {k:Nat} (hk:k < l.length):d77 (af (map BY l) k)=l[k]∧fits M7 (af (map BY l) k)=true:=by
 rw [gb BY l k hk]; exact ⟨rfl,rfl⟩
section
variable {N:Nat} (hN:eQ N)
include hN
theorem UB {t:bk} (g:Gd t) (ht:t.2.length≤1000000) {h:Fl} (he:eK t h.1=true) (c1 c2:Int) :
  Gz N t (h.2,h.1.1,h.1.2,c1,c2)=some (match lx t (e7 t h) with | some y=>.inl (y.2,y.1.1,y.1.2,c1,c2) | none=>.inr (h.2,(e7 t h).1.1,(e7 t h).1.2,(e7 t h).1.1,(e7 t h).1.2)):=by
 have hh:=fq.1 he;obtain ⟨p,hp⟩:∃ p:Nat,h.1.1=p:=⟨h.1.1.toNat,by omega⟩;have Q8:p < t.1.length:=by omega
 have pn:=g.E4 h.1.1 hh.1 hh.2.1;rw [hp] at hh pn;obtain ⟨a1,a2⟩:=zv t.1 Q8;have sl:t.1[p].2.length=kh t (p:Int):=(pO t Q8).symm;have hn:decide (((kh t (p:Int):Nat):Int)=0)=false:=decide_eq_false (by omega);have q:=GC hN t (e7 t h).1 ht;have q:H0 N ((t.1,t.2),(e7 t h).1.1,(e7 t h).1.2)=_:=q;have E4:=H6 t h;rw [hp] at E4;rw [E4] at q;have res:(some (Ko t (e7 t h).1)).bind (fun y3:(Int × Int) × Bool × Bool=>(bif (!y3.2.2) then (some (Sum.inr (h.2,(p:Int),(e7 t h).1.2,(p:Int),(e7 t h).1.2))) else (some (Sum.inl ((!(h.2 == y3.2.1)),y3.1.1,y3.1.2,c1,c2))):Option ((Bool × Int × Int × Int × Int) ⊕ (Bool × Int × Int × Int × Int))))=some (match lx t (e7 t h) with | some y=>.inl (y.2,y.1.1,y.1.2,c1,c2) | none=>.inr (h.2,(e7 t h).1.1,(e7 t h).1.2,(e7 t h).1.1,(e7 t h).1.2)):=by
  rw [aaa];unfold lx fP Ko;cases hm:qB t (e7 t h).1 with
  |none=>simp only [Option.map_none,abp,cond_true,E4]
  |some i=>
   simp only [Option.map_some,aaG,cond_false,H5];cases h.2 <;> cases (fm t i).2.2.2.2 <;> rfl
 cases hb:h.2 with
 |false=>
  have e2:(e7 t h).1=wo t h.1:=by
   rw [mT g he];unfold e7;rw [hb]; rfl
  have e3:Int.tmod (wrap .i64 (h.1.2+1)) ((kh t (p:Int):Nat):Int)=(e7 t h).1.2:=by
   rw [e2];unfold wo;rw [hp]
  rw [hb] at res;simp only [Gz,aag,hp,ah Q8,aaq,a1,a2,sl,hn,e3,BZ,Ep,B0,Er,abp,aah,aak,cond_true,cond_false,aaa,q];rw [← res];rfl
 |true=>
  have e3:Int.tmod (wrap .i64 (wrap .i64 (h.1.2+((kh t (p:Int):Nat):Int)) - 1)) ((kh t (p:Int):Nat):Int)=(e7 t h).1.2:=by
   have w1:wrap .i64 (h.1.2+((kh t (p:Int):Nat):Int))=h.1.2+((kh t (p:Int):Nat):Int):=KZ ⟨by omega,by omega⟩;have w2:wrap .i64 (h.1.2+((kh t (p:Int):Nat):Int) - 1)=h.1.2+((kh t (p:Int):Nat):Int) - 1:=KZ ⟨by omega,by omega⟩;rw [w1,w2];unfold e7 T3;rw [hb];simp only [if_true,hp];rw [Int.tmod_eq_emod_of_nonneg (by omega)];by_cases z:h.1.2=0
   ·rw [if_pos z,z,Int.zero_add];exact Int.emod_eq_of_lt (by omega) (by omega)
   ·rw [if_neg z];have:h.1.2+((kh t (p:Int):Nat):Int) - 1=(h.1.2 - 1)+((kh t (p:Int):Nat):Int):=by omega
    rw [this,Int.add_emod_right];exact Int.emod_eq_of_lt (by omega) (by omega)
  rw [hb] at res;simp only [Gz,aag,hp,ah Q8,aaq,a1,a2,sl,hn,e3,BZ,Ep,B0,Er,abp,aah,aak,cond_true,cond_false,aaa,q];rw [← res];rfl
theorem UC {t:bk} (g:Gd t) (ht:t.2.length≤1000000) (h1:t.1.length≤1000) (hs:∀ x∈t.1,x.2.length≤1000) {h:Fl} (hf:lW t h):T66 N (t,h.1,h.2)=some (tQ t h):=by
 have I:=inv2 g (T6 t);obtain ⟨m,x,hm,w1,w2,e,hx⟩:=ZB g hf;have gY:h∈nG t fun _=>true:=dW.2 ⟨hf.1,rfl⟩
 have st:∀ k,k < m→∃ y z,pX (fun x=>lx t (e7 t x)) h k=some y∧lx t (e7 t y)=some z∧pX (fun x=>lx t (e7 t x)) h (k+1)=some z∧eK t y.1=true:=fun k hk=>by
  obtain ⟨z,hz⟩:=qz (f:=fun x=>lx t (e7 t x)) (k+1) x (m - (k+1)) (by rw [show k+1+(m - (k+1))=m by omega]; exact w1);obtain ⟨y,a,b⟩:=hX hz;exact ⟨y,z,a,b,hz,(dW.1 (kd (f:=fun x=>lx t (e7 t x)) gY I.cl k y a)).1⟩
 have key:=aF (rd:=Gz N t) m (fun k=>((((pX (fun x=>lx t (e7 t x)) h k).getD h).2,((pX (fun x=>lx t (e7 t x)) h k).getD h).1.1,((pX (fun x=>lx t (e7 t x)) h k).getD h).1.2,(0:Int),(0:Int)):Bool × Int × Int × Int × Int)) (x.2,(e7 t x).1.1,(e7 t x).1.2,(e7 t x).1.1,(e7 t x).1.2) (fun k hk=>by
  obtain ⟨y,z,a,b,c,d⟩:=st k hk;simp only [a,c,Option.getD_some];rw [UB hN g ht d,b]) (by
  simp only [w1,Option.getD_some];rw [UB hN g ht hx,w2]) N 0 (abv _) (by have:=KF h1 hs; unfold eQ at hN; omega)
 have key:aA (Gz N t) N (h.2,h.1.1,h.1.2,0,0)=_:=key;have nx:tQ t h=((e7 t x).1,x.2):=by
  unfold tQ;rw [e];unfold B1;rw [H5,Bool.not_not]
 rw [show T66 N (t,h.1,h.2)=T66 N (t,(h.1.1,h.1.2),h.2) from rfl,acT];simp only [key,aaa];rw [nx]
theorem adJ {t:bk} (g:Gd t) (ht:t.2.length≤1000000) (h1:t.1.length≤1000) (hs:∀ x∈t.1,x.2.length≤1000) (out:List (List (Int × Int))) (Bz U:List (Int × Int)) {h:Fl} (hf:lW t h) (hl:Bz.length≤1000000) :
  mG N t (out,Bz,h.2,h.1.1,h.1.2,qf U)=some (if h.1∈U then .inr (out,Bz,h.1.1,h.1.2,qf U) else .inl (out,Bz++[h.1],(tQ t h).2,(tQ t h).1.1,(tQ t h).1.2,qf (U++[h.1]))):=by
 have d1:decide ((Bz.length+1) * 16≤140737488355328)=true:=decide_eq_true (by omega);have q:=UC hN g ht h1 hs hf;have q:T66 N ((t.1,t.2),(h.1.1,h.1.2),h.2)=_:=q;have gv:aK (qf U) (h.1.1,h.1.2)=if h.1∈U then 1 else 0:=KO U h.1
 by_cases c:h.1∈U
 ·rw [if_pos c] at gv ⊢;have z:((1:Int) == 0)=false:=rfl;simp only [mG,nB,O6,O7,gv,Gl,Gm,z,cond_true,cond_false,aah,Qk,Ql,M8,M9,KM,KN,Ex,Ey,aag,decide_true,aaa]
 ·rw [if_neg c] at gv ⊢;have z:((0:Int) == 0)=true:=rfl;have pe:gl (h.1.1,h.1.2) 1 (qf U)=qf (U++[h.1]):=UA c;have sn:map BY Bz++[AV.agg [AV.int .i64 h.1.1,AV.int .i64 h.1.2]]=map BY (Bz++[h.1]):=TW Bz h.1.1 h.1.2;simp only [mG,nB,O6,O7,gv,Gl,Gm,z,cond_true,aah,aak,d1,q,ag5,pe,sn,BZ,B0,Ep,Er,Qk,Ql,M8,M9,KM,KN,Ex,Ey,aag,List.length_append,List.length_cons,aaF,Nat.zero_add,decide_true,aaa]
theorem Yf {t:bk} (g:Gd t) (ht:t.2.length≤1000000) (h1:t.1.length≤1000) (hs:∀ x∈t.1,x.2.length≤1000) {b:Int × Int} (hb:b∈bf t) (out:List (List (Int × Int))) (U:List (Int × Int)) (hU:∀ e∈pS t b,e∉U) :
  aA (mG N t) N (out,[],false,b.1,b.2,qf U)=some (out,pS t b,b.1,b.2,qf (U++pS t b)):=by
 obtain ⟨k,k1,k2,k3,k4,ec,k5⟩:=sy g hb;have fl:=zK h1 hs;have it:∀ j,j < k→(jD t b j).1∉U++(aas j).map fun j=>(jD t b j).1:=fun j hj hm=>by
  rcases List.mem_append.1 hm with hm|hm
  ·exact hU _ (by rw [ec]; exact aar.2 ⟨j,abr.2 hj,rfl⟩) hm
  ·obtain ⟨l,hl,e⟩:=aar.1 hm;exact k4 l j (abr.1 hl) hj e
 have rs:∀ j,((aas j).map fun j=>(jD t b j).1)++[(jD t b j).1]=(aas (j+1)).map fun j=>(jD t b j).1:=fun j=>by rw [List.range_succ,abu]; rfl
 have rd:=fun j (hj:j≤k)=>adJ hN g ht h1 hs out ((aas j).map fun j=>(jD t b j).1) (U++(aas j).map fun j=>(jD t b j).1) (qC g hb j) (by rw [aag,abt]; omega)
 have key:=aF (rd:=mG N t) k (fun j=>(out,(aas j).map (fun j=>(jD t b j).1),(jD t b j).2,(jD t b j).1.1,(jD t b j).1.2,qf (U++(aas j).map fun j=>(jD t b j).1))) (out,pS t b,b.1,b.2,qf (U++pS t b)) (fun j hj=>by
  rw [rd j (by omega),if_neg (it j hj),List.append_assoc,rs j];rfl) (by
  rw [rd k (Nat.le_refl _),← ec];have e:jD t b k=(b,false):=k3;have m0:(jD t b k).1∈U++pS t b:=by
   rw [e,ec];exact List.mem_append_right _ (aar.2 ⟨0,abr.2 (by omega),rfl⟩)
  rw [if_pos m0,e]) N 0 (abv _) (by unfold eQ at hN; omega)
 have e0:U++(aas 0).map (fun j=>(jD t b j).1)=U:=by simp
 rw [e0] at key;exact key
theorem Yg {t:bk} (g:Gd t) (ht:t.2.length≤1000000) (h1:t.1.length≤1000) (hs:∀ x∈t.1,x.2.length≤1000):∃ U,aA (tA N t (bf t)) N ([],0,qf [])=some (qD t,qf U):=by
 have fl:=zK h1 hs;have inv:∀ k,k≤(bf t).length→Iv t ((bf t).take k) (((bf t).take k).foldl (Ct t) ([],[])):=fun k hk=>by
  have:=Iv.fold g ((bf t).take k) [] ([],[]) (fun x hx=>List.mem_of_mem_take hx) Iv.nil;exact this
 have f0:allFit (fits M7) ([]:List AV)=true:=rfl;have m0:map d77 ([]:List AV)=[]:=rfl;have key:=aF (rd:=tA N t (bf t)) (bf t).length (fun k=>((((bf t).take k).foldl (Ct t) ([],[])).1,(k:Int),qf (((bf t).take k).foldl (Ct t) ([],[])).2)) (qD t,qf ((bf t).foldl (Ct t) ([],[])).2) (fun k hk=>by
  obtain ⟨b1,b2⟩:=ag6 (bf t) hk;have hb:(bf t)[k]∈bf t:=aaN hk;have I:=inv k (by omega);obtain ⟨s,hsd⟩:∃ s,s=((bf t).take k).foldl (Ct t) ([],[]):=⟨_,rfl⟩;have nx:((bf t).take (k+1)).foldl (Ct t) ([],[])=Ct t s (bf t)[k]:=by
   rw [List.take_add_one,List.getElem?_eq_getElem hk,hsd];show ((bf t).take k++[(bf t)[k]]).foldl (Ct t) ([],[])=_;rw [List.foldl_append]; rfl
  rw [← hsd] at I ⊢;rw [nx];have so:s.1.length≤1000000:=by
   have:=I.head.length_le;rw [aag,List.length_take] at this;omega
  have d2:decide ((s.1.length+1) * 24≤140737488355328)=true:=decide_eq_true (by omega);have gv:aK (qf s.2) ((bf t)[k].1,(bf t)[k].2)=if (bf t)[k]∈s.2 then 1 else 0:=KO s.2 (bf t)[k]
  unfold Ct;by_cases c:(bf t)[k]∈s.2
  ·rw [if_pos c] at gv ⊢;have z:decide ((1:Int) > 0)=true:=rfl;simp only [tA,vi,aag,ar hk,ah hk,aaq,b1,b2,O6,O7,gv,Gl,Gm,z,Qk,Ql,KM,KN,Ex,Ey,aS (show k < 9223372036854775807 by omega),aah,aak,cond_true,aaa,decide_true]
  ·rw [if_neg c] at gv ⊢;have z:decide ((0:Int) > 0)=false:=rfl;have q:=Yf hN g ht h1 hs hb s.1 s.2 (AL g hb I.Uc c);simp only [tA,vi,aag,ar hk,ah hk,aaq,b1,b2,O6,O7,gv,Gl,Gm,z,f0,m0,Qk,Ql,aaF,KM,KN,Ex,Ey,d2,adI,List.length_append,List.length_cons,Nat.zero_add,aS (show k < 9223372036854775807 by omega),aah,aak,cond_true,cond_false,aaa,decide_true,q]) (by
  rw [List.take_length];simp only [tA,vi,aag,aI,Qk,Ql,KM,KN,Ex,Ey,aah,aak,cond_true,cond_false,aaa,decide_true];rfl) N 0 (abv _) (by unfold eQ at hN; omega)
 exact ⟨_,key⟩
theorem UD {t:bk} (g:Gd t) (ht:t.2.length≤1000000) (h1:t.1.length≤1000) (hs:∀ x∈t.1,x.2.length≤1000):T15 N t=some (qD t):=by
 have q:=Kr hN t h1 hs ht;have q:Xr N (t.1,t.2)=_:=q;obtain ⟨U,key⟩:=Yg hN g ht h1 hs;have key:aA (tA N (t.1,t.2) (bf t)) N ([],0,[])=_:=key;have f0:allFit (fits Xs) ([]:List AV)=true:=rfl;have m0:map d49 ([]:List AV)=[]:=rfl;have f1:allFit (fits sj) ([]:List AV)=true:=rfl;have m1:map zp ([]:List AV)=[]:=rfl;rw [show T15 N t=T15 N (t.1,t.2) from rfl,acW];simp only [BZ,B0,Ep,Er,aah,aak,cond_true,aaa,q,f0,m0,f1,m1,c0_,a0_,List.map_nil,aaF,decide_true,key,Qk,Ql]
end
end Go.Proofs.YtegoimldbgdeiaaGreat
namespace Go.Proofs.YtegoimldbgdeiaaGreat
open Go Go.Am
open List (map)
open Int (toNat)
open Go.IntKind (wrap)
open Go.Am.aM (fits)
set_option maxRecDepth 100000
theorem KP {t:bk} (hS:InS t):∀ k,k≤t.2.length→oF t k=(bh t.1.length).map (dJ ((t.2.take k).map qd))
 |0,_=>by
  show bh t.1.length=_;have:dJ ((t.2.take 0).map qd)=(id:Int→Int):=rfl;rw [this,List.map_id]
 |k+1,hk=>by
  obtain ⟨A,B,hA,hA2,hB,hB2⟩:=hS k (by omega);have ih:=KP hS k (by omega);have e:((t.2.take (k+1)).map qd)=(t.2.take k).map qd++[qd (fm t k)]:=by
   rw [List.take_succ_eq_append_getElem (by omega),abu,lU t (by omega)]; rfl
  rw [e,AG];show Nl (oF t k) (gI (oF t k) (fm t k).1) (gI (oF t k) (fm t k).2.2.1)=_;have gi:∀ m:Nat,m < t.1.length→gI (oF t k) (m:Int)=dJ ((t.2.take k).map qd) (m:Int):=fun m hm=>by
   rw [zD _ (by rw [zF]; exact hm)];simp only [ih,List.getElem_map];simp [bh]
  rw [hA,hB,gi A hA2,gi B hB2,ih];unfold Nl;rw [List.map_map];refine List.map_congr_left fun x _=>?_
  show (if dJ _ x=dJ _ (A:Int) then dJ _ (B:Int) else dJ _ x)=ir (dJ _) (qd (fm t k)) x;unfold ir qd;simp only [hA,hB]
theorem UE {t:bk} (g:Gd t):InS t:=fun i hi=>by
 obtain ⟨⟨h1,h2⟩,h3,h4⟩:=Uk g (aaN hi);rw [lU t hi];exact ⟨t.2[i].1.toNat,t.2[i].2.2.1.toNat,by omega,by omega,by omega,by omega⟩
theorem Nv {t:bk} (g:Gd t):Ue (oF t t.2.length)=ax t:=by
 rw [KP (UE g) t.2.length (Nat.le_refl _),List.take_length];unfold ax;exact (GK (AK _) (Ul g) fun x _ y _=>gC _ x y).symm
theorem Yh {t:bk} (g:Gd t):(qG t).flatten.foldl (fun m x=>if x > m then x else m) (-1)+1=((vg (ax t) (-1) (bE t)).length:Int):=by
 unfold qG;rw [xD];obtain ⟨h1,_,n,_,h2,h3⟩:=nL (pR t) (sC g);have h2:∀ x∈cn t,∃ k:Nat,k < n∧aK (bE t) x=(k:Int):=fun x hx=>by
  obtain ⟨k,a,b,_⟩:=h2 x hx;exact ⟨k,a,b⟩
 have h3:∀ k,k < n→∃ x∈cn t,aK (bE t) x=(k:Int):=h3;obtain ⟨d1,d2⟩:=xz (ax t) (-1) (bE t);have nd:((bE t).map Prod.fst).Nodup:=by
  show ((eN (cn t) ((cZ t).map vO)).map Prod.fst).Nodup;rw [h1]; exact pR t
 have dl:(vg (ax t) (-1) (bE t)).length=n:=by
  have:(vg (ax t) (-1) (bE t)).length=(bh n).length:=Zx d1 (AK n) fun x=>by
   rw [d2,ic];constructor
   ·rintro ⟨e,he,_,rfl⟩;rw [qF nd] at he;obtain ⟨k1,k2⟩:=he;have k1:e.1∈cn t:=by rw [← h1]; exact k1
    obtain ⟨k,hk,e3⟩:=h2 e.1 k1;rw [k2,e3];exact ⟨by omega,by omega⟩
   ·rintro ⟨a,b⟩;obtain ⟨y,hy,e3⟩:=h3 x.toNat (by omega);refine ⟨(y,aK (bE t) y),(qF nd).2 ⟨?_,rfl⟩,rfl,by show aK (bE t) y=x; omega⟩;show y∈(eN (cn t) ((cZ t).map vO)).map Prod.fst;rw [h1]; exact hy
  rw [this,gw]
 rw [dl];obtain ⟨_,m2,m3⟩:=EU ((cn t).map (aK (bE t))) (-1);rcases Nat.eq_zero_or_pos n with c|c
 ·rcases m3 with m3|m3
  ·omega
  ·obtain ⟨x,hx,_⟩:=aar.1 m3;obtain ⟨k,hk,_⟩:=h2 x hx;omega
 ·obtain ⟨y,hy,e3⟩:=h3 (n - 1) (by omega);have lo:=m2 _ (aar.2 ⟨y,hy,rfl⟩);rcases m3 with m3|m3
  ·omega
  ·obtain ⟨x,hx,e4⟩:=aar.1 m3;obtain ⟨k,hk,e5⟩:=h2 x hx;omega
theorem UF {α:Type} (pc:List Int) (key:α→Int) (l:List α) (s:Int):qe pc (-1) key l s=s+(l.length:Int):=by
 rw [Kz];have:l.filter (fun x=>eR pc (-1) (key x))=l:=List.filter_eq_self.2 fun x _=>rfl
 rw [this]
section
variable {N:Nat} (hN:eQ N)
include hN
theorem KQ {t:bk} (v:Vd t):Zw N t=some (qG t):=by
 have le:=v.le;have se:=v.tV;rw [Uw hN v.gd (by omega) (by omega),Ux v.gd]
theorem O8 {t:bk} (v:Vd t):Zv N t=some (ax t):=by
 have le:=v.le;have se:=v.tV;rw [Nn hN t (UE v.gd) (by omega) (by omega),Nv v.gd]
theorem GU {t:bk} (v:Vd t):(qG t).length≤1000000∧∀ r∈qG t,r.length≤1000000:=by
 have le:=v.le;refine ⟨by unfold qG; rw [eL]; omega,fun r hr=>?_⟩;obtain ⟨p,hp,rfl⟩:=aar.1 hr;have:=(v.gd.E4 (p:Int) (by omega) (by have:=abr.1 hp; omega)).2;simp; omega
theorem Yi {t:bk} (v:Vd t):T28 N t=some (J8 t (-1) (ax t) (bE t) (bf t) (qD t) ((ET t:Int) - 1)):=by
 have g:=v.gd;have le:=v.le;have se:=v.tV;have fr:=v.free;have q1:Zw N (t.1,t.2)=some (qG t):=KQ hN v;obtain ⟨c1,c2⟩:=GU hN v;have q2:=O5 hN (qG t) c1 c2;have q3:=Kr hN t (by omega) v.KG (by omega);have q3:Xr N (t.1,t.2)=some (bf t):=q3;have q4:Zv N (t.1,t.2)=some (ax t):=O8 hN v;have pl:=zI t;have q5:=O5 hN [ax t] (by simp) (fun r hr=>by
  rw [List.mem_singleton] at hr;rw [hr]; omega)
 have ef:([ax t]:List (List Int)).flatten=ax t:=by simp
 obtain ⟨p0,p1,_,_,p4⟩:=GN v;rw [ef,p4] at q5;have q6:=UD hN g (by omega) (by omega) v.KG;have q6:T15 N (t.1,t.2)=some (qD t):=q6;have pm:=Yh g;have dl:(vg (ax t) (-1) (bE t)).length≤1000000:=by
  obtain ⟨h1,_,n,h0,h2,h3⟩:=nL (pR t) (sC g);rw [Un g];have:=(bds v (eR (ax t) (-1))).ZB;omega
 have w1:wrap .i64 ((qG t).flatten.foldl (fun m x=>if x > m then x else m) (-1)+1)=((vg (ax t) (-1) (bE t)).length:Int):=by rw [pm,KZ ⟨by omega,by omega⟩]
 have w2:wrap .i64 ((t.2.length:Int)+((bf t).length:Int))=(t.2.length:Int)+((bf t).length:Int):=KZ ⟨by omega,by omega⟩;have e1:map d59 [AV.list .iu 1 (map n3 (ax t))]=[ax t]:=by
  show map d59 (map lF [ax t])=_;rw [lC]
 have e2:allFit (fits kH) [AV.list .iu 1 (map n3 (ax t))]=true:=by
  show allFit (fits kH) (map lF [ax t])=true;rw [lB]
 rw [show T28 N t=T28 N (t.1,t.2) from rfl,ada];simp only [BZ,B0,Ep,Er,TT,TU,aah,aak,cond_true,aaa,q1,q2,q3,q4,q5,q6,lB,lC,e1,e2,aag,beq_self_eq_true,w1,w2];unfold J8;simp only [UF,abt,Int.zero_add]
theorem Yj (t:bk):T4 N t=some true:=by
 have k0:T8 N ()=some true:=rfl;obtain ⟨b,s1,s2⟩:=T1 hN t 4;have s1:T9 N ((t.1,t.2),4)=some b:=s1;rw [show T4 N t=T4 N (t.1,t.2) from rfl,ag4];simp only [k0,aaa,aaG,cond_false,BZ,B0,Ep,Er,aah,aak,cond_true,s1];cases b with
 |false=>simp only [abp,cond_true,aaa]
 |true=>
  obtain ⟨b1,b2,b3⟩:=s2 rfl;have ow:=XG hN t (by omega) (fun x hx=>by have:=b3 x hx; omega) (by omega);have ow:T11 N (t.1,t.2)=some t:=ow;have q14:=adk hN t;have q14:T14 N (t.1,t.2)=some (iO t):=q14;by_cases he:iO t=0
  ·have v:=ag2 he;have q21:=Uy hN v;have q21:TH N (t.1,t.2)=_:=q21;have q22:=Yc hN v;have q22:Tc N (t.1,t.2)=_:=q22;have q23:=QF hN v;have q23:Tg N (t.1,t.2)=_:=q23;have q25:Zw N (t.1,t.2)=some (qG t):=KQ hN v;obtain ⟨c1,c2⟩:=GU hN v;have q24:=Uz hN (qG t) c1 c2;have q27:Zv N (t.1,t.2)=some (ax t):=O8 hN v;have pl:=zI t;have q26:T26 N (ax t,ax t)=some true:=Ky hN _ (by omega);have q28:=Yi hN v;have q28:T28 N (t.1,t.2)=_:=q28;rw [he] at q14;have z:((0:Int) != 0)=false:=rfl;have z0:((0:Int) == 0)=true:=rfl;simp only [aaG,cond_false,aaa,ow,bT,bU,cg,cj,aah,aak,cond_true,show (t.1,t.2)=t from rfl,q21,q22,q23,q14,q24,q25,q26,q27,q28,z,z0,lB,lC,ji,jj,beq_self_eq_true]
  ·have q21:=Yb hN he;have q21:TH N (t.1,t.2)=_:=q21;have q22:=Yd hN he;have q22:Tc N (t.1,t.2)=_:=q22;have q23:=Ye hN he;have q23:Tg N (t.1,t.2)=_:=q23;have hb:(iO t != 0)=true:=by simpa using he
   have z0:((0:Int) == 0)=true:=rfl;have z1:(((0:Nat):Int) == 0)=true:=rfl;simp only [aaG,cond_false,aaa,ow,bT,bU,cg,cj,aah,aak,cond_true,show (t.1,t.2)=t from rfl,q21,q22,q23,q14,hb,z0,z1,List.map_nil,aaF,beq_self_eq_true]
end
end Go.Proofs.YtegoimldbgdeiaaGreat
