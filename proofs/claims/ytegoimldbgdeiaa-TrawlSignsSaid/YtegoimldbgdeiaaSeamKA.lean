/- Plain laws: groups that are united. -/
import Derived.Test.YtegoimldbgdeiaaTrwA
import Derived.Test.YtegoimldbgdeiaaAmKM
set_option linter.all false
namespace Go.Proofs.Ytegoimldbgdeiaa
open Go Go.Am
open List (map)
open Int (toNat)
open Go.IntKind (wrap)
open Go.Am.aM (fits)
set_option maxRecDepth 100000
section
variable {K:Type} [DecidableEq K]
theorem Ih (v:Int):∀ (m:List (K × Int)) (i:Nat) (hi:i < m.length),(m.map Prod.fst).Nodup→gR m[i].1 v m=m.set i (m[i].1,v)
 |[],i,hi,_=>by cases hi
 |e :: m,0,_,_=>by
  show gR e.1 v (e :: m)=(e.1,v) :: m;unfold gR;rw [if_pos rfl]
 |e :: m,i+1,hi,hn=>by
  rw [List.map_cons,List.nodup_cons] at hn;have qL:i < m.length:=by simpa using hi
  have cz:e.1≠m[i].1:=fun h=>hn.1 (by rw [h]; exact List.mem_map.2 ⟨m[i],List.getElem_mem qL,rfl⟩)
  show gR m[i].1 v (e :: m)=e :: m.set i (m[i].1,v);unfold gR;rw [if_neg (fun h=>cz h.symm),Ih v m i qL hn.2]
def cn (f:Int→Int) (L:List Nat) (m:List (K × Int)):List (K × Int):=m.mapIdx fun i e=>if i∈L then e else (e.1,f e.2)
theorem gi (f:Int→Int) (L:List Nat) (m:List (K × Int)):(cn f L m).length=m.length:=by simp [cn]
theorem G6 (f:Int→Int) (L:List Nat) (m:List (K × Int)):(cn f L m).map Prod.fst=m.map Prod.fst:=by
 apply List.ext_getElem
 ·simp [cn]
 ·intro i h1 h2;simp only [List.getElem_map,cn,List.getElem_mapIdx];split <;> rfl
theorem qD (f:Int→Int) (L:List Nat) (m:List (K × Int)) {i:Nat} (hi:i < m.length) (hL:i∈L):(cn f L m)[i]'(by rw [gi]; exact hi)=m[i]:=by
 simp only [cn,List.getElem_mapIdx,if_pos hL]
theorem ra (f:Int→Int) (m:List (K × Int)):cn f (List.range m.length) m=m:=by
 apply List.ext_getElem
 ·simp [cn]
 ·intro i h1 h2;simp only [cn,List.getElem_mapIdx,if_pos (List.mem_range.2 h2)]
theorem rb (f:Int→Int) (m:List (K × Int)):cn f [] m=m.map fun e=>(e.1,f e.2):=by
 apply List.ext_getElem
 ·simp [cn]
 ·intro i h1 h2;simp [cn]
theorem pj (f:Int→Int) (L:List Nat) (m:List (K × Int)) {i:Nat} (hi:i < m.length) (hL:i∈L) (hn:L.Nodup) (hk:(m.map Prod.fst).Nodup):gR m[i].1 (f m[i].2) (cn f L m)=cn f (L.erase i) m:=by
 have qL:i < (cn f L m).length:=by rw [gi]; exact hi
 have e:=Ih (f m[i].2) (cn f L m) i qL (by rw [G6]; exact hk);rw [qD f L m hi hL] at e;rw [e];apply List.ext_getElem
 ·simp [cn]
 ·intro j h1 h2;rw [List.getElem_set];by_cases hj:i=j
  ·subst hj;have:i∉L.erase i:=fun h=>(List.Nodup.mem_erase_iff hn).1 h |>.1 rfl
   simp only [if_pos,cn,List.getElem_mapIdx,if_neg this]
  ·rw [if_neg hj];simp only [cn,List.getElem_mapIdx];by_cases G7:j∈L
   ·rw [if_pos G7,if_pos ((List.Nodup.mem_erase_iff hn).2 ⟨fun h=>hj h.symm,G7⟩)]
   ·rw [if_neg G7,if_neg fun h=>G7 (List.mem_of_mem_erase h)]
theorem zJ (f:Int→Int) (L:List Nat) (m:List (K × Int)) {i:Nat} (hi:i < m.length) (hL:i∈L) (hn:L.Nodup) (hf:f m[i].2=m[i].2):cn f L m=cn f (L.erase i) m:=by
 apply List.ext_getElem
 ·simp [cn]
 ·intro j h1 h2;simp only [cn,List.getElem_mapIdx];by_cases hj:i=j
  ·subst hj;have:i∉L.erase i:=fun h=>(List.Nodup.mem_erase_iff hn).1 h |>.1 rfl
   rw [if_pos hL,if_neg this,hf]
  ·by_cases G7:j∈L
   ·rw [if_pos G7,if_pos ((List.Nodup.mem_erase_iff hn).2 ⟨fun h=>hj h.symm,G7⟩)]
   ·rw [if_neg G7,if_neg fun h=>G7 (List.mem_of_mem_erase h)]
def mi (l:List K):List (K × Int):=(l.foldl (fun s x=>(gR x s.2 s.1,s.2+1)) (([]:List (K × Int)),(0:Int))).1
def Mp (a b:Int):Int:=if b > a then b else a
def TY (a b:Int):Int:=if b < a then b else a
def G8 (a b g:Int):Int:=if g=Mp a b then TY a b else g
def bV (m:List (K × Int)) (x:K):Int:=(getM x m).getD 0
def kC (m:List (K × Int)) (p:K × K):List (K × Int):=m.map fun e=>(e.1,G8 (bV m p.1) (bV m p.2) e.2)
def zK (m:List (K × Int)) (ns:List (Int × Int)) (x:K):List (Int × Int):=if (getM (bV m x) ns).isSome then ns else gR (bV m x) (ns.length:Int) ns
def xA (l:List K) (ps:List (K × K)):List (K × Int):=
 let m:=ps.foldl kC (mi l)
 let ns:=l.foldl (zK m) []
 m.map fun e=>(e.1,bV ns e.2)
theorem G9 {k:K} {v:Int} {m:List (K × Int)} (h:(m.map Prod.fst).Nodup):((gR k v m).map Prod.fst).Nodup:=by
 rw [vu];split
 ·exact h
 ·rename_i hk;exact List.nodup_append.2 ⟨h,by simp,fun a ha b hb e=>hk (by rw [List.mem_singleton] at hb; subst hb; subst e; exact ha)⟩
theorem pn (l:List K):((mi l).map Prod.fst).Nodup:=by
 have gen:∀ (l:List K) (s:List (K × Int) × Int),(s.1.map Prod.fst).Nodup→(((l.foldl (fun s x=>(gR x s.2 s.1,s.2+1)) s).1).map Prod.fst).Nodup:=by
  intro l
  induction l with
  |nil=>intro s h; exact h
  |cons x l ih=>intro s h; exact ih _ (G9 h)
 exact gen l _ (by simp)
theorem Mq (f:Int→Int) (m:List (K × Int)):(m.map fun e=>(e.1,f e.2)).map Prod.fst=m.map Prod.fst:=by
 rw [List.map_map]; rfl
theorem vv (m:List (K × Int)) (p:K × K):(kC m p).map Prod.fst=m.map Prod.fst:=Mq _ m
theorem BN (ps:List (K × K)) (m:List (K × Int)) (h:(m.map Prod.fst).Nodup):((ps.foldl kC m).map Prod.fst).Nodup:=by
 induction ps generalizing m with
 |nil=>exact h
 |cons p ps ih=>exact ih _ (by rw [vv]; exact h)
end
abbrev KE:EK:=.st (.cons 0 1 false .int (.cons 1 1 false .int .nil))
theorem wq:iq .int (fun k:Int=>AV.int .i64 k) n3 mb:=⟨fun a b=>Ig .i64 a b,fun _=>rfl,fun _=>rfl⟩
theorem Ha:iq KE (fun k:Int × Int=>AV.agg [AV.int .i64 k.1,AV.int .i64 k.2]) n3 uc:=⟨fun a b=>Pp a b,fun _=>rfl,fun _=>rfl⟩
theorem oa (a:Int) (m:List (Int × Int)):cK .int (AV.int .i64 a) (aC (map mb m))=true:=wq.keys a m
theorem qE (a:Int) (m:List (Int × Int)):aP .int (AV.int .i64 a) (AV.int .i64 0) (aC (map mb m))=n3 (bV m a):=wq.getD a 0 m
theorem Ii (a:Int) (m:List (Int × Int)):(e8 .int (AV.int .i64 a) (aC (map mb m))).isSome=(getM a m).isSome:=by
 rw [wq.get a m]; cases getM a m <;> rfl
theorem EF (a v:Int) (m:List (Int × Int)):cL .int (AV.int .i64 a) (AV.int .i64 v) (aC (map mb m))=aC (map mb (gR a v m)):=wq.put a v m
theorem eV (m:List (Int × Int)):af (aC (map mb m))=map mb m:=wq.cells m
theorem eW (m:List (Int × Int)):jd (aC (map mb m))=true:=wq.jd m
theorem wu (m:List (Int × Int)):(aC (map mb m)).length=m.length:=by rw [wq.Wr,List.length_map]
theorem Q6 (m:List (Int × Int)) {i:Nat} (h:i < m.length):bY (aC (map mb m)) i=(n3 m[i].1,n3 m[i].2):=by
 rw [wq.Wr,EE _ m h]; rfl
theorem JQ (a b:Int) (m:List ((Int × Int) × Int)):cK KE (AV.agg [AV.int .i64 a,AV.int .i64 b]) (aC (map uc m))=true:=Ha.keys (a,b) m
theorem Pq (a b:Int) (m:List ((Int × Int) × Int)):aP KE (AV.agg [AV.int .i64 a,AV.int .i64 b]) (AV.int .i64 0) (aC (map uc m))=n3 (bV m (a,b)):=Ha.getD (a,b) 0 m
theorem TZ (a b v:Int) (m:List ((Int × Int) × Int)):cL KE (AV.agg [AV.int .i64 a,AV.int .i64 b]) (AV.int .i64 v) (aC (map uc m))=aC (map uc (gR (a,b) v m)):=Ha.put (a,b) v m
theorem eJ (m:List ((Int × Int) × Int)):af (aC (map uc m))=map uc m:=Ha.cells m
theorem eK (m:List ((Int × Int) × Int)):jd (aC (map uc m))=true:=Ha.jd m
theorem C6 (m:List ((Int × Int) × Int)):(aC (map uc m)).length=m.length:=by rw [Ha.Wr,List.length_map]
theorem T0 (m:List ((Int × Int) × Int)) {i:Nat} (h:i < m.length):bY (aC (map uc m)) i=(pg m[i].1,n3 m[i].2):=by
 rw [Ha.Wr,EE _ m h]; rfl
theorem iG (L:List Nat):au (map n2 (iF L))=L:=by
 unfold au iF;rw [List.map_map,List.map_map]
 conv=>rhs; rw [← List.map_id L]
 apply List.map_congr_left;intro n _;show ((n:Int)).toNat=n;exact Int.toNat_natCast n
theorem Yu (L:List Nat):a7 L=map n2 (iF L):=by
 unfold a7 iF;rw [List.map_map]; rfl
theorem kF (L:List Nat):allFit (fits p2) (a7 L)=true:=by rw [Yu,wW]
theorem kG (L:List Nat):map d2 (a7 L)=iF L:=by rw [Yu,wX]
theorem EG (l:List Int) {k:Nat} (hk:k < l.length):d3 (ab (map n3 l) k)=l[k]∧fits p3 (ab (map n3 l) k)=true:=by
 rw [fu n3 l k hk,Fc,Fb]; exact ⟨rfl,rfl⟩
theorem Yv (l:List (Int × Int)) {k:Nat} (hk:k < l.length):d23 (ab (map n23 l) k)=l[k]∧fits H9 (ab (map n23 l) k)=true:=by
 rw [fu n23 l k hk,abC,abB]; exact ⟨rfl,rfl⟩
theorem T1 (l:List (Int × Int)) {k:Nat} (hk:k < l.length):d67 (ab (map pg l) k)=l[k]∧fits xy (ab (map pg l) k)=true:=by
 rw [fu pg l k hk,Mf,Me]; exact ⟨rfl,rfl⟩
theorem Q7 (l:List (Int × Int × Int × Int)) {k:Nat} (hk:k < l.length):d174 (ab (map n174 l) k)=l[k]∧fits ub (ab (map n174 l) k)=true:=by
 rw [fu n174 l k hk,Yd,Yc]; exact ⟨rfl,rfl⟩
theorem wv (l:List (Int × Int × Int × Int × Bool)) {k:Nat} (hk:k < l.length):d110 (ab (map n110 l) k)=l[k]∧fits ma (ab (map n110 l) k)=true:=by
 rw [fu n110 l k hk,X9,X8]; exact ⟨rfl,rfl⟩
theorem zL (l:List ((List UInt8) × (List (Int × Int)))) {k:Nat} (hk:k < l.length):d131 (ab (map n131 l) k)=l[k]∧fits nY (ab (map n131 l) k)=true:=by
 rw [fu n131 l k hk,Yb,Ya]; exact ⟨rfl,rfl⟩
end Go.Proofs.Ytegoimldbgdeiaa
namespace Go.Proofs.Ytegoimldbgdeiaa
open Go Go.Am
open List (map)
open Int (toNat)
open Go.IntKind (wrap)
open Go.Am.aM (fits)
set_option maxRecDepth 100000
theorem Pr {N:Nat} (hN:ey N) (l:List Int) (ps:List (Int × Int)) (x1:List Int) (hl:l.length≤1000000):ar (n5 N l) N (x1,l,0,ps,([]:List (Int × Int)))=some (x1,l,ps,mi l):=by
 have key:=dL (rd:=n5 N l) l (fun (s:List (Int × Int) × Int) k=>(x1,l,(k:Int),ps,s.1)) (fun s x=>(gR x s.2 s.1,s.2+1)) (fun s=>(x1,l,ps,s.1)) (fun s k=>s.2=(k:Int)) (fun s k hk hP=>by
  obtain ⟨a1,a2⟩:=EG l hk;refine ⟨?_,by show s.2+1=_; rw [hP]; rfl⟩;rw [hP];simp only [n5,List.length_map,Int.toNat_natCast,ap hk,ah hk,a1,a2,oa,EF,aR (show k < 9223372036854775807 by omega),eV,eW,eJ,eK,wW,wX,dI,dJ,je,jf,jt,ju,cj,ck,bW,bX,fw,fx,cW,cX,kF,kG,Bool.and_self,Bool.and_true,cond_true,cond_false,Option.bind_some,eq_self,decide_true]) (fun s _=>by
  simp only [n5,List.length_map,aJ,eV,eW,eJ,eK,wW,wX,dI,dJ,je,jf,jt,ju,cj,ck,bW,bX,fw,fx,cW,cX,kF,kG,Bool.and_self,Bool.and_true,cond_true,cond_false,Option.bind_some,eq_self,decide_true]) N ([],0) 0 (Nat.zero_le _) (by unfold ey at hN; omega) rfl
 rw [List.drop_zero] at key;exact key
theorem Mr {N:Nat} (l:List Int) (ps:List (Int × Int)) (x1:List Int) (k:Nat) (hk:k < ps.length) (m:List (Int × Int)) (hn:(m.map Prod.fst).Nodup):∀ (n:Nat) (L:List Nat),L.length < n→L.Nodup→(∀ i∈L,i < m.length) →
  dC (kX N (x1,l,(k:Int),ps,m)) n (x1,l,ps,(cn (G8 (bV m ps[k].1) (bV m ps[k].2)) L m),(m.length:Int),(iF L))=some (x1,l,ps,(m.map fun e=>(e.1,G8 (bV m ps[k].1) (bV m ps[k].2) e.2)),(m.length:Int),[])
 |0,L,h,_,_=>by omega
 |n+1,L,h,hL,hi=>by
  rw [mh];obtain ⟨a1,a2⟩:=Yv ps hk;have ih:=fun L'=>Mr (N:=N) l ps x1 k hk m hn n L'
  generalize hf:G8 (bV m ps[k].1) (bV m ps[k].2)=f at *;have JC:=gi f L m;have ec:decide ((cn f L m).length=m.length)=true:=decide_eq_true JC;cases BO:L with
  |nil=>
   have i0:List.isEmpty ([]:List Nat)=true:=rfl;have e0:(cn f [] m).length=m.length:=gi f [] m;simp only [kX,wu,e0,Int.toNat_natCast,iG,i0,rb,List.length_map,eV,eW,eJ,eK,wW,wX,dI,dJ,je,jf,jt,ju,cj,ck,bW,bX,fw,fx,cW,cX,kF,kG,Bool.and_self,Bool.and_true,cond_true,cond_false,Option.bind_some,eq_self,decide_true];rfl
  |cons a L'=>
   rw [← BO];have i0:List.isEmpty L=false:=by rw [BO]; rfl
   simp only [kX,wu,Int.toNat_natCast,ec,cond_true,cond_false,iG,i0];refine tS (by rw [BO]; simp) fun i fN=>?_
   have bO:=hi i fN;have Cr:i < (cn f L m).length:=by rw [JC]; exact bO
   have nJ:(L.erase i).length=L.length - 1:=List.length_erase_of_mem fN;have oM:0 < L.length:=List.length_pos_of_mem fN;have dl:decide (i < m.length)=true:=decide_eq_true bO;have Ps:=ih (L.erase i) (by omega) (hL.erase i) (fun j hj=>hi j (List.mem_of_mem_erase hj));have T2:=qD f L m bO fN;have z0:0+k=k:=Nat.zero_add k;rw [Q6 _ Cr,T2];have agt:d3 (n3 m[i].2)=m[i].2:=Fc _;simp only [Fb,Fc,Fb,Fc,Bool.and_self,cond_true,dl,ec,z0,a1,oa,qE];have dm:f m[i].2=if m[i].2=Mp (bV m ps[k].1) (bV m ps[k].2) then TY (bV m ps[k].1) (bV m ps[k].2) else m[i].2:=by rw [← hf]; rfl
   by_cases hg:m[i].2=Mp (bV m ps[k].1) (bV m ps[k].2)
   ·rw [if_pos hg] at dm;have hb:(m[i].2 == (if bV m ps[k].2 > bV m ps[k].1 then bV m ps[k].2 else bV m ps[k].1))=true:=by rw [hg]; exact beq_self_eq_true _
    have st:=pj f L m bO fN hL hn;rw [dm] at st;have st:gR m[i].1 (if bV m ps[k].2 < bV m ps[k].1 then bV m ps[k].2 else bV m ps[k].1) (cn f L m)=cn f (L.erase i) m:=st;simp only [hb,EF,st,eV,eW,eJ,eK,wW,wX,dI,dJ,je,jf,jt,ju,cj,ck,bW,bX,fw,fx,cW,cX,kF,kG,Bool.and_self,Bool.and_true,cond_true,cond_false,Option.bind_some,eq_self,decide_true];exact Ps
   ·rw [if_neg hg] at dm;have hb:(m[i].2 == (if bV m ps[k].2 > bV m ps[k].1 then bV m ps[k].2 else bV m ps[k].1))=false:=beq_false_of_ne hg;have st:=zJ f L m bO fN hL dm;simp only [hb,eV,eW,eJ,eK,wW,wX,dI,dJ,je,jf,jt,ju,cj,ck,bW,bX,fw,fx,cW,cX,kF,kG,Bool.and_self,Bool.and_true,cond_true,cond_false,Option.bind_some,eq_self,decide_true];rw [st];exact Ps
theorem Pt {N:Nat} (hN:ey N) (l:List Int) (ps:List (Int × Int)) (x1:List Int) (m:List (Int × Int)) (hl:ps.length≤1000000) (hm:m.length≤1000000) (hn:(m.map Prod.fst).Nodup):ar (mc N ((),ps)) N (x1,l,0,ps,m)=some (x1,l,ps,(ps.foldl kC m)):=by
 have key:=dL (rd:=mc N ((),ps)) ps (fun (s:List (Int × Int)) k=>(x1,l,(k:Int),ps,s)) (fun s p=>kC s p) (fun s=>(x1,l,ps,s)) (fun s k=>(s.map Prod.fst).Nodup∧s.length≤1000000) (fun s k hk hP=>by
  obtain ⟨a1,a2⟩:=Yv ps hk;have z0:0+k=k:=Nat.zero_add k;have q:=Mr (N:=N) l ps x1 k hk s hP.1 N (List.range s.length) (by rw [List.length_range]; unfold ey at hN; omega) List.nodup_range (fun i hi=>List.mem_range.1 hi);rw [ra] at q;refine ⟨?_,by rw [vv]; exact hP.1,by unfold kC; rw [List.length_map]; exact hP.2⟩;have dz:decide (ps.length=ps.length)=true:=decide_eq_true rfl;have dk:decide (k < ps.length)=true:=decide_eq_true hk;simp only [mc,List.length_map,Int.toNat_natCast,ap hk,ah hk,z0,a1,a2,dz,dk,oa,qE,Fb,wu,q,aR (show k < 9223372036854775807 by omega),eV,eW,eJ,eK,wW,wX,dI,dJ,je,jf,jt,ju,cj,ck,bW,bX,fw,fx,cW,cX,kF,kG,Bool.and_self,Bool.and_true,cond_true,cond_false,Option.bind_some,eq_self,decide_true];rfl) (fun s _=>by
  simp only [mc,List.length_map,aJ,eV,eW,eJ,eK,wW,wX,dI,dJ,je,jf,jt,ju,cj,ck,bW,bX,fw,fx,cW,cX,kF,kG,Bool.and_self,Bool.and_true,cond_true,cond_false,Option.bind_some,eq_self,decide_true]) N m 0 (Nat.zero_le _) (by unfold ey at hN; omega) ⟨hn,hm⟩
 rw [List.drop_zero] at key;exact key
theorem T5 {N:Nat} (hN:ey N) (l:List Int) (ps:List (Int × Int)) (x1:List Int) (m:List (Int × Int)) (hl:l.length≤1000000):ar (jQ N (l,l,ps,m)) N (x1,l,l,0,ps,m,[])=some (x1,l,l,ps,m,(l.foldl (zK m) [])):=by
 have key:=dL (rd:=jQ N (l,l,ps,m)) l (fun (s:List (Int × Int)) k=>(x1,l,l,(k:Int),ps,m,s)) (zK m) (fun s=>(x1,l,l,ps,m,s)) (fun s k=>True) (fun s k hk hP=>by
  obtain ⟨a1,a2⟩:=EG l hk;refine ⟨?_,trivial⟩;have e:zK m s l[k]=if (getM (bV m l[k]) s).isSome then s else gR (bV m l[k]) (s.length:Int) s:=rfl
  rw [e];cases hs:(getM (bV m l[k]) s).isSome with
  |true=>
   simp only [jQ,List.length_map,Int.toNat_natCast,ap hk,ah hk,a1,a2,oa,qE,oa,qE,Fb,Fc,Ii,hs,Bool.not_true,if_true,aR (show k < 9223372036854775807 by omega),eV,eW,eJ,eK,wW,wX,dI,dJ,je,jf,jt,ju,cj,ck,bW,bX,fw,fx,cW,cX,kF,kG,Bool.and_self,Bool.and_true,cond_true,cond_false,Option.bind_some,eq_self,decide_true]
  |false=>
   simp only [jQ,List.length_map,Int.toNat_natCast,ap hk,ah hk,a1,a2,oa,qE,oa,qE,EF,wu,Fb,Fc,Ii,hs,Bool.not_false,Bool.false_eq_true,if_false,aR (show k < 9223372036854775807 by omega),eV,eW,eJ,eK,wW,wX,dI,dJ,je,jf,jt,ju,cj,ck,bW,bX,fw,fx,cW,cX,kF,kG,Bool.and_self,Bool.and_true,cond_true,cond_false,Option.bind_some,eq_self,decide_true]) (fun s _=>by
  simp only [jQ,List.length_map,aJ,eV,eW,eJ,eK,wW,wX,dI,dJ,je,jf,jt,ju,cj,ck,bW,bX,fw,fx,cW,cX,kF,kG,Bool.and_self,Bool.and_true,cond_true,cond_false,Option.bind_some,eq_self,decide_true]) N [] 0 (Nat.zero_le _) (by unfold ey at hN; omega) trivial
 rw [List.drop_zero] at key;exact key
theorem Ij {N:Nat} (l:List Int) (ps:List (Int × Int)) (x1:List Int) (m:List (Int × Int)) (ns:List (Int × Int)) (hn:(m.map Prod.fst).Nodup):∀ (n:Nat) (L:List Nat),L.length < n→L.Nodup→(∀ i∈L,i < m.length) →
  dC (mT N) n (x1,l,l,ps,(cn (bV ns) L m),ns,(m.length:Int),(iF L))=some (x1,l,l,ps,(m.map fun e=>(e.1,bV ns e.2)),ns,(m.length:Int),[])
 |0,L,h,_,_=>by omega
 |n+1,L,h,hL,hi=>by
  rw [mh];have ih:=fun L'=>Ij (N:=N) l ps x1 m ns hn n L'
  generalize hf:bV ns=f at *;have JC:=gi f L m;have ec:decide ((cn f L m).length=m.length)=true:=decide_eq_true JC;cases BO:L with
  |nil=>
   have i0:List.isEmpty ([]:List Nat)=true:=rfl;have e0:(cn f [] m).length=m.length:=gi f [] m;simp only [mT,wu,e0,Int.toNat_natCast,iG,i0,rb,List.length_map,eV,eW,eJ,eK,wW,wX,dI,dJ,je,jf,jt,ju,cj,ck,bW,bX,fw,fx,cW,cX,kF,kG,Bool.and_self,Bool.and_true,cond_true,cond_false,Option.bind_some,eq_self,decide_true];rfl
  |cons a L'=>
   rw [← BO];have i0:List.isEmpty L=false:=by rw [BO]; rfl
   simp only [mT,wu,Int.toNat_natCast,ec,cond_true,cond_false,iG,i0];refine tS (by rw [BO]; simp) fun i fN=>?_
   have bO:=hi i fN;have Cr:i < (cn f L m).length:=by rw [JC]; exact bO
   have nJ:(L.erase i).length=L.length - 1:=List.length_erase_of_mem fN;have oM:0 < L.length:=List.length_pos_of_mem fN;have dl:decide (i < m.length)=true:=decide_eq_true bO;have Ps:=ih (L.erase i) (by omega) (hL.erase i) (fun j hj=>hi j (List.mem_of_mem_erase hj));have T2:=qD f L m bO fN;rw [Q6 _ Cr,T2];have st:=pj f L m bO fN hL hn;have ev:bV ns m[i].2=f m[i].2:=by rw [hf]
   have st:gR m[i].1 (f m[i].2) (cn f L m)=cn f (L.erase i) m:=st;simp only [Fb,Fc,Fb,Fc,Bool.and_self,cond_true,dl,ec,oa,qE,oa,EF,ev,st,eV,eW,eJ,eK,wW,wX,dI,dJ,je,jf,jt,ju,cj,ck,bW,bX,fw,fx,cW,cX,kF,kG,Bool.and_self,Bool.and_true,cond_true,cond_false,Option.bind_some,eq_self,decide_true];exact Ps
end Go.Proofs.Ytegoimldbgdeiaa
namespace Go.Proofs.Ytegoimldbgdeiaa
open Go Go.Am
open List (map)
open Int (toNat)
open Go.IntKind (wrap)
open Go.Am.aM (fits)
set_option maxRecDepth 100000
theorem Pu {N:Nat} (hN:ey N) (l:List (Int × Int)) (x1:List (Int × Int)) (J:List (Int × Int × Int × Int)) (P:List ((List UInt8) × (List (Int × Int)))) (S:List (Int × Int × Int × Int × Bool)) (E:List (Int × Int)) (hl:l.length≤1000000):ar (mf N (P,S,l)) N (x1,J,l,0,P,S,E,([]:List ((Int × Int) × Int)))=some (x1,J,l,P,S,E,mi l):=by
 have key:=dL (rd:=mf N (P,S,l)) l (fun (s:List ((Int × Int) × Int) × Int) k=>(x1,J,l,(k:Int),P,S,E,s.1)) (fun s x=>(gR x s.2 s.1,s.2+1)) (fun s=>(x1,J,l,P,S,E,s.1)) (fun s k=>s.2=(k:Int)) (fun s k hk hP=>by
  obtain ⟨a1,a2⟩:=T1 l hk;refine ⟨?_,by show s.2+1=_; rw [hP]; rfl⟩;rw [hP];simp only [mf,List.length_map,Int.toNat_natCast,ap hk,ah hk,a1,a2,JQ,TZ,aR (show k < 9223372036854775807 by omega),eV,eW,eJ,eK,wW,wX,dI,dJ,je,jf,jt,ju,cj,ck,bW,bX,fw,fx,dS,dT,cW,cX,kF,kG,Bool.and_self,Bool.and_true,cond_true,cond_false,Option.bind_some,eq_self,decide_true]) (fun s _=>by
  simp only [mf,List.length_map,aJ,eV,eW,eJ,eK,wW,wX,dI,dJ,je,jf,jt,ju,cj,ck,bW,bX,fw,fx,dS,dT,cW,cX,kF,kG,Bool.and_self,Bool.and_true,cond_true,cond_false,Option.bind_some,eq_self,decide_true]) N ([],0) 0 (Nat.zero_le _) (by unfold ey at hN; omega) rfl
 rw [List.drop_zero] at key;exact key
theorem Ms {N:Nat} (l:List (Int × Int)) (ps:List (Int × Int × Int × Int)) (x1:List (Int × Int)) (J:List (Int × Int × Int × Int)) (P:List ((List UInt8) × (List (Int × Int)))) (S:List (Int × Int × Int × Int × Bool)) (E:List (Int × Int)) (k:Nat) (hk:k < ps.length) (m:List ((Int × Int) × Int)) (hn:(m.map Prod.fst).Nodup):∀ (n:Nat) (L:List Nat),L.length < n→L.Nodup→(∀ i∈L,i < m.length) →
  dC (jZ N (x1,J,l,ps,(k:Int),P,S,E,m)) n (x1,J,l,ps,P,S,E,(cn (G8 (bV m (ps[k].1,ps[k].2.1)) (bV m (ps[k].2.2.1,ps[k].2.2.2))) L m),(m.length:Int),(iF L))=some (x1,J,l,ps,P,S,E,(m.map fun e=>(e.1,G8 (bV m (ps[k].1,ps[k].2.1)) (bV m (ps[k].2.2.1,ps[k].2.2.2)) e.2)),(m.length:Int),[])
 |0,L,h,_,_=>by omega
 |n+1,L,h,hL,hi=>by
  rw [mh];obtain ⟨a1,a2⟩:=Q7 ps hk;have ih:=fun L'=>Ms (N:=N) l ps x1 J P S E k hk m hn n L'
  generalize hf:G8 (bV m (ps[k].1,ps[k].2.1)) (bV m (ps[k].2.2.1,ps[k].2.2.2))=f at *;have JC:=gi f L m;have ec:decide ((cn f L m).length=m.length)=true:=decide_eq_true JC;cases BO:L with
  |nil=>
   have i0:List.isEmpty ([]:List Nat)=true:=rfl;have e0:(cn f [] m).length=m.length:=gi f [] m;simp only [jZ,C6,e0,Int.toNat_natCast,iG,i0,rb,List.length_map,eV,eW,eJ,eK,wW,wX,dI,dJ,je,jf,jt,ju,cj,ck,bW,bX,fw,fx,dS,dT,cW,cX,kF,kG,Bool.and_self,Bool.and_true,cond_true,cond_false,Option.bind_some,eq_self,decide_true];rfl
  |cons a L'=>
   rw [← BO];have i0:List.isEmpty L=false:=by rw [BO]; rfl
   simp only [jZ,C6,Int.toNat_natCast,ec,cond_true,cond_false,iG,i0];refine tS (by rw [BO]; simp) fun i fN=>?_
   have bO:=hi i fN;have Cr:i < (cn f L m).length:=by rw [JC]; exact bO
   have nJ:(L.erase i).length=L.length - 1:=List.length_erase_of_mem fN;have oM:0 < L.length:=List.length_pos_of_mem fN;have dl:decide (i < m.length)=true:=decide_eq_true bO;have Ps:=ih (L.erase i) (by omega) (hL.erase i) (fun j hj=>hi j (List.mem_of_mem_erase hj));have T2:=qD f L m bO fN;have z0:0+k=k:=Nat.zero_add k;rw [T0 _ Cr,T2];have agu:d3 (n3 m[i].2)=m[i].2:=Fc _;simp only [Me,Mf,Fb,Fc,Bool.and_self,cond_true,dl,ec,z0,a1,JQ,Pq];have dm:f m[i].2=if m[i].2=Mp (bV m (ps[k].1,ps[k].2.1)) (bV m (ps[k].2.2.1,ps[k].2.2.2)) then TY (bV m (ps[k].1,ps[k].2.1)) (bV m (ps[k].2.2.1,ps[k].2.2.2)) else m[i].2:=by rw [← hf]; rfl
   by_cases hg:m[i].2=Mp (bV m (ps[k].1,ps[k].2.1)) (bV m (ps[k].2.2.1,ps[k].2.2.2))
   ·rw [if_pos hg] at dm;have hb:(m[i].2 == (if bV m (ps[k].2.2.1,ps[k].2.2.2) > bV m (ps[k].1,ps[k].2.1) then bV m (ps[k].2.2.1,ps[k].2.2.2) else bV m (ps[k].1,ps[k].2.1)))=true:=by rw [hg]; exact beq_self_eq_true _
    have st:=pj f L m bO fN hL hn;rw [dm] at st;have st:gR (m[i].1.1,m[i].1.2) (if bV m (ps[k].2.2.1,ps[k].2.2.2) < bV m (ps[k].1,ps[k].2.1) then bV m (ps[k].2.2.1,ps[k].2.2.2) else bV m (ps[k].1,ps[k].2.1)) (cn f L m)=cn f (L.erase i) m:=st;simp only [hb,TZ,st,eV,eW,eJ,eK,wW,wX,dI,dJ,je,jf,jt,ju,cj,ck,bW,bX,fw,fx,dS,dT,cW,cX,kF,kG,Bool.and_self,Bool.and_true,cond_true,cond_false,Option.bind_some,eq_self,decide_true];exact Ps
   ·rw [if_neg hg] at dm;have hb:(m[i].2 == (if bV m (ps[k].2.2.1,ps[k].2.2.2) > bV m (ps[k].1,ps[k].2.1) then bV m (ps[k].2.2.1,ps[k].2.2.2) else bV m (ps[k].1,ps[k].2.1)))=false:=beq_false_of_ne hg;have st:=zJ f L m bO fN hL dm;simp only [hb,eV,eW,eJ,eK,wW,wX,dI,dJ,je,jf,jt,ju,cj,ck,bW,bX,fw,fx,dS,dT,cW,cX,kF,kG,Bool.and_self,Bool.and_true,cond_true,cond_false,Option.bind_some,eq_self,decide_true];rw [st];exact Ps
theorem Pv {N:Nat} (hN:ey N) (l:List (Int × Int)) (ps:List (Int × Int × Int × Int)) (x1:List (Int × Int)) (J:List (Int × Int × Int × Int)) (P:List ((List UInt8) × (List (Int × Int)))) (S:List (Int × Int × Int × Int × Bool)) (E:List (Int × Int)) (m:List ((Int × Int) × Int)) (hl:ps.length≤1000000) (hm:m.length≤1000000) (hn:(m.map Prod.fst).Nodup):ar (kn N (x1,ps,l,P,S,E,m)) N (x1,J,l,ps,0,P,S,E,m)=some (x1,J,l,ps,P,S,E,(ps.foldl (fun s p=>kC s ((p.1,p.2.1),(p.2.2.1,p.2.2.2))) m)):=by
 have key:=dL (rd:=kn N (x1,ps,l,P,S,E,m)) ps (fun (s:List ((Int × Int) × Int)) k=>(x1,J,l,ps,(k:Int),P,S,E,s)) (fun s p=>kC s ((p.1,p.2.1),(p.2.2.1,p.2.2.2))) (fun s=>(x1,J,l,ps,P,S,E,s)) (fun s k=>(s.map Prod.fst).Nodup∧s.length≤1000000) (fun s k hk hP=>by
  obtain ⟨a1,a2⟩:=Q7 ps hk;have z0:0+k=k:=Nat.zero_add k;have q:=Ms (N:=N) l ps x1 J P S E k hk s hP.1 N (List.range s.length) (by rw [List.length_range]; unfold ey at hN; omega) List.nodup_range (fun i hi=>List.mem_range.1 hi);rw [ra] at q;refine ⟨?_,by rw [vv]; exact hP.1,by unfold kC; rw [List.length_map]; exact hP.2⟩;have dz:decide (ps.length=ps.length)=true:=decide_eq_true rfl;have dk:decide (k < ps.length)=true:=decide_eq_true hk;simp only [kn,List.length_map,Int.toNat_natCast,ap hk,ah hk,z0,a1,a2,dz,dk,JQ,Pq,Fb,C6,q,aR (show k < 9223372036854775807 by omega),eV,eW,eJ,eK,wW,wX,dI,dJ,je,jf,jt,ju,cj,ck,bW,bX,fw,fx,dS,dT,cW,cX,kF,kG,Bool.and_self,Bool.and_true,cond_true,cond_false,Option.bind_some,eq_self,decide_true];rfl) (fun s _=>by
  simp only [kn,List.length_map,aJ,eV,eW,eJ,eK,wW,wX,dI,dJ,je,jf,jt,ju,cj,ck,bW,bX,fw,fx,dS,dT,cW,cX,kF,kG,Bool.and_self,Bool.and_true,cond_true,cond_false,Option.bind_some,eq_self,decide_true]) N m 0 (Nat.zero_le _) (by unfold ey at hN; omega) ⟨hn,hm⟩
 rw [List.drop_zero] at key;exact key
theorem T7 {N:Nat} (hN:ey N) (l:List (Int × Int)) (ps:List (Int × Int × Int × Int)) (x1:List (Int × Int)) (J:List (Int × Int × Int × Int)) (P:List ((List UInt8) × (List (Int × Int)))) (S:List (Int × Int × Int × Int × Bool)) (E:List (Int × Int)) (m:List ((Int × Int) × Int)) (hl:l.length≤1000000):ar (ja N (l,J,l,ps,P,S,E,m)) N (x1,J,l,ps,l,0,P,S,E,m,[])=some (x1,J,l,ps,l,P,S,E,m,(l.foldl (zK m) [])):=by
 have key:=dL (rd:=ja N (l,J,l,ps,P,S,E,m)) l (fun (s:List (Int × Int)) k=>(x1,J,l,ps,l,(k:Int),P,S,E,m,s)) (zK m) (fun s=>(x1,J,l,ps,l,P,S,E,m,s)) (fun s k=>True) (fun s k hk hP=>by
  obtain ⟨a1,a2⟩:=T1 l hk;refine ⟨?_,trivial⟩;have e:zK m s l[k]=if (getM (bV m l[k]) s).isSome then s else gR (bV m l[k]) (s.length:Int) s:=rfl
  rw [e];cases hs:(getM (bV m l[k]) s).isSome with
  |true=>
   simp only [ja,List.length_map,Int.toNat_natCast,ap hk,ah hk,a1,a2,JQ,Pq,oa,qE,Fb,Fc,Ii,hs,Bool.not_true,if_true,aR (show k < 9223372036854775807 by omega),eV,eW,eJ,eK,wW,wX,dI,dJ,je,jf,jt,ju,cj,ck,bW,bX,fw,fx,dS,dT,cW,cX,kF,kG,Bool.and_self,Bool.and_true,cond_true,cond_false,Option.bind_some,eq_self,decide_true]
  |false=>
   simp only [ja,List.length_map,Int.toNat_natCast,ap hk,ah hk,a1,a2,JQ,Pq,oa,qE,EF,wu,Fb,Fc,Ii,hs,Bool.not_false,Bool.false_eq_true,if_false,aR (show k < 9223372036854775807 by omega),eV,eW,eJ,eK,wW,wX,dI,dJ,je,jf,jt,ju,cj,ck,bW,bX,fw,fx,dS,dT,cW,cX,kF,kG,Bool.and_self,Bool.and_true,cond_true,cond_false,Option.bind_some,eq_self,decide_true]) (fun s _=>by
  simp only [ja,List.length_map,aJ,eV,eW,eJ,eK,wW,wX,dI,dJ,je,jf,jt,ju,cj,ck,bW,bX,fw,fx,dS,dT,cW,cX,kF,kG,Bool.and_self,Bool.and_true,cond_true,cond_false,Option.bind_some,eq_self,decide_true]) N [] 0 (Nat.zero_le _) (by unfold ey at hN; omega) trivial
 rw [List.drop_zero] at key;exact key
theorem Ik {N:Nat} (l:List (Int × Int)) (ps:List (Int × Int × Int × Int)) (x1:List (Int × Int)) (J:List (Int × Int × Int × Int)) (P:List ((List UInt8) × (List (Int × Int)))) (S:List (Int × Int × Int × Int × Bool)) (E:List (Int × Int)) (m:List ((Int × Int) × Int)) (ns:List (Int × Int)) (hn:(m.map Prod.fst).Nodup):∀ (n:Nat) (L:List Nat),L.length < n→L.Nodup→(∀ i∈L,i < m.length) →
  dC (kY N) n (x1,J,l,ps,l,P,S,E,(cn (bV ns) L m),ns,(m.length:Int),(iF L))=some (x1,J,l,ps,l,P,S,E,(m.map fun e=>(e.1,bV ns e.2)),ns,(m.length:Int),[])
 |0,L,h,_,_=>by omega
 |n+1,L,h,hL,hi=>by
  rw [mh];have ih:=fun L'=>Ik (N:=N) l ps x1 J P S E m ns hn n L'
  generalize hf:bV ns=f at *;have JC:=gi f L m;have ec:decide ((cn f L m).length=m.length)=true:=decide_eq_true JC;cases BO:L with
  |nil=>
   have i0:List.isEmpty ([]:List Nat)=true:=rfl;have e0:(cn f [] m).length=m.length:=gi f [] m;simp only [kY,C6,e0,Int.toNat_natCast,iG,i0,rb,List.length_map,eV,eW,eJ,eK,wW,wX,dI,dJ,je,jf,jt,ju,cj,ck,bW,bX,fw,fx,dS,dT,cW,cX,kF,kG,Bool.and_self,Bool.and_true,cond_true,cond_false,Option.bind_some,eq_self,decide_true];rfl
  |cons a L'=>
   rw [← BO];have i0:List.isEmpty L=false:=by rw [BO]; rfl
   simp only [kY,C6,Int.toNat_natCast,ec,cond_true,cond_false,iG,i0];refine tS (by rw [BO]; simp) fun i fN=>?_
   have bO:=hi i fN;have Cr:i < (cn f L m).length:=by rw [JC]; exact bO
   have nJ:(L.erase i).length=L.length - 1:=List.length_erase_of_mem fN;have oM:0 < L.length:=List.length_pos_of_mem fN;have dl:decide (i < m.length)=true:=decide_eq_true bO;have Ps:=ih (L.erase i) (by omega) (hL.erase i) (fun j hj=>hi j (List.mem_of_mem_erase hj));have T2:=qD f L m bO fN;rw [T0 _ Cr,T2];have st:=pj f L m bO fN hL hn;have ev:bV ns m[i].2=f m[i].2:=by rw [hf]
   have st:gR (m[i].1.1,m[i].1.2) (f m[i].2) (cn f L m)=cn f (L.erase i) m:=st;simp only [Me,Mf,Fb,Fc,Bool.and_self,cond_true,dl,ec,oa,qE,JQ,TZ,ev,st,eV,eW,eJ,eK,wW,wX,dI,dJ,je,jf,jt,ju,cj,ck,bW,bX,fw,fx,dS,dT,cW,cX,kF,kG,Bool.and_self,Bool.and_true,cond_true,cond_false,Option.bind_some,eq_self,decide_true];exact Ps
end Go.Proofs.Ytegoimldbgdeiaa
namespace Go.Proofs.Ytegoimldbgdeiaa
open Go Go.Am
open List (map)
open Int (toNat)
open Go.IntKind (wrap)
open Go.Am.aM (fits)
set_option maxRecDepth 100000
abbrev AS:=(List UInt8) × (List (Int × Int))
abbrev pH:=Int × Int × Int × Int × Bool
abbrev cu:=List AS × List pH
def bC (n:Nat):List Int:=(List.range n).map fun i:Nat=>(i:Int)
theorem wx (n:Nat):bC (n+1)=bC n++[(n:Int)]:=by unfold bC; rw [List.range_succ,List.map_append]; rfl
theorem gS (n:Nat):(bC n).length=n:=by simp [bC]
def wZ (s:pH):Int × Int:=(s.1,s.2.2.1)
def dU (t:cu):List Int:=
 let l:=bC t.1.length
 let m:=xA l (t.2.map wZ)
 l.map (bV m)
theorem BP (l:List Int) (x:Int):map n3 l++[AV.int .i64 x]=map n3 (l++[x]):=by rw [List.map_append]; rfl
theorem T8 (l:List (Int × Int)) (a b:Int):map n23 l++[AV.agg [AV.int .i64 a,AV.int .i64 b]]=map n23 (l++[(a,b)]):=by rw [List.map_append]; rfl
theorem T9 (l:List (Int × Int)) (a b:Int):map pg l++[AV.agg [AV.int .i64 a,AV.int .i64 b]]=map pg (l++[(a,b)]):=by rw [List.map_append]; rfl
theorem Yw:allFit (fits p3) ([]:List AV)=true:=rfl
theorem Yx:map d3 ([]:List AV)=[]:=rfl
theorem Yy:allFit (fits xy) ([]:List AV)=true:=rfl
theorem Yz:map d67 ([]:List AV)=[]:=rfl
theorem Ua:allFit (fits ub) ([]:List AV)=true:=rfl
theorem Ub:map d174 ([]:List AV)=[]:=rfl
theorem c0_:af ([]:List (AV × AV))=[]:=rfl
theorem a0_:jd ([]:List (AV × AV))=true:=rfl
theorem Mt:allFit (fits cw) ([]:List AV)=true:=rfl
theorem Mu:map cN ([]:List AV)=[]:=rfl
theorem YA:allFit (fits da) ([]:List AV)=true:=rfl
theorem YB:map dG ([]:List AV)=[]:=rfl
theorem EH {K:Type} [DecidableEq K] (l:List K):(mi l).length≤l.length:=by
 have gen:∀ (l:List K) (s:List (K × Int) × Int),((l.foldl (fun s x=>(gR x s.2 s.1,s.2+1)) s).1).length≤s.1.length+l.length:=by
  intro l
  induction l with
  |nil=>intro s; exact Nat.le_refl _
  |cons x l ih=>
   intro s;have h1:=ih (gR x s.2 s.1,s.2+1);have h2:(gR x s.2 s.1).length≤s.1.length+1:=by
    have:=congrArg List.length (vu (k:=x) (v:=s.2) (m:=s.1));rw [List.length_map] at this;rw [this];split <;> simp
   rw [List.foldl_cons,List.length_cons];simp only at h1;omega
 have:=gen l ([],0);unfold mi;simpa using this
theorem Il {K:Type} [DecidableEq K] (ps:List (K × K)) (m:List (K × Int)):(ps.foldl kC m).length=m.length:=by
 induction ps generalizing m with
 |nil=>rfl
 |cons p ps ih=>rw [List.foldl_cons,ih]; unfold kC; rw [List.length_map]
theorem Ws:∀ l:List Int,aF (map n3 l)=true
 |[]=>rfl
 |x :: l=>by
  show ((n3 x).closed&&aF (map n3 l))=true;rw [Ws l]; rfl
section
variable {N:Nat} (hN:ey N)
include hN
theorem Pw (t:cu) (h:t.1.length≤1000000):ar (zH N t) N ([],0)=some (bC t.1.length):=by
 have key:=aU (rd:=zH N t) t.1.length (fun k=>(bC k,(k:Int))) (bC t.1.length) (fun k hk=>by
  have d:decide ((bC k).length=(bC k).length)=true:=decide_eq_true rfl;have d2:decide ((k+1) * 8≤140737488355328)=true:=decide_eq_true (by omega);simp only [zH,List.length_map,ap hk,gS,d2,BP,dI,dJ,← wx,aR (show k < 9223372036854775807 by omega),Bool.and_self,Bool.and_true,cond_true,Option.bind_some,eq_self,decide_true]) (by
  simp only [zH,List.length_map,aJ,gS,dI,dJ,Bool.and_self,Bool.and_true,cond_true,cond_false,Option.bind_some,eq_self,decide_true]) N 0 (Nat.zero_le _) (by unfold ey at hN; omega)
 exact key
theorem Px (t:cu) (l:List Int) (h:t.2.length≤1000000):ar (nZ N t l) N ((),0,[])=some ((),t.2.map wZ):=by
 have key:=aU (rd:=nZ N t l) t.2.length (fun k=>((),(k:Int),(t.2.take k).map wZ)) ((),t.2.map wZ) (fun k hk=>by
  obtain ⟨a1,a2⟩:=wv t.2 hk;have ht:(t.2.take k).length=k:=by rw [List.length_take]; omega
  have d2:decide ((k+1) * 16≤140737488355328)=true:=decide_eq_true (by omega);have d0:decide ((0:Nat)=0)=true:=rfl;have es:(t.2.take k).map wZ++[(t.2[k].1,t.2[k].2.2.1)]=(t.2.take (k+1)).map wZ:=by
   rw [List.take_add_one,List.getElem?_eq_getElem hk,List.map_append]; rfl
  have el:((t.2.take (k+1)).map wZ).length=k+1:=by rw [List.length_map,List.length_take]; omega
  have nb:Nat.beq (k+1) (k+1)=true:=Nat.beq_refl _;simp only [nZ,List.length_map,Int.toNat_natCast,ap hk,ah hk,a1,a2,ht,d2,d0,T8,es,el,nb,je,jf,aR (show k < 9223372036854775807 by omega),Bool.and_self,Bool.and_true,cond_true,Option.bind_some,eq_self,decide_true]) (by
  have nb:Nat.beq t.2.length t.2.length=true:=Nat.beq_refl _;simp only [nZ,List.length_map,aJ,List.take_length,nb,je,jf,Bool.and_self,Bool.and_true,cond_true,cond_false,Option.bind_some,eq_self,decide_true]) N 0 (Nat.zero_le _) (by unfold ey at hN; omega)
 exact key
theorem Py (l x:List Int) (hl:l.length≤1000000) (ps:List (Int × Int)) (m ns:List (Int × Int)) (c:Int) (L:List Int) (hL:∃ L',L=iF L'):∃ r,ar (lu N l) N ((),l,0,ps,m,ns,c,L,(),[])=some r∧r.2.2.2.2.2.2.2.2=l.map (bV m):=by
 obtain ⟨L',rfl⟩:=hL;refine ⟨((),l,ps,m,ns,((toNat c:Nat):Int),iF L',(),l.map (bV m)),?_,rfl⟩;cases wI:l with
 |nil=>
  have d:decide ((0:Int) < ((([]:List Int).length:Nat):Int))=false:=rfl;obtain ⟨n,rfl⟩:∃ n,N=n+1:=⟨N - 1,by unfold ey at hN; omega⟩;have n0:Nat.beq 0 0=true:=rfl;rw [gQ];simp only [lu,List.map_nil,List.length_nil,n0,Yw,Yx,eV,cW,cX,eW,iG,kF,kG,je,jf,cond_false,Bool.and_self,Bool.and_true,cond_true,Option.bind_some,eq_self,decide_true,Sum.elim_inr,Int.lt_irrefl,decide_false];rfl
 |cons a l'=>
 rw [← wI];have key:=aU (rd:=lu N l) l.length (fun k=>((),l,(k:Int),ps,m,ns,(if k=0 then c else ((toNat c:Nat):Int)),iF L',(),(l.take k).map (bV m))) ((),l,ps,m,ns,((toNat c:Nat):Int),iF L',(),l.map (bV m)) (fun k hk=>by
  obtain ⟨a1,a2⟩:=EG l hk;have ht:(l.take k).length=k:=by rw [List.length_take]; omega
  have d2:decide ((k+1) * 8≤140737488355328)=true:=decide_eq_true (by omega);have d0:decide ((0:Nat)=0)=true:=rfl;have es:(l.take k).map (bV m)++[bV m l[k]]=(l.take (k+1)).map (bV m):=by
   rw [List.take_add_one,List.getElem?_eq_getElem hk,List.map_append]; rfl
  have el:((l.take (k+1)).map (bV m)).length=k+1:=by rw [List.length_map,List.length_take]; omega
  have nb:Nat.beq (k+1) (k+1)=true:=Nat.beq_refl _;have ec:((toNat (if k=0 then c else ((toNat c:Nat):Int)):Nat):Int)=((toNat c:Nat):Int):=by split <;> simp
  have e1:(k+1=0)=False:=by simp
  simp only [lu,List.length_map,Int.toNat_natCast,ap hk,ah hk,a1,a2,ht,d2,d0,oa,qE,Fb,Fc,BP,es,el,nb,ec,e1,if_false,dI,dJ,eV,cW,cX,eW,iG,kF,kG,je,jf,aR (show k < 9223372036854775807 by omega),Bool.and_self,Bool.and_true,cond_true,Option.bind_some,eq_self,decide_true]) (by
  have nb:Nat.beq l.length l.length=true:=Nat.beq_refl _;have e1:(l.length=0)=False:=by rw [wI]; simp
  simp only [lu,List.length_map,aJ,List.take_length,nb,e1,if_false,Int.toNat_natCast,dI,dJ,eV,cW,cX,eW,iG,kF,kG,je,jf,Bool.and_self,Bool.and_true,cond_true,cond_false,Option.bind_some,eq_self,decide_true]) N 0 (Nat.zero_le _) (by unfold ey at hN; omega)
 exact key
theorem zM (t:cu) (h1:t.1.length≤1000000) (h2:t.2.length≤1000000):Wk N t=some (dU t):=by
 have q1:=Pw hN t h1;have q2:=Px hN t (bC t.1.length) h2;have hl:(bC t.1.length).length≤1000000:=by rw [gS]; exact h1
 have hp:(t.2.map wZ).length≤1000000:=by rw [List.length_map]; exact h2
 have nl:=EH (bC t.1.length);have q3:=Pr hN (bC t.1.length) (t.2.map wZ) (bC t.1.length) hl;have q4:=Pt hN (bC t.1.length) (t.2.map wZ) (bC t.1.length) (mi (bC t.1.length)) hp (by omega) (pn _);have q5:=T5 hN (bC t.1.length) (t.2.map wZ) (bC t.1.length) ((t.2.map wZ).foldl kC (mi (bC t.1.length))) hl;have nd:=BN (t.2.map wZ) (mi (bC t.1.length)) (pn _);have ul:=Il (t.2.map wZ) (mi (bC t.1.length));have q6:=Ij (N:=N) (bC t.1.length) (t.2.map wZ) (bC t.1.length) ((t.2.map wZ).foldl kC (mi (bC t.1.length))) ((bC t.1.length).foldl (zK ((t.2.map wZ).foldl kC (mi (bC t.1.length)))) []) nd N (List.range ((t.2.map wZ).foldl kC (mi (bC t.1.length))).length) (by rw [List.length_range]; unfold ey at hN; omega) List.nodup_range (fun i hi=>List.mem_range.1 hi);rw [ra] at q6;obtain ⟨r,q7,er⟩:=Py hN (bC t.1.length) (bC t.1.length) hl (t.2.map wZ) (xA (bC t.1.length) (t.2.map wZ)) ((bC t.1.length).foldl (zK ((t.2.map wZ).foldl kC (mi (bC t.1.length)))) []) (((t.2.map wZ).foldl kC (mi (bC t.1.length))).length:Int) [] ⟨[],rfl⟩;have z1:decide ((0:Int)≤0∧(0:Int)≤((t.2.length:Nat):Int)∧((t.2.length:Nat):Int)≤140737488355328∧((t.2.length:Nat):Int) * 16≤140737488355328)=true:=decide_eq_true (by omega);have z2:decide ((0:Int)≤0∧(0:Int)≤((t.1.length:Nat):Int)∧((t.1.length:Nat):Int)≤140737488355328∧((t.1.length:Nat):Int) * 8≤140737488355328)=true:=decide_eq_true (by omega);have r0:∀ x:AV,List.replicate 0 x=[]:=fun _=>rfl
 have tz:toNat 0=0:=rfl;have nb0:Nat.beq 0 ([]:List AV).length=true:=rfl;have f23:allFit (fits H9) ([]:List AV)=true:=rfl;have m23:map d23 ([]:List AV)=[]:=rfl;have u0:au (map n2 ([]:List Int))=[]:=rfl;have fz0:a7 []=[]:=rfl;have u00:au ([]:List AV)=[]:=rfl;have lz:iF []=[]:=rfl;have f2:allFit (fits p2) ([]:List AV)=true:=rfl;have m2:map d2 ([]:List AV)=[]:=rfl;have eU:xA (bC t.1.length) (t.2.map wZ)=((t.2.map wZ).foldl kC (mi (bC t.1.length))).map fun e=>(e.1,bV ((bC t.1.length).foldl (zK ((t.2.map wZ).foldl kC (mi (bC t.1.length)))) []) e.2):=rfl
 rw [eU] at q7;have d0:decide ((0:Nat)=([]:List AV).length)=true:=rfl;have d00:decide ((0:Nat)=0)=true:=rfl;have abP:Nat.beq 0 0=true:=rfl;rw [TP];simp only [Yw,Yx,List.map_nil,List.length_nil,d00,Bool.and_true,cond_true,Option.bind_some,q1,List.length_map,z1,tz,r0,nb0,abP,f23,m23,Bool.and_self,eq_self,decide_true,q2,dI,dJ,je,jf,c0_,Mt,Mu,a0_,q3,eV,cW,cX,eW,q4,q5,wu,kF,kG,q6,gS,z2,u0,u00,lz,fz0,f2,m2,Int.toNat_natCast,q7,er,Ws];rfl
end
end Go.Proofs.Ytegoimldbgdeiaa
namespace Go.Proofs.Ytegoimldbgdeiaa
open Go Go.Am
open List (map)
open Int (toNat)
open Go.IntKind (wrap)
open Go.Am.aM (fits)
set_option maxRecDepth 100000
theorem Mw:∀ l:List (Int × Int),bk (map n132 l) (map n132 l)=true
 |[]=>rfl
 |x :: l=>by
  rw [List.map_cons,bk,Mw l];show (bk [AV.int .i64 x.1,AV.int .i64 x.2] [AV.int .i64 x.1,AV.int .i64 x.2]&&true)=true;simp [bk,dv,sS]
theorem Im:∀ l:List AS,bk (map n131 l) (map n131 l)=true
 |[]=>rfl
 |x :: l=>by
  rw [List.map_cons,bk,Im l];have e:bk (map n132 x.2) (map n132 x.2)=true:=Mw x.2;show (bk [AV.str x.1,AV.list .ea 2 (map n132 x.2)] [AV.str x.1,AV.list .ea 2 (map n132 x.2)]&&true)=true;simp only [bk,dv,sS,e,beq_self_eq_true,Nat.beq_refl,Bool.and_self]
theorem Io:∀ l:List pH,bk (map n110 l) (map n110 l)=true
 |[]=>rfl
 |x :: l=>by
  rw [List.map_cons,bk,Io l];show (bk [AV.int .i64 x.1,AV.int .i64 x.2.1,AV.int .i64 x.2.2.1,AV.int .i64 x.2.2.2.1,AV.bool x.2.2.2.2] [AV.int .i64 x.1,AV.int .i64 x.2.1,AV.int .i64 x.2.2.1,AV.int .i64 x.2.2.2.1,AV.bool x.2.2.2.2]&&true)=true;simp [bk,dv,sS]
def Pz (t:cu) (p:Int):Nat:=((t.1.getD p.toNat ([],[])).2).length
def PA (t:cu) (e:Int × Int):Int × Int:=(e.1,Int.tmod (wrap .i64 (e.2+1)) (Pz t e.1:Int))
def YC (t:cu) (e:Int × Int):Bool:=decide (0≤e.1)&&decide (e.1 < (t.1.length:Int))&&!(Pz t e.1 == 0)
def Uc (t:cu) (s:pH):Bool:=YC t (s.1,s.2.1)&&YC t (s.2.2.1,s.2.2.2.1)
def eX (t:cu) (s:pH):(Int × Int × Int × Int) × (Int × Int × Int × Int):=
 let a0:=(s.1,s.2.1)
 let a1:=PA t a0
 let b0:=(s.2.2.1,s.2.2.2.1)
 let b1:=PA t b0
 if s.2.2.2.2 then ((a0.1,a0.2,b0.1,b0.2),(a1.1,a1.2,b1.1,b1.2)) else ((a0.1,a0.2,b1.1,b1.2),(a1.1,a1.2,b0.1,b0.2))
theorem Ud {t:cu} {e:Int × Int} (h:YC t e=true):0≤e.1∧e.1 < (t.1.length:Int)∧Pz t e.1≠0:=by
 unfold YC at h;simp only [Bool.and_eq_true,decide_eq_true_eq,Bool.not_eq_true',beq_eq_false_iff_ne] at h;exact ⟨h.1.1,h.1.2,h.2⟩
theorem Ip (N:Nat) (t:cu) (e:Int × Int) (h:YC t e=true):Pj N (t,e)=some (e.1,e.2,(PA t e).1,(PA t e).2):=by
 obtain ⟨h1,h2,h3⟩:=Ud h;obtain ⟨k,hk⟩:∃ k:Nat,e.1=(k:Int):=⟨e.1.toNat,by omega⟩;have BQ:k < t.1.length:=by omega
 obtain ⟨a1,a2⟩:=zL t.1 BQ;have es:t.1[k].2.length=Pz t e.1:=by
  unfold Pz;rw [hk,Int.toNat_natCast,List.getD_eq_getElem?_getD,List.getElem?_eq_getElem BQ];rfl
 have d:(!(decide (((Pz t e.1:Nat):Int)=0)))=true:=by rw [decide_eq_false (by omega)]; rfl
 rw [show Pj N (t,e)=Pj N ((t.1,t.2),(e.1,e.2)) from rfl,TG];simp only [hk,Int.toNat_natCast,List.length_map,ah BQ,a1,a2,Bool.and_self,cond_true];rw [es,d,cond_true,← hk];rfl
theorem JR (N:Nat) (t:cu) (s:pH) (h:Uc t s=true):Mi N (t,s)=some ((eX t s).1.1,(eX t s).1.2.1,(eX t s).1.2.2.1,(eX t s).1.2.2.2,(eX t s).2.1,(eX t s).2.2.1,(eX t s).2.2.2.1,(eX t s).2.2.2.2):=by
 unfold Uc at h;rw [Bool.and_eq_true] at h;have q1:=Ip N t (s.1,s.2.1) h.1;have q2:=Ip N t (s.2.2.1,s.2.2.2.1) h.2;rw [Pl];have q1':Pj N ((t.1,t.2),(s.1,s.2.1))=_:=q1;have q2':Pj N ((t.1,t.2),(s.2.2.1,s.2.2.2.1))=_:=q2;simp only [bW,bX,cj,ck,Bool.and_self,Bool.and_true,cond_true,Option.bind_some,q1',q2',beq_self_eq_true,Im,Io];unfold eX;cases hs:s.2.2.2.2
 ·simp only [Bool.not_false,cond_true,Option.bind_some,Bool.false_eq_true,if_false]
 ·simp only [Bool.not_true,cond_false,Option.bind_some,if_true]
def fy (t:cu):List (Int × Int × Int × Int):=t.2.flatMap fun s=>[(eX t s).1,(eX t s).2]
def kH (p:Nat) (n:Nat):List (Int × Int):=(List.range n).map fun i:Nat=>((p:Int),(i:Int))
def mj:List AS→Nat→List (Int × Int)
 |[],_=>[]
 |x :: l,p=>kH p x.2.length++mj l (p+1)
def fY (t:cu):List (Int × Int):=mj t.1 0
def Ue (p:Int × Int × Int × Int):(Int × Int) × (Int × Int):=((p.1,p.2.1),(p.2.2.1,p.2.2.2))
def fR (t:cu):List ((Int × Int) × Int):=xA (fY t) ((fy t).map Ue)
theorem PB (l:List (Int × Int × Int × Int)) (a b:Int × Int × Int × Int):map n174 l++[AV.agg [AV.int .i64 a.1,AV.int .i64 a.2.1,AV.int .i64 a.2.2.1,AV.int .i64 a.2.2.2],AV.agg [AV.int .i64 b.1,AV.int .i64 b.2.1,AV.int .i64 b.2.2.1,AV.int .i64 b.2.2.2]]=map n174 (l++[a,b]):=by rw [List.map_append]; rfl
theorem Hb (t:cu) {k:Nat} (hk:k < t.2.length):(t.2.take (k+1)).flatMap (fun s=>[(eX t s).1,(eX t s).2])=(t.2.take k).flatMap (fun s=>[(eX t s).1,(eX t s).2])++[(eX t t.2[k]).1,(eX t t.2[k]).2]:=by
 rw [List.take_add_one,List.getElem?_eq_getElem hk,List.flatMap_append];rfl
theorem BR (t:cu) (l:List pH):(l.flatMap (fun s=>[(eX t s).1,(eX t s).2])).length=2 * l.length:=by
 induction l with
 |nil=>rfl
 |cons s l ih=>rw [List.flatMap_cons,List.length_append,ih,List.length_cons]; simp only [List.length_cons,List.length_nil]; omega
theorem zN:∀ (l:List AS) (p:Nat) (x:AS),mj (l++[x]) p=mj l p++kH (p+l.length) x.2.length
 |[],p,x=>by simp [mj]
 |y :: l,p,x=>by
  rw [List.cons_append,mj,zN l (p+1) x,mj,List.append_assoc,List.length_cons];rw [show p+1+l.length=p+(l.length+1) by omega]
theorem vw:∀ (l:List AS) (p:Nat),(∀ x∈l,x.2.length≤1000)→(mj l p).length≤1000 * l.length
 |[],_,_=>Nat.le_refl _
 |x :: l,p,h=>by
  have ih:=vw l (p+1) fun y hy=>h y (List.mem_cons_of_mem _ hy)
  have:=h x List.mem_cons_self;rw [mj,List.length_append,List.length_cons];simp only [kH,List.length_map,List.length_range];omega
section
variable {N:Nat} (hN:ey N)
include hN
theorem PC (t:cu) (h:t.2.length≤1000000) (ho:∀ s∈t.2,Uc t s=true):ar (zI N t) N ([],0)=some (fy t):=by
 have key:=aU (rd:=zI N t) t.2.length (fun k=>((t.2.take k).flatMap (fun s=>[(eX t s).1,(eX t s).2]),(k:Int))) (fy t) (fun k hk=>by
  obtain ⟨a1,a2⟩:=wv t.2 hk;have q:=JR N t t.2[k] (ho _ (List.getElem_mem hk));have q:Mi N ((t.1,t.2),(t.2[k].1,t.2[k].2.1,t.2[k].2.2.1,t.2[k].2.2.2.1,t.2[k].2.2.2.2))=_:=q;have hl:=BR t (t.2.take k);have ht:(t.2.take k).length=k:=by rw [List.length_take]; omega
  rw [ht] at hl;have Ov:((t.2.take k).flatMap (fun s=>[(eX t s).1,(eX t s).2])++[(eX t t.2[k]).1,(eX t t.2[k]).2]).length=2 * k+2:=by rw [List.length_append,hl]; rfl
  have d2:decide ((2 * k+2) * 32≤140737488355328)=true:=decide_eq_true (by omega);have sn:=PB ((t.2.take k).flatMap (fun s=>[(eX t s).1,(eX t s).2])) (eX t t.2[k]).1 (eX t t.2[k]).2;simp only [zI,List.length_map,Int.toNat_natCast,ap hk,ah hk,a1,a2,bW,bX,cj,ck,q,hl,d2,sn,fw,fx,Ov,Hb t hk,aR (show k < 9223372036854775807 by omega),Bool.and_self,Bool.and_true,cond_true,Option.bind_some,eq_self,decide_true]) (by
  simp only [zI,List.length_map,aJ,List.take_length,fw,fx,Bool.and_self,Bool.and_true,cond_true,cond_false,Option.bind_some,eq_self,decide_true];rfl) N 0 (Nat.zero_le _) (by unfold ey at hN; omega)
 exact key
theorem Mx (t:cu) (J:List (Int × Int × Int × Int)) (p:Nat) (hp:p < t.1.length) (hs:t.1[p].2.length≤1000) (acc:List (Int × Int)) (ha:acc.length≤1000000) (v3:List (Int × Int)):ar (jv N J ((p:Int),t.1,t.2,v3)) N (0,t.1,t.2,acc)=some (t.1,t.2,acc++kH p t.1[p].2.length):=by
 obtain ⟨a1,a2⟩:=zL t.1 hp;have key:=aU (rd:=jv N J ((p:Int),t.1,t.2,v3)) t.1[p].2.length (fun k=>((k:Int),t.1,t.2,acc++kH p k)) (t.1,t.2,acc++kH p t.1[p].2.length) (fun k hk=>by
  have cl:(acc++kH p k).length=acc.length+k:=by rw [List.length_append]; simp [kH]
  have cs:acc++kH p k++[((p:Int),(k:Int))]=acc++kH p (k+1):=by
   rw [List.append_assoc]; congr 1; unfold kH; rw [List.range_succ,List.map_append]; rfl
  have cl2:(acc++kH p (k+1)).length=acc.length+k+1:=by rw [List.length_append]; simp [kH]; omega
  have d2:decide ((acc.length+k+1) * 16≤140737488355328)=true:=decide_eq_true (by omega);simp only [jv,List.length_map,Int.toNat_natCast,a1,ap hk,cl,d2,T9,cs,cl2,bW,bX,cj,ck,jt,ju,aR (show k < 9223372036854775807 by omega),Bool.and_self,Bool.and_true,cond_true,Option.bind_some,eq_self,decide_true]) (by
  simp only [jv,List.length_map,Int.toNat_natCast,a1,aJ,bW,bX,cj,ck,jt,ju,Bool.and_self,Bool.and_true,cond_true,cond_false,Option.bind_some,eq_self,decide_true]) N 0 (Nat.zero_le _) (by unfold ey at hN; omega)
 have e0:acc++kH p 0=acc:=by simp [kH]
 rw [e0] at key;exact key
theorem My (t:cu) (J:List (Int × Int × Int × Int)) (h:t.1.length≤1000) (hs:∀ x∈t.1,x.2.length≤1000):ar (n9 N t J) N (0,t.1,t.2,[])=some (t.1,t.2,fY t):=by
 have key:=aU (rd:=n9 N t J) t.1.length (fun k=>((k:Int),t.1,t.2,mj (t.1.take k) 0)) (t.1,t.2,fY t) (fun k hk=>by
  obtain ⟨a1,a2⟩:=zL t.1 hk;have hc:=vw (t.1.take k) 0 fun x hx=>hs x (List.mem_of_mem_take hx)
  have ht:(t.1.take k).length=k:=by rw [List.length_take]; omega
  rw [ht] at hc;have q:=Mx hN t J k hk (hs _ (List.getElem_mem hk)) (mj (t.1.take k) 0) (by omega) (mj (t.1.take k) 0);have es:mj (t.1.take (k+1)) 0=mj (t.1.take k) 0++kH k t.1[k].2.length:=by
   rw [List.take_add_one,List.getElem?_eq_getElem hk];show mj (t.1.take k++[t.1[k]]) 0=_;rw [zN,ht,Nat.zero_add]
  simp only [n9,List.length_map,Int.toNat_natCast,ap hk,ah hk,a2,q,← es,bW,bX,cj,ck,jt,ju,aR (show k < 9223372036854775807 by omega),Bool.and_self,Bool.and_true,cond_true,Option.bind_some,eq_self,decide_true]) (by
  simp only [n9,List.length_map,aJ,List.take_length,bW,bX,cj,ck,jt,ju,Bool.and_self,Bool.and_true,cond_true,cond_false,Option.bind_some,eq_self,decide_true];rfl) N 0 (Nat.zero_le _) (by unfold ey at hN; omega)
 exact key
theorem zO (t:cu) (h1:t.1.length≤1000) (hs:∀ x∈t.1,x.2.length≤1000) (h2:t.2.length≤100000) (ho:∀ s∈t.2,Uc t s=true):TU N t=some (fR t):=by
 have q1:=PC hN t (by omega) ho;have q2:=My hN t (fy t) h1 hs;have hl:(fY t).length≤1000000:=by
  have:=vw t.1 0 hs;unfold fY;omega
 have hp:(fy t).length≤1000000:=by
  have:=BR t t.2;unfold fy;omega
 have nl:=EH (fY t);have q3:=Pu hN (fY t) (fY t) (fy t) t.1 t.2 (fY t) hl;have fe:∀ m:List ((Int × Int) × Int),(fy t).foldl (fun s p=>kC s ((p.1,p.2.1),(p.2.2.1,p.2.2.2))) m=((fy t).map Ue).foldl kC m:=fun m=>by rw [List.foldl_map]; rfl
 have q4:=Pv hN (fY t) (fy t) (fY t) (fy t) t.1 t.2 (fY t) (mi (fY t)) hp (by omega) (pn _);rw [fe] at q4;have nd:=BN ((fy t).map Ue) (mi (fY t)) (pn _);have q5:=T7 hN (fY t) (fy t) (fY t) (fy t) t.1 t.2 (fY t) (((fy t).map Ue).foldl kC (mi (fY t))) hl;have q6:=Ik (N:=N) (fY t) (fy t) (fY t) (fy t) t.1 t.2 (fY t) (((fy t).map Ue).foldl kC (mi (fY t))) ((fY t).foldl (zK (((fy t).map Ue).foldl kC (mi (fY t)))) []) nd N (List.range (((fy t).map Ue).foldl kC (mi (fY t))).length) (by rw [List.length_range,Il]; unfold ey at hN; omega) List.nodup_range (fun i hi=>List.mem_range.1 hi);rw [ra] at q6;have d00:decide ((0:Nat)=0)=true:=rfl;rw [TV];simp only [Ua,Ub,Yy,Yz,List.map_nil,List.length_nil,d00,Bool.and_true,Bool.and_self,cond_true,Option.bind_some,q1,List.length_map,bW,bX,cj,ck,jt,ju,fw,fx,eq_self,decide_true,q2,c0_,YA,YB,a0_,Mt,Mu,q3,eJ,dS,dT,eK,q4,q5,eV,cW,cX,eW,C6,kF,kG,q6];rfl
end
end Go.Proofs.Ytegoimldbgdeiaa
