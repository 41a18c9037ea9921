/- Plain laws: groups that are united. -/
import Derived.Test.YtegoimldbgdeiaaGreatTrzA
import Derived.Test.YtegoimldbgdeiaaGreatAmKM
set_option linter.all false
open Bool renaming and_self→aap, and_true→aaq, false_eq_true→aa4, not_false→aa9, not_true→abb
open Int renaming toNat_natCast→aas
open List renaming length_map→aao, mem_of_mem_erase→aaI, map_append→aaK, getElem?_eq_getElem→aaL, isEmpty→aaM, length_erase_of_mem→aaN, length_take→aaO, length_append→aaQ, length_pos_of_mem→aaR, length_range→aaS, drop_zero→aaT, ext_getElem→aaU, length_cons→aaV, range→aaW, mem_range→aaX, take_add_one→aaY, nodup_range→aaZ, take_length→aa0, length_nil→aa3, map_cons→aa5, getElem_mem→aa7, map_map→aa8, Nodup→aba, map_nil→abc
open Nat renaming zero_le→aax, zero_add→aa1, beq_refl→aa2, beq→aa6
open Option renaming bind_some→aal
open Prod renaming fst→aav
namespace Go.Proofs.YtegoimldbgdeiaaGreat
open Go Go.Am
open List (map)
open Int (toNat)
open Go.IntKind (wrap)
open Go.Am.aP (fits)
set_option maxRecDepth 100000
section
variable {K:Type} [DecidableEq K]
theorem JN (v:Int):∀ (m:List (K × Int)) (i:Nat) (hi:i < m.length),(m.map aav).Nodup→iy m[i].1 v m=m.set i (m[i].1,v)
 |[],i,hi,_=>by cases hi
 |e :: m,0,_,_=>by
  show iy e.1 v (e :: m)=(e.1,v) :: m;unfold iy;rw [if_pos rfl]
 |e :: m,i+1,hi,hn=>by
  rw [aa5,List.nodup_cons] at hn;have qP:i < m.length:=by simpa using hi
  have cq:e.1≠m[i].1:=fun h=>hn.1 (by rw [h]; exact List.mem_map.2 ⟨m[i],aa7 qP,rfl⟩)
  show iy m[i].1 v (e :: m)=e :: m.set i (m[i].1,v);unfold iy;rw [if_neg (fun h=>cq h.symm),JN v m i qP hn.2]
def cP (f:Int→Int) (L:List Nat) (m:List (K × Int)):List (K × Int):=m.mapIdx fun i e=>if i∈L then e else (e.1,f e.2)
theorem gO (f:Int→Int) (L:List Nat) (m:List (K × Int)):(cP f L m).length=m.length:=by simp [cP]
theorem IA (f:Int→Int) (L:List Nat) (m:List (K × Int)):(cP f L m).map aav=m.map aav:=by
 apply aaU
 ·simp [cP]
 ·intro i h1 h2;simp only [List.getElem_map,cP,List.getElem_mapIdx];split <;> rfl
theorem sa (f:Int→Int) (L:List Nat) (m:List (K × Int)) {i:Nat} (hi:i < m.length) (hL:i∈L):(cP f L m)[i]'(by rw [gO]; exact hi)=m[i]:=by
 simp only [cP,List.getElem_mapIdx,if_pos hL]
theorem sG (f:Int→Int) (m:List (K × Int)):cP f (aaW m.length) m=m:=by
 apply aaU
 ·simp [cP]
 ·intro i h1 h2;simp only [cP,List.getElem_mapIdx,if_pos (aaX.2 h2)]
theorem sH (f:Int→Int) (m:List (K × Int)):cP f [] m=m.map fun e=>(e.1,f e.2):=by
 apply aaU
 ·simp [cP]
 ·intro i h1 h2;simp [cP]
theorem qo (f:Int→Int) (L:List Nat) (m:List (K × Int)) {i:Nat} (hi:i < m.length) (hL:i∈L) (hn:L.Nodup) (hk:(m.map aav).Nodup):iy m[i].1 (f m[i].2) (cP f L m)=cP f (L.erase i) m:=by
 have qP:i < (cP f L m).length:=by rw [gO]; exact hi
 have e:=JN (f m[i].2) (cP f L m) i qP (by rw [IA]; exact hk);rw [sa f L m hi hL] at e;rw [e];apply aaU
 ·simp [cP]
 ·intro j h1 h2;rw [List.getElem_set];by_cases hj:i=j
  ·subst hj;have:i∉L.erase i:=fun h=>(aba.mem_erase_iff hn).1 h |>.1 rfl
   simp only [if_pos,cP,List.getElem_mapIdx,if_neg this]
  ·rw [if_neg hj];simp only [cP,List.getElem_mapIdx];by_cases IB:j∈L
   ·rw [if_pos IB,if_pos ((aba.mem_erase_iff hn).2 ⟨fun h=>hj h.symm,IB⟩)]
   ·rw [if_neg IB,if_neg fun h=>IB (aaI h)]
theorem Bj (f:Int→Int) (L:List Nat) (m:List (K × Int)) {i:Nat} (hi:i < m.length) (hL:i∈L) (hn:L.Nodup) (hf:f m[i].2=m[i].2):cP f L m=cP f (L.erase i) m:=by
 apply aaU
 ·simp [cP]
 ·intro j h1 h2;simp only [cP,List.getElem_mapIdx];by_cases hj:i=j
  ·subst hj;have:i∉L.erase i:=fun h=>(aba.mem_erase_iff hn).1 h |>.1 rfl
   rw [if_pos hL,if_neg this,hf]
  ·by_cases IB:j∈L
   ·rw [if_pos IB,if_pos ((aba.mem_erase_iff hn).2 ⟨fun h=>hj h.symm,IB⟩)]
   ·rw [if_neg IB,if_neg fun h=>IB (aaI h)]
def nw (l:List K):List (K × Int):=(l.foldl (fun s x=>(iy x s.2 s.1,s.2+1)) (([]:List (K × Int)),(0:Int))).1
def NS (a b:Int):Int:=if b > a then b else a
def VS (a b:Int):Int:=if b < a then b else a
def IC (a b g:Int):Int:=if g=NS a b then VS a b else g
def cD (m:List (K × Int)) (x:K):Int:=(getM x m).getD 0
def lP (m:List (K × Int)) (p:K × K):List (K × Int):=m.map fun e=>(e.1,IC (cD m p.1) (cD m p.2) e.2)
def Bk (m:List (K × Int)) (ns:List (Int × Int)) (x:K):List (Int × Int):=if (getM (cD m x) ns).isSome then ns else iy (cD m x) (ns.length:Int) ns
def za (l:List K) (ps:List (K × K)):List (K × Int):=
 let m:=ps.foldl lP (nw l)
 let ns:=l.foldl (Bk m) []
 m.map fun e=>(e.1,cD ns e.2)
theorem ID {k:K} {v:Int} {m:List (K × Int)} (h:(m.map aav).Nodup):((iy k v m).map aav).Nodup:=by
 rw [wW];split
 ·exact h
 ·rename_i hk;exact List.nodup_append.2 ⟨h,by simp,fun a ha b hb e=>hk (by rw [List.mem_singleton] at hb; subst hb; subst e; exact ha)⟩
theorem qp (l:List K):((nw l).map aav).Nodup:=by
 have gen:∀ (l:List K) (s:List (K × Int) × Int),(s.1.map aav).Nodup→(((l.foldl (fun s x=>(iy x s.2 s.1,s.2+1)) s).1).map aav).Nodup:=by
  intro l
  induction l with
  |nil=>intro s h; exact h
  |cons x l ih=>intro s h; exact ih _ (ID h)
 exact gen l _ (by simp)
theorem NT (f:Int→Int) (m:List (K × Int)):(m.map fun e=>(e.1,f e.2)).map aav=m.map aav:=by
 rw [aa8]; rfl
theorem wX (m:List (K × Int)) (p:K × K):(lP m p).map aav=m.map aav:=NT _ m
theorem C6 (ps:List (K × K)) (m:List (K × Int)) (h:(m.map aav).Nodup):((ps.foldl lP m).map aav).Nodup:=by
 induction ps generalizing m with
 |nil=>exact h
 |cons p ps ih=>exact ih _ (by rw [wX]; exact h)
end
abbrev KE:EK:=.st (.cons 0 1 false .int (.cons 1 1 false .int .nil))
theorem xV:iS .int (fun k:Int=>AV.int .i64 k) n3 nj:=⟨fun a b=>JM .i64 a b,fun _=>rfl,fun _=>rfl⟩
theorem Bl:iS KE (fun k:Int × Int=>AV.agg [AV.int .i64 k.1,AV.int .i64 k.2]) n3 ot:=⟨fun a b=>Q0 a b,fun _=>rfl,fun _=>rfl⟩
theorem pC (a:Int) (m:List (Int × Int)):du .int (AV.int .i64 a) (aG (map nj m))=true:=xV.keys a m
theorem sb (a:Int) (m:List (Int × Int)):cF .int (AV.int .i64 a) (AV.int .i64 0) (aG (map nj m))=n3 (cD m a):=xV.getD a 0 m
theorem JO (a:Int) (m:List (Int × Int)):(fL .int (AV.int .i64 a) (aG (map nj m))).isSome=(getM a m).isSome:=by
 rw [xV.get a m]; cases getM a m <;> rfl
theorem Ga (a v:Int) (m:List (Int × Int)):dS .int (AV.int .i64 a) (AV.int .i64 v) (aG (map nj m))=aG (map nj (iy a v m)):=xV.put a v m
theorem fF (m:List (Int × Int)):af (aG (map nj m))=map nj m:=xV.cells m
theorem fG (m:List (Int × Int)):jP (aG (map nj m))=true:=xV.jP m
theorem xW (m:List (Int × Int)):(aG (map nj m)).length=m.length:=by rw [xV.XU,aao]
theorem Ti (m:List (Int × Int)) {i:Nat} (h:i < m.length):cE (aG (map nj m)) i=(n3 m[i].1,n3 m[i].2):=by
 rw [xV.XU,F9 _ m h]; rfl
theorem C7 (a b:Int) (m:List ((Int × Int) × Int)):du KE (AV.agg [AV.int .i64 a,AV.int .i64 b]) (aG (map ot m))=true:=Bl.keys (a,b) m
theorem JP (a b:Int) (m:List ((Int × Int) × Int)):cF KE (AV.agg [AV.int .i64 a,AV.int .i64 b]) (AV.int .i64 0) (aG (map ot m))=n3 (cD m (a,b)):=Bl.getD (a,b) 0 m
theorem NU (a b v:Int) (m:List ((Int × Int) × Int)):dS KE (AV.agg [AV.int .i64 a,AV.int .i64 b]) (AV.int .i64 v) (aG (map ot m))=aG (map ot (iy (a,b) v m)):=Bl.put (a,b) v m
theorem cT (m:List ((Int × Int) × Int)):af (aG (map ot m))=map ot m:=Bl.cells m
theorem cU (m:List ((Int × Int) × Int)):jP (aG (map ot m))=true:=Bl.jP m
theorem vu (m:List ((Int × Int) × Int)):(aG (map ot m)).length=m.length:=by rw [Bl.XU,aao]
theorem NV (m:List ((Int × Int) × Int)) {i:Nat} (h:i < m.length):cE (aG (map ot m)) i=(n100 m[i].1,n3 m[i].2):=by
 rw [Bl.XU,F9 _ m h]; rfl
theorem jf (L:List Nat):aA (map n2 (je L))=L:=by
 unfold aA je;rw [aa8,aa8]
 conv=>rhs; rw [← List.map_id L]
 apply List.map_congr_left;intro n _;show ((n:Int)).toNat=n;exact aas n
theorem ZK (L:List Nat):bB L=map n2 (je L):=by
 unfold bB je;rw [aa8]; rfl
theorem lX (L:List Nat):allFit (fits p2) (bB L)=true:=by rw [ZK,yA]
theorem lY (L:List Nat):map d2 (bB L)=je L:=by rw [ZK,yB]
theorem Q1 (l:List Int) {k:Nat} (hk:k < l.length):d3 (ae (map n3 l) k)=l[k]∧fits p3 (ae (map n3 l) k)=true:=by
 rw [fW n3 l k hk,Iy,Ix]; exact ⟨rfl,rfl⟩
theorem Tj (l:List (Int × Int)) {k:Nat} (hk:k < l.length):d106 (ae (map n106 l) k)=l[k]∧fits vr (ae (map n106 l) k)=true:=by
 rw [fW n106 l k hk,Zq,Zp]; exact ⟨rfl,rfl⟩
theorem NW (l:List (Int × Int)) {k:Nat} (hk:k < l.length):d100 (ae (map n100 l) k)=l[k]∧fits mo (ae (map n100 l) k)=true:=by
 rw [fW n100 l k hk,F7,F6]; exact ⟨rfl,rfl⟩
theorem Tk (l:List (Int × Int × Int × Int)) {k:Nat} (hk:k < l.length):d189 (ae (map n189 l) k)=l[k]∧fits vt (ae (map n189 l) k)=true:=by
 rw [fW n189 l k hk,Zw,Zv]; exact ⟨rfl,rfl⟩
theorem Bm (l:List (Int × Int × Int × Int × Bool)) {k:Nat} (hk:k < l.length):d110 (ae (map n110 l) k)=l[k]∧fits js (ae (map n110 l) k)=true:=by
 rw [fW n110 l k hk,Zs,Zr]; exact ⟨rfl,rfl⟩
theorem se (l:List ((List UInt8) × (List (Int × Int)))) {k:Nat} (hk:k < l.length):d131 (ae (map n131 l) k)=l[k]∧fits iR (ae (map n131 l) k)=true:=by
 rw [fW n131 l k hk,Zu,Zt]; exact ⟨rfl,rfl⟩
end Go.Proofs.YtegoimldbgdeiaaGreat
namespace Go.Proofs.YtegoimldbgdeiaaGreat
open Go Go.Am
open List (map)
open Int (toNat)
open Go.IntKind (wrap)
open Go.Am.aP (fits)
set_option maxRecDepth 100000
theorem Q2 {N:Nat} (hN:fM N) (l:List Int) (ps:List (Int × Int)) (x1:List Int) (hl:l.length≤1000000):aB (nq N l) N (x1,l,0,ps,([]:List (Int × Int)))=some (x1,l,ps,nw l):=by
 have key:=eI (rd:=nq N l) l (fun (s:List (Int × Int) × Int) k=>(x1,l,(k:Int),ps,s.1)) (fun s x=>(iy x s.2 s.1,s.2+1)) (fun s=>(x1,l,ps,s.1)) (fun s k=>s.2=(k:Int)) (fun s k hk hP=>by
  obtain ⟨a1,a2⟩:=Q1 l hk;refine ⟨?_,by show s.2+1=_; rw [hP]; rfl⟩;rw [hP];simp only [nq,aao,aas,aE hk,ap hk,a1,a2,pC,Ga,bg (show k < 9223372036854775807 by omega),fF,fG,cT,cU,yA,yB,lV,lW,ft,fu,fC,fD,bX,bY,cI,cJ,fX,fY,dP,dQ,lX,lY,aap,aaq,cond_true,cond_false,aal,eq_self,decide_true]) (fun s _=>by
  simp only [nq,aao,bc,fF,fG,cT,cU,yA,yB,lV,lW,ft,fu,fC,fD,bX,bY,cI,cJ,fX,fY,dP,dQ,lX,lY,aap,aaq,cond_true,cond_false,aal,eq_self,decide_true]) N ([],0) 0 (aax _) (by unfold fM at hN; omega) rfl
 rw [aaT] at key;exact key
theorem NX {N:Nat} (l:List Int) (ps:List (Int × Int)) (x1:List Int) (k:Nat) (hk:k < ps.length) (m:List (Int × Int)) (hn:(m.map aav).Nodup):∀ (n:Nat) (L:List Nat),L.length < n→L.Nodup→(∀ i∈L,i < m.length) →
  fq (kT N (x1,l,(k:Int),ps,m)) n (x1,l,ps,(cP (IC (cD m ps[k].1) (cD m ps[k].2)) L m),(m.length:Int),(je L))=some (x1,l,ps,(m.map fun e=>(e.1,IC (cD m ps[k].1) (cD m ps[k].2) e.2)),(m.length:Int),[])
 |0,L,h,_,_=>by omega
 |n+1,L,h,hL,hi=>by
  rw [nu];obtain ⟨a1,a2⟩:=Tj ps hk;have ih:=fun L'=>NX (N:=N) l ps x1 k hk m hn n L'
  generalize hf:IC (cD m ps[k].1) (cD m ps[k].2)=f at *;have K9:=gO f L m;have ec:decide ((cP f L m).length=m.length)=true:=decide_eq_true K9;cases C8:L with
  |nil=>
   have i0:aaM ([]:List Nat)=true:=rfl;have e0:(cP f [] m).length=m.length:=gO f [] m;simp only [kT,fZ,ga,ir,xW,e0,aas,jf,i0,sH,aao,fF,fG,cT,cU,yA,yB,lV,lW,ft,fu,fC,fD,bX,bY,cI,cJ,fX,fY,dP,dQ,lX,lY,aap,aaq,cond_true,cond_false,aal,eq_self,decide_true];rfl
  |cons a L'=>
   rw [← C8];have i0:aaM L=false:=by rw [C8]; rfl
   simp only [kT,fZ,ga,ir,xW,aas,ec,cond_true,cond_false,jf,i0];refine vi (by rw [C8]; simp) fun i gk=>?_
   have bW:=hi i gk;have DK:i < (cP f L m).length:=by rw [K9]; exact bW
   have kr:(L.erase i).length=L.length - 1:=aaN gk;have mh:0 < L.length:=aaR gk;have dl:decide (i < m.length)=true:=decide_eq_true bW;have Q3:=ih (L.erase i) (by omega) (hL.erase i) (fun j hj=>hi j (aaI hj));have VT:=sa f L m bW gk;have z0:0+k=k:=aa1 k;rw [Ti _ DK,VT];have ahp:d3 (n3 m[i].2)=m[i].2:=Iy _;simp only [Ix,Iy,Ix,Iy,aap,cond_true,dl,ec,z0,a1,pC,sb];have dJ:f m[i].2=if m[i].2=NS (cD m ps[k].1) (cD m ps[k].2) then VS (cD m ps[k].1) (cD m ps[k].2) else m[i].2:=by rw [← hf]; rfl
   by_cases hg:m[i].2=NS (cD m ps[k].1) (cD m ps[k].2)
   ·rw [if_pos hg] at dJ;have hb:(m[i].2 == (if cD m ps[k].2 > cD m ps[k].1 then cD m ps[k].2 else cD m ps[k].1))=true:=by rw [hg]; exact beq_self_eq_true _
    have st:=qo f L m bW gk hL hn;rw [dJ] at st;have st:iy m[i].1 (if cD m ps[k].2 < cD m ps[k].1 then cD m ps[k].2 else cD m ps[k].1) (cP f L m)=cP f (L.erase i) m:=st;simp only [hb,Ga,st,fF,fG,cT,cU,yA,yB,lV,lW,ft,fu,fC,fD,bX,bY,cI,cJ,fX,fY,dP,dQ,lX,lY,aap,aaq,cond_true,cond_false,aal,eq_self,decide_true];exact Q3
   ·rw [if_neg hg] at dJ;have hb:(m[i].2 == (if cD m ps[k].2 > cD m ps[k].1 then cD m ps[k].2 else cD m ps[k].1))=false:=beq_false_of_ne hg;have st:=Bj f L m bW gk hL dJ;simp only [hb,fF,fG,cT,cU,yA,yB,lV,lW,ft,fu,fC,fD,bX,bY,cI,cJ,fX,fY,dP,dQ,lX,lY,aap,aaq,cond_true,cond_false,aal,eq_self,decide_true];rw [st];exact Q3
theorem Q4 {N:Nat} (hN:fM N) (l:List Int) (ps:List (Int × Int)) (x1:List Int) (m:List (Int × Int)) (hl:ps.length≤1000000) (hm:m.length≤1000000) (hn:(m.map aav).Nodup):aB (lr N ((),ps)) N (x1,l,0,ps,m)=some (x1,l,ps,(ps.foldl lP m)):=by
 have key:=eI (rd:=lr N ((),ps)) ps (fun (s:List (Int × Int)) k=>(x1,l,(k:Int),ps,s)) (fun s p=>lP s p) (fun s=>(x1,l,ps,s)) (fun s k=>(s.map aav).Nodup∧s.length≤1000000) (fun s k hk hP=>by
  obtain ⟨a1,a2⟩:=Tj ps hk;have z0:0+k=k:=aa1 k;have q:=NX (N:=N) l ps x1 k hk s hP.1 N (aaW s.length) (by rw [aaS]; unfold fM at hN; omega) aaZ (fun i hi=>aaX.1 hi);rw [sG] at q;refine ⟨?_,by rw [wX]; exact hP.1,by unfold lP; rw [aao]; exact hP.2⟩;have dz:decide (ps.length=ps.length)=true:=decide_eq_true rfl;have dk:decide (k < ps.length)=true:=decide_eq_true hk;simp only [lr,aao,aas,aE hk,ap hk,z0,a1,a2,dz,dk,pC,sb,Ix,xW,q,bg (show k < 9223372036854775807 by omega),fF,fG,cT,cU,yA,yB,lV,lW,ft,fu,fC,fD,bX,bY,cI,cJ,fX,fY,dP,dQ,lX,lY,aap,aaq,cond_true,cond_false,aal,eq_self,decide_true];rfl) (fun s _=>by
  simp only [lr,aao,bc,fF,fG,cT,cU,yA,yB,lV,lW,ft,fu,fC,fD,bX,bY,cI,cJ,fX,fY,dP,dQ,lX,lY,aap,aaq,cond_true,cond_false,aal,eq_self,decide_true]) N m 0 (aax _) (by unfold fM at hN; omega) ⟨hn,hm⟩
 rw [aaT] at key;exact key
theorem VU {N:Nat} (hN:fM N) (l:List Int) (ps:List (Int × Int)) (x1:List Int) (m:List (Int × Int)) (hl:l.length≤1000000):aB (jG N (l,l,ps,m)) N (x1,l,l,0,ps,m,[])=some (x1,l,l,ps,m,(l.foldl (Bk m) [])):=by
 have key:=eI (rd:=jG N (l,l,ps,m)) l (fun (s:List (Int × Int)) k=>(x1,l,l,(k:Int),ps,m,s)) (Bk m) (fun s=>(x1,l,l,ps,m,s)) (fun s k=>True) (fun s k hk hP=>by
  obtain ⟨a1,a2⟩:=Q1 l hk;refine ⟨?_,trivial⟩;have e:Bk m s l[k]=if (getM (cD m l[k]) s).isSome then s else iy (cD m l[k]) (s.length:Int) s:=rfl
  rw [e];cases hs:(getM (cD m l[k]) s).isSome with
  |true=>
   simp only [jG,kg,eD,aao,aas,aE hk,ap hk,a1,a2,pC,sb,pC,sb,Ix,Iy,JO,hs,abb,if_true,bg (show k < 9223372036854775807 by omega),fF,fG,cT,cU,yA,yB,lV,lW,ft,fu,fC,fD,bX,bY,cI,cJ,fX,fY,dP,dQ,lX,lY,aap,aaq,cond_true,cond_false,aal,eq_self,decide_true]
  |false=>
   simp only [jG,kg,eD,aao,aas,aE hk,ap hk,a1,a2,pC,sb,pC,sb,Ga,xW,Ix,Iy,JO,hs,aa9,aa4,if_false,bg (show k < 9223372036854775807 by omega),fF,fG,cT,cU,yA,yB,lV,lW,ft,fu,fC,fD,bX,bY,cI,cJ,fX,fY,dP,dQ,lX,lY,aap,aaq,cond_true,cond_false,aal,eq_self,decide_true]) (fun s _=>by
  simp only [jG,kg,eD,aao,bc,fF,fG,cT,cU,yA,yB,lV,lW,ft,fu,fC,fD,bX,bY,cI,cJ,fX,fY,dP,dQ,lX,lY,aap,aaq,cond_true,cond_false,aal,eq_self,decide_true]) N [] 0 (aax _) (by unfold fM at hN; omega) trivial
 rw [aaT] at key;exact key
theorem JQ {N:Nat} (l:List Int) (ps:List (Int × Int)) (x1:List Int) (m:List (Int × Int)) (ns:List (Int × Int)) (hn:(m.map aav).Nodup):∀ (n:Nat) (L:List Nat),L.length < n→L.Nodup→(∀ i∈L,i < m.length) →
  fq (mr N) n (x1,l,l,ps,(cP (cD ns) L m),ns,(m.length:Int),(je L))=some (x1,l,l,ps,(m.map fun e=>(e.1,cD ns e.2)),ns,(m.length:Int),[])
 |0,L,h,_,_=>by omega
 |n+1,L,h,hL,hi=>by
  rw [nu];have ih:=fun L'=>JQ (N:=N) l ps x1 m ns hn n L'
  generalize hf:cD ns=f at *;have K9:=gO f L m;have ec:decide ((cP f L m).length=m.length)=true:=decide_eq_true K9;cases C8:L with
  |nil=>
   have i0:aaM ([]:List Nat)=true:=rfl;have e0:(cP f [] m).length=m.length:=gO f [] m;simp only [mr,xW,e0,aas,jf,i0,sH,aao,fF,fG,cT,cU,yA,yB,lV,lW,ft,fu,fC,fD,bX,bY,cI,cJ,fX,fY,dP,dQ,lX,lY,aap,aaq,cond_true,cond_false,aal,eq_self,decide_true];rfl
  |cons a L'=>
   rw [← C8];have i0:aaM L=false:=by rw [C8]; rfl
   simp only [mr,xW,aas,ec,cond_true,cond_false,jf,i0];refine vi (by rw [C8]; simp) fun i gk=>?_
   have bW:=hi i gk;have DK:i < (cP f L m).length:=by rw [K9]; exact bW
   have kr:(L.erase i).length=L.length - 1:=aaN gk;have mh:0 < L.length:=aaR gk;have dl:decide (i < m.length)=true:=decide_eq_true bW;have Q3:=ih (L.erase i) (by omega) (hL.erase i) (fun j hj=>hi j (aaI hj));have VT:=sa f L m bW gk;rw [Ti _ DK,VT];have st:=qo f L m bW gk hL hn;have ev:cD ns m[i].2=f m[i].2:=by rw [hf]
   have st:iy m[i].1 (f m[i].2) (cP f L m)=cP f (L.erase i) m:=st;simp only [Ix,Iy,Ix,Iy,aap,cond_true,dl,ec,pC,sb,pC,Ga,ev,st,fF,fG,cT,cU,yA,yB,lV,lW,ft,fu,fC,fD,bX,bY,cI,cJ,fX,fY,dP,dQ,lX,lY,aap,aaq,cond_true,cond_false,aal,eq_self,decide_true];exact Q3
end Go.Proofs.YtegoimldbgdeiaaGreat
namespace Go.Proofs.YtegoimldbgdeiaaGreat
open Go Go.Am
open List (map)
open Int (toNat)
open Go.IntKind (wrap)
open Go.Am.aP (fits)
set_option maxRecDepth 100000
theorem Q5 {N:Nat} (hN:fM N) (l:List (Int × Int)) (x1:List (Int × Int)) (J:List (Int × Int × Int × Int)) (P:List ((List UInt8) × (List (Int × Int)))) (S:List (Int × Int × Int × Int × Bool)) (E:List (Int × Int)) (hl:l.length≤1000000):aB (nr N (P,S,l)) N (x1,J,l,0,P,S,E,([]:List ((Int × Int) × Int)))=some (x1,J,l,P,S,E,nw l):=by
 have key:=eI (rd:=nr N (P,S,l)) l (fun (s:List ((Int × Int) × Int) × Int) k=>(x1,J,l,(k:Int),P,S,E,s.1)) (fun s x=>(iy x s.2 s.1,s.2+1)) (fun s=>(x1,J,l,P,S,E,s.1)) (fun s k=>s.2=(k:Int)) (fun s k hk hP=>by
  obtain ⟨a1,a2⟩:=NW l hk;refine ⟨?_,by show s.2+1=_; rw [hP]; rfl⟩;rw [hP];simp only [nr,lu,aao,aas,aE hk,ap hk,a1,a2,C7,NU,bg (show k < 9223372036854775807 by omega),fF,fG,cT,cU,yA,yB,lV,lW,ft,fu,fC,fD,bX,bY,cI,cJ,fX,fY,cV,cW,dP,dQ,lX,lY,aap,aaq,cond_true,cond_false,aal,eq_self,decide_true]) (fun s _=>by
  simp only [nr,lu,aao,bc,fF,fG,cT,cU,yA,yB,lV,lW,ft,fu,fC,fD,bX,bY,cI,cJ,fX,fY,cV,cW,dP,dQ,lX,lY,aap,aaq,cond_true,cond_false,aal,eq_self,decide_true]) N ([],0) 0 (aax _) (by unfold fM at hN; omega) rfl
 rw [aaT] at key;exact key
theorem NY {N:Nat} (l:List (Int × Int)) (ps:List (Int × Int × Int × Int)) (x1:List (Int × Int)) (J:List (Int × Int × Int × Int)) (P:List ((List UInt8) × (List (Int × Int)))) (S:List (Int × Int × Int × Int × Bool)) (E:List (Int × Int)) (k:Nat) (hk:k < ps.length) (m:List ((Int × Int) × Int)) (hn:(m.map aav).Nodup):∀ (n:Nat) (L:List Nat),L.length < n→L.Nodup→(∀ i∈L,i < m.length) →
  fq (kU N (x1,J,l,ps,(k:Int),P,S,E,m)) n (x1,J,l,ps,P,S,E,(cP (IC (cD m (ps[k].1,ps[k].2.1)) (cD m (ps[k].2.2.1,ps[k].2.2.2))) L m),(m.length:Int),(je L))=some (x1,J,l,ps,P,S,E,(m.map fun e=>(e.1,IC (cD m (ps[k].1,ps[k].2.1)) (cD m (ps[k].2.2.1,ps[k].2.2.2)) e.2)),(m.length:Int),[])
 |0,L,h,_,_=>by omega
 |n+1,L,h,hL,hi=>by
  rw [nu];obtain ⟨a1,a2⟩:=Tk ps hk;have ih:=fun L'=>NY (N:=N) l ps x1 J P S E k hk m hn n L'
  generalize hf:IC (cD m (ps[k].1,ps[k].2.1)) (cD m (ps[k].2.2.1,ps[k].2.2.2))=f at *;have K9:=gO f L m;have ec:decide ((cP f L m).length=m.length)=true:=decide_eq_true K9;cases C8:L with
  |nil=>
   have i0:aaM ([]:List Nat)=true:=rfl;have e0:(cP f [] m).length=m.length:=gO f [] m;simp only [kU,gb,gd,iw,r8,vu,e0,aas,jf,i0,sH,aao,fF,fG,cT,cU,yA,yB,lV,lW,ft,fu,fC,fD,bX,bY,cI,cJ,fX,fY,cV,cW,dP,dQ,lX,lY,aap,aaq,cond_true,cond_false,aal,eq_self,decide_true];rfl
  |cons a L'=>
   rw [← C8];have i0:aaM L=false:=by rw [C8]; rfl
   simp only [kU,gb,gd,iw,r8,vu,aas,ec,cond_true,cond_false,jf,i0];refine vi (by rw [C8]; simp) fun i gk=>?_
   have bW:=hi i gk;have DK:i < (cP f L m).length:=by rw [K9]; exact bW
   have kr:(L.erase i).length=L.length - 1:=aaN gk;have mh:0 < L.length:=aaR gk;have dl:decide (i < m.length)=true:=decide_eq_true bW;have Q3:=ih (L.erase i) (by omega) (hL.erase i) (fun j hj=>hi j (aaI hj));have VT:=sa f L m bW gk;have z0:0+k=k:=aa1 k;rw [NV _ DK,VT];have ahq:d3 (n3 m[i].2)=m[i].2:=Iy _;simp only [F6,F7,Ix,Iy,aap,cond_true,dl,ec,z0,a1,C7,JP];have dJ:f m[i].2=if m[i].2=NS (cD m (ps[k].1,ps[k].2.1)) (cD m (ps[k].2.2.1,ps[k].2.2.2)) then VS (cD m (ps[k].1,ps[k].2.1)) (cD m (ps[k].2.2.1,ps[k].2.2.2)) else m[i].2:=by rw [← hf]; rfl
   by_cases hg:m[i].2=NS (cD m (ps[k].1,ps[k].2.1)) (cD m (ps[k].2.2.1,ps[k].2.2.2))
   ·rw [if_pos hg] at dJ;have hb:(m[i].2 == (if cD m (ps[k].2.2.1,ps[k].2.2.2) > cD m (ps[k].1,ps[k].2.1) then cD m (ps[k].2.2.1,ps[k].2.2.2) else cD m (ps[k].1,ps[k].2.1)))=true:=by rw [hg]; exact beq_self_eq_true _
    have st:=qo f L m bW gk hL hn;rw [dJ] at st;have st:iy (m[i].1.1,m[i].1.2) (if cD m (ps[k].2.2.1,ps[k].2.2.2) < cD m (ps[k].1,ps[k].2.1) then cD m (ps[k].2.2.1,ps[k].2.2.2) else cD m (ps[k].1,ps[k].2.1)) (cP f L m)=cP f (L.erase i) m:=st;simp only [hb,NU,st,fF,fG,cT,cU,yA,yB,lV,lW,ft,fu,fC,fD,bX,bY,cI,cJ,fX,fY,cV,cW,dP,dQ,lX,lY,aap,aaq,cond_true,cond_false,aal,eq_self,decide_true];exact Q3
   ·rw [if_neg hg] at dJ;have hb:(m[i].2 == (if cD m (ps[k].2.2.1,ps[k].2.2.2) > cD m (ps[k].1,ps[k].2.1) then cD m (ps[k].2.2.1,ps[k].2.2.2) else cD m (ps[k].1,ps[k].2.1)))=false:=beq_false_of_ne hg;have st:=Bj f L m bW gk hL dJ;simp only [hb,fF,fG,cT,cU,yA,yB,lV,lW,ft,fu,fC,fD,bX,bY,cI,cJ,fX,fY,cV,cW,dP,dQ,lX,lY,aap,aaq,cond_true,cond_false,aal,eq_self,decide_true];rw [st];exact Q3
theorem Q6 {N:Nat} (hN:fM N) (l:List (Int × Int)) (ps:List (Int × Int × Int × Int)) (x1:List (Int × Int)) (J:List (Int × Int × Int × Int)) (P:List ((List UInt8) × (List (Int × Int)))) (S:List (Int × Int × Int × Int × Bool)) (E:List (Int × Int)) (m:List ((Int × Int) × Int)) (hl:ps.length≤1000000) (hm:m.length≤1000000) (hn:(m.map aav).Nodup):aB (lx N (x1,ps,l,P,S,E,m)) N (x1,J,l,ps,0,P,S,E,m)=some (x1,J,l,ps,P,S,E,(ps.foldl (fun s p=>lP s ((p.1,p.2.1),(p.2.2.1,p.2.2.2))) m)):=by
 have key:=eI (rd:=lx N (x1,ps,l,P,S,E,m)) ps (fun (s:List ((Int × Int) × Int)) k=>(x1,J,l,ps,(k:Int),P,S,E,s)) (fun s p=>lP s ((p.1,p.2.1),(p.2.2.1,p.2.2.2))) (fun s=>(x1,J,l,ps,P,S,E,s)) (fun s k=>(s.map aav).Nodup∧s.length≤1000000) (fun s k hk hP=>by
  obtain ⟨a1,a2⟩:=Tk ps hk;have z0:0+k=k:=aa1 k;have q:=NY (N:=N) l ps x1 J P S E k hk s hP.1 N (aaW s.length) (by rw [aaS]; unfold fM at hN; omega) aaZ (fun i hi=>aaX.1 hi);rw [sG] at q;refine ⟨?_,by rw [wX]; exact hP.1,by unfold lP; rw [aao]; exact hP.2⟩;have dz:decide (ps.length=ps.length)=true:=decide_eq_true rfl;have dk:decide (k < ps.length)=true:=decide_eq_true hk;simp only [lx,aao,aas,aE hk,ap hk,z0,a1,a2,dz,dk,C7,JP,Ix,vu,q,bg (show k < 9223372036854775807 by omega),fF,fG,cT,cU,yA,yB,lV,lW,ft,fu,fC,fD,bX,bY,cI,cJ,fX,fY,cV,cW,dP,dQ,lX,lY,aap,aaq,cond_true,cond_false,aal,eq_self,decide_true];rfl) (fun s _=>by
  simp only [lx,aao,bc,fF,fG,cT,cU,yA,yB,lV,lW,ft,fu,fC,fD,bX,bY,cI,cJ,fX,fY,cV,cW,dP,dQ,lX,lY,aap,aaq,cond_true,cond_false,aal,eq_self,decide_true]) N m 0 (aax _) (by unfold fM at hN; omega) ⟨hn,hm⟩
 rw [aaT] at key;exact key
theorem VV {N:Nat} (hN:fM N) (l:List (Int × Int)) (ps:List (Int × Int × Int × Int)) (x1:List (Int × Int)) (J:List (Int × Int × Int × Int)) (P:List ((List UInt8) × (List (Int × Int)))) (S:List (Int × Int × Int × Int × Bool)) (E:List (Int × Int)) (m:List ((Int × Int) × Int)) (hl:l.length≤1000000):aB (jH N (l,J,l,ps,P,S,E,m)) N (x1,J,l,ps,l,0,P,S,E,m,[])=some (x1,J,l,ps,l,P,S,E,m,(l.foldl (Bk m) [])):=by
 have key:=eI (rd:=jH N (l,J,l,ps,P,S,E,m)) l (fun (s:List (Int × Int)) k=>(x1,J,l,ps,l,(k:Int),P,S,E,m,s)) (Bk m) (fun s=>(x1,J,l,ps,l,P,S,E,m,s)) (fun s k=>True) (fun s k hk hP=>by
  obtain ⟨a1,a2⟩:=NW l hk;refine ⟨?_,trivial⟩;have e:Bk m s l[k]=if (getM (cD m l[k]) s).isSome then s else iy (cD m l[k]) (s.length:Int) s:=rfl
  rw [e];cases hs:(getM (cD m l[k]) s).isSome with
  |true=>
   simp only [jH,iL,eE,ms,ki,iM,aao,aas,aE hk,ap hk,a1,a2,C7,JP,pC,sb,Ix,Iy,JO,hs,abb,if_true,bg (show k < 9223372036854775807 by omega),fF,fG,cT,cU,yA,yB,lV,lW,ft,fu,fC,fD,bX,bY,cI,cJ,fX,fY,cV,cW,dP,dQ,lX,lY,aap,aaq,cond_true,cond_false,aal,eq_self,decide_true]
  |false=>
   simp only [jH,iL,eE,ms,ki,iM,aao,aas,aE hk,ap hk,a1,a2,C7,JP,pC,sb,Ga,xW,Ix,Iy,JO,hs,aa9,aa4,if_false,bg (show k < 9223372036854775807 by omega),fF,fG,cT,cU,yA,yB,lV,lW,ft,fu,fC,fD,bX,bY,cI,cJ,fX,fY,cV,cW,dP,dQ,lX,lY,aap,aaq,cond_true,cond_false,aal,eq_self,decide_true]) (fun s _=>by
  simp only [jH,iL,eE,ms,ki,iM,aao,bc,fF,fG,cT,cU,yA,yB,lV,lW,ft,fu,fC,fD,bX,bY,cI,cJ,fX,fY,cV,cW,dP,dQ,lX,lY,aap,aaq,cond_true,cond_false,aal,eq_self,decide_true]) N [] 0 (aax _) (by unfold fM at hN; omega) trivial
 rw [aaT] at key;exact key
theorem JR {N:Nat} (l:List (Int × Int)) (ps:List (Int × Int × Int × Int)) (x1:List (Int × Int)) (J:List (Int × Int × Int × Int)) (P:List ((List UInt8) × (List (Int × Int)))) (S:List (Int × Int × Int × Int × Bool)) (E:List (Int × Int)) (m:List ((Int × Int) × Int)) (ns:List (Int × Int)) (hn:(m.map aav).Nodup):∀ (n:Nat) (L:List Nat),L.length < n→L.Nodup→(∀ i∈L,i < m.length) →
  fq (mu N) n (x1,J,l,ps,l,P,S,E,(cP (cD ns) L m),ns,(m.length:Int),(je L))=some (x1,J,l,ps,l,P,S,E,(m.map fun e=>(e.1,cD ns e.2)),ns,(m.length:Int),[])
 |0,L,h,_,_=>by omega
 |n+1,L,h,hL,hi=>by
  rw [nu];have ih:=fun L'=>JR (N:=N) l ps x1 J P S E m ns hn n L'
  generalize hf:cD ns=f at *;have K9:=gO f L m;have ec:decide ((cP f L m).length=m.length)=true:=decide_eq_true K9;cases C8:L with
  |nil=>
   have i0:aaM ([]:List Nat)=true:=rfl;have e0:(cP f [] m).length=m.length:=gO f [] m;simp only [mu,vu,e0,aas,jf,i0,sH,aao,fF,fG,cT,cU,yA,yB,lV,lW,ft,fu,fC,fD,bX,bY,cI,cJ,fX,fY,cV,cW,dP,dQ,lX,lY,aap,aaq,cond_true,cond_false,aal,eq_self,decide_true];rfl
  |cons a L'=>
   rw [← C8];have i0:aaM L=false:=by rw [C8]; rfl
   simp only [mu,vu,aas,ec,cond_true,cond_false,jf,i0];refine vi (by rw [C8]; simp) fun i gk=>?_
   have bW:=hi i gk;have DK:i < (cP f L m).length:=by rw [K9]; exact bW
   have kr:(L.erase i).length=L.length - 1:=aaN gk;have mh:0 < L.length:=aaR gk;have dl:decide (i < m.length)=true:=decide_eq_true bW;have Q3:=ih (L.erase i) (by omega) (hL.erase i) (fun j hj=>hi j (aaI hj));have VT:=sa f L m bW gk;rw [NV _ DK,VT];have st:=qo f L m bW gk hL hn;have ev:cD ns m[i].2=f m[i].2:=by rw [hf]
   have st:iy (m[i].1.1,m[i].1.2) (f m[i].2) (cP f L m)=cP f (L.erase i) m:=st;simp only [F6,F7,Ix,Iy,aap,cond_true,dl,ec,pC,sb,C7,NU,ev,st,fF,fG,cT,cU,yA,yB,lV,lW,ft,fu,fC,fD,bX,bY,cI,cJ,fX,fY,cV,cW,dP,dQ,lX,lY,aap,aaq,cond_true,cond_false,aal,eq_self,decide_true];exact Q3
end Go.Proofs.YtegoimldbgdeiaaGreat
namespace Go.Proofs.YtegoimldbgdeiaaGreat
open Go Go.Am
open List (map)
open Int (toNat)
open Go.IntKind (wrap)
open Go.Am.aP (fits)
set_option maxRecDepth 100000
abbrev nJ:=(List UInt8) × (List (Int × Int))
abbrev qq:=Int × Int × Int × Int × Bool
abbrev fx:=List nJ × List qq
def cr (n:Nat):List Int:=(aaW n).map fun i:Nat=>(i:Int)
theorem Gb (n:Nat):cr (n+1)=cr n++[(n:Int)]:=by unfold cr; rw [List.range_succ,aaK]; rfl
theorem ny (n:Nat):(cr n).length=n:=by simp [cr]
def yC (s:qq):Int × Int:=(s.1,s.2.2.1)
def eP (t:fx):List Int:=
 let l:=cr t.1.length
 let m:=za l (t.2.map yC)
 l.map (cD m)
theorem Tl (l:List Int) (x:Int):map n3 l++[AV.int .i64 x]=map n3 (l++[x]):=by rw [aaK]; rfl
theorem Q7 (l:List (Int × Int)) (a b:Int):map n106 l++[AV.agg [AV.int .i64 a,AV.int .i64 b]]=map n106 (l++[(a,b)]):=by rw [aaK]; rfl
theorem Q8 (l:List (Int × Int)) (a b:Int):map n100 l++[AV.agg [AV.int .i64 a,AV.int .i64 b]]=map n100 (l++[(a,b)]):=by rw [aaK]; rfl
theorem ZL:allFit (fits p3) ([]:List AV)=true:=rfl
theorem ZM:map d3 ([]:List AV)=[]:=rfl
theorem VW:allFit (fits mo) ([]:List AV)=true:=rfl
theorem VX:map d100 ([]:List AV)=[]:=rfl
theorem VY:allFit (fits vt) ([]:List AV)=true:=rfl
theorem VZ:map d189 ([]:List AV)=[]:=rfl
theorem c0_:af ([]:List (AV × AV))=[]:=rfl
theorem a0_:jP ([]:List (AV × AV))=true:=rfl
theorem NZ:allFit (fits di) ([]:List AV)=true:=rfl
theorem N1:map dO ([]:List AV)=[]:=rfl
theorem V0:allFit (fits cN) ([]:List AV)=true:=rfl
theorem V1:map cz ([]:List AV)=[]:=rfl
theorem Gc {K:Type} [DecidableEq K] (l:List K):(nw l).length≤l.length:=by
 have gen:∀ (l:List K) (s:List (K × Int) × Int),((l.foldl (fun s x=>(iy x s.2 s.1,s.2+1)) s).1).length≤s.1.length+l.length:=by
  intro l
  induction l with
  |nil=>intro s; exact Nat.le_refl _
  |cons x l ih=>
   intro s;have h1:=ih (iy x s.2 s.1,s.2+1);have h2:(iy x s.2 s.1).length≤s.1.length+1:=by
    have:=congrArg List.length (wW (k:=x) (v:=s.2) (m:=s.1));rw [aao] at this;rw [this];split <;> simp
   rw [List.foldl_cons,aaV];simp only at h1;omega
 have:=gen l ([],0);unfold nw;simpa using this
theorem JS {K:Type} [DecidableEq K] (ps:List (K × K)) (m:List (K × Int)):(ps.foldl lP m).length=m.length:=by
 induction ps generalizing m with
 |nil=>rfl
 |cons p ps ih=>rw [List.foldl_cons,ih]; unfold lP; rw [aao]
theorem cl3:∀ l:List Int,aF (map n3 l)=true
 |[]=>rfl
 |x :: l=>by
  show ((n3 x).closed&&aF (map n3 l))=true;rw [cl3 l]; rfl
section
variable {N:Nat} (hN:fM N)
include hN
theorem Q9 (t:fx) (h:t.1.length≤1000000):aB (Bh N t) N ([],0)=some (cr t.1.length):=by
 have key:=bi (rd:=Bh N t) t.1.length (fun k=>(cr k,(k:Int))) (cr t.1.length) (fun k hk=>by
  have d:decide ((cr k).length=(cr k).length)=true:=decide_eq_true rfl;have d2:decide ((k+1) * 8≤140737488355328)=true:=decide_eq_true (by omega);simp only [Bh,aao,aE hk,ny,d2,Tl,lV,lW,← Gb,bg (show k < 9223372036854775807 by omega),aap,aaq,cond_true,aal,eq_self,decide_true]) (by
  simp only [Bh,aao,bc,ny,lV,lW,aap,aaq,cond_true,cond_false,aal,eq_self,decide_true]) N 0 (aax _) (by unfold fM at hN; omega)
 exact key
theorem Ra (t:fx) (l:List Int) (h:t.2.length≤1000000):aB (np N t l) N ((),0,[])=some ((),t.2.map yC):=by
 have key:=bi (rd:=np N t l) t.2.length (fun k=>((),(k:Int),(t.2.take k).map yC)) ((),t.2.map yC) (fun k hk=>by
  obtain ⟨a1,a2⟩:=Bm t.2 hk;have ht:(t.2.take k).length=k:=by rw [aaO]; omega
  have d2:decide ((k+1) * 16≤140737488355328)=true:=decide_eq_true (by omega);have d0:decide ((0:Nat)=0)=true:=rfl;have es:(t.2.take k).map yC++[(t.2[k].1,t.2[k].2.2.1)]=(t.2.take (k+1)).map yC:=by
   rw [aaY,aaL hk,aaK]; rfl
  have el:((t.2.take (k+1)).map yC).length=k+1:=by rw [aao,aaO]; omega
  have nb:aa6 (k+1) (k+1)=true:=aa2 _;simp only [np,jF,aao,aas,aE hk,ap hk,a1,a2,ht,d2,d0,Q7,es,el,nb,ft,fu,bg (show k < 9223372036854775807 by omega),aap,aaq,cond_true,aal,eq_self,decide_true]) (by
  have nb:aa6 t.2.length t.2.length=true:=aa2 _;simp only [np,jF,aao,bc,aa0,nb,ft,fu,aap,aaq,cond_true,cond_false,aal,eq_self,decide_true]) N 0 (aax _) (by unfold fM at hN; omega)
 exact key
theorem Rb (l x:List Int) (hl:l.length≤1000000) (ps:List (Int × Int)) (m ns:List (Int × Int)) (c:Int) (L:List Int) (hL:∃ L',L=je L'):∃ r,aB (kJ N l) N ((),l,0,ps,m,ns,c,L,(),[])=some r∧r.2.2.2.2.2.2.2.2=l.map (cD m):=by
 obtain ⟨L',rfl⟩:=hL;refine ⟨((),l,ps,m,ns,((toNat c:Nat):Int),je L',(),l.map (cD m)),?_,rfl⟩;cases wj:l with
 |nil=>
  have d:decide ((0:Int) < ((([]:List Int).length:Nat):Int))=false:=rfl;obtain ⟨n,rfl⟩:∃ n,N=n+1:=⟨N - 1,by unfold fM at hN; omega⟩;have n0:aa6 0 0=true:=rfl;rw [qm];simp only [kJ,iu,abc,aa3,n0,ZL,ZM,fF,dP,dQ,fG,jf,lX,lY,ft,fu,cond_false,aap,aaq,cond_true,aal,eq_self,decide_true,Sum.elim_inr,Int.lt_irrefl,decide_false];rfl
 |cons a l'=>
 rw [← wj];have key:=bi (rd:=kJ N l) l.length (fun k=>((),l,(k:Int),ps,m,ns,(if k=0 then c else ((toNat c:Nat):Int)),je L',(),(l.take k).map (cD m))) ((),l,ps,m,ns,((toNat c:Nat):Int),je L',(),l.map (cD m)) (fun k hk=>by
  obtain ⟨a1,a2⟩:=Q1 l hk;have ht:(l.take k).length=k:=by rw [aaO]; omega
  have d2:decide ((k+1) * 8≤140737488355328)=true:=decide_eq_true (by omega);have d0:decide ((0:Nat)=0)=true:=rfl;have es:(l.take k).map (cD m)++[cD m l[k]]=(l.take (k+1)).map (cD m):=by
   rw [aaY,aaL hk,aaK]; rfl
  have el:((l.take (k+1)).map (cD m)).length=k+1:=by rw [aao,aaO]; omega
  have nb:aa6 (k+1) (k+1)=true:=aa2 _;have ec:((toNat (if k=0 then c else ((toNat c:Nat):Int)):Nat):Int)=((toNat c:Nat):Int):=by split <;> simp
  have e1:(k+1=0)=False:=by simp
  simp only [kJ,iu,aao,aas,aE hk,ap hk,a1,a2,ht,d2,d0,pC,sb,Ix,Iy,Tl,es,el,nb,ec,e1,if_false,lV,lW,fF,dP,dQ,fG,jf,lX,lY,ft,fu,bg (show k < 9223372036854775807 by omega),aap,aaq,cond_true,aal,eq_self,decide_true]) (by
  have nb:aa6 l.length l.length=true:=aa2 _;have e1:(l.length=0)=False:=by rw [wj]; simp
  simp only [kJ,iu,aao,bc,aa0,nb,e1,if_false,aas,lV,lW,fF,dP,dQ,fG,jf,lX,lY,ft,fu,aap,aaq,cond_true,cond_false,aal,eq_self,decide_true]) N 0 (aax _) (by unfold fM at hN; omega)
 exact key
theorem Bn (t:fx) (h1:t.1.length≤1000000) (h2:t.2.length≤1000000):XO N t=some (eP t):=by
 have q1:=Q9 hN t h1;have q2:=Ra hN t (cr t.1.length) h2;have hl:(cr t.1.length).length≤1000000:=by rw [ny]; exact h1
 have hp:(t.2.map yC).length≤1000000:=by rw [aao]; exact h2
 have nl:=Gc (cr t.1.length);have q3:=Q2 hN (cr t.1.length) (t.2.map yC) (cr t.1.length) hl;have q4:=Q4 hN (cr t.1.length) (t.2.map yC) (cr t.1.length) (nw (cr t.1.length)) hp (by omega) (qp _);have q5:=VU hN (cr t.1.length) (t.2.map yC) (cr t.1.length) ((t.2.map yC).foldl lP (nw (cr t.1.length))) hl;have nd:=C6 (t.2.map yC) (nw (cr t.1.length)) (qp _);have ul:=JS (t.2.map yC) (nw (cr t.1.length));have q6:=JQ (N:=N) (cr t.1.length) (t.2.map yC) (cr t.1.length) ((t.2.map yC).foldl lP (nw (cr t.1.length))) ((cr t.1.length).foldl (Bk ((t.2.map yC).foldl lP (nw (cr t.1.length)))) []) nd N (aaW ((t.2.map yC).foldl lP (nw (cr t.1.length))).length) (by rw [aaS]; unfold fM at hN; omega) aaZ (fun i hi=>aaX.1 hi);rw [sG] at q6;obtain ⟨r,q7,er⟩:=Rb hN (cr t.1.length) (cr t.1.length) hl (t.2.map yC) (za (cr t.1.length) (t.2.map yC)) ((cr t.1.length).foldl (Bk ((t.2.map yC).foldl lP (nw (cr t.1.length)))) []) (((t.2.map yC).foldl lP (nw (cr t.1.length))).length:Int) [] ⟨[],rfl⟩;have z1:decide ((0:Int)≤0∧(0:Int)≤((t.2.length:Nat):Int)∧((t.2.length:Nat):Int)≤140737488355328∧((t.2.length:Nat):Int) * 16≤140737488355328)=true:=decide_eq_true (by omega);have z2:decide ((0:Int)≤0∧(0:Int)≤((t.1.length:Nat):Int)∧((t.1.length:Nat):Int)≤140737488355328∧((t.1.length:Nat):Int) * 8≤140737488355328)=true:=decide_eq_true (by omega);have r0:∀ x:AV,List.replicate 0 x=[]:=fun _=>rfl
 have tz:toNat 0=0:=rfl;have nb0:aa6 0 ([]:List AV).length=true:=rfl;have f23:allFit (fits vr) ([]:List AV)=true:=rfl;have m23:map d106 ([]:List AV)=[]:=rfl;have u0:aA (map n2 ([]:List Int))=[]:=rfl;have fz0:bB []=[]:=rfl;have u00:aA ([]:List AV)=[]:=rfl;have lz:je []=[]:=rfl;have f2:allFit (fits p2) ([]:List AV)=true:=rfl;have m2:map d2 ([]:List AV)=[]:=rfl;have eU:za (cr t.1.length) (t.2.map yC)=((t.2.map yC).foldl lP (nw (cr t.1.length))).map fun e=>(e.1,cD ((cr t.1.length).foldl (Bk ((t.2.map yC).foldl lP (nw (cr t.1.length)))) []) e.2):=rfl
 rw [eU] at q7;have d0:decide ((0:Nat)=([]:List AV).length)=true:=rfl;have d0:decide ((0:Nat)=0)=true:=rfl;have ado:aa6 0 0=true:=rfl;rw [VM];simp only [ZL,ZM,abc,aa3,d0,aaq,cond_true,aal,q1,aao,z1,tz,r0,nb0,ado,f23,m23,aap,eq_self,decide_true,q2,lV,lW,ft,fu,c0_,NZ,N1,a0_,q3,fF,dP,dQ,fG,q4,q5,xW,lX,lY,q6,ny,z2,u0,u00,lz,fz0,f2,m2,aas,q7,er,cl3];rfl
end
end Go.Proofs.YtegoimldbgdeiaaGreat
namespace Go.Proofs.YtegoimldbgdeiaaGreat
open Go Go.Am
open List (map)
open Int (toNat)
open Go.IntKind (wrap)
open Go.Am.aP (fits)
set_option maxRecDepth 100000
theorem N2:∀ l:List (Int × Int),bD (map n132 l) (map n132 l)=true
 |[]=>rfl
 |x :: l=>by
  rw [aa5,bD,N2 l];show (bD [AV.int .i64 x.1,AV.int .i64 x.2] [AV.int .i64 x.1,AV.int .i64 x.2]&&true)=true;simp [bD,eu,ui]
theorem JU:∀ l:List nJ,bD (map n131 l) (map n131 l)=true
 |[]=>rfl
 |x :: l=>by
  rw [aa5,bD,JU l];have e:bD (map n132 x.2) (map n132 x.2)=true:=N2 x.2;show (bD [AV.str x.1,AV.list .gQ 2 (map n132 x.2)] [AV.str x.1,AV.list .gQ 2 (map n132 x.2)]&&true)=true;simp only [bD,eu,ui,e,beq_self_eq_true,aa2,aap]
theorem Gd:∀ l:List qq,bD (map n110 l) (map n110 l)=true
 |[]=>rfl
 |x :: l=>by
  rw [aa5,bD,Gd l];show (bD [AV.int .i64 x.1,AV.int .i64 x.2.1,AV.int .i64 x.2.2.1,AV.int .i64 x.2.2.2.1,AV.bool x.2.2.2.2] [AV.int .i64 x.1,AV.int .i64 x.2.1,AV.int .i64 x.2.2.1,AV.int .i64 x.2.2.2.1,AV.bool x.2.2.2.2]&&true)=true;simp [bD,eu,ui]
def Rc (t:fx) (p:Int):Nat:=((t.1.getD p.toNat ([],[])).2).length
def Re (t:fx) (e:Int × Int):Int × Int:=(e.1,Int.tmod (wrap .i64 (e.2+1)) (Rc t e.1:Int))
def ZN (t:fx) (e:Int × Int):Bool:=decide (0≤e.1)&&decide (e.1 < (t.1.length:Int))&&!(Rc t e.1 == 0)
def V2 (t:fx) (s:qq):Bool:=ZN t (s.1,s.2.1)&&ZN t (s.2.2.1,s.2.2.2.1)
def fH (t:fx) (s:qq):(Int × Int × Int × Int) × (Int × Int × Int × Int):=
 let a0:=(s.1,s.2.1)
 let a1:=Re t a0
 let b0:=(s.2.2.1,s.2.2.2.1)
 let b1:=Re t b0
 if s.2.2.2.2 then ((a0.1,a0.2,b0.1,b0.2),(a1.1,a1.2,b1.1,b1.2)) else ((a0.1,a0.2,b1.1,b1.2),(a1.1,a1.2,b0.1,b0.2))
theorem V3 {t:fx} {e:Int × Int} (h:ZN t e=true):0≤e.1∧e.1 < (t.1.length:Int)∧Rc t e.1≠0:=by
 unfold ZN at h;simp only [Bool.and_eq_true,decide_eq_true_eq,Bool.not_eq_true',beq_eq_false_iff_ne] at h;exact ⟨h.1.1,h.1.2,h.2⟩
theorem Ge (N:Nat) (t:fx) (e:Int × Int) (h:ZN t e=true):Em N (t,e)=some (e.1,e.2,(Re t e).1,(Re t e).2):=by
 obtain ⟨h1,h2,h3⟩:=V3 h;obtain ⟨k,hk⟩:∃ k:Nat,e.1=(k:Int):=⟨e.1.toNat,by omega⟩;have GM:k < t.1.length:=by omega
 obtain ⟨a1,a2⟩:=se t.1 GM;have es:t.1[k].2.length=Rc t e.1:=by
  unfold Rc;rw [hk,aas,List.getD_eq_getElem?_getD,aaL GM];rfl
 have d:(!(decide (((Rc t e.1:Nat):Int)=0)))=true:=by rw [decide_eq_false (by omega)]; rfl
 rw [show Em N (t,e)=Em N ((t.1,t.2),(e.1,e.2)) from rfl,QR];simp only [hk,aas,aao,ap GM,a1,a2,aap,cond_true];rw [es,d,cond_true,← hk];rfl
theorem Lm (N:Nat) (t:fx) (s:qq) (h:V2 t s=true):NN N (t,s)=some ((fH t s).1.1,(fH t s).1.2.1,(fH t s).1.2.2.1,(fH t s).1.2.2.2,(fH t s).2.1,(fH t s).2.2.1,(fH t s).2.2.2.1,(fH t s).2.2.2.2):=by
 unfold V2 at h;rw [Bool.and_eq_true] at h;have q1:=Ge N t (s.1,s.2.1) h.1;have q2:=Ge N t (s.2.2.1,s.2.2.2.1) h.2;rw [QT];have q1':Em N ((t.1,t.2),(s.1,s.2.1))=_:=q1;have q2':Em N ((t.1,t.2),(s.2.2.1,s.2.2.2.1))=_:=q2;simp only [cI,cJ,bX,bY,aap,aaq,cond_true,aal,q1',q2',beq_self_eq_true,JU,Gd];unfold fH;cases hs:s.2.2.2.2
 ·simp only [aa9,cond_true,aal,aa4,if_false]
 ·simp only [abb,cond_false,aal,if_true]
def gf (t:fx):List (Int × Int × Int × Int):=t.2.flatMap fun s=>[(fH t s).1,(fH t s).2]
def lZ (p:Nat) (n:Nat):List (Int × Int):=(aaW n).map fun i:Nat=>((p:Int),(i:Int))
def nz:List nJ→Nat→List (Int × Int)
 |[],_=>[]
 |x :: l,p=>lZ p x.2.length++nz l (p+1)
def gJ (t:fx):List (Int × Int):=nz t.1 0
def V4 (p:Int × Int × Int × Int):(Int × Int) × (Int × Int):=((p.1,p.2.1),(p.2.2.1,p.2.2.2))
def gC (t:fx):List ((Int × Int) × Int):=za (gJ t) ((gf t).map V4)
theorem Rf (l:List (Int × Int × Int × Int)) (a b:Int × Int × Int × Int):map n189 l++[AV.agg [AV.int .i64 a.1,AV.int .i64 a.2.1,AV.int .i64 a.2.2.1,AV.int .i64 a.2.2.2],AV.agg [AV.int .i64 b.1,AV.int .i64 b.2.1,AV.int .i64 b.2.2.1,AV.int .i64 b.2.2.2]]=map n189 (l++[a,b]):=by rw [aaK]; rfl
theorem IE (t:fx) {k:Nat} (hk:k < t.2.length):(t.2.take (k+1)).flatMap (fun s=>[(fH t s).1,(fH t s).2])=(t.2.take k).flatMap (fun s=>[(fH t s).1,(fH t s).2])++[(fH t t.2[k]).1,(fH t t.2[k]).2]:=by
 rw [aaY,aaL hk,List.flatMap_append];rfl
theorem C9 (t:fx) (l:List qq):(l.flatMap (fun s=>[(fH t s).1,(fH t s).2])).length=2 * l.length:=by
 induction l with
 |nil=>rfl
 |cons s l ih=>rw [List.flatMap_cons,aaQ,ih,aaV]; simp only [aaV,aa3]; omega
theorem Bo:∀ (l:List nJ) (p:Nat) (x:nJ),nz (l++[x]) p=nz l p++lZ (p+l.length) x.2.length
 |[],p,x=>by simp [nz]
 |y :: l,p,x=>by
  rw [List.cons_append,nz,Bo l (p+1) x,nz,List.append_assoc,aaV];rw [show p+1+l.length=p+(l.length+1) by omega]
theorem wY:∀ (l:List nJ) (p:Nat),(∀ x∈l,x.2.length≤1000)→(nz l p).length≤1000 * l.length
 |[],_,_=>Nat.le_refl _
 |x :: l,p,h=>by
  have ih:=wY l (p+1) fun y hy=>h y (List.mem_cons_of_mem _ hy)
  have:=h x List.mem_cons_self;rw [nz,aaQ,aaV];simp only [lZ,aao,aaS];omega
section
variable {N:Nat} (hN:fM N)
include hN
theorem Rg (t:fx) (h:t.2.length≤1000000) (ho:∀ s∈t.2,V2 t s=true):aB (Bi N t) N ([],0)=some (gf t):=by
 have key:=bi (rd:=Bi N t) t.2.length (fun k=>((t.2.take k).flatMap (fun s=>[(fH t s).1,(fH t s).2]),(k:Int))) (gf t) (fun k hk=>by
  obtain ⟨a1,a2⟩:=Bm t.2 hk;have q:=Lm N t t.2[k] (ho _ (aa7 hk));have q:NN N ((t.1,t.2),(t.2[k].1,t.2[k].2.1,t.2[k].2.2.1,t.2[k].2.2.2.1,t.2[k].2.2.2.2))=_:=q;have hl:=C9 t (t.2.take k);have ht:(t.2.take k).length=k:=by rw [aaO]; omega
  rw [ht] at hl;have O9:((t.2.take k).flatMap (fun s=>[(fH t s).1,(fH t s).2])++[(fH t t.2[k]).1,(fH t t.2[k]).2]).length=2 * k+2:=by rw [aaQ,hl]; rfl
  have d2:decide ((2 * k+2) * 32≤140737488355328)=true:=decide_eq_true (by omega);have sn:=Rf ((t.2.take k).flatMap (fun s=>[(fH t s).1,(fH t s).2])) (fH t t.2[k]).1 (fH t t.2[k]).2;simp only [Bi,aao,aas,aE hk,ap hk,a1,a2,cI,cJ,bX,bY,q,hl,d2,sn,fX,fY,O9,IE t hk,bg (show k < 9223372036854775807 by omega),aap,aaq,cond_true,aal,eq_self,decide_true]) (by
  simp only [Bi,aao,bc,aa0,fX,fY,aap,aaq,cond_true,cond_false,aal,eq_self,decide_true];rfl) N 0 (aax _) (by unfold fM at hN; omega)
 exact key
theorem N3 (t:fx) (J:List (Int × Int × Int × Int)) (p:Nat) (hp:p < t.1.length) (hs:t.1[p].2.length≤1000) (acc:List (Int × Int)) (ha:acc.length≤1000000) (v3:List (Int × Int)):aB (kh N J ((p:Int),t.1,t.2,v3)) N (0,t.1,t.2,acc)=some (t.1,t.2,acc++lZ p t.1[p].2.length):=by
 obtain ⟨a1,a2⟩:=se t.1 hp;have key:=bi (rd:=kh N J ((p:Int),t.1,t.2,v3)) t.1[p].2.length (fun k=>((k:Int),t.1,t.2,acc++lZ p k)) (t.1,t.2,acc++lZ p t.1[p].2.length) (fun k hk=>by
  have cl:(acc++lZ p k).length=acc.length+k:=by rw [aaQ]; simp [lZ]
  have cs:acc++lZ p k++[((p:Int),(k:Int))]=acc++lZ p (k+1):=by
   rw [List.append_assoc]; congr 1; unfold lZ; rw [List.range_succ,aaK]; rfl
  have cl2:(acc++lZ p (k+1)).length=acc.length+k+1:=by rw [aaQ]; simp [lZ]; omega
  have d2:decide ((acc.length+k+1) * 16≤140737488355328)=true:=decide_eq_true (by omega);simp only [kh,aao,aas,a1,aE hk,cl,d2,Q8,cs,cl2,cI,cJ,bX,bY,fC,fD,bg (show k < 9223372036854775807 by omega),aap,aaq,cond_true,aal,eq_self,decide_true]) (by
  simp only [kh,aao,aas,a1,bc,cI,cJ,bX,bY,fC,fD,aap,aaq,cond_true,cond_false,aal,eq_self,decide_true]) N 0 (aax _) (by unfold fM at hN; omega)
 have e0:acc++lZ p 0=acc:=by simp [lZ]
 rw [e0] at key;exact key
theorem N4 (t:fx) (J:List (Int × Int × Int × Int)) (h:t.1.length≤1000) (hs:∀ x∈t.1,x.2.length≤1000):aB (pA N t J) N (0,t.1,t.2,[])=some (t.1,t.2,gJ t):=by
 have key:=bi (rd:=pA N t J) t.1.length (fun k=>((k:Int),t.1,t.2,nz (t.1.take k) 0)) (t.1,t.2,gJ t) (fun k hk=>by
  obtain ⟨a1,a2⟩:=se t.1 hk;have hc:=wY (t.1.take k) 0 fun x hx=>hs x (List.mem_of_mem_take hx)
  have ht:(t.1.take k).length=k:=by rw [aaO]; omega
  rw [ht] at hc;have q:=N3 hN t J k hk (hs _ (aa7 hk)) (nz (t.1.take k) 0) (by omega) (nz (t.1.take k) 0);have es:nz (t.1.take (k+1)) 0=nz (t.1.take k) 0++lZ k t.1[k].2.length:=by
   rw [aaY,aaL hk];show nz (t.1.take k++[t.1[k]]) 0=_;rw [Bo,ht,aa1]
  simp only [pA,aao,aas,aE hk,ap hk,a2,q,← es,cI,cJ,bX,bY,fC,fD,bg (show k < 9223372036854775807 by omega),aap,aaq,cond_true,aal,eq_self,decide_true]) (by
  simp only [pA,aao,bc,aa0,cI,cJ,bX,bY,fC,fD,aap,aaq,cond_true,cond_false,aal,eq_self,decide_true];rfl) N 0 (aax _) (by unfold fM at hN; omega)
 exact key
theorem Bp (t:fx) (h1:t.1.length≤1000) (hs:∀ x∈t.1,x.2.length≤1000) (h2:t.2.length≤100000) (ho:∀ s∈t.2,V2 t s=true):VO N t=some (gC t):=by
 have q1:=Rg hN t (by omega) ho;have q2:=N4 hN t (gf t) h1 hs;have hl:(gJ t).length≤1000000:=by
  have:=wY t.1 0 hs;unfold gJ;omega
 have hp:(gf t).length≤1000000:=by
  have:=C9 t t.2;unfold gf;omega
 have nl:=Gc (gJ t);have q3:=Q5 hN (gJ t) (gJ t) (gf t) t.1 t.2 (gJ t) hl;have fe:∀ m:List ((Int × Int) × Int),(gf t).foldl (fun s p=>lP s ((p.1,p.2.1),(p.2.2.1,p.2.2.2))) m=((gf t).map V4).foldl lP m:=fun m=>by rw [List.foldl_map]; rfl
 have q4:=Q6 hN (gJ t) (gf t) (gJ t) (gf t) t.1 t.2 (gJ t) (nw (gJ t)) hp (by omega) (qp _);rw [fe] at q4;have nd:=C6 ((gf t).map V4) (nw (gJ t)) (qp _);have q5:=VV hN (gJ t) (gf t) (gJ t) (gf t) t.1 t.2 (gJ t) (((gf t).map V4).foldl lP (nw (gJ t))) hl;have q6:=JR (N:=N) (gJ t) (gf t) (gJ t) (gf t) t.1 t.2 (gJ t) (((gf t).map V4).foldl lP (nw (gJ t))) ((gJ t).foldl (Bk (((gf t).map V4).foldl lP (nw (gJ t)))) []) nd N (aaW (((gf t).map V4).foldl lP (nw (gJ t))).length) (by rw [aaS,JS]; unfold fM at hN; omega) aaZ (fun i hi=>aaX.1 hi);rw [sG] at q6;have d0:decide ((0:Nat)=0)=true:=rfl;rw [VR];simp only [VY,VZ,VW,VX,abc,aa3,d0,aaq,aap,cond_true,aal,q1,aao,cI,cJ,bX,bY,fC,fD,fX,fY,eq_self,decide_true,q2,c0_,V0,V1,a0_,NZ,N1,q3,cT,cV,cW,cU,q4,q5,fF,dP,dQ,fG,vu,lX,lY,q6];rfl
end
end Go.Proofs.YtegoimldbgdeiaaGreat
