/- Plain laws: groups that are united. -/
import Derived.Test.YtegoimldbgdeiaaTrwA
import Derived.Test.YtegoimldbgdeiaaAmKM
set_option linter.all false
open Bool renaming and_self→aas, and_true→aat, false_eq_true→acK, not_false→acP, not_true→acR
open Int renaming toNat_natCast→aau
open List renaming length_map→aal, mem_of_mem_erase→aay, map_append→aaA, getElem?_eq_getElem→aaK, isEmpty→aaM, length_erase_of_mem→aaP, length_take→aaT, length_append→aa0, length_pos_of_mem→aa3, length_range→aa6, drop_zero→abd, ext_getElem→abQ, length_cons→ab9, range→acg, mem_range→acv, take_add_one→acz, nodup_range→acC, take_length→acG, length_nil→acJ, map_cons→acL, getElem_mem→acN, map_map→acO, Nodup→acQ, map_nil→acS
open Nat renaming zero_le→aax, zero_add→acH, beq_refl→acI, beq→acM
open Option renaming bind_some→aae
open Prod renaming fst→aav
namespace Go.Proofs.Ytegoimldbgdeiaa
open Go Go.Am
open List (map)
open Int (toNat)
open Go.IntKind (wrap)
open Go.Am.aL (fits)
set_option maxRecDepth 100000
section
variable {K:Type} [DecidableEq K]
theorem NE (v:Int):∀ (m:List (K × Int)) (i:Nat) (hi:i < m.length),(m.map aav).Nodup→fx m[i].1 v m=m.set i (m[i].1,v)
 |[],i,hi,_=>by cases hi
 |e :: m,0,_,_=>by
  show fx e.1 v (e :: m)=(e.1,v) :: m;unfold fx;rw [if_pos rfl]
 |e :: m,i+1,hi,hn=>by
  rw [acL,List.nodup_cons] at hn;have tj:i < m.length:=by simpa using hi
  have du:e.1≠m[i].1:=fun h=>hn.1 (by rw [h]; exact List.mem_map.2 ⟨m[i],acN tj,rfl⟩)
  show fx m[i].1 v (e :: m)=e :: m.set i (m[i].1,v);unfold fx;rw [if_neg (fun h=>du h.symm),NE v m i tj hn.2]
def dh (f:Int→Int) (L:List Nat) (m:List (K × Int)):List (K × Int):=m.mapIdx fun i e=>if i∈L then e else (e.1,f e.2)
theorem iN (f:Int→Int) (L:List Nat) (m:List (K × Int)):(dh f L m).length=m.length:=by simp [dh]
theorem L9 (f:Int→Int) (L:List Nat) (m:List (K × Int)):(dh f L m).map aav=m.map aav:=by
 apply abQ
 ·simp [dh]
 ·intro i h1 h2;simp only [List.getElem_map,dh,List.getElem_mapIdx];split <;> rfl
theorem uC (f:Int→Int) (L:List Nat) (m:List (K × Int)) {i:Nat} (hi:i < m.length) (hL:i∈L):(dh f L m)[i]'(by rw [iN]; exact hi)=m[i]:=by
 simp only [dh,List.getElem_mapIdx,if_pos hL]
theorem vl (f:Int→Int) (m:List (K × Int)):dh f (acg m.length) m=m:=by
 apply abQ
 ·simp [dh]
 ·intro i h1 h2;simp only [dh,List.getElem_mapIdx,if_pos (acv.2 h2)]
theorem vn (f:Int→Int) (m:List (K × Int)):dh f [] m=m.map fun e=>(e.1,f e.2):=by
 apply abQ
 ·simp [dh]
 ·intro i h1 h2;simp [dh]
theorem sM (f:Int→Int) (L:List Nat) (m:List (K × Int)) {i:Nat} (hi:i < m.length) (hL:i∈L) (hn:L.Nodup) (hk:(m.map aav).Nodup):fx m[i].1 (f m[i].2) (dh f L m)=dh f (L.erase i) m:=by
 have tj:i < (dh f L m).length:=by rw [iN]; exact hi
 have e:=NE (f m[i].2) (dh f L m) i tj (by rw [L9]; exact hk);rw [uC f L m hi hL] at e;rw [e];apply abQ
 ·simp [dh]
 ·intro j h1 h2;rw [List.getElem_set];by_cases hj:i=j
  ·subst hj;have:i∉L.erase i:=fun h=>(acQ.mem_erase_iff hn).1 h |>.1 rfl
   simp only [if_pos,dh,List.getElem_mapIdx,if_neg this]
  ·rw [if_neg hj];simp only [dh,List.getElem_mapIdx];by_cases Ma:j∈L
   ·rw [if_pos Ma,if_pos ((acQ.mem_erase_iff hn).2 ⟨fun h=>hj h.symm,Ma⟩)]
   ·rw [if_neg Ma,if_neg fun h=>Ma (aay h)]
theorem DI (f:Int→Int) (L:List Nat) (m:List (K × Int)) {i:Nat} (hi:i < m.length) (hL:i∈L) (hn:L.Nodup) (hf:f m[i].2=m[i].2):dh f L m=dh f (L.erase i) m:=by
 apply abQ
 ·simp [dh]
 ·intro j h1 h2;simp only [dh,List.getElem_mapIdx];by_cases hj:i=j
  ·subst hj;have:i∉L.erase i:=fun h=>(acQ.mem_erase_iff hn).1 h |>.1 rfl
   rw [if_pos hL,if_neg this,hf]
  ·by_cases Ma:j∈L
   ·rw [if_pos Ma,if_pos ((acQ.mem_erase_iff hn).2 ⟨fun h=>hj h.symm,Ma⟩)]
   ·rw [if_neg Ma,if_neg fun h=>Ma (aay h)]
def mP (l:List K):List (K × Int):=(l.foldl (fun s x=>(fx x s.2 s.1,s.2+1)) (([]:List (K × Int)),(0:Int))).1
def Py (a b:Int):Int:=if b > a then b else a
def VI (a b:Int):Int:=if b < a then b else a
def wS (a b g:Int):Int:=if g=Py a b then VI a b else g
def a7 (m:List (K × Int)) (x:K):Int:=(getM x m).getD 0
def kn (m:List (K × Int)) (p:K × K):List (K × Int):=m.map fun e=>(e.1,wS (a7 m p.1) (a7 m p.2) e.2)
def wT (m:List (K × Int)) (ns:List (Int × Int)) (x:K):List (Int × Int):=if (getM (a7 m x) ns).isSome then ns else fx (a7 m x) (ns.length:Int) ns
def gb (l:List K) (ps:List (K × K)):List (K × Int):=
 let m:=ps.foldl kn (mP l)
 let ns:=l.foldl (wT m) []
 m.map fun e=>(e.1,a7 ns e.2)
theorem Mb {k:K} {v:Int} {m:List (K × Int)} (h:(m.map aav).Nodup):((fx k v m).map aav).Nodup:=by
 rw [vk];split
 ·exact h
 ·rename_i hk;exact List.nodup_append.2 ⟨h,by simp,fun a ha b hb e=>hk (by rw [List.mem_singleton] at hb; subst hb; subst e; exact ha)⟩
theorem sN (l:List K):((mP l).map aav).Nodup:=by
 have gen:∀ (l:List K) (s:List (K × Int) × Int),(s.1.map aav).Nodup→(((l.foldl (fun s x=>(fx x s.2 s.1,s.2+1)) s).1).map aav).Nodup:=by
  intro l
  induction l with
  |nil=>intro s h; exact h
  |cons x l ih=>intro s h; exact ih _ (Mb h)
 exact gen l _ (by simp)
theorem Jl (f:Int→Int) (m:List (K × Int)):(m.map fun e=>(e.1,f e.2)).map aav=m.map aav:=by
 rw [acO]; rfl
theorem vo (m:List (K × Int)) (p:K × K):(kn m p).map aav=m.map aav:=Jl _ m
theorem FX (ps:List (K × K)) (m:List (K × Int)) (h:(m.map aav).Nodup):((ps.foldl kn m).map aav).Nodup:=by
 induction ps generalizing m with
 |nil=>exact h
 |cons p ps ih=>exact ih _ (by rw [vo]; exact h)
end
abbrev KE:EK:=.st (.cons 0 1 false .int (.cons 1 1 false .int .nil))
theorem AP:jo .int (fun k:Int=>AV.int .i64 k) n3 pd:=⟨fun a b=>NB .i64 a b,fun _=>rfl,fun _=>rfl⟩
theorem Mc:jo KE (fun k:Int × Int=>AV.agg [AV.int .i64 k.1,AV.int .i64 k.2]) n3 qG:=⟨fun a b=>ND a b,fun _=>rfl,fun _=>rfl⟩
theorem rF (a:Int) (m:List (Int × Int)):cX .int (AV.int .i64 a) (ar (map pd m))=true:=AP.keys a m
theorem uD (a:Int) (m:List (Int × Int)):bK .int (AV.int .i64 a) (AV.int .i64 0) (ar (map pd m))=n3 (a7 m a):=AP.getD a 0 m
theorem NF (a:Int) (m:List (Int × Int)):(gu .int (AV.int .i64 a) (ar (map pd m))).isSome=(getM a m).isSome:=by
 rw [AP.get a m]; cases getM a m <;> rfl
theorem Jm (a v:Int) (m:List (Int × Int)):dq .int (AV.int .i64 a) (AV.int .i64 v) (ar (map pd m))=ar (map pd (fx a v m)):=AP.put a v m
theorem gf (m:List (Int × Int)):ab (ar (map pd m))=map pd m:=AP.cells m
theorem gi (m:List (Int × Int)):iz (ar (map pd m))=true:=AP.iz m
theorem AQ (m:List (Int × Int)):(ar (map pd m)).length=m.length:=by rw [AP.ent,aal]
theorem XV (m:List (Int × Int)) {i:Nat} (h:i < m.length):cR (ar (map pd m)) i=(n3 m[i].1,n3 m[i].2):=by
 rw [AP.ent,Jk _ m h]; rfl
theorem Hx (a b:Int) (m:List ((Int × Int) × Int)):cX KE (AV.agg [AV.int .i64 a,AV.int .i64 b]) (ar (map qG m))=true:=Mc.keys (a,b) m
theorem Md (a b:Int) (m:List ((Int × Int) × Int)):bK KE (AV.agg [AV.int .i64 a,AV.int .i64 b]) (AV.int .i64 0) (ar (map qG m))=n3 (a7 m (a,b)):=Mc.getD (a,b) 0 m
theorem Sk (a b v:Int) (m:List ((Int × Int) × Int)):dq KE (AV.agg [AV.int .i64 a,AV.int .i64 b]) (AV.int .i64 v) (ar (map qG m))=ar (map qG (fx (a,b) v m)):=Mc.put (a,b) v m
theorem dX (m:List ((Int × Int) × Int)):ab (ar (map qG m))=map qG m:=Mc.cells m
theorem dY (m:List ((Int × Int) × Int)):iz (ar (map qG m))=true:=Mc.iz m
theorem E3 (m:List ((Int × Int) × Int)):(ar (map qG m)).length=m.length:=by rw [Mc.ent,aal]
theorem aaz (m:List ((Int × Int) × Int)) {i:Nat} (h:i < m.length):cR (ar (map qG m)) i=(lg m[i].1,n3 m[i].2):=by
 rw [Mc.ent,Jk _ m h]; rfl
theorem jZ (L:List Nat):aA (map n2 (jY L))=L:=by
 unfold aA jY;rw [acO,acO]
 conv=>rhs; rw [← List.map_id L]
 apply List.map_congr_left;intro n _;show ((n:Int)).toNat=n;exact aau n
theorem ae4 (L:List Nat):bw L=map n2 (jY L):=by
 unfold bw jY;rw [acO]; rfl
theorem nH (L:List Nat):allFit (fits p2) (bw L)=true:=by rw [ae4,Bh]
theorem nI (L:List Nat):map d2 (bw L)=jY L:=by rw [ae4,Bi]
theorem Pz (l:List Int) {k:Nat} (hk:k < l.length):d3 (ae (map n3 l) k)=l[k]∧fits p3 (ae (map n3 l) k)=true:=by
 rw [fY n3 l k hk,Hu,Ht]; exact ⟨rfl,rfl⟩
theorem ae5 (l:List (Int × Int)) {k:Nat} (hk:k < l.length):d23 (ae (map n23 l) k)=l[k]∧fits Nu (ae (map n23 l) k)=true:=by
 rw [fY n23 l k hk,aiw,aiv]; exact ⟨rfl,rfl⟩
theorem DJ (l:List (Int × Int)) {k:Nat} (hk:k < l.length):d67 (ae (map lg l) k)=l[k]∧fits te (ae (map lg l) k)=true:=by
 rw [fY lg l k hk,Sc,Sb]; exact ⟨rfl,rfl⟩
theorem XW (l:List (Int × Int × Int × Int)) {k:Nat} (hk:k < l.length):d174 (ae (map n174 l) k)=l[k]∧fits yq (ae (map n174 l) k)=true:=by
 rw [fY n174 l k hk,aeH,aeG]; exact ⟨rfl,rfl⟩
theorem uE (l:List (Int × Int × Int × Int × Bool)) {k:Nat} (hk:k < l.length):d110 (ae (map n110 l) k)=l[k]∧fits lR (ae (map n110 l) k)=true:=by
 rw [fY n110 l k hk,aeD,aeC]; exact ⟨rfl,rfl⟩
theorem wg (l:List ((List UInt8) × (List (Int × Int)))) {k:Nat} (hk:k < l.length):d131 (ae (map n131 l) k)=l[k]∧fits pR (ae (map n131 l) k)=true:=by
 rw [fY n131 l k hk,aeF,aeE]; exact ⟨rfl,rfl⟩
end Go.Proofs.Ytegoimldbgdeiaa
namespace Go.Proofs.Ytegoimldbgdeiaa
open Go Go.Am
open List (map)
open Int (toNat)
open Go.IntKind (wrap)
open Go.Am.aL (fits)
set_option maxRecDepth 100000
theorem VJ {N:Nat} (hN:eZ N) (l:List Int) (ps:List (Int × Int)) (x1:List Int) (hl:l.length≤1000000):aw (rC N l) N (x1,l,0,ps,([]:List (Int × Int)))=some (x1,l,ps,mP l):=by
 have key:=dQ (rd:=rC N l) l (fun (s:List (Int × Int) × Int) k=>(x1,l,(k:Int),ps,s.1)) (fun s x=>(fx x s.2 s.1,s.2+1)) (fun s=>(x1,l,ps,s.1)) (fun s k=>s.2=(k:Int)) (fun s k hk hP=>by
  obtain ⟨a1,a2⟩:=Pz l hk;refine ⟨?_,by show s.2+1=_; rw [hP]; rfl⟩;rw [hP];simp only [rC,aal,aau,ay hk,ai hk,a1,a2,rF,Jm,bc (show k < 9223372036854775807 by omega),gf,gi,dX,dY,Bh,Bi,gw,gy,kL,kM,gA,gB,bZ,b8,bN,bO,gO,gP,eu,ew,nH,nI,aas,aat,cond_true,cond_false,aae,eq_self,decide_true]) (fun s _=>by
  simp only [rC,aal,aS,gf,gi,dX,dY,Bh,Bi,gw,gy,kL,kM,gA,gB,bZ,b8,bN,bO,gO,gP,eu,ew,nH,nI,aas,aat,cond_true,cond_false,aae,eq_self,decide_true]) N ([],0) 0 (aax _) (by unfold eZ at hN; omega) rfl
 rw [abd] at key;exact key
theorem Sl {N:Nat} (l:List Int) (ps:List (Int × Int)) (x1:List Int) (k:Nat) (hk:k < ps.length) (m:List (Int × Int)) (hn:(m.map aav).Nodup):∀ (n:Nat) (L:List Nat),L.length < n→L.Nodup→(∀ i∈L,i < m.length) →
  eN (n5 N (x1,l,(k:Int),ps,m)) n (x1,l,ps,(dh (wS (a7 m ps[k].1) (a7 m ps[k].2)) L m),(m.length:Int),(jY L))=some (x1,l,ps,(m.map fun e=>(e.1,wS (a7 m ps[k].1) (a7 m ps[k].2) e.2)),(m.length:Int),[])
 |0,L,h,_,_=>by omega
 |n+1,L,h,hL,hi=>by
  rw [pi];obtain ⟨a1,a2⟩:=ae5 ps hk;have ih:=fun L'=>Sl (N:=N) l ps x1 k hk m hn n L'
  generalize hf:wS (a7 m ps[k].1) (a7 m ps[k].2)=f at *;have Pl:=iN f L m;have ec:decide ((dh f L m).length=m.length)=true:=decide_eq_true Pl;cases FY:L with
  |nil=>
   have i0:aaM ([]:List Nat)=true:=rfl;have e0:(dh f [] m).length=m.length:=iN f [] m;simp only [n5,iL,iM,jX,AQ,e0,aau,jZ,i0,vn,aal,gf,gi,dX,dY,Bh,Bi,gw,gy,kL,kM,gA,gB,bZ,b8,bN,bO,gO,gP,eu,ew,nH,nI,aas,aat,cond_true,cond_false,aae,eq_self,decide_true];rfl
  |cons a L'=>
   rw [← FY];have i0:aaM L=false:=by rw [FY]; rfl
   simp only [n5,iL,iM,jX,AQ,aau,ec,cond_true,cond_false,jZ,i0];refine yg (by rw [FY]; simp) fun i gK=>?_
   have cI:=hi i gK;have GP:i < (dh f L m).length:=by rw [Pl]; exact cI
   have qQ:(L.erase i).length=L.length - 1:=aaP gK;have sf:0 < L.length:=aa3 gK;have dl:decide (i < m.length)=true:=decide_eq_true cI;have VK:=ih (L.erase i) (by omega) (hL.erase i) (fun j hj=>hi j (aay hj));have eat:=uC f L m cI gK;have z0:0+k=k:=acH k;rw [XV _ GP,eat];have anI:d3 (n3 m[i].2)=m[i].2:=Hu _;simp only [Ht,Hu,Ht,Hu,aas,cond_true,dl,ec,z0,a1,rF,uD];have fT:f m[i].2=if m[i].2=Py (a7 m ps[k].1) (a7 m ps[k].2) then VI (a7 m ps[k].1) (a7 m ps[k].2) else m[i].2:=by rw [← hf]; rfl
   by_cases hg:m[i].2=Py (a7 m ps[k].1) (a7 m ps[k].2)
   ·rw [if_pos hg] at fT;have hb:(m[i].2 == (if a7 m ps[k].2 > a7 m ps[k].1 then a7 m ps[k].2 else a7 m ps[k].1))=true:=by rw [hg]; exact beq_self_eq_true _
    have st:=sM f L m cI gK hL hn;rw [fT] at st;have st:fx m[i].1 (if a7 m ps[k].2 < a7 m ps[k].1 then a7 m ps[k].2 else a7 m ps[k].1) (dh f L m)=dh f (L.erase i) m:=st;simp only [hb,Jm,st,gf,gi,dX,dY,Bh,Bi,gw,gy,kL,kM,gA,gB,bZ,b8,bN,bO,gO,gP,eu,ew,nH,nI,aas,aat,cond_true,cond_false,aae,eq_self,decide_true];exact VK
   ·rw [if_neg hg] at fT;have hb:(m[i].2 == (if a7 m ps[k].2 > a7 m ps[k].1 then a7 m ps[k].2 else a7 m ps[k].1))=false:=beq_false_of_ne hg;have st:=DI f L m cI gK hL fT;simp only [hb,gf,gi,dX,dY,Bh,Bi,gw,gy,kL,kM,gA,gB,bZ,b8,bN,bO,gO,gP,eu,ew,nH,nI,aas,aat,cond_true,cond_false,aae,eq_self,decide_true];rw [st];exact VK
theorem VL {N:Nat} (hN:eZ N) (l:List Int) (ps:List (Int × Int)) (x1:List Int) (m:List (Int × Int)) (hl:ps.length≤1000000) (hm:m.length≤1000000) (hn:(m.map aav).Nodup):aw (pf N ((),ps)) N (x1,l,0,ps,m)=some (x1,l,ps,(ps.foldl kn m)):=by
 have key:=dQ (rd:=pf N ((),ps)) ps (fun (s:List (Int × Int)) k=>(x1,l,(k:Int),ps,s)) (fun s p=>kn s p) (fun s=>(x1,l,ps,s)) (fun s k=>(s.map aav).Nodup∧s.length≤1000000) (fun s k hk hP=>by
  obtain ⟨a1,a2⟩:=ae5 ps hk;have z0:0+k=k:=acH k;have q:=Sl (N:=N) l ps x1 k hk s hP.1 N (acg s.length) (by rw [aa6]; unfold eZ at hN; omega) acC (fun i hi=>acv.1 hi);rw [vl] at q;refine ⟨?_,by rw [vo]; exact hP.1,by unfold kn; rw [aal]; exact hP.2⟩;have dz:decide (ps.length=ps.length)=true:=decide_eq_true rfl;have dk:decide (k < ps.length)=true:=decide_eq_true hk;simp only [pf,aal,aau,ay hk,ai hk,z0,a1,a2,dz,dk,rF,uD,Ht,AQ,q,bc (show k < 9223372036854775807 by omega),gf,gi,dX,dY,Bh,Bi,gw,gy,kL,kM,gA,gB,bZ,b8,bN,bO,gO,gP,eu,ew,nH,nI,aas,aat,cond_true,cond_false,aae,eq_self,decide_true];rfl) (fun s _=>by
  simp only [pf,aal,aS,gf,gi,dX,dY,Bh,Bi,gw,gy,kL,kM,gA,gB,bZ,b8,bN,bO,gO,gP,eu,ew,nH,nI,aas,aat,cond_true,cond_false,aae,eq_self,decide_true]) N m 0 (aax _) (by unfold eZ at hN; omega) ⟨hn,hm⟩
 rw [abd] at key;exact key
theorem aaB {N:Nat} (hN:eZ N) (l:List Int) (ps:List (Int × Int)) (x1:List Int) (m:List (Int × Int)) (hl:l.length≤1000000):aw (lT N (l,l,ps,m)) N (x1,l,l,0,ps,m,[])=some (x1,l,l,ps,m,(l.foldl (wT m) [])):=by
 have key:=dQ (rd:=lT N (l,l,ps,m)) l (fun (s:List (Int × Int)) k=>(x1,l,l,(k:Int),ps,m,s)) (wT m) (fun s=>(x1,l,l,ps,m,s)) (fun s k=>True) (fun s k hk hP=>by
  obtain ⟨a1,a2⟩:=Pz l hk;refine ⟨?_,trivial⟩;have e:wT m s l[k]=if (getM (a7 m l[k]) s).isSome then s else fx (a7 m l[k]) (s.length:Int) s:=rfl
  rw [e];cases hs:(getM (a7 m l[k]) s).isSome with
  |true=>
   simp only [lT,mK,fH,aal,aau,ay hk,ai hk,a1,a2,rF,uD,rF,uD,Ht,Hu,NF,hs,acR,if_true,bc (show k < 9223372036854775807 by omega),gf,gi,dX,dY,Bh,Bi,gw,gy,kL,kM,gA,gB,bZ,b8,bN,bO,gO,gP,eu,ew,nH,nI,aas,aat,cond_true,cond_false,aae,eq_self,decide_true]
  |false=>
   simp only [lT,mK,fH,aal,aau,ay hk,ai hk,a1,a2,rF,uD,rF,uD,Jm,AQ,Ht,Hu,NF,hs,acP,acK,if_false,bc (show k < 9223372036854775807 by omega),gf,gi,dX,dY,Bh,Bi,gw,gy,kL,kM,gA,gB,bZ,b8,bN,bO,gO,gP,eu,ew,nH,nI,aas,aat,cond_true,cond_false,aae,eq_self,decide_true]) (fun s _=>by
  simp only [lT,mK,fH,aal,aS,gf,gi,dX,dY,Bh,Bi,gw,gy,kL,kM,gA,gB,bZ,b8,bN,bO,gO,gP,eu,ew,nH,nI,aas,aat,cond_true,cond_false,aae,eq_self,decide_true]) N [] 0 (aax _) (by unfold eZ at hN; omega) trivial
 rw [abd] at key;exact key
theorem NG {N:Nat} (l:List Int) (ps:List (Int × Int)) (x1:List Int) (m:List (Int × Int)) (ns:List (Int × Int)) (hn:(m.map aav).Nodup):∀ (n:Nat) (L:List Nat),L.length < n→L.Nodup→(∀ i∈L,i < m.length) →
  eN (qd N) n (x1,l,l,ps,(dh (a7 ns) L m),ns,(m.length:Int),(jY L))=some (x1,l,l,ps,(m.map fun e=>(e.1,a7 ns e.2)),ns,(m.length:Int),[])
 |0,L,h,_,_=>by omega
 |n+1,L,h,hL,hi=>by
  rw [pi];have ih:=fun L'=>NG (N:=N) l ps x1 m ns hn n L'
  generalize hf:a7 ns=f at *;have Pl:=iN f L m;have ec:decide ((dh f L m).length=m.length)=true:=decide_eq_true Pl;cases FY:L with
  |nil=>
   have i0:aaM ([]:List Nat)=true:=rfl;have e0:(dh f [] m).length=m.length:=iN f [] m;simp only [qd,AQ,e0,aau,jZ,i0,vn,aal,gf,gi,dX,dY,Bh,Bi,gw,gy,kL,kM,gA,gB,bZ,b8,bN,bO,gO,gP,eu,ew,nH,nI,aas,aat,cond_true,cond_false,aae,eq_self,decide_true];rfl
  |cons a L'=>
   rw [← FY];have i0:aaM L=false:=by rw [FY]; rfl
   simp only [qd,AQ,aau,ec,cond_true,cond_false,jZ,i0];refine yg (by rw [FY]; simp) fun i gK=>?_
   have cI:=hi i gK;have GP:i < (dh f L m).length:=by rw [Pl]; exact cI
   have qQ:(L.erase i).length=L.length - 1:=aaP gK;have sf:0 < L.length:=aa3 gK;have dl:decide (i < m.length)=true:=decide_eq_true cI;have VK:=ih (L.erase i) (by omega) (hL.erase i) (fun j hj=>hi j (aay hj));have eat:=uC f L m cI gK;rw [XV _ GP,eat];have st:=sM f L m cI gK hL hn;have ev:a7 ns m[i].2=f m[i].2:=by rw [hf]
   have st:fx m[i].1 (f m[i].2) (dh f L m)=dh f (L.erase i) m:=st;simp only [Ht,Hu,Ht,Hu,aas,cond_true,dl,ec,rF,uD,rF,Jm,ev,st,gf,gi,dX,dY,Bh,Bi,gw,gy,kL,kM,gA,gB,bZ,b8,bN,bO,gO,gP,eu,ew,nH,nI,aas,aat,cond_true,cond_false,aae,eq_self,decide_true];exact VK
end Go.Proofs.Ytegoimldbgdeiaa
namespace Go.Proofs.Ytegoimldbgdeiaa
open Go Go.Am
open List (map)
open Int (toNat)
open Go.IntKind (wrap)
open Go.Am.aL (fits)
set_option maxRecDepth 100000
theorem VM {N:Nat} (hN:eZ N) (l:List (Int × Int)) (x1:List (Int × Int)) (J:List (Int × Int × Int × Int)) (P:List ((List UInt8) × (List (Int × Int)))) (S:List (Int × Int × Int × Int × Bool)) (E:List (Int × Int)) (hl:l.length≤1000000):aw (pg N (P,S,l)) N (x1,J,l,0,P,S,E,([]:List ((Int × Int) × Int)))=some (x1,J,l,P,S,E,mP l):=by
 have key:=dQ (rd:=pg N (P,S,l)) l (fun (s:List ((Int × Int) × Int) × Int) k=>(x1,J,l,(k:Int),P,S,E,s.1)) (fun s x=>(fx x s.2 s.1,s.2+1)) (fun s=>(x1,J,l,P,S,E,s.1)) (fun s k=>s.2=(k:Int)) (fun s k hk hP=>by
  obtain ⟨a1,a2⟩:=DJ l hk;refine ⟨?_,by show s.2+1=_; rw [hP]; rfl⟩;rw [hP];simp only [pg,mM,aal,aau,ay hk,ai hk,a1,a2,Hx,Sk,bc (show k < 9223372036854775807 by omega),gf,gi,dX,dY,Bh,Bi,gw,gy,kL,kM,gA,gB,bZ,b8,bN,bO,gO,gP,df,dg,eu,ew,nH,nI,aas,aat,cond_true,cond_false,aae,eq_self,decide_true]) (fun s _=>by
  simp only [pg,mM,aal,aS,gf,gi,dX,dY,Bh,Bi,gw,gy,kL,kM,gA,gB,bZ,b8,bN,bO,gO,gP,df,dg,eu,ew,nH,nI,aas,aat,cond_true,cond_false,aae,eq_self,decide_true]) N ([],0) 0 (aax _) (by unfold eZ at hN; omega) rfl
 rw [abd] at key;exact key
theorem Sm {N:Nat} (l:List (Int × Int)) (ps:List (Int × Int × Int × Int)) (x1:List (Int × Int)) (J:List (Int × Int × Int × Int)) (P:List ((List UInt8) × (List (Int × Int)))) (S:List (Int × Int × Int × Int × Bool)) (E:List (Int × Int)) (k:Nat) (hk:k < ps.length) (m:List ((Int × Int) × Int)) (hn:(m.map aav).Nodup):∀ (n:Nat) (L:List Nat),L.length < n→L.Nodup→(∀ i∈L,i < m.length) →
  eN (mr N (x1,J,l,ps,(k:Int),P,S,E,m)) n (x1,J,l,ps,P,S,E,(dh (wS (a7 m (ps[k].1,ps[k].2.1)) (a7 m (ps[k].2.2.1,ps[k].2.2.2))) L m),(m.length:Int),(jY L))=some (x1,J,l,ps,P,S,E,(m.map fun e=>(e.1,wS (a7 m (ps[k].1,ps[k].2.1)) (a7 m (ps[k].2.2.1,ps[k].2.2.2)) e.2)),(m.length:Int),[])
 |0,L,h,_,_=>by omega
 |n+1,L,h,hL,hi=>by
  rw [pi];obtain ⟨a1,a2⟩:=XW ps hk;have ih:=fun L'=>Sm (N:=N) l ps x1 J P S E k hk m hn n L'
  generalize hf:wS (a7 m (ps[k].1,ps[k].2.1)) (a7 m (ps[k].2.2.1,ps[k].2.2.2))=f at *;have Pl:=iN f L m;have ec:decide ((dh f L m).length=m.length)=true:=decide_eq_true Pl;cases FY:L with
  |nil=>
   have i0:aaM ([]:List Nat)=true:=rfl;have e0:(dh f [] m).length=m.length:=iN f [] m;simp only [mr,gQ,gR,jn,uB,E3,e0,aau,jZ,i0,vn,aal,gf,gi,dX,dY,Bh,Bi,gw,gy,kL,kM,gA,gB,bZ,b8,bN,bO,gO,gP,df,dg,eu,ew,nH,nI,aas,aat,cond_true,cond_false,aae,eq_self,decide_true];rfl
  |cons a L'=>
   rw [← FY];have i0:aaM L=false:=by rw [FY]; rfl
   simp only [mr,gQ,gR,jn,uB,E3,aau,ec,cond_true,cond_false,jZ,i0];refine yg (by rw [FY]; simp) fun i gK=>?_
   have cI:=hi i gK;have GP:i < (dh f L m).length:=by rw [Pl]; exact cI
   have qQ:(L.erase i).length=L.length - 1:=aaP gK;have sf:0 < L.length:=aa3 gK;have dl:decide (i < m.length)=true:=decide_eq_true cI;have VK:=ih (L.erase i) (by omega) (hL.erase i) (fun j hj=>hi j (aay hj));have eat:=uC f L m cI gK;have z0:0+k=k:=acH k;rw [aaz _ GP,eat];have anJ:d3 (n3 m[i].2)=m[i].2:=Hu _;simp only [Sb,Sc,Ht,Hu,aas,cond_true,dl,ec,z0,a1,Hx,Md];have fT:f m[i].2=if m[i].2=Py (a7 m (ps[k].1,ps[k].2.1)) (a7 m (ps[k].2.2.1,ps[k].2.2.2)) then VI (a7 m (ps[k].1,ps[k].2.1)) (a7 m (ps[k].2.2.1,ps[k].2.2.2)) else m[i].2:=by rw [← hf]; rfl
   by_cases hg:m[i].2=Py (a7 m (ps[k].1,ps[k].2.1)) (a7 m (ps[k].2.2.1,ps[k].2.2.2))
   ·rw [if_pos hg] at fT;have hb:(m[i].2 == (if a7 m (ps[k].2.2.1,ps[k].2.2.2) > a7 m (ps[k].1,ps[k].2.1) then a7 m (ps[k].2.2.1,ps[k].2.2.2) else a7 m (ps[k].1,ps[k].2.1)))=true:=by rw [hg]; exact beq_self_eq_true _
    have st:=sM f L m cI gK hL hn;rw [fT] at st;have st:fx (m[i].1.1,m[i].1.2) (if a7 m (ps[k].2.2.1,ps[k].2.2.2) < a7 m (ps[k].1,ps[k].2.1) then a7 m (ps[k].2.2.1,ps[k].2.2.2) else a7 m (ps[k].1,ps[k].2.1)) (dh f L m)=dh f (L.erase i) m:=st;simp only [hb,Sk,st,gf,gi,dX,dY,Bh,Bi,gw,gy,kL,kM,gA,gB,bZ,b8,bN,bO,gO,gP,df,dg,eu,ew,nH,nI,aas,aat,cond_true,cond_false,aae,eq_self,decide_true];exact VK
   ·rw [if_neg hg] at fT;have hb:(m[i].2 == (if a7 m (ps[k].2.2.1,ps[k].2.2.2) > a7 m (ps[k].1,ps[k].2.1) then a7 m (ps[k].2.2.1,ps[k].2.2.2) else a7 m (ps[k].1,ps[k].2.1)))=false:=beq_false_of_ne hg;have st:=DI f L m cI gK hL fT;simp only [hb,gf,gi,dX,dY,Bh,Bi,gw,gy,kL,kM,gA,gB,bZ,b8,bN,bO,gO,gP,df,dg,eu,ew,nH,nI,aas,aat,cond_true,cond_false,aae,eq_self,decide_true];rw [st];exact VK
theorem VN {N:Nat} (hN:eZ N) (l:List (Int × Int)) (ps:List (Int × Int × Int × Int)) (x1:List (Int × Int)) (J:List (Int × Int × Int × Int)) (P:List ((List UInt8) × (List (Int × Int)))) (S:List (Int × Int × Int × Int × Bool)) (E:List (Int × Int)) (m:List ((Int × Int) × Int)) (hl:ps.length≤1000000) (hm:m.length≤1000000) (hn:(m.map aav).Nodup):aw (mO N (x1,ps,l,P,S,E,m)) N (x1,J,l,ps,0,P,S,E,m)=some (x1,J,l,ps,P,S,E,(ps.foldl (fun s p=>kn s ((p.1,p.2.1),(p.2.2.1,p.2.2.2))) m)):=by
 have key:=dQ (rd:=mO N (x1,ps,l,P,S,E,m)) ps (fun (s:List ((Int × Int) × Int)) k=>(x1,J,l,ps,(k:Int),P,S,E,s)) (fun s p=>kn s ((p.1,p.2.1),(p.2.2.1,p.2.2.2))) (fun s=>(x1,J,l,ps,P,S,E,s)) (fun s k=>(s.map aav).Nodup∧s.length≤1000000) (fun s k hk hP=>by
  obtain ⟨a1,a2⟩:=XW ps hk;have z0:0+k=k:=acH k;have q:=Sm (N:=N) l ps x1 J P S E k hk s hP.1 N (acg s.length) (by rw [aa6]; unfold eZ at hN; omega) acC (fun i hi=>acv.1 hi);rw [vl] at q;refine ⟨?_,by rw [vo]; exact hP.1,by unfold kn; rw [aal]; exact hP.2⟩;have dz:decide (ps.length=ps.length)=true:=decide_eq_true rfl;have dk:decide (k < ps.length)=true:=decide_eq_true hk;simp only [mO,aal,aau,ay hk,ai hk,z0,a1,a2,dz,dk,Hx,Md,Ht,E3,q,bc (show k < 9223372036854775807 by omega),gf,gi,dX,dY,Bh,Bi,gw,gy,kL,kM,gA,gB,bZ,b8,bN,bO,gO,gP,df,dg,eu,ew,nH,nI,aas,aat,cond_true,cond_false,aae,eq_self,decide_true];rfl) (fun s _=>by
  simp only [mO,aal,aS,gf,gi,dX,dY,Bh,Bi,gw,gy,kL,kM,gA,gB,bZ,b8,bN,bO,gO,gP,df,dg,eu,ew,nH,nI,aas,aat,cond_true,cond_false,aae,eq_self,decide_true]) N m 0 (aax _) (by unfold eZ at hN; omega) ⟨hn,hm⟩
 rw [abd] at key;exact key
theorem aaC {N:Nat} (hN:eZ N) (l:List (Int × Int)) (ps:List (Int × Int × Int × Int)) (x1:List (Int × Int)) (J:List (Int × Int × Int × Int)) (P:List ((List UInt8) × (List (Int × Int)))) (S:List (Int × Int × Int × Int × Bool)) (E:List (Int × Int)) (m:List ((Int × Int) × Int)) (hl:l.length≤1000000):aw (kC N (l,J,l,ps,P,S,E,m)) N (x1,J,l,ps,l,0,P,S,E,m,[])=some (x1,J,l,ps,l,P,S,E,m,(l.foldl (wT m) [])):=by
 have key:=dQ (rd:=kC N (l,J,l,ps,P,S,E,m)) l (fun (s:List (Int × Int)) k=>(x1,J,l,ps,l,(k:Int),P,S,E,m,s)) (wT m) (fun s=>(x1,J,l,ps,l,P,S,E,m,s)) (fun s k=>True) (fun s k hk hP=>by
  obtain ⟨a1,a2⟩:=DJ l hk;refine ⟨?_,trivial⟩;have e:wT m s l[k]=if (getM (a7 m l[k]) s).isSome then s else fx (a7 m l[k]) (s.length:Int) s:=rfl
  rw [e];cases hs:(getM (a7 m l[k]) s).isSome with
  |true=>
   simp only [kC,eS,n6,li,jC,aal,aau,ay hk,ai hk,a1,a2,Hx,Md,rF,uD,Ht,Hu,NF,hs,acR,if_true,bc (show k < 9223372036854775807 by omega),gf,gi,dX,dY,Bh,Bi,gw,gy,kL,kM,gA,gB,bZ,b8,bN,bO,gO,gP,df,dg,eu,ew,nH,nI,aas,aat,cond_true,cond_false,aae,eq_self,decide_true]
  |false=>
   simp only [kC,eS,n6,li,jC,aal,aau,ay hk,ai hk,a1,a2,Hx,Md,rF,uD,Jm,AQ,Ht,Hu,NF,hs,acP,acK,if_false,bc (show k < 9223372036854775807 by omega),gf,gi,dX,dY,Bh,Bi,gw,gy,kL,kM,gA,gB,bZ,b8,bN,bO,gO,gP,df,dg,eu,ew,nH,nI,aas,aat,cond_true,cond_false,aae,eq_self,decide_true]) (fun s _=>by
  simp only [kC,eS,n6,li,jC,aal,aS,gf,gi,dX,dY,Bh,Bi,gw,gy,kL,kM,gA,gB,bZ,b8,bN,bO,gO,gP,df,dg,eu,ew,nH,nI,aas,aat,cond_true,cond_false,aae,eq_self,decide_true]) N [] 0 (aax _) (by unfold eZ at hN; omega) trivial
 rw [abd] at key;exact key
theorem NH {N:Nat} (l:List (Int × Int)) (ps:List (Int × Int × Int × Int)) (x1:List (Int × Int)) (J:List (Int × Int × Int × Int)) (P:List ((List UInt8) × (List (Int × Int)))) (S:List (Int × Int × Int × Int × Bool)) (E:List (Int × Int)) (m:List ((Int × Int) × Int)) (ns:List (Int × Int)) (hn:(m.map aav).Nodup):∀ (n:Nat) (L:List Nat),L.length < n→L.Nodup→(∀ i∈L,i < m.length) →
  eN (n7 N) n (x1,J,l,ps,l,P,S,E,(dh (a7 ns) L m),ns,(m.length:Int),(jY L))=some (x1,J,l,ps,l,P,S,E,(m.map fun e=>(e.1,a7 ns e.2)),ns,(m.length:Int),[])
 |0,L,h,_,_=>by omega
 |n+1,L,h,hL,hi=>by
  rw [pi];have ih:=fun L'=>NH (N:=N) l ps x1 J P S E m ns hn n L'
  generalize hf:a7 ns=f at *;have Pl:=iN f L m;have ec:decide ((dh f L m).length=m.length)=true:=decide_eq_true Pl;cases FY:L with
  |nil=>
   have i0:aaM ([]:List Nat)=true:=rfl;have e0:(dh f [] m).length=m.length:=iN f [] m;simp only [n7,E3,e0,aau,jZ,i0,vn,aal,gf,gi,dX,dY,Bh,Bi,gw,gy,kL,kM,gA,gB,bZ,b8,bN,bO,gO,gP,df,dg,eu,ew,nH,nI,aas,aat,cond_true,cond_false,aae,eq_self,decide_true];rfl
  |cons a L'=>
   rw [← FY];have i0:aaM L=false:=by rw [FY]; rfl
   simp only [n7,E3,aau,ec,cond_true,cond_false,jZ,i0];refine yg (by rw [FY]; simp) fun i gK=>?_
   have cI:=hi i gK;have GP:i < (dh f L m).length:=by rw [Pl]; exact cI
   have qQ:(L.erase i).length=L.length - 1:=aaP gK;have sf:0 < L.length:=aa3 gK;have dl:decide (i < m.length)=true:=decide_eq_true cI;have VK:=ih (L.erase i) (by omega) (hL.erase i) (fun j hj=>hi j (aay hj));have eat:=uC f L m cI gK;rw [aaz _ GP,eat];have st:=sM f L m cI gK hL hn;have ev:a7 ns m[i].2=f m[i].2:=by rw [hf]
   have st:fx (m[i].1.1,m[i].1.2) (f m[i].2) (dh f L m)=dh f (L.erase i) m:=st;simp only [Sb,Sc,Ht,Hu,aas,cond_true,dl,ec,rF,uD,Hx,Sk,ev,st,gf,gi,dX,dY,Bh,Bi,gw,gy,kL,kM,gA,gB,bZ,b8,bN,bO,gO,gP,df,dg,eu,ew,nH,nI,aas,aat,cond_true,cond_false,aae,eq_self,decide_true];exact VK
end Go.Proofs.Ytegoimldbgdeiaa
namespace Go.Proofs.Ytegoimldbgdeiaa
open Go Go.Am
open List (map)
open Int (toNat)
open Go.IntKind (wrap)
open Go.Am.aL (fits)
set_option maxRecDepth 100000
abbrev vD:=(List UInt8) × (List (Int × Int))
abbrev kQ:=Int × Int × Int × Int × Bool
abbrev aZ:=List vD × List kQ
def bf (n:Nat):List Int:=(acg n).map fun i:Nat=>(i:Int)
theorem Jn (n:Nat):bf (n+1)=bf n++[(n:Int)]:=by unfold bf; rw [List.range_succ,aaA]; rfl
theorem gn (n:Nat):(bf n).length=n:=by simp [bf]
def lE (s:kQ):Int × Int:=(s.1,s.2.2.1)
def ah (t:aZ):List Int:=
 let l:=bf t.1.length
 let m:=gb l (t.2.map lE)
 l.map (a7 m)
theorem Sn (l:List Int) (x:Int):map n3 l++[AV.int .i64 x]=map n3 (l++[x]):=by rw [aaA]; rfl
theorem aaD (l:List (Int × Int)) (a b:Int):map n23 l++[AV.agg [AV.int .i64 a,AV.int .i64 b]]=map n23 (l++[(a,b)]):=by rw [aaA]; rfl
theorem Me (l:List (Int × Int)) (a b:Int):map lg l++[AV.agg [AV.int .i64 a,AV.int .i64 b]]=map lg (l++[(a,b)]):=by rw [aaA]; rfl
theorem ae6:allFit (fits p3) ([]:List AV)=true:=rfl
theorem ae7:map d3 ([]:List AV)=[]:=rfl
theorem Jo:allFit (fits te) ([]:List AV)=true:=rfl
theorem Jp:map d67 ([]:List AV)=[]:=rfl
theorem aaE:allFit (fits yq) ([]:List AV)=true:=rfl
theorem aaF:map d174 ([]:List AV)=[]:=rfl
theorem c0_:ab ([]:List (AV × AV))=[]:=rfl
theorem a0_:iz ([]:List (AV × AV))=true:=rfl
theorem So:allFit (fits dJ) ([]:List AV)=true:=rfl
theorem Sp:map eh ([]:List AV)=[]:=rfl
theorem afa:allFit (fits cg) ([]:List AV)=true:=rfl
theorem afb:map bS ([]:List AV)=[]:=rfl
theorem Jq {K:Type} [DecidableEq K] (l:List K):(mP l).length≤l.length:=by
 have gen:∀ (l:List K) (s:List (K × Int) × Int),((l.foldl (fun s x=>(fx x s.2 s.1,s.2+1)) s).1).length≤s.1.length+l.length:=by
  intro l
  induction l with
  |nil=>intro s; exact Nat.le_refl _
  |cons x l ih=>
   intro s;have h1:=ih (fx x s.2 s.1,s.2+1);have h2:(fx x s.2 s.1).length≤s.1.length+1:=by
    have:=congrArg List.length (vk (k:=x) (v:=s.2) (m:=s.1));rw [aal] at this;rw [this];split <;> simp
   rw [List.foldl_cons,ab9];simp only at h1;omega
 have:=gen l ([],0);unfold mP;simpa using this
theorem NI {K:Type} [DecidableEq K] (ps:List (K × K)) (m:List (K × Int)):(ps.foldl kn m).length=m.length:=by
 induction ps generalizing m with
 |nil=>rfl
 |cons p ps ih=>rw [List.foldl_cons,ih]; unfold kn; rw [aal]
theorem cl3:∀ l:List Int,aN (map n3 l)=true
 |[]=>rfl
 |x :: l=>by
  show ((n3 x).closed&&aN (map n3 l))=true;rw [cl3 l]; rfl
section
variable {N:Nat} (hN:eZ N)
include hN
theorem VO (t:aZ) (h:t.1.length≤1000000):aw (DE N t) N ([],0)=some (bf t.1.length):=by
 have key:=aV (rd:=DE N t) t.1.length (fun k=>(bf k,(k:Int))) (bf t.1.length) (fun k hk=>by
  have d:decide ((bf k).length=(bf k).length)=true:=decide_eq_true rfl;have d2:decide ((k+1) * 8≤140737488355328)=true:=decide_eq_true (by omega);simp only [DE,aal,ay hk,gn,d2,Sn,gw,gy,← Jn,bc (show k < 9223372036854775807 by omega),aas,aat,cond_true,aae,eq_self,decide_true]) (by
  simp only [DE,aal,aS,gn,gw,gy,aas,aat,cond_true,cond_false,aae,eq_self,decide_true]) N 0 (aax _) (by unfold eZ at hN; omega)
 exact key
theorem VP (t:aZ) (l:List Int) (h:t.2.length≤1000000):aw (rv N t l) N ((),0,[])=some ((),t.2.map lE):=by
 have key:=aV (rd:=rv N t l) t.2.length (fun k=>((),(k:Int),(t.2.take k).map lE)) ((),t.2.map lE) (fun k hk=>by
  obtain ⟨a1,a2⟩:=uE t.2 hk;have ht:(t.2.take k).length=k:=by rw [aaT]; omega
  have d2:decide ((k+1) * 16≤140737488355328)=true:=decide_eq_true (by omega);have d0:decide ((0:Nat)=0)=true:=rfl;have es:(t.2.take k).map lE++[(t.2[k].1,t.2[k].2.2.1)]=(t.2.take (k+1)).map lE:=by
   rw [acz,aaK hk,aaA]; rfl
  have el:((t.2.take (k+1)).map lE).length=k+1:=by rw [aal,aaT]; omega
  have nb:acM (k+1) (k+1)=true:=acI _;simp only [rv,lS,aal,aau,ay hk,ai hk,a1,a2,ht,d2,d0,aaD,es,el,nb,kL,kM,bc (show k < 9223372036854775807 by omega),aas,aat,cond_true,aae,eq_self,decide_true]) (by
  have nb:acM t.2.length t.2.length=true:=acI _;simp only [rv,lS,aal,aS,acG,nb,kL,kM,aas,aat,cond_true,cond_false,aae,eq_self,decide_true]) N 0 (aax _) (by unfold eZ at hN; omega)
 exact key
theorem VQ (l x:List Int) (hl:l.length≤1000000) (ps:List (Int × Int)) (m ns:List (Int × Int)) (c:Int) (L:List Int) (hL:∃ L',L=jY L'):∃ r,aw (oo N l) N ((),l,0,ps,m,ns,c,L,(),[])=some r∧r.2.2.2.2.2.2.2.2=l.map (a7 m):=by
 obtain ⟨L',rfl⟩:=hL;refine ⟨((),l,ps,m,ns,((toNat c:Nat):Int),jY L',(),l.map (a7 m)),?_,rfl⟩;cases A3:l with
 |nil=>
  have d:decide ((0:Int) < ((([]:List Int).length:Nat):Int))=false:=rfl;obtain ⟨n,rfl⟩:∃ n,N=n+1:=⟨N - 1,by unfold eZ at hN; omega⟩;have n0:acM 0 0=true:=rfl;rw [oZ];simp only [oo,kj,acS,acJ,n0,ae6,ae7,gf,eu,ew,gi,jZ,nH,nI,kL,kM,cond_false,aas,aat,cond_true,aae,eq_self,decide_true,Sum.elim_inr,Int.lt_irrefl,decide_false];rfl
 |cons a l'=>
 rw [← A3];have key:=aV (rd:=oo N l) l.length (fun k=>((),l,(k:Int),ps,m,ns,(if k=0 then c else ((toNat c:Nat):Int)),jY L',(),(l.take k).map (a7 m))) ((),l,ps,m,ns,((toNat c:Nat):Int),jY L',(),l.map (a7 m)) (fun k hk=>by
  obtain ⟨a1,a2⟩:=Pz l hk;have ht:(l.take k).length=k:=by rw [aaT]; omega
  have d2:decide ((k+1) * 8≤140737488355328)=true:=decide_eq_true (by omega);have d0:decide ((0:Nat)=0)=true:=rfl;have es:(l.take k).map (a7 m)++[a7 m l[k]]=(l.take (k+1)).map (a7 m):=by
   rw [acz,aaK hk,aaA]; rfl
  have el:((l.take (k+1)).map (a7 m)).length=k+1:=by rw [aal,aaT]; omega
  have nb:acM (k+1) (k+1)=true:=acI _;have ec:((toNat (if k=0 then c else ((toNat c:Nat):Int)):Nat):Int)=((toNat c:Nat):Int):=by split <;> simp
  have e1:(k+1=0)=False:=by simp
  simp only [oo,kj,aal,aau,ay hk,ai hk,a1,a2,ht,d2,d0,rF,uD,Ht,Hu,Sn,es,el,nb,ec,e1,if_false,gw,gy,gf,eu,ew,gi,jZ,nH,nI,kL,kM,bc (show k < 9223372036854775807 by omega),aas,aat,cond_true,aae,eq_self,decide_true]) (by
  have nb:acM l.length l.length=true:=acI _;have e1:(l.length=0)=False:=by rw [A3]; simp
  simp only [oo,kj,aal,aS,acG,nb,e1,if_false,aau,gw,gy,gf,eu,ew,gi,jZ,nH,nI,kL,kM,aas,aat,cond_true,cond_false,aae,eq_self,decide_true]) N 0 (aax _) (by unfold eZ at hN; omega)
 exact key
theorem sO (t:aZ) (h1:t.1.length≤1000000) (h2:t.2.length≤1000000):Ud N t=some (ah t):=by
 have q1:=VO hN t h1;have q2:=VP hN t (bf t.1.length) h2;have hl:(bf t.1.length).length≤1000000:=by rw [gn]; exact h1
 have hp:(t.2.map lE).length≤1000000:=by rw [aal]; exact h2
 have nl:=Jq (bf t.1.length);have q3:=VJ hN (bf t.1.length) (t.2.map lE) (bf t.1.length) hl;have q4:=VL hN (bf t.1.length) (t.2.map lE) (bf t.1.length) (mP (bf t.1.length)) hp (by omega) (sN _);have q5:=aaB hN (bf t.1.length) (t.2.map lE) (bf t.1.length) ((t.2.map lE).foldl kn (mP (bf t.1.length))) hl;have nd:=FX (t.2.map lE) (mP (bf t.1.length)) (sN _);have ul:=NI (t.2.map lE) (mP (bf t.1.length));have q6:=NG (N:=N) (bf t.1.length) (t.2.map lE) (bf t.1.length) ((t.2.map lE).foldl kn (mP (bf t.1.length))) ((bf t.1.length).foldl (wT ((t.2.map lE).foldl kn (mP (bf t.1.length)))) []) nd N (acg ((t.2.map lE).foldl kn (mP (bf t.1.length))).length) (by rw [aa6]; unfold eZ at hN; omega) acC (fun i hi=>acv.1 hi);rw [vl] at q6;obtain ⟨r,q7,er⟩:=VQ hN (bf t.1.length) (bf t.1.length) hl (t.2.map lE) (gb (bf t.1.length) (t.2.map lE)) ((bf t.1.length).foldl (wT ((t.2.map lE).foldl kn (mP (bf t.1.length)))) []) (((t.2.map lE).foldl kn (mP (bf t.1.length))).length:Int) [] ⟨[],rfl⟩;have z1:decide ((0:Int)≤0∧(0:Int)≤((t.2.length:Nat):Int)∧((t.2.length:Nat):Int)≤140737488355328∧((t.2.length:Nat):Int) * 16≤140737488355328)=true:=decide_eq_true (by omega);have z2:decide ((0:Int)≤0∧(0:Int)≤((t.1.length:Nat):Int)∧((t.1.length:Nat):Int)≤140737488355328∧((t.1.length:Nat):Int) * 8≤140737488355328)=true:=decide_eq_true (by omega);have r0:∀ x:AV,List.replicate 0 x=[]:=fun _=>rfl
 have tz:toNat 0=0:=rfl;have nb0:acM 0 ([]:List AV).length=true:=rfl;have f23:allFit (fits Nu) ([]:List AV)=true:=rfl;have m23:map d23 ([]:List AV)=[]:=rfl;have u0:aA (map n2 ([]:List Int))=[]:=rfl;have fz0:bw []=[]:=rfl;have u00:aA ([]:List AV)=[]:=rfl;have lz:jY []=[]:=rfl;have f2:allFit (fits p2) ([]:List AV)=true:=rfl;have m2:map d2 ([]:List AV)=[]:=rfl;have eU:gb (bf t.1.length) (t.2.map lE)=((t.2.map lE).foldl kn (mP (bf t.1.length))).map fun e=>(e.1,a7 ((bf t.1.length).foldl (wT ((t.2.map lE).foldl kn (mP (bf t.1.length)))) []) e.2):=rfl
 rw [eU] at q7;have d0:decide ((0:Nat)=([]:List AV).length)=true:=rfl;have d00:decide ((0:Nat)=0)=true:=rfl;have aiN:acM 0 0=true:=rfl;rw [aar];simp only [ae6,ae7,acS,acJ,d00,aat,cond_true,aae,q1,aal,z1,tz,r0,nb0,aiN,f23,m23,aas,eq_self,decide_true,q2,gw,gy,kL,kM,c0_,So,Sp,a0_,q3,gf,eu,ew,gi,q4,q5,AQ,nH,nI,q6,gn,z2,u0,u00,lz,fz0,f2,m2,aau,q7,er,cl3];rfl
end
end Go.Proofs.Ytegoimldbgdeiaa
namespace Go.Proofs.Ytegoimldbgdeiaa
open Go Go.Am
open List (map)
open Int (toNat)
open Go.IntKind (wrap)
open Go.Am.aL (fits)
set_option maxRecDepth 100000
theorem Sq:∀ l:List (Int × Int),bR (map n132 l) (map n132 l)=true
 |[]=>rfl
 |x :: l=>by
  rw [acL,bR,Sq l];show (bR [AV.int .i64 x.1,AV.int .i64 x.2] [AV.int .i64 x.1,AV.int .i64 x.2]&&true)=true;simp [bR,eV,xg]
theorem NJ:∀ l:List vD,bR (map n131 l) (map n131 l)=true
 |[]=>rfl
 |x :: l=>by
  rw [acL,bR,NJ l];have e:bR (map n132 x.2) (map n132 x.2)=true:=Sq x.2;show (bR [AV.str x.1,AV.list .gZ 2 (map n132 x.2)] [AV.str x.1,AV.list .gZ 2 (map n132 x.2)]&&true)=true;simp only [bR,eV,xg,e,beq_self_eq_true,acI,aas]
theorem NK:∀ l:List kQ,bR (map n110 l) (map n110 l)=true
 |[]=>rfl
 |x :: l=>by
  rw [acL,bR,NK l];show (bR [AV.int .i64 x.1,AV.int .i64 x.2.1,AV.int .i64 x.2.2.1,AV.int .i64 x.2.2.2.1,AV.bool x.2.2.2.2] [AV.int .i64 x.1,AV.int .i64 x.2.1,AV.int .i64 x.2.2.1,AV.int .i64 x.2.2.2.1,AV.bool x.2.2.2.2]&&true)=true;simp [bR,eV,xg]
def BQ (t:aZ) (p:Int):Nat:=((t.1.getD p.toNat ([],[])).2).length
def Jr (t:aZ) (e:Int × Int):Int × Int:=(e.1,Int.tmod (wrap .i64 (e.2+1)) (BQ t e.1:Int))
def VR (t:aZ) (e:Int × Int):Bool:=decide (0≤e.1)&&decide (e.1 < (t.1.length:Int))&&!(BQ t e.1 == 0)
def VS (t:aZ) (s:kQ):Bool:=VR t (s.1,s.2.1)&&VR t (s.2.2.1,s.2.2.2.1)
def dE (t:aZ) (s:kQ):(Int × Int × Int × Int) × (Int × Int × Int × Int):=
 let a0:=(s.1,s.2.1)
 let a1:=Jr t a0
 let b0:=(s.2.2.1,s.2.2.2.1)
 let b1:=Jr t b0
 if s.2.2.2.2 then ((a0.1,a0.2,b0.1,b0.2),(a1.1,a1.2,b1.1,b1.2)) else ((a0.1,a0.2,b1.1,b1.2),(a1.1,a1.2,b0.1,b0.2))
theorem aaG {t:aZ} {e:Int × Int} (h:VR t e=true):0≤e.1∧e.1 < (t.1.length:Int)∧BQ t e.1≠0:=by
 unfold VR at h;simp only [Bool.and_eq_true,decide_eq_true_eq,Bool.not_eq_true',beq_eq_false_iff_ne] at h;exact ⟨h.1.1,h.1.2,h.2⟩
theorem Hy (N:Nat) (t:aZ) (e:Int × Int) (h:VR t e=true):Qr N (t,e)=some (e.1,e.2,(Jr t e).1,(Jr t e).2):=by
 obtain ⟨h1,h2,h3⟩:=aaG h;obtain ⟨k,hk⟩:∃ k:Nat,e.1=(k:Int):=⟨e.1.toNat,by omega⟩;have Qu:k < t.1.length:=by omega
 obtain ⟨a1,a2⟩:=wg t.1 Qu;have es:t.1[k].2.length=BQ t e.1:=by
  unfold BQ;rw [hk,aau,List.getD_eq_getElem?_getD,aaK Qu];rfl
 have d:(!(decide (((BQ t e.1:Nat):Int)=0)))=true:=by rw [decide_eq_false (by omega)]; rfl
 rw [show Qr N (t,e)=Qr N ((t.1,t.2),(e.1,e.2)) from rfl,aan];simp only [hk,aau,aal,ai Qu,a1,a2,aas,cond_true];rw [es,d,cond_true,← hk];rfl
theorem FZ (N:Nat) (t:aZ) (s:kQ) (h:VS t s=true):L7 N (t,s)=some ((dE t s).1.1,(dE t s).1.2.1,(dE t s).1.2.2.1,(dE t s).1.2.2.2,(dE t s).2.1,(dE t s).2.2.1,(dE t s).2.2.2.1,(dE t s).2.2.2.2):=by
 unfold VS at h;rw [Bool.and_eq_true] at h;have q1:=Hy N t (s.1,s.2.1) h.1;have q2:=Hy N t (s.2.2.1,s.2.2.2.1) h.2;rw [VG];have q1':Qr N ((t.1,t.2),(s.1,s.2.1))=_:=q1;have q2':Qr N ((t.1,t.2),(s.2.2.1,s.2.2.2.1))=_:=q2;simp only [bN,bO,bZ,b8,aas,aat,cond_true,aae,q1',q2',beq_self_eq_true,NJ,NK];unfold dE;cases hs:s.2.2.2.2
 ·simp only [acP,cond_true,aae,acK,if_false]
 ·simp only [acR,cond_false,aae,if_true]
def dU (t:aZ):List (Int × Int × Int × Int):=t.2.flatMap fun s=>[(dE t s).1,(dE t s).2]
def fB (p:Nat) (n:Nat):List (Int × Int):=(acg n).map fun i:Nat=>((p:Int),(i:Int))
def iB:List vD→Nat→List (Int × Int)
 |[],_=>[]
 |x :: l,p=>fB p x.2.length++iB l (p+1)
def cT (t:aZ):List (Int × Int):=iB t.1 0
def Kr (p:Int × Int × Int × Int):(Int × Int) × (Int × Int):=((p.1,p.2.1),(p.2.2.1,p.2.2.2))
def dF (t:aZ):List ((Int × Int) × Int):=gb (cT t) ((dU t).map Kr)
theorem VT (l:List (Int × Int × Int × Int)) (a b:Int × Int × Int × Int):map n174 l++[AV.agg [AV.int .i64 a.1,AV.int .i64 a.2.1,AV.int .i64 a.2.2.1,AV.int .i64 a.2.2.2],AV.agg [AV.int .i64 b.1,AV.int .i64 b.2.1,AV.int .i64 b.2.2.1,AV.int .i64 b.2.2.2]]=map n174 (l++[a,b]):=by rw [aaA]; rfl
theorem Mf (t:aZ) {k:Nat} (hk:k < t.2.length):(t.2.take (k+1)).flatMap (fun s=>[(dE t s).1,(dE t s).2])=(t.2.take k).flatMap (fun s=>[(dE t s).1,(dE t s).2])++[(dE t t.2[k]).1,(dE t t.2[k]).2]:=by
 rw [acz,aaK hk,List.flatMap_append];rfl
theorem F0 (t:aZ) (l:List kQ):(l.flatMap (fun s=>[(dE t s).1,(dE t s).2])).length=2 * l.length:=by
 induction l with
 |nil=>rfl
 |cons s l ih=>rw [List.flatMap_cons,aa0,ih,ab9]; simp only [ab9,acJ]; omega
theorem wU:∀ (l:List vD) (p:Nat) (x:vD),iB (l++[x]) p=iB l p++fB (p+l.length) x.2.length
 |[],p,x=>by simp [iB]
 |y :: l,p,x=>by
  rw [List.cons_append,iB,wU l (p+1) x,iB,List.append_assoc,ab9];rw [show p+1+l.length=p+(l.length+1) by omega]
theorem ot:∀ (l:List vD) (p:Nat),(∀ x∈l,x.2.length≤1000)→(iB l p).length≤1000 * l.length
 |[],_,_=>Nat.le_refl _
 |x :: l,p,h=>by
  have ih:=ot l (p+1) fun y hy=>h y (List.mem_cons_of_mem _ hy)
  have:=h x List.mem_cons_self;rw [iB,aa0,ab9];simp only [fB,aal,aa6];omega
section
variable {N:Nat} (hN:eZ N)
include hN
theorem VU (t:aZ) (h:t.2.length≤1000000) (ho:∀ s∈t.2,VS t s=true):aw (DF N t) N ([],0)=some (dU t):=by
 have key:=aV (rd:=DF N t) t.2.length (fun k=>((t.2.take k).flatMap (fun s=>[(dE t s).1,(dE t s).2]),(k:Int))) (dU t) (fun k hk=>by
  obtain ⟨a1,a2⟩:=uE t.2 hk;have q:=FZ N t t.2[k] (ho _ (acN hk));have q:L7 N ((t.1,t.2),(t.2[k].1,t.2[k].2.1,t.2[k].2.2.1,t.2[k].2.2.2.1,t.2[k].2.2.2.2))=_:=q;have hl:=F0 t (t.2.take k);have ht:(t.2.take k).length=k:=by rw [aaT]; omega
  rw [ht] at hl;have UT:((t.2.take k).flatMap (fun s=>[(dE t s).1,(dE t s).2])++[(dE t t.2[k]).1,(dE t t.2[k]).2]).length=2 * k+2:=by rw [aa0,hl]; rfl
  have d2:decide ((2 * k+2) * 32≤140737488355328)=true:=decide_eq_true (by omega);have sn:=VT ((t.2.take k).flatMap (fun s=>[(dE t s).1,(dE t s).2])) (dE t t.2[k]).1 (dE t t.2[k]).2;simp only [DF,aal,aau,ay hk,ai hk,a1,a2,bN,bO,bZ,b8,q,hl,d2,sn,gO,gP,UT,Mf t hk,bc (show k < 9223372036854775807 by omega),aas,aat,cond_true,aae,eq_self,decide_true]) (by
  simp only [DF,aal,aS,acG,gO,gP,aas,aat,cond_true,cond_false,aae,eq_self,decide_true];rfl) N 0 (aax _) (by unfold eZ at hN; omega)
 exact key
theorem Sr (t:aZ) (J:List (Int × Int × Int × Int)) (p:Nat) (hp:p < t.1.length) (hs:t.1[p].2.length≤1000) (acc:List (Int × Int)) (ha:acc.length≤1000000) (v3:List (Int × Int)):aw (lh N J ((p:Int),t.1,t.2,v3)) N (0,t.1,t.2,acc)=some (t.1,t.2,acc++fB p t.1[p].2.length):=by
 obtain ⟨a1,a2⟩:=wg t.1 hp;have key:=aV (rd:=lh N J ((p:Int),t.1,t.2,v3)) t.1[p].2.length (fun k=>((k:Int),t.1,t.2,acc++fB p k)) (t.1,t.2,acc++fB p t.1[p].2.length) (fun k hk=>by
  have cl:(acc++fB p k).length=acc.length+k:=by rw [aa0]; simp [fB]
  have cs:acc++fB p k++[((p:Int),(k:Int))]=acc++fB p (k+1):=by
   rw [List.append_assoc]; congr 1; unfold fB; rw [List.range_succ,aaA]; rfl
  have cl2:(acc++fB p (k+1)).length=acc.length+k+1:=by rw [aa0]; simp [fB]; omega
  have d2:decide ((acc.length+k+1) * 16≤140737488355328)=true:=decide_eq_true (by omega);simp only [lh,aal,aau,a1,ay hk,cl,d2,Me,cs,cl2,bN,bO,bZ,b8,gA,gB,bc (show k < 9223372036854775807 by omega),aas,aat,cond_true,aae,eq_self,decide_true]) (by
  simp only [lh,aal,aau,a1,aS,bN,bO,bZ,b8,gA,gB,aas,aat,cond_true,cond_false,aae,eq_self,decide_true]) N 0 (aax _) (by unfold eZ at hN; omega)
 have e0:acc++fB p 0=acc:=by simp [fB]
 rw [e0] at key;exact key
theorem Ss (t:aZ) (J:List (Int × Int × Int × Int)) (h:t.1.length≤1000) (hs:∀ x∈t.1,x.2.length≤1000):aw (rE N t J) N (0,t.1,t.2,[])=some (t.1,t.2,cT t):=by
 have key:=aV (rd:=rE N t J) t.1.length (fun k=>((k:Int),t.1,t.2,iB (t.1.take k) 0)) (t.1,t.2,cT t) (fun k hk=>by
  obtain ⟨a1,a2⟩:=wg t.1 hk;have hc:=ot (t.1.take k) 0 fun x hx=>hs x (List.mem_of_mem_take hx)
  have ht:(t.1.take k).length=k:=by rw [aaT]; omega
  rw [ht] at hc;have q:=Sr hN t J k hk (hs _ (acN hk)) (iB (t.1.take k) 0) (by omega) (iB (t.1.take k) 0);have es:iB (t.1.take (k+1)) 0=iB (t.1.take k) 0++fB k t.1[k].2.length:=by
   rw [acz,aaK hk];show iB (t.1.take k++[t.1[k]]) 0=_;rw [wU,ht,acH]
  simp only [rE,aal,aau,ay hk,ai hk,a2,q,← es,bN,bO,bZ,b8,gA,gB,bc (show k < 9223372036854775807 by omega),aas,aat,cond_true,aae,eq_self,decide_true]) (by
  simp only [rE,aal,aS,acG,bN,bO,bZ,b8,gA,gB,aas,aat,cond_true,cond_false,aae,eq_self,decide_true];rfl) N 0 (aax _) (by unfold eZ at hN; omega)
 exact key
theorem DK (t:aZ) (h1:t.1.length≤1000) (hs:∀ x∈t.1,x.2.length≤1000) (h2:t.2.length≤100000) (ho:∀ s∈t.2,VS t s=true):T79 N t=some (dF t):=by
 have q1:=VU hN t (by omega) ho;have q2:=Ss hN t (dU t) h1 hs;have hl:(cT t).length≤1000000:=by
  have:=ot t.1 0 hs;unfold cT;omega
 have hp:(dU t).length≤1000000:=by
  have:=F0 t t.2;unfold dU;omega
 have nl:=Jq (cT t);have q3:=VM hN (cT t) (cT t) (dU t) t.1 t.2 (cT t) hl;have fe:∀ m:List ((Int × Int) × Int),(dU t).foldl (fun s p=>kn s ((p.1,p.2.1),(p.2.2.1,p.2.2.2))) m=((dU t).map Kr).foldl kn m:=fun m=>by rw [List.foldl_map]; rfl
 have q4:=VN hN (cT t) (dU t) (cT t) (dU t) t.1 t.2 (cT t) (mP (cT t)) hp (by omega) (sN _);rw [fe] at q4;have nd:=FX ((dU t).map Kr) (mP (cT t)) (sN _);have q5:=aaC hN (cT t) (dU t) (cT t) (dU t) t.1 t.2 (cT t) (((dU t).map Kr).foldl kn (mP (cT t))) hl;have q6:=NH (N:=N) (cT t) (dU t) (cT t) (dU t) t.1 t.2 (cT t) (((dU t).map Kr).foldl kn (mP (cT t))) ((cT t).foldl (wT (((dU t).map Kr).foldl kn (mP (cT t)))) []) nd N (acg (((dU t).map Kr).foldl kn (mP (cT t))).length) (by rw [aa6,NI]; unfold eZ at hN; omega) acC (fun i hi=>acv.1 hi);rw [vl] at q6;have d00:decide ((0:Nat)=0)=true:=rfl;rw [aaw];simp only [aaE,aaF,Jo,Jp,acS,acJ,d00,aat,aas,cond_true,aae,q1,aal,bN,bO,bZ,b8,gA,gB,gO,gP,eq_self,decide_true,q2,c0_,afa,afb,a0_,So,Sp,q3,dX,df,dg,dY,q4,q5,gf,eu,ew,gi,E3,nH,nI,q6];rfl
end
end Go.Proofs.Ytegoimldbgdeiaa
