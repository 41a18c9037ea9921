/- Plain laws: groups that are united. -/
import Derived.Test.YtegoimldbgdeiaaTrwA
import Derived.Test.YtegoimldbgdeiaaAmKL
set_option linter.all false
namespace Go.Proofs.Ytegoimldbgdeiaa
open Go Go.Am
set_option maxRecDepth 100000
section
variable {K:Type} [DecidableEq K]
theorem Dd (v:Int):∀ (m:List (K × Int)) (i:Nat) (hi:i < m.length),(m.map Prod.fst).Nodup→fL m[i].1 v m=m.set i (m[i].1,v)
 | [],i,hi,_=>by cases hi
 | e :: m,0,_,_=>by
  show fL e.1 v (e :: m)=(e.1,v) :: m
  unfold fL
  rw [if_pos rfl]
 | e :: m,i+1,hi,hn=>by
  rw [List.map_cons,List.nodup_cons] at hn
  have ox:i < m.length:=by simpa using hi
  have cr:e.1≠m[i].1:=fun h=>hn.1 (by rw [h]; exact List.mem_map.2 ⟨m[i],List.getElem_mem ox,rfl⟩)
  show fL m[i].1 v (e :: m)=e :: m.set i (m[i].1,v)
  unfold fL
  rw [if_neg (fun h=>cr h.symm),Dd v m i ox hn.2]
def bP (f:Int→Int) (L:List Nat) (m:List (K × Int)):List (K × Int):=m.mapIdx fun i e=>if i∈L then e else (e.1,f e.2)
theorem fc (f:Int→Int) (L:List Nat) (m:List (K × Int)):(bP f L m).length=m.length:=by simp [bP]
theorem Cg (f:Int→Int) (L:List Nat) (m:List (K × Int)):(bP f L m).map Prod.fst=m.map Prod.fst:=by
 apply List.ext_getElem
 ·simp [bP]
 ·intro i h1 h2
  simp only [List.getElem_map,bP,List.getElem_mapIdx]
  split <;> rfl
theorem nL (f:Int→Int) (L:List Nat) (m:List (K × Int)) {i:Nat} (hi:i < m.length) (hL:i∈L):(bP f L m)[i]'(by rw [fc]; exact hi)=m[i]:=by
 simp only [bP,List.getElem_mapIdx,if_pos hL]
theorem ob (f:Int→Int) (m:List (K × Int)):bP f (List.range m.length) m=m:=by
 apply List.ext_getElem
 ·simp [bP]
 ·intro i h1 h2
  simp only [bP,List.getElem_mapIdx,if_pos (List.mem_range.2 h2)]
theorem od (f:Int→Int) (m:List (K × Int)):bP f [] m=m.map fun e=>(e.1,f e.2):=by
 apply List.ext_getElem
 ·simp [bP]
 ·intro i h1 h2
  simp [bP]
theorem mw (f:Int→Int) (L:List Nat) (m:List (K × Int)) {i:Nat} (hi:i < m.length) (hL:i∈L) (hn:L.Nodup) (hk:(m.map Prod.fst).Nodup):fL m[i].1 (f m[i].2) (bP f L m)=bP f (L.erase i) m:=by
 have ox:i < (bP f L m).length:=by rw [fc]; exact hi
 have e:=Dd (f m[i].2) (bP f L m) i ox (by rw [Cg]; exact hk)
 rw [nL f L m hi hL] at e
 rw [e]
 apply List.ext_getElem
 ·simp [bP]
 ·intro j h1 h2
  rw [List.getElem_set]
  by_cases hj:i=j
  ·subst hj
   have:i∉L.erase i:=fun h=>(List.Nodup.mem_erase_iff hn).1 h |>.1 rfl
   simp only [if_pos,bP,List.getElem_mapIdx,if_neg this]
  ·rw [if_neg hj]
   simp only [bP,List.getElem_mapIdx]
   by_cases Ch:j∈L
   ·rw [if_pos Ch,if_pos ((List.Nodup.mem_erase_iff hn).2 ⟨fun h=>hj h.symm,Ch⟩)]
   ·rw [if_neg Ch,if_neg fun h=>Ch (List.mem_of_mem_erase h)]
theorem vl (f:Int→Int) (L:List Nat) (m:List (K × Int)) {i:Nat} (hi:i < m.length) (hL:i∈L) (hn:L.Nodup) (hf:f m[i].2=m[i].2):bP f L m=bP f (L.erase i) m:=by
 apply List.ext_getElem
 ·simp [bP]
 ·intro j h1 h2
  simp only [bP,List.getElem_mapIdx]
  by_cases hj:i=j
  ·subst hj
   have:i∉L.erase i:=fun h=>(List.Nodup.mem_erase_iff hn).1 h |>.1 rfl
   rw [if_pos hL,if_neg this,hf]
  ·by_cases Ch:j∈L
   ·rw [if_pos Ch,if_pos ((List.Nodup.mem_erase_iff hn).2 ⟨fun h=>hj h.symm,Ch⟩)]
   ·rw [if_neg Ch,if_neg fun h=>Ch (List.mem_of_mem_erase h)]
def kj (l:List K):List (K × Int):=(l.foldl (fun s x=>(fL x s.2 s.1,s.2+1)) (([]:List (K × Int)),(0:Int))).1
def Gu (a b:Int):Int:=if b > a then b else a
def ME (a b:Int):Int:=if b < a then b else a
def Ci (a b g:Int):Int:=if g=Gu a b then ME a b else g
def bC (m:List (K × Int)) (x:K):Int:=(getM x m).getD 0
def jj (m:List (K × Int)) (p:K × K):List (K × Int):=m.map fun e=>(e.1,Ci (bC m p.1) (bC m p.2) e.2)
def vm (m:List (K × Int)) (ns:List (Int × Int)) (x:K):List (Int × Int):=if (getM (bC m x) ns).isSome then ns else fL (bC m x) (ns.length:Int) ns
def s9 (l:List K) (ps:List (K × K)):List (K × Int):=
 let m:=ps.foldl jj (kj l)
 let ns:=l.foldl (vm m) []
 m.map fun e=>(e.1,bC ns e.2)
theorem Cj {k:K} {v:Int} {m:List (K × Int)} (h:(m.map Prod.fst).Nodup):((fL k v m).map Prod.fst).Nodup:=by
 rw [rC]
 split
 ·exact h
 ·rename_i hk
  exact List.nodup_append.2 ⟨h,by simp,fun a ha b hb e=>hk (by rw [List.mem_singleton] at hb; subst hb; subst e; exact ha)⟩
theorem my (l:List K):((kj l).map Prod.fst).Nodup:=by
 have gen:∀ (l:List K) (s:List (K × Int) × Int),(s.1.map Prod.fst).Nodup→(((l.foldl (fun s x=>(fL x s.2 s.1,s.2+1)) s).1).map Prod.fst).Nodup:=by
  intro l
  induction l with
  | nil=>intro s h; exact h
  | cons x l ih=>intro s h; exact ih _ (Cj h)
 exact gen l _ (by simp)
theorem Gv (f:Int→Int) (m:List (K × Int)):(m.map fun e=>(e.1,f e.2)).map Prod.fst=m.map Prod.fst:=by
 rw [List.map_map]; rfl
theorem rD (m:List (K × Int)) (p:K × K):(jj m p).map Prod.fst=m.map Prod.fst:=Gv _ m
theorem xg (ps:List (K × K)) (m:List (K × Int)) (h:(m.map Prod.fst).Nodup):((ps.foldl jj m).map Prod.fst).Nodup:=by
 induction ps generalizing m with
 | nil=>exact h
 | cons p ps ih=>exact ih _ (by rw [rD]; exact h)
end
abbrev KE:EK:=.st (.cons 0 1 false .int (.cons 1 1 false .int .nil))
theorem sj:fZ .int (fun k:Int=>AV.int .i64 k) n3 ai:=⟨fun a b=>Dc .i64 a b,fun _=>rfl,fun _=>rfl⟩
theorem Ck:fZ KE (fun k:Int × Int=>AV.agg [AV.int .i64 k.1,AV.int .i64 k.2]) n3 ao:=⟨fun a b=>IP a b,fun _=>rfl,fun _=>rfl⟩
theorem lH (a:Int) (m:List (Int × Int)):ca .int (AV.int .i64 a) (ab (List.map ai m))=true:=sj.keys a m
theorem nN (a:Int) (m:List (Int × Int)):aF .int (AV.int .i64 a) (AV.int .i64 0) (ab (List.map ai m))=n3 (bC m a):=sj.getD a 0 m
theorem De (a:Int) (m:List (Int × Int)):(dZ .int (AV.int .i64 a) (ab (List.map ai m))).isSome=(getM a m).isSome:=by
 rw [sj.get a m]; cases getM a m <;> rfl
theorem Ap (a v:Int) (m:List (Int × Int)):cb .int (AV.int .i64 a) (AV.int .i64 v) (ab (List.map ai m))=ab (List.map ai (fL a v m)):=sj.put a v m
theorem dS (m:List (Int × Int)):af (ab (List.map ai m))=List.map ai m:=sj.cells m
theorem dT (m:List (Int × Int)):aH (ab (List.map ai m))=true:=sj.aH m
theorem sm (m:List (Int × Int)):(ab (List.map ai m)).length=m.length:=by rw [sj.Of,List.length_map]
theorem Kh (m:List (Int × Int)) {i:Nat} (h:i < m.length):bD (ab (List.map ai m)) i=(n3 m[i].1,n3 m[i].2):=by
 rw [sj.Of,Ao _ m h]; rfl
theorem Eu (a b:Int) (m:List ((Int × Int) × Int)):ca KE (AV.agg [AV.int .i64 a,AV.int .i64 b]) (ab (List.map ao m))=true:=Ck.keys (a,b) m
theorem IQ (a b:Int) (m:List ((Int × Int) × Int)):aF KE (AV.agg [AV.int .i64 a,AV.int .i64 b]) (AV.int .i64 0) (ab (List.map ao m))=n3 (bC m (a,b)):=Ck.getD (a,b) 0 m
theorem MF (a b v:Int) (m:List ((Int × Int) × Int)):cb KE (AV.agg [AV.int .i64 a,AV.int .i64 b]) (AV.int .i64 v) (ab (List.map ao m))=ab (List.map ao (fL (a,b) v m)):=Ck.put (a,b) v m
theorem dG (m:List ((Int × Int) × Int)):af (ab (List.map ao m))=List.map ao m:=Ck.cells m
theorem dH (m:List ((Int × Int) × Int)):aH (ab (List.map ao m))=true:=Ck.aH m
theorem yA (m:List ((Int × Int) × Int)):(ab (List.map ao m)).length=m.length:=by rw [Ck.Of,List.length_map]
theorem MG (m:List ((Int × Int) × Int)) {i:Nat} (h:i < m.length):bD (ab (List.map ao m)) i=(aO m[i].1,n3 m[i].2):=by
 rw [Ck.Of,Ao _ m h]; rfl
theorem gm (L:List Nat):aq (List.map n2 (gl L))=L:=by
 unfold aq gl
 rw [List.map_map,List.map_map]
 conv=>rhs; rw [← List.map_id L]
 apply List.map_congr_left
 intro n _
 show ((n:Int)).toNat=n
 exact Int.toNat_natCast n
theorem PY (L:List Nat):aS L=List.map n2 (gl L):=by
 unfold aS gl
 rw [List.map_map]; rfl
theorem jm (L:List Nat):allFit (ah.fits p2) (aS L)=true:=by rw [PY,sM]
theorem jn (L:List Nat):List.map d2 (aS L)=gl L:=by rw [PY,sN]
theorem IR (l:List Int) {k:Nat} (hk:k < l.length):d3 (an (List.map n3 l) k)=l[k]∧ah.fits p3 (an (List.map n3 l) k)=true:=by
 rw [gk n3 l k hk,Cd,Cc]; exact ⟨rfl,rfl⟩
theorem PZ (l:List (Int × Int)) {k:Nat} (hk:k < l.length):d23 (an (List.map dF l) k)=l[k]∧ah.fits nK (an (List.map dF l) k)=true:=by
 rw [gk dF l k hk,SK,SJ]; exact ⟨rfl,rfl⟩
theorem MH (l:List (Int × Int)) {k:Nat} (hk:k < l.length):d67 (an (List.map aO l) k)=l[k]∧ah.fits dR (an (List.map aO l) k)=true:=by
 rw [gk aO l k hk,Gj,Gi]; exact ⟨rfl,rfl⟩
theorem Ki (l:List (Int × Int × Int × Int)) {k:Nat} (hk:k < l.length):d174 (an (List.map n174 l) k)=l[k]∧ah.fits dE (an (List.map n174 l) k)=true:=by
 rw [gk n174 l k hk,PL,PK]; exact ⟨rfl,rfl⟩
theorem Gw (l:List (Int × Int × Int × Int × Bool)) {k:Nat} (hk:k < l.length):d110 (an (List.map n110 l) k)=l[k]∧ah.fits dV (an (List.map n110 l) k)=true:=by
 rw [gk n110 l k hk,PH,PG]; exact ⟨rfl,rfl⟩
theorem Gx (l:List ((List UInt8) × (List (Int × Int)))) {k:Nat} (hk:k < l.length):d131 (an (List.map n131 l) k)=l[k]∧ah.fits ea (an (List.map n131 l) k)=true:=by
 rw [gk n131 l k hk,PJ,PI]; exact ⟨rfl,rfl⟩
end Go.Proofs.Ytegoimldbgdeiaa
namespace Go.Proofs.Ytegoimldbgdeiaa
open Go Go.Am
set_option maxRecDepth 100000
theorem IS {N:Nat} (hN:hH N) (l:List Int) (ps:List (Int × Int)) (x1:List Int) (hl:l.length≤1000000):a6 (lF N l) N (x1,l,0,ps,([]:List (Int × Int)))=some (x1,l,ps,kj l):=by
 have key:=cR (rd:=lF N l) l (fun (s:List (Int × Int) × Int) k=>(x1,l,(k:Int),ps,s.1)) (fun s x=>(fL x s.2 s.1,s.2+1)) (fun s=>(x1,l,ps,s.1)) (fun s k=>s.2=(k:Int)) (fun s k hk hP=>by
  obtain ⟨a1,a2⟩:=IR l hk
  refine ⟨?_,by show s.2+1=_; rw [hP]; rfl⟩
  rw [hP]
  simp only [lF,List.length_map,Int.toNat_natCast,aX hk,aK hk,a1,a2,lH,Ap,bS (show k < 9223372036854775807 by omega),dS,dT,dG,dH,sM,sN,jk,jl,gK,gL,gX,gY,dh,di,dj,dm,eD,eE,cC,cD,jm,jn,Bool.and_self,Bool.and_true,cond_true,cond_false,Option.bind_some,eq_self,decide_true]) (fun s _=>by
  simp only [lF,List.length_map,bN,dS,dT,dG,dH,sM,sN,jk,jl,gK,gL,gX,gY,dh,di,dj,dm,eD,eE,cC,cD,jm,jn,Bool.and_self,Bool.and_true,cond_true,cond_false,Option.bind_some,eq_self,decide_true]) N ([],0) 0 (Nat.zero_le _) (by unfold hH at hN; omega) rfl
 rw [List.drop_zero] at key
 exact key
theorem Gy {N:Nat} (l:List Int) (ps:List (Int × Int)) (x1:List Int) (k:Nat) (hk:k < ps.length) (m:List (Int × Int)) (hn:(m.map Prod.fst).Nodup):∀ (n:Nat) (L:List Nat),L.length < n→L.Nodup→(∀ i∈L,i < m.length) →
  dI (jB N (x1,l,(k:Int),ps,m)) n (x1,l,ps,(bP (Ci (bC m ps[k].1) (bC m ps[k].2)) L m),(m.length:Int),(gl L))=some (x1,l,ps,(m.map fun e=>(e.1,Ci (bC m ps[k].1) (bC m ps[k].2) e.2)),(m.length:Int),[])
 | 0,L,h,_,_=>by omega
 | n+1,L,h,hL,hi=>by
  rw [ki]
  obtain ⟨a1,a2⟩:=PZ ps hk
  have ih:=fun L'=>Gy (N:=N) l ps x1 k hk m hn n L'
  generalize hf:Ci (bC m ps[k].1) (bC m ps[k].2)=f at *
  have Eh:=fc f L m
  have ec:decide ((bP f L m).length=m.length)=true:=decide_eq_true Eh
  cases xh:L with
  | nil=>
   have i0:List.isEmpty ([]:List Nat)=true:=rfl
   have e0:(bP f [] m).length=m.length:=fc f [] m
   simp only [jB,sm,e0,Int.toNat_natCast,gm,i0,od,List.length_map,dS,dT,dG,dH,sM,sN,jk,jl,gK,gL,gX,gY,dh,di,dj,dm,eD,eE,cC,cD,jm,jn,Bool.and_self,Bool.and_true,cond_true,cond_false,Option.bind_some,eq_self,decide_true]
   rfl
  | cons a L'=>
   rw [← xh]
   have i0:List.isEmpty L=false:=by rw [xh]; rfl
   simp only [jB,sm,Int.toNat_natCast,ec,cond_true,cond_false,gm,i0]
   refine qo (by rw [xh]; simp) fun i fy=>?_
   have bK:=hi i fy
   have xK:i < (bP f L m).length:=by rw [Eh]; exact bK
   have nQ:(L.erase i).length=L.length - 1:=List.length_erase_of_mem fy
   have lY:0 < L.length:=List.length_pos_of_mem fy
   have dl:decide (i < m.length)=true:=decide_eq_true bK
   have IT:=ih (L.erase i) (by omega) (hL.erase i) (fun j hj=>hi j (List.mem_of_mem_erase hj))
   have MI:=nL f L m bK fy
   have z0:0+k=k:=Nat.zero_add k
   rw [Kh _ xK,MI]
   have Wv:d3 (n3 m[i].2)=m[i].2:=Cd _
   simp only [Cc,Cd,Cc,Cd,Bool.and_self,cond_true,dl,ec,z0,a1,lH,nN]
   have dv:f m[i].2=if m[i].2=Gu (bC m ps[k].1) (bC m ps[k].2) then ME (bC m ps[k].1) (bC m ps[k].2) else m[i].2:=by rw [← hf]; rfl
   by_cases hg:m[i].2=Gu (bC m ps[k].1) (bC m ps[k].2)
   ·rw [if_pos hg] at dv
    have hb:(m[i].2 == (if bC m ps[k].2 > bC m ps[k].1 then bC m ps[k].2 else bC m ps[k].1))=true:=by rw [hg]; exact beq_self_eq_true _
    have st:=mw f L m bK fy hL hn
    rw [dv] at st
    have st:fL m[i].1 (if bC m ps[k].2 < bC m ps[k].1 then bC m ps[k].2 else bC m ps[k].1) (bP f L m)=bP f (L.erase i) m:=st
    simp only [hb,Ap,st,dS,dT,dG,dH,sM,sN,jk,jl,gK,gL,gX,gY,dh,di,dj,dm,eD,eE,cC,cD,jm,jn,Bool.and_self,Bool.and_true,cond_true,cond_false,Option.bind_some,eq_self,decide_true]
    exact IT
   ·rw [if_neg hg] at dv
    have hb:(m[i].2 == (if bC m ps[k].2 > bC m ps[k].1 then bC m ps[k].2 else bC m ps[k].1))=false:=beq_false_of_ne hg
    have st:=vl f L m bK fy hL dv
    simp only [hb,dS,dT,dG,dH,sM,sN,jk,jl,gK,gL,gX,gY,dh,di,dj,dm,eD,eE,cC,cD,jm,jn,Bool.and_self,Bool.and_true,cond_true,cond_false,Option.bind_some,eq_self,decide_true]
    rw [st]
    exact IT
theorem IU {N:Nat} (hN:hH N) (l:List Int) (ps:List (Int × Int)) (x1:List Int) (m:List (Int × Int)) (hl:ps.length≤1000000) (hm:m.length≤1000000) (hn:(m.map Prod.fst).Nodup):a6 (kg N ((),ps)) N (x1,l,0,ps,m)=some (x1,l,ps,(ps.foldl jj m)):=by
 have key:=cR (rd:=kg N ((),ps)) ps (fun (s:List (Int × Int)) k=>(x1,l,(k:Int),ps,s)) (fun s p=>jj s p) (fun s=>(x1,l,ps,s)) (fun s k=>(s.map Prod.fst).Nodup∧s.length≤1000000) (fun s k hk hP=>by
  obtain ⟨a1,a2⟩:=PZ ps hk
  have z0:0+k=k:=Nat.zero_add k
  have q:=Gy (N:=N) l ps x1 k hk s hP.1 N (List.range s.length) (by rw [List.length_range]; unfold hH at hN; omega) List.nodup_range (fun i hi=>List.mem_range.1 hi)
  rw [ob] at q
  refine ⟨?_,by rw [rD]; exact hP.1,by unfold jj; rw [List.length_map]; exact hP.2⟩
  have dz:decide (ps.length=ps.length)=true:=decide_eq_true rfl
  have dk:decide (k < ps.length)=true:=decide_eq_true hk
  simp only [kg,List.length_map,Int.toNat_natCast,aX hk,aK hk,z0,a1,a2,dz,dk,lH,nN,Cc,sm,q,bS (show k < 9223372036854775807 by omega),dS,dT,dG,dH,sM,sN,jk,jl,gK,gL,gX,gY,dh,di,dj,dm,eD,eE,cC,cD,jm,jn,Bool.and_self,Bool.and_true,cond_true,cond_false,Option.bind_some,eq_self,decide_true]
  rfl) (fun s _=>by
  simp only [kg,List.length_map,bN,dS,dT,dG,dH,sM,sN,jk,jl,gK,gL,gX,gY,dh,di,dj,dm,eD,eE,cC,cD,jm,jn,Bool.and_self,Bool.and_true,cond_true,cond_false,Option.bind_some,eq_self,decide_true]) N m 0 (Nat.zero_le _) (by unfold hH at hN; omega) ⟨hn,hm⟩
 rw [List.drop_zero] at key
 exact key
theorem MJ {N:Nat} (hN:hH N) (l:List Int) (ps:List (Int × Int)) (x1:List Int) (m:List (Int × Int)) (hl:l.length≤1000000):a6 (iu N (l,l,ps,m)) N (x1,l,l,0,ps,m,[])=some (x1,l,l,ps,m,(l.foldl (vm m) [])):=by
 have key:=cR (rd:=iu N (l,l,ps,m)) l (fun (s:List (Int × Int)) k=>(x1,l,l,(k:Int),ps,m,s)) (vm m) (fun s=>(x1,l,l,ps,m,s)) (fun s k=>True) (fun s k hk hP=>by
  obtain ⟨a1,a2⟩:=IR l hk
  refine ⟨?_,trivial⟩
  have e:vm m s l[k]=if (getM (bC m l[k]) s).isSome then s else fL (bC m l[k]) (s.length:Int) s:=rfl
  rw [e]
  cases hs:(getM (bC m l[k]) s).isSome with
  | true=>
   simp only [iu,List.length_map,Int.toNat_natCast,aX hk,aK hk,a1,a2,lH,nN,lH,nN,Cc,Cd,De,hs,Bool.not_true,if_true,bS (show k < 9223372036854775807 by omega),dS,dT,dG,dH,sM,sN,jk,jl,gK,gL,gX,gY,dh,di,dj,dm,eD,eE,cC,cD,jm,jn,Bool.and_self,Bool.and_true,cond_true,cond_false,Option.bind_some,eq_self,decide_true]
  | false=>
   simp only [iu,List.length_map,Int.toNat_natCast,aX hk,aK hk,a1,a2,lH,nN,lH,nN,Ap,sm,Cc,Cd,De,hs,Bool.not_false,Bool.false_eq_true,if_false,bS (show k < 9223372036854775807 by omega),dS,dT,dG,dH,sM,sN,jk,jl,gK,gL,gX,gY,dh,di,dj,dm,eD,eE,cC,cD,jm,jn,Bool.and_self,Bool.and_true,cond_true,cond_false,Option.bind_some,eq_self,decide_true]) (fun s _=>by
  simp only [iu,List.length_map,bN,dS,dT,dG,dH,sM,sN,jk,jl,gK,gL,gX,gY,dh,di,dj,dm,eD,eE,cC,cD,jm,jn,Bool.and_self,Bool.and_true,cond_true,cond_false,Option.bind_some,eq_self,decide_true]) N [] 0 (Nat.zero_le _) (by unfold hH at hN; omega) trivial
 rw [List.drop_zero] at key
 exact key
theorem Df {N:Nat} (l:List Int) (ps:List (Int × Int)) (x1:List Int) (m:List (Int × Int)) (ns:List (Int × Int)) (hn:(m.map Prod.fst).Nodup):∀ (n:Nat) (L:List Nat),L.length < n→L.Nodup→(∀ i∈L,i < m.length) →
  dI (kM N) n (x1,l,l,ps,(bP (bC ns) L m),ns,(m.length:Int),(gl L))=some (x1,l,l,ps,(m.map fun e=>(e.1,bC ns e.2)),ns,(m.length:Int),[])
 | 0,L,h,_,_=>by omega
 | n+1,L,h,hL,hi=>by
  rw [ki]
  have ih:=fun L'=>Df (N:=N) l ps x1 m ns hn n L'
  generalize hf:bC ns=f at *
  have Eh:=fc f L m
  have ec:decide ((bP f L m).length=m.length)=true:=decide_eq_true Eh
  cases xh:L with
  | nil=>
   have i0:List.isEmpty ([]:List Nat)=true:=rfl
   have e0:(bP f [] m).length=m.length:=fc f [] m
   simp only [kM,sm,e0,Int.toNat_natCast,gm,i0,od,List.length_map,dS,dT,dG,dH,sM,sN,jk,jl,gK,gL,gX,gY,dh,di,dj,dm,eD,eE,cC,cD,jm,jn,Bool.and_self,Bool.and_true,cond_true,cond_false,Option.bind_some,eq_self,decide_true]
   rfl
  | cons a L'=>
   rw [← xh]
   have i0:List.isEmpty L=false:=by rw [xh]; rfl
   simp only [kM,sm,Int.toNat_natCast,ec,cond_true,cond_false,gm,i0]
   refine qo (by rw [xh]; simp) fun i fy=>?_
   have bK:=hi i fy
   have xK:i < (bP f L m).length:=by rw [Eh]; exact bK
   have nQ:(L.erase i).length=L.length - 1:=List.length_erase_of_mem fy
   have lY:0 < L.length:=List.length_pos_of_mem fy
   have dl:decide (i < m.length)=true:=decide_eq_true bK
   have IT:=ih (L.erase i) (by omega) (hL.erase i) (fun j hj=>hi j (List.mem_of_mem_erase hj))
   have MI:=nL f L m bK fy
   rw [Kh _ xK,MI]
   have st:=mw f L m bK fy hL hn
   have ev:bC ns m[i].2=f m[i].2:=by rw [hf]
   have st:fL m[i].1 (f m[i].2) (bP f L m)=bP f (L.erase i) m:=st
   simp only [Cc,Cd,Cc,Cd,Bool.and_self,cond_true,dl,ec,lH,nN,lH,Ap,ev,st,dS,dT,dG,dH,sM,sN,jk,jl,gK,gL,gX,gY,dh,di,dj,dm,eD,eE,cC,cD,jm,jn,Bool.and_self,Bool.and_true,cond_true,cond_false,Option.bind_some,eq_self,decide_true]
   exact IT
end Go.Proofs.Ytegoimldbgdeiaa
namespace Go.Proofs.Ytegoimldbgdeiaa
open Go Go.Am
set_option maxRecDepth 100000
theorem IV {N:Nat} (hN:hH N) (l:List (Int × Int)) (x1:List (Int × Int)) (J:List (Int × Int × Int × Int)) (P:List ((List UInt8) × (List (Int × Int)))) (S:List (Int × Int × Int × Int × Bool)) (E:List (Int × Int)) (hl:l.length≤1000000):a6 (kh N (P,S,l)) N (x1,J,l,0,P,S,E,([]:List ((Int × Int) × Int)))=some (x1,J,l,P,S,E,kj l):=by
 have key:=cR (rd:=kh N (P,S,l)) l (fun (s:List ((Int × Int) × Int) × Int) k=>(x1,J,l,(k:Int),P,S,E,s.1)) (fun s x=>(fL x s.2 s.1,s.2+1)) (fun s=>(x1,J,l,P,S,E,s.1)) (fun s k=>s.2=(k:Int)) (fun s k hk hP=>by
  obtain ⟨a1,a2⟩:=MH l hk
  refine ⟨?_,by show s.2+1=_; rw [hP]; rfl⟩
  rw [hP]
  simp only [kh,List.length_map,Int.toNat_natCast,aX hk,aK hk,a1,a2,Eu,MF,bS (show k < 9223372036854775807 by omega),dS,dT,dG,dH,sM,sN,jk,jl,gK,gL,gX,gY,dh,di,dj,dm,eD,eE,cY,cZ,cC,cD,jm,jn,Bool.and_self,Bool.and_true,cond_true,cond_false,Option.bind_some,eq_self,decide_true]) (fun s _=>by
  simp only [kh,List.length_map,bN,dS,dT,dG,dH,sM,sN,jk,jl,gK,gL,gX,gY,dh,di,dj,dm,eD,eE,cY,cZ,cC,cD,jm,jn,Bool.and_self,Bool.and_true,cond_true,cond_false,Option.bind_some,eq_self,decide_true]) N ([],0) 0 (Nat.zero_le _) (by unfold hH at hN; omega) rfl
 rw [List.drop_zero] at key
 exact key
theorem Gz {N:Nat} (l:List (Int × Int)) (ps:List (Int × Int × Int × Int)) (x1:List (Int × Int)) (J:List (Int × Int × Int × Int)) (P:List ((List UInt8) × (List (Int × Int)))) (S:List (Int × Int × Int × Int × Bool)) (E:List (Int × Int)) (k:Nat) (hk:k < ps.length) (m:List ((Int × Int) × Int)) (hn:(m.map Prod.fst).Nodup):∀ (n:Nat) (L:List Nat),L.length < n→L.Nodup→(∀ i∈L,i < m.length) →
  dI (iB N (x1,J,l,ps,(k:Int),P,S,E,m)) n (x1,J,l,ps,P,S,E,(bP (Ci (bC m (ps[k].1,ps[k].2.1)) (bC m (ps[k].2.2.1,ps[k].2.2.2))) L m),(m.length:Int),(gl L))=some (x1,J,l,ps,P,S,E,(m.map fun e=>(e.1,Ci (bC m (ps[k].1,ps[k].2.1)) (bC m (ps[k].2.2.1,ps[k].2.2.2)) e.2)),(m.length:Int),[])
 | 0,L,h,_,_=>by omega
 | n+1,L,h,hL,hi=>by
  rw [ki]
  obtain ⟨a1,a2⟩:=Ki ps hk
  have ih:=fun L'=>Gz (N:=N) l ps x1 J P S E k hk m hn n L'
  generalize hf:Ci (bC m (ps[k].1,ps[k].2.1)) (bC m (ps[k].2.2.1,ps[k].2.2.2))=f at *
  have Eh:=fc f L m
  have ec:decide ((bP f L m).length=m.length)=true:=decide_eq_true Eh
  cases xh:L with
  | nil=>
   have i0:List.isEmpty ([]:List Nat)=true:=rfl
   have e0:(bP f [] m).length=m.length:=fc f [] m
   simp only [iB,yA,e0,Int.toNat_natCast,gm,i0,od,List.length_map,dS,dT,dG,dH,sM,sN,jk,jl,gK,gL,gX,gY,dh,di,dj,dm,eD,eE,cY,cZ,cC,cD,jm,jn,Bool.and_self,Bool.and_true,cond_true,cond_false,Option.bind_some,eq_self,decide_true]
   rfl
  | cons a L'=>
   rw [← xh]
   have i0:List.isEmpty L=false:=by rw [xh]; rfl
   simp only [iB,yA,Int.toNat_natCast,ec,cond_true,cond_false,gm,i0]
   refine qo (by rw [xh]; simp) fun i fy=>?_
   have bK:=hi i fy
   have xK:i < (bP f L m).length:=by rw [Eh]; exact bK
   have nQ:(L.erase i).length=L.length - 1:=List.length_erase_of_mem fy
   have lY:0 < L.length:=List.length_pos_of_mem fy
   have dl:decide (i < m.length)=true:=decide_eq_true bK
   have IT:=ih (L.erase i) (by omega) (hL.erase i) (fun j hj=>hi j (List.mem_of_mem_erase hj))
   have MI:=nL f L m bK fy
   have z0:0+k=k:=Nat.zero_add k
   rw [MG _ xK,MI]
   have Ww:d3 (n3 m[i].2)=m[i].2:=Cd _
   simp only [Gi,Gj,Cc,Cd,Bool.and_self,cond_true,dl,ec,z0,a1,Eu,IQ]
   have dv:f m[i].2=if m[i].2=Gu (bC m (ps[k].1,ps[k].2.1)) (bC m (ps[k].2.2.1,ps[k].2.2.2)) then ME (bC m (ps[k].1,ps[k].2.1)) (bC m (ps[k].2.2.1,ps[k].2.2.2)) else m[i].2:=by rw [← hf]; rfl
   by_cases hg:m[i].2=Gu (bC m (ps[k].1,ps[k].2.1)) (bC m (ps[k].2.2.1,ps[k].2.2.2))
   ·rw [if_pos hg] at dv
    have hb:(m[i].2 == (if bC m (ps[k].2.2.1,ps[k].2.2.2) > bC m (ps[k].1,ps[k].2.1) then bC m (ps[k].2.2.1,ps[k].2.2.2) else bC m (ps[k].1,ps[k].2.1)))=true:=by rw [hg]; exact beq_self_eq_true _
    have st:=mw f L m bK fy hL hn
    rw [dv] at st
    have st:fL (m[i].1.1,m[i].1.2) (if bC m (ps[k].2.2.1,ps[k].2.2.2) < bC m (ps[k].1,ps[k].2.1) then bC m (ps[k].2.2.1,ps[k].2.2.2) else bC m (ps[k].1,ps[k].2.1)) (bP f L m)=bP f (L.erase i) m:=st
    simp only [hb,MF,st,dS,dT,dG,dH,sM,sN,jk,jl,gK,gL,gX,gY,dh,di,dj,dm,eD,eE,cY,cZ,cC,cD,jm,jn,Bool.and_self,Bool.and_true,cond_true,cond_false,Option.bind_some,eq_self,decide_true]
    exact IT
   ·rw [if_neg hg] at dv
    have hb:(m[i].2 == (if bC m (ps[k].2.2.1,ps[k].2.2.2) > bC m (ps[k].1,ps[k].2.1) then bC m (ps[k].2.2.1,ps[k].2.2.2) else bC m (ps[k].1,ps[k].2.1)))=false:=beq_false_of_ne hg
    have st:=vl f L m bK fy hL dv
    simp only [hb,dS,dT,dG,dH,sM,sN,jk,jl,gK,gL,gX,gY,dh,di,dj,dm,eD,eE,cY,cZ,cC,cD,jm,jn,Bool.and_self,Bool.and_true,cond_true,cond_false,Option.bind_some,eq_self,decide_true]
    rw [st]
    exact IT
theorem IW {N:Nat} (hN:hH N) (l:List (Int × Int)) (ps:List (Int × Int × Int × Int)) (x1:List (Int × Int)) (J:List (Int × Int × Int × Int)) (P:List ((List UInt8) × (List (Int × Int)))) (S:List (Int × Int × Int × Int × Bool)) (E:List (Int × Int)) (m:List ((Int × Int) × Int)) (hl:ps.length≤1000000) (hm:m.length≤1000000) (hn:(m.map Prod.fst).Nodup):a6 (iO N (x1,ps,l,P,S,E,m)) N (x1,J,l,ps,0,P,S,E,m)=some (x1,J,l,ps,P,S,E,(ps.foldl (fun s p=>jj s ((p.1,p.2.1),(p.2.2.1,p.2.2.2))) m)):=by
 have key:=cR (rd:=iO N (x1,ps,l,P,S,E,m)) ps (fun (s:List ((Int × Int) × Int)) k=>(x1,J,l,ps,(k:Int),P,S,E,s)) (fun s p=>jj s ((p.1,p.2.1),(p.2.2.1,p.2.2.2))) (fun s=>(x1,J,l,ps,P,S,E,s)) (fun s k=>(s.map Prod.fst).Nodup∧s.length≤1000000) (fun s k hk hP=>by
  obtain ⟨a1,a2⟩:=Ki ps hk
  have z0:0+k=k:=Nat.zero_add k
  have q:=Gz (N:=N) l ps x1 J P S E k hk s hP.1 N (List.range s.length) (by rw [List.length_range]; unfold hH at hN; omega) List.nodup_range (fun i hi=>List.mem_range.1 hi)
  rw [ob] at q
  refine ⟨?_,by rw [rD]; exact hP.1,by unfold jj; rw [List.length_map]; exact hP.2⟩
  have dz:decide (ps.length=ps.length)=true:=decide_eq_true rfl
  have dk:decide (k < ps.length)=true:=decide_eq_true hk
  simp only [iO,List.length_map,Int.toNat_natCast,aX hk,aK hk,z0,a1,a2,dz,dk,Eu,IQ,Cc,yA,q,bS (show k < 9223372036854775807 by omega),dS,dT,dG,dH,sM,sN,jk,jl,gK,gL,gX,gY,dh,di,dj,dm,eD,eE,cY,cZ,cC,cD,jm,jn,Bool.and_self,Bool.and_true,cond_true,cond_false,Option.bind_some,eq_self,decide_true]
  rfl) (fun s _=>by
  simp only [iO,List.length_map,bN,dS,dT,dG,dH,sM,sN,jk,jl,gK,gL,gX,gY,dh,di,dj,dm,eD,eE,cY,cZ,cC,cD,jm,jn,Bool.and_self,Bool.and_true,cond_true,cond_false,Option.bind_some,eq_self,decide_true]) N m 0 (Nat.zero_le _) (by unfold hH at hN; omega) ⟨hn,hm⟩
 rw [List.drop_zero] at key
 exact key
theorem MK {N:Nat} (hN:hH N) (l:List (Int × Int)) (ps:List (Int × Int × Int × Int)) (x1:List (Int × Int)) (J:List (Int × Int × Int × Int)) (P:List ((List UInt8) × (List (Int × Int)))) (S:List (Int × Int × Int × Int × Bool)) (E:List (Int × Int)) (m:List ((Int × Int) × Int)) (hl:l.length≤1000000):a6 (gH N (l,J,l,ps,P,S,E,m)) N (x1,J,l,ps,l,0,P,S,E,m,[])=some (x1,J,l,ps,l,P,S,E,m,(l.foldl (vm m) [])):=by
 have key:=cR (rd:=gH N (l,J,l,ps,P,S,E,m)) l (fun (s:List (Int × Int)) k=>(x1,J,l,ps,l,(k:Int),P,S,E,m,s)) (vm m) (fun s=>(x1,J,l,ps,l,P,S,E,m,s)) (fun s k=>True) (fun s k hk hP=>by
  obtain ⟨a1,a2⟩:=MH l hk
  refine ⟨?_,trivial⟩
  have e:vm m s l[k]=if (getM (bC m l[k]) s).isSome then s else fL (bC m l[k]) (s.length:Int) s:=rfl
  rw [e]
  cases hs:(getM (bC m l[k]) s).isSome with
  | true=>
   simp only [gH,List.length_map,Int.toNat_natCast,aX hk,aK hk,a1,a2,Eu,IQ,lH,nN,Cc,Cd,De,hs,Bool.not_true,if_true,bS (show k < 9223372036854775807 by omega),dS,dT,dG,dH,sM,sN,jk,jl,gK,gL,gX,gY,dh,di,dj,dm,eD,eE,cY,cZ,cC,cD,jm,jn,Bool.and_self,Bool.and_true,cond_true,cond_false,Option.bind_some,eq_self,decide_true]
  | false=>
   simp only [gH,List.length_map,Int.toNat_natCast,aX hk,aK hk,a1,a2,Eu,IQ,lH,nN,Ap,sm,Cc,Cd,De,hs,Bool.not_false,Bool.false_eq_true,if_false,bS (show k < 9223372036854775807 by omega),dS,dT,dG,dH,sM,sN,jk,jl,gK,gL,gX,gY,dh,di,dj,dm,eD,eE,cY,cZ,cC,cD,jm,jn,Bool.and_self,Bool.and_true,cond_true,cond_false,Option.bind_some,eq_self,decide_true]) (fun s _=>by
  simp only [gH,List.length_map,bN,dS,dT,dG,dH,sM,sN,jk,jl,gK,gL,gX,gY,dh,di,dj,dm,eD,eE,cY,cZ,cC,cD,jm,jn,Bool.and_self,Bool.and_true,cond_true,cond_false,Option.bind_some,eq_self,decide_true]) N [] 0 (Nat.zero_le _) (by unfold hH at hN; omega) trivial
 rw [List.drop_zero] at key
 exact key
theorem Dg {N:Nat} (l:List (Int × Int)) (ps:List (Int × Int × Int × Int)) (x1:List (Int × Int)) (J:List (Int × Int × Int × Int)) (P:List ((List UInt8) × (List (Int × Int)))) (S:List (Int × Int × Int × Int × Bool)) (E:List (Int × Int)) (m:List ((Int × Int) × Int)) (ns:List (Int × Int)) (hn:(m.map Prod.fst).Nodup):∀ (n:Nat) (L:List Nat),L.length < n→L.Nodup→(∀ i∈L,i < m.length) →
  dI (jC N) n (x1,J,l,ps,l,P,S,E,(bP (bC ns) L m),ns,(m.length:Int),(gl L))=some (x1,J,l,ps,l,P,S,E,(m.map fun e=>(e.1,bC ns e.2)),ns,(m.length:Int),[])
 | 0,L,h,_,_=>by omega
 | n+1,L,h,hL,hi=>by
  rw [ki]
  have ih:=fun L'=>Dg (N:=N) l ps x1 J P S E m ns hn n L'
  generalize hf:bC ns=f at *
  have Eh:=fc f L m
  have ec:decide ((bP f L m).length=m.length)=true:=decide_eq_true Eh
  cases xh:L with
  | nil=>
   have i0:List.isEmpty ([]:List Nat)=true:=rfl
   have e0:(bP f [] m).length=m.length:=fc f [] m
   simp only [jC,yA,e0,Int.toNat_natCast,gm,i0,od,List.length_map,dS,dT,dG,dH,sM,sN,jk,jl,gK,gL,gX,gY,dh,di,dj,dm,eD,eE,cY,cZ,cC,cD,jm,jn,Bool.and_self,Bool.and_true,cond_true,cond_false,Option.bind_some,eq_self,decide_true]
   rfl
  | cons a L'=>
   rw [← xh]
   have i0:List.isEmpty L=false:=by rw [xh]; rfl
   simp only [jC,yA,Int.toNat_natCast,ec,cond_true,cond_false,gm,i0]
   refine qo (by rw [xh]; simp) fun i fy=>?_
   have bK:=hi i fy
   have xK:i < (bP f L m).length:=by rw [Eh]; exact bK
   have nQ:(L.erase i).length=L.length - 1:=List.length_erase_of_mem fy
   have lY:0 < L.length:=List.length_pos_of_mem fy
   have dl:decide (i < m.length)=true:=decide_eq_true bK
   have IT:=ih (L.erase i) (by omega) (hL.erase i) (fun j hj=>hi j (List.mem_of_mem_erase hj))
   have MI:=nL f L m bK fy
   rw [MG _ xK,MI]
   have st:=mw f L m bK fy hL hn
   have ev:bC ns m[i].2=f m[i].2:=by rw [hf]
   have st:fL (m[i].1.1,m[i].1.2) (f m[i].2) (bP f L m)=bP f (L.erase i) m:=st
   simp only [Gi,Gj,Cc,Cd,Bool.and_self,cond_true,dl,ec,lH,nN,Eu,MF,ev,st,dS,dT,dG,dH,sM,sN,jk,jl,gK,gL,gX,gY,dh,di,dj,dm,eD,eE,cY,cZ,cC,cD,jm,jn,Bool.and_self,Bool.and_true,cond_true,cond_false,Option.bind_some,eq_self,decide_true]
   exact IT
end Go.Proofs.Ytegoimldbgdeiaa
namespace Go.Proofs.Ytegoimldbgdeiaa
open Go Go.Am
set_option maxRecDepth 100000
abbrev Og:=(List UInt8) × (List (Int × Int))
abbrev GA:=Int × Int × Int × Int × Bool
abbrev oe:=List Og × List GA
def bu (n:Nat):List Int:=(List.range n).map fun i:Nat=>(i:Int)
theorem Aq (n:Nat):bu (n+1)=bu n++[(n:Int)]:=by unfold bu; rw [List.range_succ,List.map_append]; rfl
theorem kl (n:Nat):(bu n).length=n:=by simp [bu]
def sO (s:GA):Int × Int:=(s.1,s.2.2.1)
def da (t:oe):List Int:=
 let l:=bu t.1.length
 let m:=s9 l (t.2.map sO)
 l.map (bC m)
theorem Kj (l:List Int) (x:Int):List.map n3 l++[AV.int .i64 x]=List.map n3 (l++[x]):=by rw [List.map_append]; rfl
theorem ML (l:List (Int × Int)) (a b:Int):List.map dF l++[AV.agg [AV.int .i64 a,AV.int .i64 b]]=List.map dF (l++[(a,b)]):=by rw [List.map_append]; rfl
theorem MM (l:List (Int × Int)) (a b:Int):List.map aO l++[AV.agg [AV.int .i64 a,AV.int .i64 b]]=List.map aO (l++[(a,b)]):=by rw [List.map_append]; rfl
theorem P0:allFit (ah.fits p3) ([]:List AV)=true:=rfl
theorem P1:List.map d3 ([]:List AV)=[]:=rfl
theorem P2:allFit (ah.fits dR) ([]:List AV)=true:=rfl
theorem P3:List.map d67 ([]:List AV)=[]:=rfl
theorem MN:allFit (ah.fits dE) ([]:List AV)=true:=rfl
theorem MO:List.map d174 ([]:List AV)=[]:=rfl
theorem S4:af ([]:List (AV × AV))=[]:=rfl
theorem S5:aH ([]:List (AV × AV))=true:=rfl
theorem GB:allFit (ah.fits bW) ([]:List AV)=true:=rfl
theorem GC:List.map cj ([]:List AV)=[]:=rfl
theorem P4:allFit (ah.fits cF) ([]:List AV)=true:=rfl
theorem P5:List.map cN ([]:List AV)=[]:=rfl
theorem Ar {K:Type} [DecidableEq K] (l:List K):(kj l).length≤l.length:=by
 have gen:∀ (l:List K) (s:List (K × Int) × Int),((l.foldl (fun s x=>(fL x s.2 s.1,s.2+1)) s).1).length≤s.1.length+l.length:=by
  intro l
  induction l with
  | nil=>intro s; exact Nat.le_refl _
  | cons x l ih=>
   intro s
   have h1:=ih (fL x s.2 s.1,s.2+1)
   have h2:(fL x s.2 s.1).length≤s.1.length+1:=by
    have:=congrArg List.length (rC (k:=x) (v:=s.2) (m:=s.1))
    rw [List.length_map] at this
    rw [this]
    split <;> simp
   rw [List.foldl_cons,List.length_cons]
   simp only at h1
   omega
 have:=gen l ([],0)
 unfold kj
 simpa using this
theorem Dh {K:Type} [DecidableEq K] (ps:List (K × K)) (m:List (K × Int)):(ps.foldl jj m).length=m.length:=by
 induction ps generalizing m with
 | nil=>rfl
 | cons p ps ih=>rw [List.foldl_cons,ih]; unfold jj; rw [List.length_map]
theorem UK:∀ l:List Int,aN (List.map n3 l)=true
 | []=>rfl
 | x :: l=>by
  show ((n3 x).closed&&aN (List.map n3 l))=true
  rw [UK l]; rfl
section
variable {N:Nat} (hN:hH N)
include hN
theorem IX (t:oe) (h:t.1.length≤1000000):a6 (vj N t) N ([],0)=some (bu t.1.length):=by
 have key:=cS (rd:=vj N t) t.1.length (fun k=>(bu k,(k:Int))) (bu t.1.length) (fun k hk=>by
  have d:decide ((bu k).length=(bu k).length)=true:=decide_eq_true rfl
  have d2:decide ((k+1) * 8≤140737488355328)=true:=decide_eq_true (by omega)
  simp only [vj,List.length_map,aX hk,kl,d2,Kj,jk,jl,← Aq,bS (show k < 9223372036854775807 by omega),Bool.and_self,Bool.and_true,cond_true,Option.bind_some,eq_self,decide_true]) (by
  simp only [vj,List.length_map,bN,kl,jk,jl,Bool.and_self,Bool.and_true,cond_true,cond_false,Option.bind_some,eq_self,decide_true]) N 0 (Nat.zero_le _) (by unfold hH at hN; omega)
 exact key
theorem IY (t:oe) (l:List Int) (h:t.2.length≤1000000):a6 (lE N t l) N ((),0,[])=some ((),t.2.map sO):=by
 have key:=cS (rd:=lE N t l) t.2.length (fun k=>((),(k:Int),(t.2.take k).map sO)) ((),t.2.map sO) (fun k hk=>by
  obtain ⟨a1,a2⟩:=Gw t.2 hk
  have ht:(t.2.take k).length=k:=by rw [List.length_take]; omega
  have d2:decide ((k+1) * 16≤140737488355328)=true:=decide_eq_true (by omega)
  have d0:decide ((0:Nat)=0)=true:=rfl
  have es:(t.2.take k).map sO++[(t.2[k].1,t.2[k].2.2.1)]=(t.2.take (k+1)).map sO:=by
   rw [List.take_add_one,List.getElem?_eq_getElem hk,List.map_append]; rfl
  have el:((t.2.take (k+1)).map sO).length=k+1:=by rw [List.length_map,List.length_take]; omega
  have nb:Nat.beq (k+1) (k+1)=true:=Nat.beq_refl _
  simp only [lE,List.length_map,Int.toNat_natCast,aX hk,aK hk,a1,a2,ht,d2,d0,ML,es,el,nb,gK,gL,bS (show k < 9223372036854775807 by omega),Bool.and_self,Bool.and_true,cond_true,Option.bind_some,eq_self,decide_true]) (by
  have nb:Nat.beq t.2.length t.2.length=true:=Nat.beq_refl _
  simp only [lE,List.length_map,bN,List.take_length,nb,gK,gL,Bool.and_self,Bool.and_true,cond_true,cond_false,Option.bind_some,eq_self,decide_true]) N 0 (Nat.zero_le _) (by unfold hH at hN; omega)
 exact key
theorem IZ (l x:List Int) (hl:l.length≤1000000) (ps:List (Int × Int)) (m ns:List (Int × Int)) (c:Int) (L:List Int) (hL:∃ L',L=gl L'):∃ r,a6 (jK N l) N ((),l,0,ps,m,ns,c,L,(),[])=some r∧r.2.2.2.2.2.2.2.2=l.map (bC m):=by
 obtain ⟨L',rfl⟩:=hL
 refine ⟨((),l,ps,m,ns,((Int.toNat c:Nat):Int),gl L',(),l.map (bC m)),?_,rfl⟩
 cases sx:l with
 | nil=>
  have d:decide ((0:Int) < ((([]:List Int).length:Nat):Int))=false:=rfl
  obtain ⟨n,rfl⟩:∃ n,N=n+1:=⟨N - 1,by unfold hH at hN; omega⟩
  have n0:Nat.beq 0 0=true:=rfl
  rw [ms]
  simp only [jK,List.map_nil,List.length_nil,n0,P0,P1,dS,cC,cD,dT,gm,jm,jn,gK,gL,cond_false,Bool.and_self,Bool.and_true,cond_true,Option.bind_some,eq_self,decide_true,Sum.elim_inr,Int.lt_irrefl,decide_false]
  rfl
 | cons a l'=>
 rw [← sx]
 have key:=cS (rd:=jK N l) l.length (fun k=>((),l,(k:Int),ps,m,ns,(if k=0 then c else ((Int.toNat c:Nat):Int)),gl L',(),(l.take k).map (bC m))) ((),l,ps,m,ns,((Int.toNat c:Nat):Int),gl L',(),l.map (bC m)) (fun k hk=>by
  obtain ⟨a1,a2⟩:=IR l hk
  have ht:(l.take k).length=k:=by rw [List.length_take]; omega
  have d2:decide ((k+1) * 8≤140737488355328)=true:=decide_eq_true (by omega)
  have d0:decide ((0:Nat)=0)=true:=rfl
  have es:(l.take k).map (bC m)++[bC m l[k]]=(l.take (k+1)).map (bC m):=by
   rw [List.take_add_one,List.getElem?_eq_getElem hk,List.map_append]; rfl
  have el:((l.take (k+1)).map (bC m)).length=k+1:=by rw [List.length_map,List.length_take]; omega
  have nb:Nat.beq (k+1) (k+1)=true:=Nat.beq_refl _
  have ec:((Int.toNat (if k=0 then c else ((Int.toNat c:Nat):Int)):Nat):Int)=((Int.toNat c:Nat):Int):=by split <;> simp
  have e1:(k+1=0)=False:=by simp
  simp only [jK,List.length_map,Int.toNat_natCast,aX hk,aK hk,a1,a2,ht,d2,d0,lH,nN,Cc,Cd,Kj,es,el,nb,ec,e1,if_false,jk,jl,dS,cC,cD,dT,gm,jm,jn,gK,gL,bS (show k < 9223372036854775807 by omega),Bool.and_self,Bool.and_true,cond_true,Option.bind_some,eq_self,decide_true]) (by
  have nb:Nat.beq l.length l.length=true:=Nat.beq_refl _
  have e1:(l.length=0)=False:=by rw [sx]; simp
  simp only [jK,List.length_map,bN,List.take_length,nb,e1,if_false,Int.toNat_natCast,jk,jl,dS,cC,cD,dT,gm,jm,jn,gK,gL,Bool.and_self,Bool.and_true,cond_true,cond_false,Option.bind_some,eq_self,decide_true]) N 0 (Nat.zero_le _) (by unfold hH at hN; omega)
 exact key
theorem vn (t:oe) (h1:t.1.length≤1000000) (h2:t.2.length≤1000000):Oa N t=some (da t):=by
 have q1:=IX hN t h1
 have q2:=IY hN t (bu t.1.length) h2
 have hl:(bu t.1.length).length≤1000000:=by rw [kl]; exact h1
 have hp:(t.2.map sO).length≤1000000:=by rw [List.length_map]; exact h2
 have nl:=Ar (bu t.1.length)
 have q3:=IS hN (bu t.1.length) (t.2.map sO) (bu t.1.length) hl
 have q4:=IU hN (bu t.1.length) (t.2.map sO) (bu t.1.length) (kj (bu t.1.length)) hp (by omega) (my _)
 have q5:=MJ hN (bu t.1.length) (t.2.map sO) (bu t.1.length) ((t.2.map sO).foldl jj (kj (bu t.1.length))) hl
 have nd:=xg (t.2.map sO) (kj (bu t.1.length)) (my _)
 have ul:=Dh (t.2.map sO) (kj (bu t.1.length))
 have q6:=Df (N:=N) (bu t.1.length) (t.2.map sO) (bu t.1.length) ((t.2.map sO).foldl jj (kj (bu t.1.length))) ((bu t.1.length).foldl (vm ((t.2.map sO).foldl jj (kj (bu t.1.length)))) []) nd N (List.range ((t.2.map sO).foldl jj (kj (bu t.1.length))).length) (by rw [List.length_range]; unfold hH at hN; omega) List.nodup_range (fun i hi=>List.mem_range.1 hi)
 rw [ob] at q6
 obtain ⟨r,q7,er⟩:=IZ hN (bu t.1.length) (bu t.1.length) hl (t.2.map sO) (s9 (bu t.1.length) (t.2.map sO)) ((bu t.1.length).foldl (vm ((t.2.map sO).foldl jj (kj (bu t.1.length)))) []) (((t.2.map sO).foldl jj (kj (bu t.1.length))).length:Int) [] ⟨[],rfl⟩
 have z1:decide ((0:Int)≤0∧(0:Int)≤((t.2.length:Nat):Int)∧((t.2.length:Nat):Int)≤140737488355328∧((t.2.length:Nat):Int) * 16≤140737488355328)=true:=decide_eq_true (by omega)
 have z2:decide ((0:Int)≤0∧(0:Int)≤((t.1.length:Nat):Int)∧((t.1.length:Nat):Int)≤140737488355328∧((t.1.length:Nat):Int) * 8≤140737488355328)=true:=decide_eq_true (by omega)
 have r0:∀ x:AV,List.replicate 0 x=[]:=fun _=>rfl
 have tz:Int.toNat 0=0:=rfl
 have Wx:Nat.beq 0 ([]:List AV).length=true:=rfl
 have f23:allFit (ah.fits nK) ([]:List AV)=true:=rfl
 have m23:List.map d23 ([]:List AV)=[]:=rfl
 have u0:aq (List.map n2 ([]:List Int))=[]:=rfl
 have Wy:aS []=[]:=rfl
 have Wz:aq ([]:List AV)=[]:=rfl
 have lz:gl []=[]:=rfl
 have f2:allFit (ah.fits p2) ([]:List AV)=true:=rfl
 have m2:List.map d2 ([]:List AV)=[]:=rfl
 have eU:s9 (bu t.1.length) (t.2.map sO)=((t.2.map sO).foldl jj (kj (bu t.1.length))).map fun e=>(e.1,bC ((bu t.1.length).foldl (vm ((t.2.map sO).foldl jj (kj (bu t.1.length)))) []) e.2):=rfl
 rw [eU] at q7
 have d0:decide ((0:Nat)=([]:List AV).length)=true:=rfl
 have S6:decide ((0:Nat)=0)=true:=rfl
 have S7:Nat.beq 0 0=true:=rfl
 rw [Mz]
 simp only [P0,P1,List.map_nil,List.length_nil,S6,Bool.and_true,cond_true,Option.bind_some,q1,List.length_map,z1,tz,r0,Wx,S7,f23,m23,Bool.and_self,eq_self,decide_true,q2,jk,jl,gK,gL,S4,GB,GC,S5,q3,dS,cC,cD,dT,q4,q5,sm,jm,jn,q6,kl,z2,u0,Wz,lz,Wy,f2,m2,Int.toNat_natCast,q7,er,UK]
 rfl
end
end Go.Proofs.Ytegoimldbgdeiaa
namespace Go.Proofs.Ytegoimldbgdeiaa
open Go Go.Am
set_option maxRecDepth 100000
theorem Kk:∀ l:List (Int × Int),dY (List.map n132 l) (List.map n132 l)=true
 | []=>rfl
 | x :: l=>by
  rw [List.map_cons,dY,Kk l]
  show (dY [AV.int .i64 x.1,AV.int .i64 x.2] [AV.int .i64 x.1,AV.int .i64 x.2]&&true)=true
  simp [dY,dx,vZ]
theorem Kl:∀ l:List Og,dY (List.map n131 l) (List.map n131 l)=true
 | []=>rfl
 | x :: l=>by
  rw [List.map_cons,dY,Kl l]
  have e:dY (List.map n132 x.2) (List.map n132 x.2)=true:=Kk x.2
  show (dY [AV.str x.1,AV.list .kq 2 (List.map n132 x.2)] [AV.str x.1,AV.list .kq 2 (List.map n132 x.2)]&&true)=true
  simp only [dY,dx,vZ,e,beq_self_eq_true,Nat.beq_refl,Bool.and_self]
theorem Km:∀ l:List GA,dY (List.map n110 l) (List.map n110 l)=true
 | []=>rfl
 | x :: l=>by
  rw [List.map_cons,dY,Km l]
  show (dY [AV.int .i64 x.1,AV.int .i64 x.2.1,AV.int .i64 x.2.2.1,AV.int .i64 x.2.2.2.1,AV.bool x.2.2.2.2] [AV.int .i64 x.1,AV.int .i64 x.2.1,AV.int .i64 x.2.2.1,AV.int .i64 x.2.2.2.1,AV.bool x.2.2.2.2]&&true)=true
  simp [dY,dx,vZ]
def Oh (t:oe) (p:Int):Nat:=((t.1.getD p.toNat ([],[])).2).length
def I0 (t:oe) (e:Int × Int):Int × Int:=(e.1,Int.tmod (IntKind.wrap .i64 (e.2+1)) (Oh t e.1:Int))
def P6 (t:oe) (e:Int × Int):Bool:=decide (0≤e.1)&&decide (e.1 < (t.1.length:Int))&&!(Oh t e.1 == 0)
def MP (t:oe) (s:GA):Bool:=P6 t (s.1,s.2.1)&&P6 t (s.2.2.1,s.2.2.2.1)
def dU (t:oe) (s:GA):(Int × Int × Int × Int) × (Int × Int × Int × Int):=
 let a0:=(s.1,s.2.1)
 let a1:=I0 t a0
 let b0:=(s.2.2.1,s.2.2.2.1)
 let b1:=I0 t b0
 if s.2.2.2.2 then ((a0.1,a0.2,b0.1,b0.2),(a1.1,a1.2,b1.1,b1.2)) else ((a0.1,a0.2,b1.1,b1.2),(a1.1,a1.2,b0.1,b0.2))
theorem MQ {t:oe} {e:Int × Int} (h:P6 t e=true):0≤e.1∧e.1 < (t.1.length:Int)∧Oh t e.1≠0:=by
 unfold P6 at h
 simp only [Bool.and_eq_true,decide_eq_true_eq,Bool.not_eq_true',beq_eq_false_iff_ne] at h
 exact ⟨h.1.1,h.1.2,h.2⟩
theorem Di (N:Nat) (t:oe) (e:Int × Int) (h:P6 t e=true):II N (t,e)=some (e.1,e.2,(I0 t e).1,(I0 t e).2):=by
 obtain ⟨h1,h2,h3⟩:=MQ h
 obtain ⟨k,hk⟩:∃ k:Nat,e.1=(k:Int):=⟨e.1.toNat,by omega⟩
 have Hw:k < t.1.length:=by omega
 obtain ⟨a1,a2⟩:=Gx t.1 Hw
 have es:t.1[k].2.length=Oh t e.1:=by
  unfold Oh
  rw [hk,Int.toNat_natCast,List.getD_eq_getElem?_getD,List.getElem?_eq_getElem Hw]
  rfl
 have d:(!(decide (((Oh t e.1:Nat):Int)=0)))=true:=by rw [decide_eq_false (by omega)]; rfl
 rw [show II N (t,e)=II N ((t.1,t.2),(e.1,e.2)) from rfl,Mt]
 simp only [hk,Int.toNat_natCast,List.length_map,aK Hw,a1,a2,Bool.and_self,cond_true]
 rw [es,d,cond_true,← hk]
 rfl
theorem Ev (N:Nat) (t:oe) (s:GA) (h:MP t s=true):Gq N (t,s)=some ((dU t s).1.1,(dU t s).1.2.1,(dU t s).1.2.2.1,(dU t s).1.2.2.2,(dU t s).2.1,(dU t s).2.2.1,(dU t s).2.2.2.1,(dU t s).2.2.2.2):=by
 unfold MP at h
 rw [Bool.and_eq_true] at h
 have q1:=Di N t (s.1,s.2.1) h.1
 have q2:=Di N t (s.2.2.1,s.2.2.2.1) h.2
 rw [IK]
 have WA:II N ((t.1,t.2),(s.1,s.2.1))=_:=q1
 have WB:II N ((t.1,t.2),(s.2.2.1,s.2.2.2.1))=_:=q2
 simp only [dj,dm,dh,di,Bool.and_self,Bool.and_true,cond_true,Option.bind_some,WA,WB,beq_self_eq_true,Kl,Km]
 unfold dU
 cases hs:s.2.2.2.2
 ·simp only [Bool.not_false,cond_true,Option.bind_some,Bool.false_eq_true,if_false]
 ·simp only [Bool.not_true,cond_false,Option.bind_some,if_true]
def eF (t:oe):List (Int × Int × Int × Int):=t.2.flatMap fun s=>[(dU t s).1,(dU t s).2]
def jo (p:Nat) (n:Nat):List (Int × Int):=(List.range n).map fun i:Nat=>((p:Int),(i:Int))
def km:List Og→Nat→List (Int × Int)
 | [],_=>[]
 | x :: l,p=>jo p x.2.length++km l (p+1)
def e7 (t:oe):List (Int × Int):=km t.1 0
def MR (p:Int × Int × Int × Int):(Int × Int) × (Int × Int):=((p.1,p.2.1),(p.2.2.1,p.2.2.2))
def eS (t:oe):List ((Int × Int) × Int):=s9 (e7 t) ((eF t).map MR)
theorem I1 (l:List (Int × Int × Int × Int)) (a b:Int × Int × Int × Int):List.map n174 l++[AV.agg [AV.int .i64 a.1,AV.int .i64 a.2.1,AV.int .i64 a.2.2.1,AV.int .i64 a.2.2.2],AV.agg [AV.int .i64 b.1,AV.int .i64 b.2.1,AV.int .i64 b.2.2.1,AV.int .i64 b.2.2.2]]=List.map n174 (l++[a,b]):=by rw [List.map_append]; rfl
theorem Cl (t:oe) {k:Nat} (hk:k < t.2.length):(t.2.take (k+1)).flatMap (fun s=>[(dU t s).1,(dU t s).2])=(t.2.take k).flatMap (fun s=>[(dU t s).1,(dU t s).2])++[(dU t t.2[k]).1,(dU t t.2[k]).2]:=by
 rw [List.take_add_one,List.getElem?_eq_getElem hk,List.flatMap_append]
 rfl
theorem xi (t:oe) (l:List GA):(l.flatMap (fun s=>[(dU t s).1,(dU t s).2])).length=2 * l.length:=by
 induction l with
 | nil=>rfl
 | cons s l ih=>rw [List.flatMap_cons,List.length_append,ih,List.length_cons]; simp only [List.length_cons,List.length_nil]; omega
theorem vo:∀ (l:List Og) (p:Nat) (x:Og),km (l++[x]) p=km l p++jo (p+l.length) x.2.length
 | [],p,x=>by simp [km]
 | y :: l,p,x=>by
  rw [List.cons_append,km,vo l (p+1) x,km,List.append_assoc,List.length_cons]
  rw [show p+1+l.length=p+(l.length+1) by omega]
theorem rE:∀ (l:List Og) (p:Nat),(∀ x∈l,x.2.length≤1000)→(km l p).length≤1000 * l.length
 | [],_,_=>Nat.le_refl _
 | x :: l,p,h=>by
  have ih:=rE l (p+1) fun y hy=>h y (List.mem_cons_of_mem _ hy)
  have:=h x List.mem_cons_self
  rw [km,List.length_append,List.length_cons]
  simp only [jo,List.length_map,List.length_range]
  omega
section
variable {N:Nat} (hN:hH N)
include hN
theorem I2 (t:oe) (h:t.2.length≤1000000) (ho:∀ s∈t.2,MP t s=true):a6 (vk N t) N ([],0)=some (eF t):=by
 have key:=cS (rd:=vk N t) t.2.length (fun k=>((t.2.take k).flatMap (fun s=>[(dU t s).1,(dU t s).2]),(k:Int))) (eF t) (fun k hk=>by
  obtain ⟨a1,a2⟩:=Gw t.2 hk
  have q:=Ev N t t.2[k] (ho _ (List.getElem_mem hk))
  have q:Gq N ((t.1,t.2),(t.2[k].1,t.2[k].2.1,t.2[k].2.2.1,t.2[k].2.2.2.1,t.2[k].2.2.2.2))=_:=q
  have hl:=xi t (t.2.take k)
  have ht:(t.2.take k).length=k:=by rw [List.length_take]; omega
  rw [ht] at hl
  have HX:((t.2.take k).flatMap (fun s=>[(dU t s).1,(dU t s).2])++[(dU t t.2[k]).1,(dU t t.2[k]).2]).length=2 * k+2:=by rw [List.length_append,hl]; rfl
  have d2:decide ((2 * k+2) * 32≤140737488355328)=true:=decide_eq_true (by omega)
  have sn:=I1 ((t.2.take k).flatMap (fun s=>[(dU t s).1,(dU t s).2])) (dU t t.2[k]).1 (dU t t.2[k]).2
  simp only [vk,List.length_map,Int.toNat_natCast,aX hk,aK hk,a1,a2,dj,dm,dh,di,q,hl,d2,sn,eD,eE,HX,Cl t hk,bS (show k < 9223372036854775807 by omega),Bool.and_self,Bool.and_true,cond_true,Option.bind_some,eq_self,decide_true]) (by
  simp only [vk,List.length_map,bN,List.take_length,eD,eE,Bool.and_self,Bool.and_true,cond_true,cond_false,Option.bind_some,eq_self,decide_true]
  rfl) N 0 (Nat.zero_le _) (by unfold hH at hN; omega)
 exact key
theorem GD (t:oe) (J:List (Int × Int × Int × Int)) (p:Nat) (hp:p < t.1.length) (hs:t.1[p].2.length≤1000) (acc:List (Int × Int)) (ha:acc.length≤1000000) (v3:List (Int × Int)):a6 (gZ N J ((p:Int),t.1,t.2,v3)) N (0,t.1,t.2,acc)=some (t.1,t.2,acc++jo p t.1[p].2.length):=by
 obtain ⟨a1,a2⟩:=Gx t.1 hp
 have key:=cS (rd:=gZ N J ((p:Int),t.1,t.2,v3)) t.1[p].2.length (fun k=>((k:Int),t.1,t.2,acc++jo p k)) (t.1,t.2,acc++jo p t.1[p].2.length) (fun k hk=>by
  have cl:(acc++jo p k).length=acc.length+k:=by rw [List.length_append]; simp [jo]
  have cs:acc++jo p k++[((p:Int),(k:Int))]=acc++jo p (k+1):=by
   rw [List.append_assoc]; congr 1; unfold jo; rw [List.range_succ,List.map_append]; rfl
  have WC:(acc++jo p (k+1)).length=acc.length+k+1:=by rw [List.length_append]; simp [jo]; omega
  have d2:decide ((acc.length+k+1) * 16≤140737488355328)=true:=decide_eq_true (by omega)
  simp only [gZ,List.length_map,Int.toNat_natCast,a1,aX hk,cl,d2,MM,cs,WC,dj,dm,dh,di,gX,gY,bS (show k < 9223372036854775807 by omega),Bool.and_self,Bool.and_true,cond_true,Option.bind_some,eq_self,decide_true]) (by
  simp only [gZ,List.length_map,Int.toNat_natCast,a1,bN,dj,dm,dh,di,gX,gY,Bool.and_self,Bool.and_true,cond_true,cond_false,Option.bind_some,eq_self,decide_true]) N 0 (Nat.zero_le _) (by unfold hH at hN; omega)
 have e0:acc++jo p 0=acc:=by simp [jo]
 rw [e0] at key
 exact key
theorem GF (t:oe) (J:List (Int × Int × Int × Int)) (h:t.1.length≤1000) (hs:∀ x∈t.1,x.2.length≤1000):a6 (lG N t J) N (0,t.1,t.2,[])=some (t.1,t.2,e7 t):=by
 have key:=cS (rd:=lG N t J) t.1.length (fun k=>((k:Int),t.1,t.2,km (t.1.take k) 0)) (t.1,t.2,e7 t) (fun k hk=>by
  obtain ⟨a1,a2⟩:=Gx t.1 hk
  have hc:=rE (t.1.take k) 0 fun x hx=>hs x (List.mem_of_mem_take hx)
  have ht:(t.1.take k).length=k:=by rw [List.length_take]; omega
  rw [ht] at hc
  have q:=GD hN t J k hk (hs _ (List.getElem_mem hk)) (km (t.1.take k) 0) (by omega) (km (t.1.take k) 0)
  have es:km (t.1.take (k+1)) 0=km (t.1.take k) 0++jo k t.1[k].2.length:=by
   rw [List.take_add_one,List.getElem?_eq_getElem hk]
   show km (t.1.take k++[t.1[k]]) 0=_
   rw [vo,ht,Nat.zero_add]
  simp only [lG,List.length_map,Int.toNat_natCast,aX hk,aK hk,a2,q,← es,dj,dm,dh,di,gX,gY,bS (show k < 9223372036854775807 by omega),Bool.and_self,Bool.and_true,cond_true,Option.bind_some,eq_self,decide_true]) (by
  simp only [lG,List.length_map,bN,List.take_length,dj,dm,dh,di,gX,gY,Bool.and_self,Bool.and_true,cond_true,cond_false,Option.bind_some,eq_self,decide_true]
  rfl) N 0 (Nat.zero_le _) (by unfold hH at hN; omega)
 exact key
theorem vp (t:oe) (h1:t.1.length≤1000) (hs:∀ x∈t.1,x.2.length≤1000) (h2:t.2.length≤100000) (ho:∀ s∈t.2,MP t s=true):MB N t=some (eS t):=by
 have q1:=I2 hN t (by omega) ho
 have q2:=GF hN t (eF t) h1 hs
 have hl:(e7 t).length≤1000000:=by
  have:=rE t.1 0 hs
  unfold e7
  omega
 have hp:(eF t).length≤1000000:=by
  have:=xi t t.2
  unfold eF
  omega
 have nl:=Ar (e7 t)
 have q3:=IV hN (e7 t) (e7 t) (eF t) t.1 t.2 (e7 t) hl
 have fe:∀ m:List ((Int × Int) × Int),(eF t).foldl (fun s p=>jj s ((p.1,p.2.1),(p.2.2.1,p.2.2.2))) m=((eF t).map MR).foldl jj m:=fun m=>by rw [List.foldl_map]; rfl
 have q4:=IW hN (e7 t) (eF t) (e7 t) (eF t) t.1 t.2 (e7 t) (kj (e7 t)) hp (by omega) (my _)
 rw [fe] at q4
 have nd:=xg ((eF t).map MR) (kj (e7 t)) (my _)
 have q5:=MK hN (e7 t) (eF t) (e7 t) (eF t) t.1 t.2 (e7 t) (((eF t).map MR).foldl jj (kj (e7 t))) hl
 have q6:=Dg (N:=N) (e7 t) (eF t) (e7 t) (eF t) t.1 t.2 (e7 t) (((eF t).map MR).foldl jj (kj (e7 t))) ((e7 t).foldl (vm (((eF t).map MR).foldl jj (kj (e7 t)))) []) nd N (List.range (((eF t).map MR).foldl jj (kj (e7 t))).length) (by rw [List.length_range,Dh]; unfold hH at hN; omega) List.nodup_range (fun i hi=>List.mem_range.1 hi)
 rw [ob] at q6
 have S6:decide ((0:Nat)=0)=true:=rfl
 rw [MD]
 simp only [MN,MO,P2,P3,List.map_nil,List.length_nil,S6,Bool.and_true,Bool.and_self,cond_true,Option.bind_some,q1,List.length_map,dj,dm,dh,di,gX,gY,eD,eE,eq_self,decide_true,q2,S4,P4,P5,S5,GB,GC,q3,dG,cY,cZ,dH,q4,q5,dS,cC,cD,dT,yA,jm,jn,q6]
 rfl
end
end Go.Proofs.Ytegoimldbgdeiaa
