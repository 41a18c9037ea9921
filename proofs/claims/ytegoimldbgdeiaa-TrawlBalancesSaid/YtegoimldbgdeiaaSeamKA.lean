/- Plain laws: groups that are united. -/
import Derived.Test.YtegoimldbgdeiaaTrwA
import Derived.Test.YtegoimldbgdeiaaAmKL
set_option linter.all false
namespace Go.Proofs.Ytegoimldbgdeiaa
open Go Go.Am
set_option maxRecDepth 100000
section
variable {K:Type} [DecidableEq K]
theorem Dc (v:Int):∀ (m:List (K × Int)) (i:Nat) (hi:i < m.length),(m.map Prod.fst).Nodup→fO m[i].1 v m=m.set i (m[i].1,v)
 | [],i,hi,_=>by cases hi
 | e :: m,0,_,_=>by
  show fO e.1 v (e :: m)=(e.1,v) :: m
  unfold fO
  rw [if_pos rfl]
 | e :: m,i+1,hi,hn=>by
  rw [List.map_cons,List.nodup_cons] at hn
  have oB:i < m.length:=by simpa using hi
  have cq:e.1≠m[i].1:=fun h=>hn.1 (by rw [h]; exact List.mem_map.2 ⟨m[i],List.getElem_mem oB,rfl⟩)
  show fO m[i].1 v (e :: m)=e :: m.set i (m[i].1,v)
  unfold fO
  rw [if_neg (fun h=>cq h.symm),Dc v m i oB hn.2]
def bN (f:Int→Int) (L:List Nat) (m:List (K × Int)):List (K × Int):=m.mapIdx fun i e=>if i∈L then e else (e.1,f e.2)
theorem fj (f:Int→Int) (L:List Nat) (m:List (K × Int)):(bN f L m).length=m.length:=by simp [bN]
theorem Ci (f:Int→Int) (L:List Nat) (m:List (K × Int)):(bN f L m).map Prod.fst=m.map Prod.fst:=by
 apply List.ext_getElem
 ·simp [bN]
 ·intro i h1 h2
  simp only [List.getElem_map,bN,List.getElem_mapIdx]
  split <;> rfl
theorem nQ (f:Int→Int) (L:List Nat) (m:List (K × Int)) {i:Nat} (hi:i < m.length) (hL:i∈L):(bN f L m)[i]'(by rw [fj]; exact hi)=m[i]:=by
 simp only [bN,List.getElem_mapIdx,if_pos hL]
theorem ol (f:Int→Int) (m:List (K × Int)):bN f (List.range m.length) m=m:=by
 apply List.ext_getElem
 ·simp [bN]
 ·intro i h1 h2
  simp only [bN,List.getElem_mapIdx,if_pos (List.mem_range.2 h2)]
theorem om (f:Int→Int) (m:List (K × Int)):bN f [] m=m.map fun e=>(e.1,f e.2):=by
 apply List.ext_getElem
 ·simp [bN]
 ·intro i h1 h2
  simp [bN]
theorem mA (f:Int→Int) (L:List Nat) (m:List (K × Int)) {i:Nat} (hi:i < m.length) (hL:i∈L) (hn:L.Nodup) (hk:(m.map Prod.fst).Nodup):fO m[i].1 (f m[i].2) (bN f L m)=bN f (L.erase i) m:=by
 have oB:i < (bN f L m).length:=by rw [fj]; exact hi
 have e:=Dc (f m[i].2) (bN f L m) i oB (by rw [Ci]; exact hk)
 rw [nQ f L m hi hL] at e
 rw [e]
 apply List.ext_getElem
 ·simp [bN]
 ·intro j h1 h2
  rw [List.getElem_set]
  by_cases hj:i=j
  ·subst hj
   have:i∉L.erase i:=fun h=>(List.Nodup.mem_erase_iff hn).1 h |>.1 rfl
   simp only [if_pos,bN,List.getElem_mapIdx,if_neg this]
  ·rw [if_neg hj]
   simp only [bN,List.getElem_mapIdx]
   by_cases Cj:j∈L
   ·rw [if_pos Cj,if_pos ((List.Nodup.mem_erase_iff hn).2 ⟨fun h=>hj h.symm,Cj⟩)]
   ·rw [if_neg Cj,if_neg fun h=>Cj (List.mem_of_mem_erase h)]
theorem vr (f:Int→Int) (L:List Nat) (m:List (K × Int)) {i:Nat} (hi:i < m.length) (hL:i∈L) (hn:L.Nodup) (hf:f m[i].2=m[i].2):bN f L m=bN f (L.erase i) m:=by
 apply List.ext_getElem
 ·simp [bN]
 ·intro j h1 h2
  simp only [bN,List.getElem_mapIdx]
  by_cases hj:i=j
  ·subst hj
   have:i∉L.erase i:=fun h=>(List.Nodup.mem_erase_iff hn).1 h |>.1 rfl
   rw [if_pos hL,if_neg this,hf]
  ·by_cases Cj:j∈L
   ·rw [if_pos Cj,if_pos ((List.Nodup.mem_erase_iff hn).2 ⟨fun h=>hj h.symm,Cj⟩)]
   ·rw [if_neg Cj,if_neg fun h=>Cj (List.mem_of_mem_erase h)]
def kj (l:List K):List (K × Int):=(l.foldl (fun s x=>(fO x s.2 s.1,s.2+1)) (([]:List (K × Int)),(0:Int))).1
def Gs (a b:Int):Int:=if b > a then b else a
def ME (a b:Int):Int:=if b < a then b else a
def Ck (a b g:Int):Int:=if g=Gs a b then ME a b else g
def bC (m:List (K × Int)) (x:K):Int:=(getM x m).getD 0
def jj (m:List (K × Int)) (p:K × K):List (K × Int):=m.map fun e=>(e.1,Ck (bC m p.1) (bC m p.2) e.2)
def vt (m:List (K × Int)) (ns:List (Int × Int)) (x:K):List (Int × Int):=if (getM (bC m x) ns).isSome then ns else fO (bC m x) (ns.length:Int) ns
def tf (l:List K) (ps:List (K × K)):List (K × Int):=
 let m:=ps.foldl jj (kj l)
 let ns:=l.foldl (vt m) []
 m.map fun e=>(e.1,bC ns e.2)
theorem Cl {k:K} {v:Int} {m:List (K × Int)} (h:(m.map Prod.fst).Nodup):((fO k v m).map Prod.fst).Nodup:=by
 rw [rD]
 split
 ·exact h
 ·rename_i hk
  exact List.nodup_append.2 ⟨h,by simp,fun a ha b hb e=>hk (by rw [List.mem_singleton] at hb; subst hb; subst e; exact ha)⟩
theorem mB (l:List K):((kj l).map Prod.fst).Nodup:=by
 have gen:∀ (l:List K) (s:List (K × Int) × Int),(s.1.map Prod.fst).Nodup→(((l.foldl (fun s x=>(fO x s.2 s.1,s.2+1)) s).1).map Prod.fst).Nodup:=by
  intro l
  induction l with
  | nil=>intro s h; exact h
  | cons x l ih=>intro s h; exact ih _ (Cl h)
 exact gen l _ (by simp)
theorem Gt (f:Int→Int) (m:List (K × Int)):(m.map fun e=>(e.1,f e.2)).map Prod.fst=m.map Prod.fst:=by
 rw [List.map_map]; rfl
theorem rE (m:List (K × Int)) (p:K × K):(jj m p).map Prod.fst=m.map Prod.fst:=Gt _ m
theorem xf (ps:List (K × K)) (m:List (K × Int)) (h:(m.map Prod.fst).Nodup):((ps.foldl jj m).map Prod.fst).Nodup:=by
 induction ps generalizing m with
 | nil=>exact h
 | cons p ps ih=>exact ih _ (by rw [rE]; exact h)
end
abbrev KE:EK:=.st (.cons 0 1 false .int (.cons 1 1 false .int .nil))
theorem ss:gd .int (fun k:Int=>AV.int .i64 k) n3 ai:=⟨fun a b=>Db .i64 a b,fun _=>rfl,fun _=>rfl⟩
theorem Cm:gd KE (fun k:Int × Int=>AV.agg [AV.int .i64 k.1,AV.int .i64 k.2]) n3 ao:=⟨fun a b=>IU a b,fun _=>rfl,fun _=>rfl⟩
theorem lI (a:Int) (m:List (Int × Int)):b8 .int (AV.int .i64 a) (ab (List.map ai m))=true:=ss.keys a m
theorem nR (a:Int) (m:List (Int × Int)):aF .int (AV.int .i64 a) (AV.int .i64 0) (ab (List.map ai m))=n3 (bC m a):=ss.getD a 0 m
theorem Dd (a:Int) (m:List (Int × Int)):(ef .int (AV.int .i64 a) (ab (List.map ai m))).isSome=(getM a m).isSome:=by
 rw [ss.get a m]; cases getM a m <;> rfl
theorem Au (a v:Int) (m:List (Int × Int)):b9 .int (AV.int .i64 a) (AV.int .i64 v) (ab (List.map ai m))=ab (List.map ai (fO a v m)):=ss.put a v m
theorem dU (m:List (Int × Int)):af (ab (List.map ai m))=List.map ai m:=ss.cells m
theorem dV (m:List (Int × Int)):aH (ab (List.map ai m))=true:=ss.aH m
theorem su (m:List (Int × Int)):(ab (List.map ai m)).length=m.length:=by rw [ss.Oa,List.length_map]
theorem Kk (m:List (Int × Int)) {i:Nat} (h:i < m.length):bD (ab (List.map ai m)) i=(n3 m[i].1,n3 m[i].2):=by
 rw [ss.Oa,As _ m h]; rfl
theorem Ep (a b:Int) (m:List ((Int × Int) × Int)):b8 KE (AV.agg [AV.int .i64 a,AV.int .i64 b]) (ab (List.map ao m))=true:=Cm.keys (a,b) m
theorem IV (a b:Int) (m:List ((Int × Int) × Int)):aF KE (AV.agg [AV.int .i64 a,AV.int .i64 b]) (AV.int .i64 0) (ab (List.map ao m))=n3 (bC m (a,b)):=Cm.getD (a,b) 0 m
theorem MF (a b v:Int) (m:List ((Int × Int) × Int)):b9 KE (AV.agg [AV.int .i64 a,AV.int .i64 b]) (AV.int .i64 v) (ab (List.map ao m))=ab (List.map ao (fO (a,b) v m)):=Cm.put (a,b) v m
theorem dH (m:List ((Int × Int) × Int)):af (ab (List.map ao m))=List.map ao m:=Cm.cells m
theorem dI (m:List ((Int × Int) × Int)):aH (ab (List.map ao m))=true:=Cm.aH m
theorem yC (m:List ((Int × Int) × Int)):(ab (List.map ao m)).length=m.length:=by rw [Cm.Oa,List.length_map]
theorem MG (m:List ((Int × Int) × Int)) {i:Nat} (h:i < m.length):bD (ab (List.map ao m)) i=(aN m[i].1,n3 m[i].2):=by
 rw [Cm.Oa,As _ m h]; rfl
theorem gr (L:List Nat):aq (List.map n2 (gq L))=L:=by
 unfold aq gq
 rw [List.map_map,List.map_map]
 conv=>rhs; rw [← List.map_id L]
 apply List.map_congr_left
 intro n _
 show ((n:Int)).toNat=n
 exact Int.toNat_natCast n
theorem PS (L:List Nat):aS L=List.map n2 (gq L):=by
 unfold aS gq
 rw [List.map_map]; rfl
theorem jm (L:List Nat):allFit (ah.fits p2) (aS L)=true:=by rw [PS,sP]
theorem jn (L:List Nat):List.map d2 (aS L)=gq L:=by rw [PS,sQ]
theorem IW (l:List Int) {k:Nat} (hk:k < l.length):d3 (ak (List.map n3 l) k)=l[k]∧ah.fits p3 (ak (List.map n3 l) k)=true:=by
 rw [gn n3 l k hk,Ch,Cg]; exact ⟨rfl,rfl⟩
theorem PT (l:List (Int × Int)) {k:Nat} (hk:k < l.length):d23 (ak (List.map dG l) k)=l[k]∧ah.fits nP (ak (List.map dG l) k)=true:=by
 rw [gn dG l k hk,SD,SC]; exact ⟨rfl,rfl⟩
theorem MH (l:List (Int × Int)) {k:Nat} (hk:k < l.length):d67 (ak (List.map aN l) k)=l[k]∧ah.fits dT (ak (List.map aN l) k)=true:=by
 rw [gn aN l k hk,Gi,Gh]; exact ⟨rfl,rfl⟩
theorem Kl (l:List (Int × Int × Int × Int)) {k:Nat} (hk:k < l.length):d174 (ak (List.map n174 l) k)=l[k]∧ah.fits dF (ak (List.map n174 l) k)=true:=by
 rw [gn n174 l k hk,PF,PE]; exact ⟨rfl,rfl⟩
theorem Gu (l:List (Int × Int × Int × Int × Bool)) {k:Nat} (hk:k < l.length):d110 (ak (List.map n110 l) k)=l[k]∧ah.fits dY (ak (List.map n110 l) k)=true:=by
 rw [gn n110 l k hk,PB,PA]; exact ⟨rfl,rfl⟩
theorem Gv (l:List ((List UInt8) × (List (Int × Int)))) {k:Nat} (hk:k < l.length):d131 (ak (List.map n131 l) k)=l[k]∧ah.fits eg (ak (List.map n131 l) k)=true:=by
 rw [gn n131 l k hk,PD,PC]; exact ⟨rfl,rfl⟩
end Go.Proofs.Ytegoimldbgdeiaa
namespace Go.Proofs.Ytegoimldbgdeiaa
open Go Go.Am
set_option maxRecDepth 100000
theorem IX {N:Nat} (hN:hZ N) (l:List Int) (ps:List (Int × Int)) (x1:List Int) (hl:l.length≤1000000):a8 (lG N l) N (x1,l,0,ps,([]:List (Int × Int)))=some (x1,l,ps,kj l):=by
 have key:=cS (rd:=lG N l) l (fun (s:List (Int × Int) × Int) k=>(x1,l,(k:Int),ps,s.1)) (fun s x=>(fO x s.2 s.1,s.2+1)) (fun s=>(x1,l,ps,s.1)) (fun s k=>s.2=(k:Int)) (fun s k hk hP=>by
  obtain ⟨a1,a2⟩:=IW l hk
  refine ⟨?_,by show s.2+1=_; rw [hP]; rfl⟩
  rw [hP]
  simp only [lG,List.length_map,Int.toNat_natCast,aZ hk,aK hk,a1,a2,lI,Au,bW (show k < 9223372036854775807 by omega),dU,dV,dH,dI,sP,sQ,jk,jl,gN,gO,gY,gZ,dh,di,dj,dm,eF,eH,cB,cC,jm,jn,Bool.and_self,Bool.and_true,cond_true,cond_false,Option.bind_some,eq_self,decide_true]) (fun s _=>by
  simp only [lG,List.length_map,bP,dU,dV,dH,dI,sP,sQ,jk,jl,gN,gO,gY,gZ,dh,di,dj,dm,eF,eH,cB,cC,jm,jn,Bool.and_self,Bool.and_true,cond_true,cond_false,Option.bind_some,eq_self,decide_true]) N ([],0) 0 (Nat.zero_le _) (by unfold hZ at hN; omega) rfl
 rw [List.drop_zero] at key
 exact key
theorem Gw {N:Nat} (l:List Int) (ps:List (Int × Int)) (x1:List Int) (k:Nat) (hk:k < ps.length) (m:List (Int × Int)) (hn:(m.map Prod.fst).Nodup):∀ (n:Nat) (L:List Nat),L.length < n→L.Nodup→(∀ i∈L,i < m.length) →
  dJ (jB N (x1,l,(k:Int),ps,m)) n (x1,l,ps,(bN (Ck (bC m ps[k].1) (bC m ps[k].2)) L m),(m.length:Int),(gq L))=some (x1,l,ps,(m.map fun e=>(e.1,Ck (bC m ps[k].1) (bC m ps[k].2) e.2)),(m.length:Int),[])
 | 0,L,h,_,_=>by omega
 | n+1,L,h,hL,hi=>by
  rw [ki]
  obtain ⟨a1,a2⟩:=PT ps hk
  have ih:=fun L'=>Gw (N:=N) l ps x1 k hk m hn n L'
  generalize hf:Ck (bC m ps[k].1) (bC m ps[k].2)=f at *
  have Ed:=fj f L m
  have ec:decide ((bN f L m).length=m.length)=true:=decide_eq_true Ed
  cases xg:L with
  | nil=>
   have i0:List.isEmpty ([]:List Nat)=true:=rfl
   have e0:(bN f [] m).length=m.length:=fj f [] m
   simp only [jB,su,e0,Int.toNat_natCast,gr,i0,om,List.length_map,dU,dV,dH,dI,sP,sQ,jk,jl,gN,gO,gY,gZ,dh,di,dj,dm,eF,eH,cB,cC,jm,jn,Bool.and_self,Bool.and_true,cond_true,cond_false,Option.bind_some,eq_self,decide_true]
   rfl
  | cons a L'=>
   rw [← xg]
   have i0:List.isEmpty L=false:=by rw [xg]; rfl
   simp only [jB,su,Int.toNat_natCast,ec,cond_true,cond_false,gr,i0]
   refine qo (by rw [xg]; simp) fun i fB=>?_
   have bK:=hi i fB
   have xM:i < (bN f L m).length:=by rw [Ed]; exact bK
   have nV:(L.erase i).length=L.length - 1:=List.length_erase_of_mem fB
   have mb:0 < L.length:=List.length_pos_of_mem fB
   have dl:decide (i < m.length)=true:=decide_eq_true bK
   have IY:=ih (L.erase i) (by omega) (hL.erase i) (fun j hj=>hi j (List.mem_of_mem_erase hj))
   have MI:=nQ f L m bK fB
   have z0:0+k=k:=Nat.zero_add k
   rw [Kk _ xM,MI]
   have Wl:d3 (n3 m[i].2)=m[i].2:=Ch _
   simp only [Cg,Ch,Cg,Ch,Bool.and_self,cond_true,dl,ec,z0,a1,lI,nR]
   have dv:f m[i].2=if m[i].2=Gs (bC m ps[k].1) (bC m ps[k].2) then ME (bC m ps[k].1) (bC m ps[k].2) else m[i].2:=by rw [← hf]; rfl
   by_cases hg:m[i].2=Gs (bC m ps[k].1) (bC m ps[k].2)
   ·rw [if_pos hg] at dv
    have hb:(m[i].2 == (if bC m ps[k].2 > bC m ps[k].1 then bC m ps[k].2 else bC m ps[k].1))=true:=by rw [hg]; exact beq_self_eq_true _
    have st:=mA f L m bK fB hL hn
    rw [dv] at st
    have st:fO m[i].1 (if bC m ps[k].2 < bC m ps[k].1 then bC m ps[k].2 else bC m ps[k].1) (bN f L m)=bN f (L.erase i) m:=st
    simp only [hb,Au,st,dU,dV,dH,dI,sP,sQ,jk,jl,gN,gO,gY,gZ,dh,di,dj,dm,eF,eH,cB,cC,jm,jn,Bool.and_self,Bool.and_true,cond_true,cond_false,Option.bind_some,eq_self,decide_true]
    exact IY
   ·rw [if_neg hg] at dv
    have hb:(m[i].2 == (if bC m ps[k].2 > bC m ps[k].1 then bC m ps[k].2 else bC m ps[k].1))=false:=beq_false_of_ne hg
    have st:=vr f L m bK fB hL dv
    simp only [hb,dU,dV,dH,dI,sP,sQ,jk,jl,gN,gO,gY,gZ,dh,di,dj,dm,eF,eH,cB,cC,jm,jn,Bool.and_self,Bool.and_true,cond_true,cond_false,Option.bind_some,eq_self,decide_true]
    rw [st]
    exact IY
theorem IZ {N:Nat} (hN:hZ N) (l:List Int) (ps:List (Int × Int)) (x1:List Int) (m:List (Int × Int)) (hl:ps.length≤1000000) (hm:m.length≤1000000) (hn:(m.map Prod.fst).Nodup):a8 (kg N ((),ps)) N (x1,l,0,ps,m)=some (x1,l,ps,(ps.foldl jj m)):=by
 have key:=cS (rd:=kg N ((),ps)) ps (fun (s:List (Int × Int)) k=>(x1,l,(k:Int),ps,s)) (fun s p=>jj s p) (fun s=>(x1,l,ps,s)) (fun s k=>(s.map Prod.fst).Nodup∧s.length≤1000000) (fun s k hk hP=>by
  obtain ⟨a1,a2⟩:=PT ps hk
  have z0:0+k=k:=Nat.zero_add k
  have q:=Gw (N:=N) l ps x1 k hk s hP.1 N (List.range s.length) (by rw [List.length_range]; unfold hZ at hN; omega) List.nodup_range (fun i hi=>List.mem_range.1 hi)
  rw [ol] at q
  refine ⟨?_,by rw [rE]; exact hP.1,by unfold jj; rw [List.length_map]; exact hP.2⟩
  have dz:decide (ps.length=ps.length)=true:=decide_eq_true rfl
  have dk:decide (k < ps.length)=true:=decide_eq_true hk
  simp only [kg,List.length_map,Int.toNat_natCast,aZ hk,aK hk,z0,a1,a2,dz,dk,lI,nR,Cg,su,q,bW (show k < 9223372036854775807 by omega),dU,dV,dH,dI,sP,sQ,jk,jl,gN,gO,gY,gZ,dh,di,dj,dm,eF,eH,cB,cC,jm,jn,Bool.and_self,Bool.and_true,cond_true,cond_false,Option.bind_some,eq_self,decide_true]
  rfl) (fun s _=>by
  simp only [kg,List.length_map,bP,dU,dV,dH,dI,sP,sQ,jk,jl,gN,gO,gY,gZ,dh,di,dj,dm,eF,eH,cB,cC,jm,jn,Bool.and_self,Bool.and_true,cond_true,cond_false,Option.bind_some,eq_self,decide_true]) N m 0 (Nat.zero_le _) (by unfold hZ at hN; omega) ⟨hn,hm⟩
 rw [List.drop_zero] at key
 exact key
theorem MJ {N:Nat} (hN:hZ N) (l:List Int) (ps:List (Int × Int)) (x1:List Int) (m:List (Int × Int)) (hl:l.length≤1000000):a8 (iy N (l,l,ps,m)) N (x1,l,l,0,ps,m,[])=some (x1,l,l,ps,m,(l.foldl (vt m) [])):=by
 have key:=cS (rd:=iy N (l,l,ps,m)) l (fun (s:List (Int × Int)) k=>(x1,l,l,(k:Int),ps,m,s)) (vt m) (fun s=>(x1,l,l,ps,m,s)) (fun s k=>True) (fun s k hk hP=>by
  obtain ⟨a1,a2⟩:=IW l hk
  refine ⟨?_,trivial⟩
  have e:vt m s l[k]=if (getM (bC m l[k]) s).isSome then s else fO (bC m l[k]) (s.length:Int) s:=rfl
  rw [e]
  cases hs:(getM (bC m l[k]) s).isSome with
  | true=>
   simp only [iy,List.length_map,Int.toNat_natCast,aZ hk,aK hk,a1,a2,lI,nR,lI,nR,Cg,Ch,Dd,hs,Bool.not_true,if_true,bW (show k < 9223372036854775807 by omega),dU,dV,dH,dI,sP,sQ,jk,jl,gN,gO,gY,gZ,dh,di,dj,dm,eF,eH,cB,cC,jm,jn,Bool.and_self,Bool.and_true,cond_true,cond_false,Option.bind_some,eq_self,decide_true]
  | false=>
   simp only [iy,List.length_map,Int.toNat_natCast,aZ hk,aK hk,a1,a2,lI,nR,lI,nR,Au,su,Cg,Ch,Dd,hs,Bool.not_false,Bool.false_eq_true,if_false,bW (show k < 9223372036854775807 by omega),dU,dV,dH,dI,sP,sQ,jk,jl,gN,gO,gY,gZ,dh,di,dj,dm,eF,eH,cB,cC,jm,jn,Bool.and_self,Bool.and_true,cond_true,cond_false,Option.bind_some,eq_self,decide_true]) (fun s _=>by
  simp only [iy,List.length_map,bP,dU,dV,dH,dI,sP,sQ,jk,jl,gN,gO,gY,gZ,dh,di,dj,dm,eF,eH,cB,cC,jm,jn,Bool.and_self,Bool.and_true,cond_true,cond_false,Option.bind_some,eq_self,decide_true]) N [] 0 (Nat.zero_le _) (by unfold hZ at hN; omega) trivial
 rw [List.drop_zero] at key
 exact key
theorem De {N:Nat} (l:List Int) (ps:List (Int × Int)) (x1:List Int) (m:List (Int × Int)) (ns:List (Int × Int)) (hn:(m.map Prod.fst).Nodup):∀ (n:Nat) (L:List Nat),L.length < n→L.Nodup→(∀ i∈L,i < m.length) →
  dJ (kO N) n (x1,l,l,ps,(bN (bC ns) L m),ns,(m.length:Int),(gq L))=some (x1,l,l,ps,(m.map fun e=>(e.1,bC ns e.2)),ns,(m.length:Int),[])
 | 0,L,h,_,_=>by omega
 | n+1,L,h,hL,hi=>by
  rw [ki]
  have ih:=fun L'=>De (N:=N) l ps x1 m ns hn n L'
  generalize hf:bC ns=f at *
  have Ed:=fj f L m
  have ec:decide ((bN f L m).length=m.length)=true:=decide_eq_true Ed
  cases xg:L with
  | nil=>
   have i0:List.isEmpty ([]:List Nat)=true:=rfl
   have e0:(bN f [] m).length=m.length:=fj f [] m
   simp only [kO,su,e0,Int.toNat_natCast,gr,i0,om,List.length_map,dU,dV,dH,dI,sP,sQ,jk,jl,gN,gO,gY,gZ,dh,di,dj,dm,eF,eH,cB,cC,jm,jn,Bool.and_self,Bool.and_true,cond_true,cond_false,Option.bind_some,eq_self,decide_true]
   rfl
  | cons a L'=>
   rw [← xg]
   have i0:List.isEmpty L=false:=by rw [xg]; rfl
   simp only [kO,su,Int.toNat_natCast,ec,cond_true,cond_false,gr,i0]
   refine qo (by rw [xg]; simp) fun i fB=>?_
   have bK:=hi i fB
   have xM:i < (bN f L m).length:=by rw [Ed]; exact bK
   have nV:(L.erase i).length=L.length - 1:=List.length_erase_of_mem fB
   have mb:0 < L.length:=List.length_pos_of_mem fB
   have dl:decide (i < m.length)=true:=decide_eq_true bK
   have IY:=ih (L.erase i) (by omega) (hL.erase i) (fun j hj=>hi j (List.mem_of_mem_erase hj))
   have MI:=nQ f L m bK fB
   rw [Kk _ xM,MI]
   have st:=mA f L m bK fB hL hn
   have ev:bC ns m[i].2=f m[i].2:=by rw [hf]
   have st:fO m[i].1 (f m[i].2) (bN f L m)=bN f (L.erase i) m:=st
   simp only [Cg,Ch,Cg,Ch,Bool.and_self,cond_true,dl,ec,lI,nR,lI,Au,ev,st,dU,dV,dH,dI,sP,sQ,jk,jl,gN,gO,gY,gZ,dh,di,dj,dm,eF,eH,cB,cC,jm,jn,Bool.and_self,Bool.and_true,cond_true,cond_false,Option.bind_some,eq_self,decide_true]
   exact IY
end Go.Proofs.Ytegoimldbgdeiaa
namespace Go.Proofs.Ytegoimldbgdeiaa
open Go Go.Am
set_option maxRecDepth 100000
theorem I0 {N:Nat} (hN:hZ N) (l:List (Int × Int)) (x1:List (Int × Int)) (J:List (Int × Int × Int × Int)) (P:List ((List UInt8) × (List (Int × Int)))) (S:List (Int × Int × Int × Int × Bool)) (E:List (Int × Int)) (hl:l.length≤1000000):a8 (kh N (P,S,l)) N (x1,J,l,0,P,S,E,([]:List ((Int × Int) × Int)))=some (x1,J,l,P,S,E,kj l):=by
 have key:=cS (rd:=kh N (P,S,l)) l (fun (s:List ((Int × Int) × Int) × Int) k=>(x1,J,l,(k:Int),P,S,E,s.1)) (fun s x=>(fO x s.2 s.1,s.2+1)) (fun s=>(x1,J,l,P,S,E,s.1)) (fun s k=>s.2=(k:Int)) (fun s k hk hP=>by
  obtain ⟨a1,a2⟩:=MH l hk
  refine ⟨?_,by show s.2+1=_; rw [hP]; rfl⟩
  rw [hP]
  simp only [kh,List.length_map,Int.toNat_natCast,aZ hk,aK hk,a1,a2,Ep,MF,bW (show k < 9223372036854775807 by omega),dU,dV,dH,dI,sP,sQ,jk,jl,gN,gO,gY,gZ,dh,di,dj,dm,eF,eH,cY,cZ,cB,cC,jm,jn,Bool.and_self,Bool.and_true,cond_true,cond_false,Option.bind_some,eq_self,decide_true]) (fun s _=>by
  simp only [kh,List.length_map,bP,dU,dV,dH,dI,sP,sQ,jk,jl,gN,gO,gY,gZ,dh,di,dj,dm,eF,eH,cY,cZ,cB,cC,jm,jn,Bool.and_self,Bool.and_true,cond_true,cond_false,Option.bind_some,eq_self,decide_true]) N ([],0) 0 (Nat.zero_le _) (by unfold hZ at hN; omega) rfl
 rw [List.drop_zero] at key
 exact key
theorem Gx {N:Nat} (l:List (Int × Int)) (ps:List (Int × Int × Int × Int)) (x1:List (Int × Int)) (J:List (Int × Int × Int × Int)) (P:List ((List UInt8) × (List (Int × Int)))) (S:List (Int × Int × Int × Int × Bool)) (E:List (Int × Int)) (k:Nat) (hk:k < ps.length) (m:List ((Int × Int) × Int)) (hn:(m.map Prod.fst).Nodup):∀ (n:Nat) (L:List Nat),L.length < n→L.Nodup→(∀ i∈L,i < m.length) →
  dJ (iC N (x1,J,l,ps,(k:Int),P,S,E,m)) n (x1,J,l,ps,P,S,E,(bN (Ck (bC m (ps[k].1,ps[k].2.1)) (bC m (ps[k].2.2.1,ps[k].2.2.2))) L m),(m.length:Int),(gq L))=some (x1,J,l,ps,P,S,E,(m.map fun e=>(e.1,Ck (bC m (ps[k].1,ps[k].2.1)) (bC m (ps[k].2.2.1,ps[k].2.2.2)) e.2)),(m.length:Int),[])
 | 0,L,h,_,_=>by omega
 | n+1,L,h,hL,hi=>by
  rw [ki]
  obtain ⟨a1,a2⟩:=Kl ps hk
  have ih:=fun L'=>Gx (N:=N) l ps x1 J P S E k hk m hn n L'
  generalize hf:Ck (bC m (ps[k].1,ps[k].2.1)) (bC m (ps[k].2.2.1,ps[k].2.2.2))=f at *
  have Ed:=fj f L m
  have ec:decide ((bN f L m).length=m.length)=true:=decide_eq_true Ed
  cases xg:L with
  | nil=>
   have i0:List.isEmpty ([]:List Nat)=true:=rfl
   have e0:(bN f [] m).length=m.length:=fj f [] m
   simp only [iC,yC,e0,Int.toNat_natCast,gr,i0,om,List.length_map,dU,dV,dH,dI,sP,sQ,jk,jl,gN,gO,gY,gZ,dh,di,dj,dm,eF,eH,cY,cZ,cB,cC,jm,jn,Bool.and_self,Bool.and_true,cond_true,cond_false,Option.bind_some,eq_self,decide_true]
   rfl
  | cons a L'=>
   rw [← xg]
   have i0:List.isEmpty L=false:=by rw [xg]; rfl
   simp only [iC,yC,Int.toNat_natCast,ec,cond_true,cond_false,gr,i0]
   refine qo (by rw [xg]; simp) fun i fB=>?_
   have bK:=hi i fB
   have xM:i < (bN f L m).length:=by rw [Ed]; exact bK
   have nV:(L.erase i).length=L.length - 1:=List.length_erase_of_mem fB
   have mb:0 < L.length:=List.length_pos_of_mem fB
   have dl:decide (i < m.length)=true:=decide_eq_true bK
   have IY:=ih (L.erase i) (by omega) (hL.erase i) (fun j hj=>hi j (List.mem_of_mem_erase hj))
   have MI:=nQ f L m bK fB
   have z0:0+k=k:=Nat.zero_add k
   rw [MG _ xM,MI]
   have Wm:d3 (n3 m[i].2)=m[i].2:=Ch _
   simp only [Gh,Gi,Cg,Ch,Bool.and_self,cond_true,dl,ec,z0,a1,Ep,IV]
   have dv:f m[i].2=if m[i].2=Gs (bC m (ps[k].1,ps[k].2.1)) (bC m (ps[k].2.2.1,ps[k].2.2.2)) then ME (bC m (ps[k].1,ps[k].2.1)) (bC m (ps[k].2.2.1,ps[k].2.2.2)) else m[i].2:=by rw [← hf]; rfl
   by_cases hg:m[i].2=Gs (bC m (ps[k].1,ps[k].2.1)) (bC m (ps[k].2.2.1,ps[k].2.2.2))
   ·rw [if_pos hg] at dv
    have hb:(m[i].2 == (if bC m (ps[k].2.2.1,ps[k].2.2.2) > bC m (ps[k].1,ps[k].2.1) then bC m (ps[k].2.2.1,ps[k].2.2.2) else bC m (ps[k].1,ps[k].2.1)))=true:=by rw [hg]; exact beq_self_eq_true _
    have st:=mA f L m bK fB hL hn
    rw [dv] at st
    have st:fO (m[i].1.1,m[i].1.2) (if bC m (ps[k].2.2.1,ps[k].2.2.2) < bC m (ps[k].1,ps[k].2.1) then bC m (ps[k].2.2.1,ps[k].2.2.2) else bC m (ps[k].1,ps[k].2.1)) (bN f L m)=bN f (L.erase i) m:=st
    simp only [hb,MF,st,dU,dV,dH,dI,sP,sQ,jk,jl,gN,gO,gY,gZ,dh,di,dj,dm,eF,eH,cY,cZ,cB,cC,jm,jn,Bool.and_self,Bool.and_true,cond_true,cond_false,Option.bind_some,eq_self,decide_true]
    exact IY
   ·rw [if_neg hg] at dv
    have hb:(m[i].2 == (if bC m (ps[k].2.2.1,ps[k].2.2.2) > bC m (ps[k].1,ps[k].2.1) then bC m (ps[k].2.2.1,ps[k].2.2.2) else bC m (ps[k].1,ps[k].2.1)))=false:=beq_false_of_ne hg
    have st:=vr f L m bK fB hL dv
    simp only [hb,dU,dV,dH,dI,sP,sQ,jk,jl,gN,gO,gY,gZ,dh,di,dj,dm,eF,eH,cY,cZ,cB,cC,jm,jn,Bool.and_self,Bool.and_true,cond_true,cond_false,Option.bind_some,eq_self,decide_true]
    rw [st]
    exact IY
theorem I1 {N:Nat} (hN:hZ N) (l:List (Int × Int)) (ps:List (Int × Int × Int × Int)) (x1:List (Int × Int)) (J:List (Int × Int × Int × Int)) (P:List ((List UInt8) × (List (Int × Int)))) (S:List (Int × Int × Int × Int × Bool)) (E:List (Int × Int)) (m:List ((Int × Int) × Int)) (hl:ps.length≤1000000) (hm:m.length≤1000000) (hn:(m.map Prod.fst).Nodup):a8 (iP N (x1,ps,l,P,S,E,m)) N (x1,J,l,ps,0,P,S,E,m)=some (x1,J,l,ps,P,S,E,(ps.foldl (fun s p=>jj s ((p.1,p.2.1),(p.2.2.1,p.2.2.2))) m)):=by
 have key:=cS (rd:=iP N (x1,ps,l,P,S,E,m)) ps (fun (s:List ((Int × Int) × Int)) k=>(x1,J,l,ps,(k:Int),P,S,E,s)) (fun s p=>jj s ((p.1,p.2.1),(p.2.2.1,p.2.2.2))) (fun s=>(x1,J,l,ps,P,S,E,s)) (fun s k=>(s.map Prod.fst).Nodup∧s.length≤1000000) (fun s k hk hP=>by
  obtain ⟨a1,a2⟩:=Kl ps hk
  have z0:0+k=k:=Nat.zero_add k
  have q:=Gx (N:=N) l ps x1 J P S E k hk s hP.1 N (List.range s.length) (by rw [List.length_range]; unfold hZ at hN; omega) List.nodup_range (fun i hi=>List.mem_range.1 hi)
  rw [ol] at q
  refine ⟨?_,by rw [rE]; exact hP.1,by unfold jj; rw [List.length_map]; exact hP.2⟩
  have dz:decide (ps.length=ps.length)=true:=decide_eq_true rfl
  have dk:decide (k < ps.length)=true:=decide_eq_true hk
  simp only [iP,List.length_map,Int.toNat_natCast,aZ hk,aK hk,z0,a1,a2,dz,dk,Ep,IV,Cg,yC,q,bW (show k < 9223372036854775807 by omega),dU,dV,dH,dI,sP,sQ,jk,jl,gN,gO,gY,gZ,dh,di,dj,dm,eF,eH,cY,cZ,cB,cC,jm,jn,Bool.and_self,Bool.and_true,cond_true,cond_false,Option.bind_some,eq_self,decide_true]
  rfl) (fun s _=>by
  simp only [iP,List.length_map,bP,dU,dV,dH,dI,sP,sQ,jk,jl,gN,gO,gY,gZ,dh,di,dj,dm,eF,eH,cY,cZ,cB,cC,jm,jn,Bool.and_self,Bool.and_true,cond_true,cond_false,Option.bind_some,eq_self,decide_true]) N m 0 (Nat.zero_le _) (by unfold hZ at hN; omega) ⟨hn,hm⟩
 rw [List.drop_zero] at key
 exact key
theorem MK {N:Nat} (hN:hZ N) (l:List (Int × Int)) (ps:List (Int × Int × Int × Int)) (x1:List (Int × Int)) (J:List (Int × Int × Int × Int)) (P:List ((List UInt8) × (List (Int × Int)))) (S:List (Int × Int × Int × Int × Bool)) (E:List (Int × Int)) (m:List ((Int × Int) × Int)) (hl:l.length≤1000000):a8 (gK N (l,J,l,ps,P,S,E,m)) N (x1,J,l,ps,l,0,P,S,E,m,[])=some (x1,J,l,ps,l,P,S,E,m,(l.foldl (vt m) [])):=by
 have key:=cS (rd:=gK N (l,J,l,ps,P,S,E,m)) l (fun (s:List (Int × Int)) k=>(x1,J,l,ps,l,(k:Int),P,S,E,m,s)) (vt m) (fun s=>(x1,J,l,ps,l,P,S,E,m,s)) (fun s k=>True) (fun s k hk hP=>by
  obtain ⟨a1,a2⟩:=MH l hk
  refine ⟨?_,trivial⟩
  have e:vt m s l[k]=if (getM (bC m l[k]) s).isSome then s else fO (bC m l[k]) (s.length:Int) s:=rfl
  rw [e]
  cases hs:(getM (bC m l[k]) s).isSome with
  | true=>
   simp only [gK,List.length_map,Int.toNat_natCast,aZ hk,aK hk,a1,a2,Ep,IV,lI,nR,Cg,Ch,Dd,hs,Bool.not_true,if_true,bW (show k < 9223372036854775807 by omega),dU,dV,dH,dI,sP,sQ,jk,jl,gN,gO,gY,gZ,dh,di,dj,dm,eF,eH,cY,cZ,cB,cC,jm,jn,Bool.and_self,Bool.and_true,cond_true,cond_false,Option.bind_some,eq_self,decide_true]
  | false=>
   simp only [gK,List.length_map,Int.toNat_natCast,aZ hk,aK hk,a1,a2,Ep,IV,lI,nR,Au,su,Cg,Ch,Dd,hs,Bool.not_false,Bool.false_eq_true,if_false,bW (show k < 9223372036854775807 by omega),dU,dV,dH,dI,sP,sQ,jk,jl,gN,gO,gY,gZ,dh,di,dj,dm,eF,eH,cY,cZ,cB,cC,jm,jn,Bool.and_self,Bool.and_true,cond_true,cond_false,Option.bind_some,eq_self,decide_true]) (fun s _=>by
  simp only [gK,List.length_map,bP,dU,dV,dH,dI,sP,sQ,jk,jl,gN,gO,gY,gZ,dh,di,dj,dm,eF,eH,cY,cZ,cB,cC,jm,jn,Bool.and_self,Bool.and_true,cond_true,cond_false,Option.bind_some,eq_self,decide_true]) N [] 0 (Nat.zero_le _) (by unfold hZ at hN; omega) trivial
 rw [List.drop_zero] at key
 exact key
theorem Df {N:Nat} (l:List (Int × Int)) (ps:List (Int × Int × Int × Int)) (x1:List (Int × Int)) (J:List (Int × Int × Int × Int)) (P:List ((List UInt8) × (List (Int × Int)))) (S:List (Int × Int × Int × Int × Bool)) (E:List (Int × Int)) (m:List ((Int × Int) × Int)) (ns:List (Int × Int)) (hn:(m.map Prod.fst).Nodup):∀ (n:Nat) (L:List Nat),L.length < n→L.Nodup→(∀ i∈L,i < m.length) →
  dJ (jC N) n (x1,J,l,ps,l,P,S,E,(bN (bC ns) L m),ns,(m.length:Int),(gq L))=some (x1,J,l,ps,l,P,S,E,(m.map fun e=>(e.1,bC ns e.2)),ns,(m.length:Int),[])
 | 0,L,h,_,_=>by omega
 | n+1,L,h,hL,hi=>by
  rw [ki]
  have ih:=fun L'=>Df (N:=N) l ps x1 J P S E m ns hn n L'
  generalize hf:bC ns=f at *
  have Ed:=fj f L m
  have ec:decide ((bN f L m).length=m.length)=true:=decide_eq_true Ed
  cases xg:L with
  | nil=>
   have i0:List.isEmpty ([]:List Nat)=true:=rfl
   have e0:(bN f [] m).length=m.length:=fj f [] m
   simp only [jC,yC,e0,Int.toNat_natCast,gr,i0,om,List.length_map,dU,dV,dH,dI,sP,sQ,jk,jl,gN,gO,gY,gZ,dh,di,dj,dm,eF,eH,cY,cZ,cB,cC,jm,jn,Bool.and_self,Bool.and_true,cond_true,cond_false,Option.bind_some,eq_self,decide_true]
   rfl
  | cons a L'=>
   rw [← xg]
   have i0:List.isEmpty L=false:=by rw [xg]; rfl
   simp only [jC,yC,Int.toNat_natCast,ec,cond_true,cond_false,gr,i0]
   refine qo (by rw [xg]; simp) fun i fB=>?_
   have bK:=hi i fB
   have xM:i < (bN f L m).length:=by rw [Ed]; exact bK
   have nV:(L.erase i).length=L.length - 1:=List.length_erase_of_mem fB
   have mb:0 < L.length:=List.length_pos_of_mem fB
   have dl:decide (i < m.length)=true:=decide_eq_true bK
   have IY:=ih (L.erase i) (by omega) (hL.erase i) (fun j hj=>hi j (List.mem_of_mem_erase hj))
   have MI:=nQ f L m bK fB
   rw [MG _ xM,MI]
   have st:=mA f L m bK fB hL hn
   have ev:bC ns m[i].2=f m[i].2:=by rw [hf]
   have st:fO (m[i].1.1,m[i].1.2) (f m[i].2) (bN f L m)=bN f (L.erase i) m:=st
   simp only [Gh,Gi,Cg,Ch,Bool.and_self,cond_true,dl,ec,lI,nR,Ep,MF,ev,st,dU,dV,dH,dI,sP,sQ,jk,jl,gN,gO,gY,gZ,dh,di,dj,dm,eF,eH,cY,cZ,cB,cC,jm,jn,Bool.and_self,Bool.and_true,cond_true,cond_false,Option.bind_some,eq_self,decide_true]
   exact IY
end Go.Proofs.Ytegoimldbgdeiaa
namespace Go.Proofs.Ytegoimldbgdeiaa
open Go Go.Am
set_option maxRecDepth 100000
abbrev Ob:=(List UInt8) × (List (Int × Int))
abbrev Gy:=Int × Int × Int × Int × Bool
abbrev oo:=List Ob × List Gy
def bu (n:Nat):List Int:=(List.range n).map fun i:Nat=>(i:Int)
theorem Av (n:Nat):bu (n+1)=bu n++[(n:Int)]:=by unfold bu; rw [List.range_succ,List.map_append]; rfl
theorem kl (n:Nat):(bu n).length=n:=by simp [bu]
def sR (s:Gy):Int × Int:=(s.1,s.2.2.1)
def da (t:oo):List Int:=
 let l:=bu t.1.length
 let m:=tf l (t.2.map sR)
 l.map (bC m)
theorem Km (l:List Int) (x:Int):List.map n3 l++[AV.int .i64 x]=List.map n3 (l++[x]):=by rw [List.map_append]; rfl
theorem ML (l:List (Int × Int)) (a b:Int):List.map dG l++[AV.agg [AV.int .i64 a,AV.int .i64 b]]=List.map dG (l++[(a,b)]):=by rw [List.map_append]; rfl
theorem MM (l:List (Int × Int)) (a b:Int):List.map aN l++[AV.agg [AV.int .i64 a,AV.int .i64 b]]=List.map aN (l++[(a,b)]):=by rw [List.map_append]; rfl
theorem PU:allFit (ah.fits p3) ([]:List AV)=true:=rfl
theorem PV:List.map d3 ([]:List AV)=[]:=rfl
theorem PW:allFit (ah.fits dT) ([]:List AV)=true:=rfl
theorem PX:List.map d67 ([]:List AV)=[]:=rfl
theorem MN:allFit (ah.fits dF) ([]:List AV)=true:=rfl
theorem MO:List.map d174 ([]:List AV)=[]:=rfl
theorem S1:af ([]:List (AV × AV))=[]:=rfl
theorem S2:aH ([]:List (AV × AV))=true:=rfl
theorem Gz:allFit (ah.fits bT) ([]:List AV)=true:=rfl
theorem GA:List.map cb ([]:List AV)=[]:=rfl
theorem PY:allFit (ah.fits cE) ([]:List AV)=true:=rfl
theorem PZ:List.map cO ([]:List AV)=[]:=rfl
theorem Aw {K:Type} [DecidableEq K] (l:List K):(kj l).length≤l.length:=by
 have gen:∀ (l:List K) (s:List (K × Int) × Int),((l.foldl (fun s x=>(fO x s.2 s.1,s.2+1)) s).1).length≤s.1.length+l.length:=by
  intro l
  induction l with
  | nil=>intro s; exact Nat.le_refl _
  | cons x l ih=>
   intro s
   have h1:=ih (fO x s.2 s.1,s.2+1)
   have h2:(fO x s.2 s.1).length≤s.1.length+1:=by
    have:=congrArg List.length (rD (k:=x) (v:=s.2) (m:=s.1))
    rw [List.length_map] at this
    rw [this]
    split <;> simp
   rw [List.foldl_cons,List.length_cons]
   simp only at h1
   omega
 have:=gen l ([],0)
 unfold kj
 simpa using this
theorem Dg {K:Type} [DecidableEq K] (ps:List (K × K)) (m:List (K × Int)):(ps.foldl jj m).length=m.length:=by
 induction ps generalizing m with
 | nil=>rfl
 | cons p ps ih=>rw [List.foldl_cons,ih]; unfold jj; rw [List.length_map]
theorem UE:∀ l:List Int,aM (List.map n3 l)=true
 | []=>rfl
 | x :: l=>by
  show ((n3 x).closed&&aM (List.map n3 l))=true
  rw [UE l]; rfl
section
variable {N:Nat} (hN:hZ N)
include hN
theorem I2 (t:oo) (h:t.1.length≤1000000):a8 (vp N t) N ([],0)=some (bu t.1.length):=by
 have key:=dR (rd:=vp N t) t.1.length (fun k=>(bu k,(k:Int))) (bu t.1.length) (fun k hk=>by
  have d:decide ((bu k).length=(bu k).length)=true:=decide_eq_true rfl
  have d2:decide ((k+1) * 8≤140737488355328)=true:=decide_eq_true (by omega)
  simp only [vp,List.length_map,aZ hk,kl,d2,Km,jk,jl,← Av,bW (show k < 9223372036854775807 by omega),Bool.and_self,Bool.and_true,cond_true,Option.bind_some,eq_self,decide_true]) (by
  simp only [vp,List.length_map,bP,kl,jk,jl,Bool.and_self,Bool.and_true,cond_true,cond_false,Option.bind_some,eq_self,decide_true]) N 0 (Nat.zero_le _) (by unfold hZ at hN; omega)
 exact key
theorem I3 (t:oo) (l:List Int) (h:t.2.length≤1000000):a8 (lF N t l) N ((),0,[])=some ((),t.2.map sR):=by
 have key:=dR (rd:=lF N t l) t.2.length (fun k=>((),(k:Int),(t.2.take k).map sR)) ((),t.2.map sR) (fun k hk=>by
  obtain ⟨a1,a2⟩:=Gu t.2 hk
  have ht:(t.2.take k).length=k:=by rw [List.length_take]; omega
  have d2:decide ((k+1) * 16≤140737488355328)=true:=decide_eq_true (by omega)
  have d0:decide ((0:Nat)=0)=true:=rfl
  have es:(t.2.take k).map sR++[(t.2[k].1,t.2[k].2.2.1)]=(t.2.take (k+1)).map sR:=by
   rw [List.take_add_one,List.getElem?_eq_getElem hk,List.map_append]; rfl
  have el:((t.2.take (k+1)).map sR).length=k+1:=by rw [List.length_map,List.length_take]; omega
  have nb:Nat.beq (k+1) (k+1)=true:=Nat.beq_refl _
  simp only [lF,List.length_map,Int.toNat_natCast,aZ hk,aK hk,a1,a2,ht,d2,d0,ML,es,el,nb,gN,gO,bW (show k < 9223372036854775807 by omega),Bool.and_self,Bool.and_true,cond_true,Option.bind_some,eq_self,decide_true]) (by
  have nb:Nat.beq t.2.length t.2.length=true:=Nat.beq_refl _
  simp only [lF,List.length_map,bP,List.take_length,nb,gN,gO,Bool.and_self,Bool.and_true,cond_true,cond_false,Option.bind_some,eq_self,decide_true]) N 0 (Nat.zero_le _) (by unfold hZ at hN; omega)
 exact key
theorem I4 (l x:List Int) (hl:l.length≤1000000) (ps:List (Int × Int)) (m ns:List (Int × Int)) (c:Int) (L:List Int) (hL:∃ L',L=gq L'):∃ r,a8 (jK N l) N ((),l,0,ps,m,ns,c,L,(),[])=some r∧r.2.2.2.2.2.2.2.2=l.map (bC m):=by
 obtain ⟨L',rfl⟩:=hL
 refine ⟨((),l,ps,m,ns,((Int.toNat c:Nat):Int),gq L',(),l.map (bC m)),?_,rfl⟩
 cases sB:l with
 | nil=>
  have d:decide ((0:Int) < ((([]:List Int).length:Nat):Int))=false:=rfl
  obtain ⟨n,rfl⟩:∃ n,N=n+1:=⟨N - 1,by unfold hZ at hN; omega⟩
  have n0:Nat.beq 0 0=true:=rfl
  rw [my]
  simp only [jK,List.map_nil,List.length_nil,n0,PU,PV,dU,cB,cC,dV,gr,jm,jn,gN,gO,cond_false,Bool.and_self,Bool.and_true,cond_true,Option.bind_some,eq_self,decide_true,Sum.elim_inr,Int.lt_irrefl,decide_false]
  rfl
 | cons a l'=>
 rw [← sB]
 have key:=dR (rd:=jK N l) l.length (fun k=>((),l,(k:Int),ps,m,ns,(if k=0 then c else ((Int.toNat c:Nat):Int)),gq L',(),(l.take k).map (bC m))) ((),l,ps,m,ns,((Int.toNat c:Nat):Int),gq L',(),l.map (bC m)) (fun k hk=>by
  obtain ⟨a1,a2⟩:=IW l hk
  have ht:(l.take k).length=k:=by rw [List.length_take]; omega
  have d2:decide ((k+1) * 8≤140737488355328)=true:=decide_eq_true (by omega)
  have d0:decide ((0:Nat)=0)=true:=rfl
  have es:(l.take k).map (bC m)++[bC m l[k]]=(l.take (k+1)).map (bC m):=by
   rw [List.take_add_one,List.getElem?_eq_getElem hk,List.map_append]; rfl
  have el:((l.take (k+1)).map (bC m)).length=k+1:=by rw [List.length_map,List.length_take]; omega
  have nb:Nat.beq (k+1) (k+1)=true:=Nat.beq_refl _
  have ec:((Int.toNat (if k=0 then c else ((Int.toNat c:Nat):Int)):Nat):Int)=((Int.toNat c:Nat):Int):=by split <;> simp
  have e1:(k+1=0)=False:=by simp
  simp only [jK,List.length_map,Int.toNat_natCast,aZ hk,aK hk,a1,a2,ht,d2,d0,lI,nR,Cg,Ch,Km,es,el,nb,ec,e1,if_false,jk,jl,dU,cB,cC,dV,gr,jm,jn,gN,gO,bW (show k < 9223372036854775807 by omega),Bool.and_self,Bool.and_true,cond_true,Option.bind_some,eq_self,decide_true]) (by
  have nb:Nat.beq l.length l.length=true:=Nat.beq_refl _
  have e1:(l.length=0)=False:=by rw [sB]; simp
  simp only [jK,List.length_map,bP,List.take_length,nb,e1,if_false,Int.toNat_natCast,jk,jl,dU,cB,cC,dV,gr,jm,jn,gN,gO,Bool.and_self,Bool.and_true,cond_true,cond_false,Option.bind_some,eq_self,decide_true]) N 0 (Nat.zero_le _) (by unfold hZ at hN; omega)
 exact key
theorem vu (t:oo) (h1:t.1.length≤1000000) (h2:t.2.length≤1000000):N4 N t=some (da t):=by
 have q1:=I2 hN t h1
 have q2:=I3 hN t (bu t.1.length) h2
 have hl:(bu t.1.length).length≤1000000:=by rw [kl]; exact h1
 have hp:(t.2.map sR).length≤1000000:=by rw [List.length_map]; exact h2
 have nl:=Aw (bu t.1.length)
 have q3:=IX hN (bu t.1.length) (t.2.map sR) (bu t.1.length) hl
 have q4:=IZ hN (bu t.1.length) (t.2.map sR) (bu t.1.length) (kj (bu t.1.length)) hp (by omega) (mB _)
 have q5:=MJ hN (bu t.1.length) (t.2.map sR) (bu t.1.length) ((t.2.map sR).foldl jj (kj (bu t.1.length))) hl
 have nd:=xf (t.2.map sR) (kj (bu t.1.length)) (mB _)
 have ul:=Dg (t.2.map sR) (kj (bu t.1.length))
 have q6:=De (N:=N) (bu t.1.length) (t.2.map sR) (bu t.1.length) ((t.2.map sR).foldl jj (kj (bu t.1.length))) ((bu t.1.length).foldl (vt ((t.2.map sR).foldl jj (kj (bu t.1.length)))) []) nd N (List.range ((t.2.map sR).foldl jj (kj (bu t.1.length))).length) (by rw [List.length_range]; unfold hZ at hN; omega) List.nodup_range (fun i hi=>List.mem_range.1 hi)
 rw [ol] at q6
 obtain ⟨r,q7,er⟩:=I4 hN (bu t.1.length) (bu t.1.length) hl (t.2.map sR) (tf (bu t.1.length) (t.2.map sR)) ((bu t.1.length).foldl (vt ((t.2.map sR).foldl jj (kj (bu t.1.length)))) []) (((t.2.map sR).foldl jj (kj (bu t.1.length))).length:Int) [] ⟨[],rfl⟩
 have z1:decide ((0:Int)≤0∧(0:Int)≤((t.2.length:Nat):Int)∧((t.2.length:Nat):Int)≤140737488355328∧((t.2.length:Nat):Int) * 16≤140737488355328)=true:=decide_eq_true (by omega)
 have z2:decide ((0:Int)≤0∧(0:Int)≤((t.1.length:Nat):Int)∧((t.1.length:Nat):Int)≤140737488355328∧((t.1.length:Nat):Int) * 8≤140737488355328)=true:=decide_eq_true (by omega)
 have r0:∀ x:AV,List.replicate 0 x=[]:=fun _=>rfl
 have tz:Int.toNat 0=0:=rfl
 have Wn:Nat.beq 0 ([]:List AV).length=true:=rfl
 have f23:allFit (ah.fits nP) ([]:List AV)=true:=rfl
 have m23:List.map d23 ([]:List AV)=[]:=rfl
 have u0:aq (List.map n2 ([]:List Int))=[]:=rfl
 have Wo:aS []=[]:=rfl
 have Wp:aq ([]:List AV)=[]:=rfl
 have lz:gq []=[]:=rfl
 have f2:allFit (ah.fits p2) ([]:List AV)=true:=rfl
 have m2:List.map d2 ([]:List AV)=[]:=rfl
 have eU:tf (bu t.1.length) (t.2.map sR)=((t.2.map sR).foldl jj (kj (bu t.1.length))).map fun e=>(e.1,bC ((bu t.1.length).foldl (vt ((t.2.map sR).foldl jj (kj (bu t.1.length)))) []) e.2):=rfl
 rw [eU] at q7
 have d0:decide ((0:Nat)=([]:List AV).length)=true:=rfl
 have S3:decide ((0:Nat)=0)=true:=rfl
 have S4:Nat.beq 0 0=true:=rfl
 rw [My]
 simp only [PU,PV,List.map_nil,List.length_nil,S3,Bool.and_true,cond_true,Option.bind_some,q1,List.length_map,z1,tz,r0,Wn,S4,f23,m23,Bool.and_self,eq_self,decide_true,q2,jk,jl,gN,gO,S1,Gz,GA,S2,q3,dU,cB,cC,dV,q4,q5,su,jm,jn,q6,kl,z2,u0,Wp,lz,Wo,f2,m2,Int.toNat_natCast,q7,er,UE]
 rfl
end
end Go.Proofs.Ytegoimldbgdeiaa
namespace Go.Proofs.Ytegoimldbgdeiaa
open Go Go.Am
set_option maxRecDepth 100000
theorem Kn:∀ l:List (Int × Int),ea (List.map n132 l) (List.map n132 l)=true
 | []=>rfl
 | x :: l=>by
  rw [List.map_cons,ea,Kn l]
  show (ea [AV.int .i64 x.1,AV.int .i64 x.2] [AV.int .i64 x.1,AV.int .i64 x.2]&&true)=true
  simp [ea,dx,vX]
theorem Ko:∀ l:List Ob,ea (List.map n131 l) (List.map n131 l)=true
 | []=>rfl
 | x :: l=>by
  rw [List.map_cons,ea,Ko l]
  have e:ea (List.map n132 x.2) (List.map n132 x.2)=true:=Kn x.2
  show (ea [AV.str x.1,AV.list .kr 2 (List.map n132 x.2)] [AV.str x.1,AV.list .kr 2 (List.map n132 x.2)]&&true)=true
  simp only [ea,dx,vX,e,beq_self_eq_true,Nat.beq_refl,Bool.and_self]
theorem Kp:∀ l:List Gy,ea (List.map n110 l) (List.map n110 l)=true
 | []=>rfl
 | x :: l=>by
  rw [List.map_cons,ea,Kp l]
  show (ea [AV.int .i64 x.1,AV.int .i64 x.2.1,AV.int .i64 x.2.2.1,AV.int .i64 x.2.2.2.1,AV.bool x.2.2.2.2] [AV.int .i64 x.1,AV.int .i64 x.2.1,AV.int .i64 x.2.2.1,AV.int .i64 x.2.2.2.1,AV.bool x.2.2.2.2]&&true)=true
  simp [ea,dx,vX]
def Oc (t:oo) (p:Int):Nat:=((t.1.getD p.toNat ([],[])).2).length
def I5 (t:oo) (e:Int × Int):Int × Int:=(e.1,Int.tmod (IntKind.wrap .i64 (e.2+1)) (Oc t e.1:Int))
def P0 (t:oo) (e:Int × Int):Bool:=decide (0≤e.1)&&decide (e.1 < (t.1.length:Int))&&!(Oc t e.1 == 0)
def MP (t:oo) (s:Gy):Bool:=P0 t (s.1,s.2.1)&&P0 t (s.2.2.1,s.2.2.2.1)
def dW (t:oo) (s:Gy):(Int × Int × Int × Int) × (Int × Int × Int × Int):=
 let a0:=(s.1,s.2.1)
 let a1:=I5 t a0
 let b0:=(s.2.2.1,s.2.2.2.1)
 let b1:=I5 t b0
 if s.2.2.2.2 then ((a0.1,a0.2,b0.1,b0.2),(a1.1,a1.2,b1.1,b1.2)) else ((a0.1,a0.2,b1.1,b1.2),(a1.1,a1.2,b0.1,b0.2))
theorem MQ {t:oo} {e:Int × Int} (h:P0 t e=true):0≤e.1∧e.1 < (t.1.length:Int)∧Oc t e.1≠0:=by
 unfold P0 at h
 simp only [Bool.and_eq_true,decide_eq_true_eq,Bool.not_eq_true',beq_eq_false_iff_ne] at h
 exact ⟨h.1.1,h.1.2,h.2⟩
theorem Dh (N:Nat) (t:oo) (e:Int × Int) (h:P0 t e=true):IR N (t,e)=some (e.1,e.2,(I5 t e).1,(I5 t e).2):=by
 obtain ⟨h1,h2,h3⟩:=MQ h
 obtain ⟨k,hk⟩:∃ k:Nat,e.1=(k:Int):=⟨e.1.toNat,by omega⟩
 have HD:k < t.1.length:=by omega
 obtain ⟨a1,a2⟩:=Gv t.1 HD
 have es:t.1[k].2.length=Oc t e.1:=by
  unfold Oc
  rw [hk,Int.toNat_natCast,List.getD_eq_getElem?_getD,List.getElem?_eq_getElem HD]
  rfl
 have d:(!(decide (((Oc t e.1:Nat):Int)=0)))=true:=by rw [decide_eq_false (by omega)]; rfl
 rw [show IR N (t,e)=IR N ((t.1,t.2),(e.1,e.2)) from rfl,Mt]
 simp only [hk,Int.toNat_natCast,List.length_map,aK HD,a1,a2,Bool.and_self,cond_true]
 rw [es,d,cond_true,← hk]
 rfl
theorem Er (N:Nat) (t:oo) (s:Gy) (h:MP t s=true):Gp N (t,s)=some ((dW t s).1.1,(dW t s).1.2.1,(dW t s).1.2.2.1,(dW t s).1.2.2.2,(dW t s).2.1,(dW t s).2.2.1,(dW t s).2.2.2.1,(dW t s).2.2.2.2):=by
 unfold MP at h
 rw [Bool.and_eq_true] at h
 have q1:=Dh N t (s.1,s.2.1) h.1
 have q2:=Dh N t (s.2.2.1,s.2.2.2.1) h.2
 rw [IT]
 have Wq:IR N ((t.1,t.2),(s.1,s.2.1))=_:=q1
 have Wr:IR N ((t.1,t.2),(s.2.2.1,s.2.2.2.1))=_:=q2
 simp only [dj,dm,dh,di,Bool.and_self,Bool.and_true,cond_true,Option.bind_some,Wq,Wr,beq_self_eq_true,Ko,Kp]
 unfold dW
 cases hs:s.2.2.2.2
 ·simp only [Bool.not_false,cond_true,Option.bind_some,Bool.false_eq_true,if_false]
 ·simp only [Bool.not_true,cond_false,Option.bind_some,if_true]
def eI (t:oo):List (Int × Int × Int × Int):=t.2.flatMap fun s=>[(dW t s).1,(dW t s).2]
def jo (p:Nat) (n:Nat):List (Int × Int):=(List.range n).map fun i:Nat=>((p:Int),(i:Int))
def km:List Ob→Nat→List (Int × Int)
 | [],_=>[]
 | x :: l,p=>jo p x.2.length++km l (p+1)
def e9 (t:oo):List (Int × Int):=km t.1 0
def MR (p:Int × Int × Int × Int):(Int × Int) × (Int × Int):=((p.1,p.2.1),(p.2.2.1,p.2.2.2))
def eV (t:oo):List ((Int × Int) × Int):=tf (e9 t) ((eI t).map MR)
theorem I6 (l:List (Int × Int × Int × Int)) (a b:Int × Int × Int × Int):List.map n174 l++[AV.agg [AV.int .i64 a.1,AV.int .i64 a.2.1,AV.int .i64 a.2.2.1,AV.int .i64 a.2.2.2],AV.agg [AV.int .i64 b.1,AV.int .i64 b.2.1,AV.int .i64 b.2.2.1,AV.int .i64 b.2.2.2]]=List.map n174 (l++[a,b]):=by rw [List.map_append]; rfl
theorem Cn (t:oo) {k:Nat} (hk:k < t.2.length):(t.2.take (k+1)).flatMap (fun s=>[(dW t s).1,(dW t s).2])=(t.2.take k).flatMap (fun s=>[(dW t s).1,(dW t s).2])++[(dW t t.2[k]).1,(dW t t.2[k]).2]:=by
 rw [List.take_add_one,List.getElem?_eq_getElem hk,List.flatMap_append]
 rfl
theorem xh (t:oo) (l:List Gy):(l.flatMap (fun s=>[(dW t s).1,(dW t s).2])).length=2 * l.length:=by
 induction l with
 | nil=>rfl
 | cons s l ih=>rw [List.flatMap_cons,List.length_append,ih,List.length_cons]; simp only [List.length_cons,List.length_nil]; omega
theorem vv:∀ (l:List Ob) (p:Nat) (x:Ob),km (l++[x]) p=km l p++jo (p+l.length) x.2.length
 | [],p,x=>by simp [km]
 | y :: l,p,x=>by
  rw [List.cons_append,km,vv l (p+1) x,km,List.append_assoc,List.length_cons]
  rw [show p+1+l.length=p+(l.length+1) by omega]
theorem rF:∀ (l:List Ob) (p:Nat),(∀ x∈l,x.2.length≤1000)→(km l p).length≤1000 * l.length
 | [],_,_=>Nat.le_refl _
 | x :: l,p,h=>by
  have ih:=rF l (p+1) fun y hy=>h y (List.mem_cons_of_mem _ hy)
  have:=h x List.mem_cons_self
  rw [km,List.length_append,List.length_cons]
  simp only [jo,List.length_map,List.length_range]
  omega
section
variable {N:Nat} (hN:hZ N)
include hN
theorem I7 (t:oo) (h:t.2.length≤1000000) (ho:∀ s∈t.2,MP t s=true):a8 (vq N t) N ([],0)=some (eI t):=by
 have key:=dR (rd:=vq N t) t.2.length (fun k=>((t.2.take k).flatMap (fun s=>[(dW t s).1,(dW t s).2]),(k:Int))) (eI t) (fun k hk=>by
  obtain ⟨a1,a2⟩:=Gu t.2 hk
  have q:=Er N t t.2[k] (ho _ (List.getElem_mem hk))
  have q:Gp N ((t.1,t.2),(t.2[k].1,t.2[k].2.1,t.2[k].2.2.1,t.2[k].2.2.2.1,t.2[k].2.2.2.2))=_:=q
  have hl:=xh t (t.2.take k)
  have ht:(t.2.take k).length=k:=by rw [List.length_take]; omega
  rw [ht] at hl
  have H6:((t.2.take k).flatMap (fun s=>[(dW t s).1,(dW t s).2])++[(dW t t.2[k]).1,(dW t t.2[k]).2]).length=2 * k+2:=by rw [List.length_append,hl]; rfl
  have d2:decide ((2 * k+2) * 32≤140737488355328)=true:=decide_eq_true (by omega)
  have sn:=I6 ((t.2.take k).flatMap (fun s=>[(dW t s).1,(dW t s).2])) (dW t t.2[k]).1 (dW t t.2[k]).2
  simp only [vq,List.length_map,Int.toNat_natCast,aZ hk,aK hk,a1,a2,dj,dm,dh,di,q,hl,d2,sn,eF,eH,H6,Cn t hk,bW (show k < 9223372036854775807 by omega),Bool.and_self,Bool.and_true,cond_true,Option.bind_some,eq_self,decide_true]) (by
  simp only [vq,List.length_map,bP,List.take_length,eF,eH,Bool.and_self,Bool.and_true,cond_true,cond_false,Option.bind_some,eq_self,decide_true]
  rfl) N 0 (Nat.zero_le _) (by unfold hZ at hN; omega)
 exact key
theorem GB (t:oo) (J:List (Int × Int × Int × Int)) (p:Nat) (hp:p < t.1.length) (hs:t.1[p].2.length≤1000) (acc:List (Int × Int)) (ha:acc.length≤1000000) (v3:List (Int × Int)):a8 (hH N J ((p:Int),t.1,t.2,v3)) N (0,t.1,t.2,acc)=some (t.1,t.2,acc++jo p t.1[p].2.length):=by
 obtain ⟨a1,a2⟩:=Gv t.1 hp
 have key:=dR (rd:=hH N J ((p:Int),t.1,t.2,v3)) t.1[p].2.length (fun k=>((k:Int),t.1,t.2,acc++jo p k)) (t.1,t.2,acc++jo p t.1[p].2.length) (fun k hk=>by
  have cl:(acc++jo p k).length=acc.length+k:=by rw [List.length_append]; simp [jo]
  have cs:acc++jo p k++[((p:Int),(k:Int))]=acc++jo p (k+1):=by
   rw [List.append_assoc]; congr 1; unfold jo; rw [List.range_succ,List.map_append]; rfl
  have Ws:(acc++jo p (k+1)).length=acc.length+k+1:=by rw [List.length_append]; simp [jo]; omega
  have d2:decide ((acc.length+k+1) * 16≤140737488355328)=true:=decide_eq_true (by omega)
  simp only [hH,List.length_map,Int.toNat_natCast,a1,aZ hk,cl,d2,MM,cs,Ws,dj,dm,dh,di,gY,gZ,bW (show k < 9223372036854775807 by omega),Bool.and_self,Bool.and_true,cond_true,Option.bind_some,eq_self,decide_true]) (by
  simp only [hH,List.length_map,Int.toNat_natCast,a1,bP,dj,dm,dh,di,gY,gZ,Bool.and_self,Bool.and_true,cond_true,cond_false,Option.bind_some,eq_self,decide_true]) N 0 (Nat.zero_le _) (by unfold hZ at hN; omega)
 have e0:acc++jo p 0=acc:=by simp [jo]
 rw [e0] at key
 exact key
theorem GC (t:oo) (J:List (Int × Int × Int × Int)) (h:t.1.length≤1000) (hs:∀ x∈t.1,x.2.length≤1000):a8 (lH N t J) N (0,t.1,t.2,[])=some (t.1,t.2,e9 t):=by
 have key:=dR (rd:=lH N t J) t.1.length (fun k=>((k:Int),t.1,t.2,km (t.1.take k) 0)) (t.1,t.2,e9 t) (fun k hk=>by
  obtain ⟨a1,a2⟩:=Gv t.1 hk
  have hc:=rF (t.1.take k) 0 fun x hx=>hs x (List.mem_of_mem_take hx)
  have ht:(t.1.take k).length=k:=by rw [List.length_take]; omega
  rw [ht] at hc
  have q:=GB hN t J k hk (hs _ (List.getElem_mem hk)) (km (t.1.take k) 0) (by omega) (km (t.1.take k) 0)
  have es:km (t.1.take (k+1)) 0=km (t.1.take k) 0++jo k t.1[k].2.length:=by
   rw [List.take_add_one,List.getElem?_eq_getElem hk]
   show km (t.1.take k++[t.1[k]]) 0=_
   rw [vv,ht,Nat.zero_add]
  simp only [lH,List.length_map,Int.toNat_natCast,aZ hk,aK hk,a2,q,← es,dj,dm,dh,di,gY,gZ,bW (show k < 9223372036854775807 by omega),Bool.and_self,Bool.and_true,cond_true,Option.bind_some,eq_self,decide_true]) (by
  simp only [lH,List.length_map,bP,List.take_length,dj,dm,dh,di,gY,gZ,Bool.and_self,Bool.and_true,cond_true,cond_false,Option.bind_some,eq_self,decide_true]
  rfl) N 0 (Nat.zero_le _) (by unfold hZ at hN; omega)
 exact key
theorem vw (t:oo) (h1:t.1.length≤1000) (hs:∀ x∈t.1,x.2.length≤1000) (h2:t.2.length≤100000) (ho:∀ s∈t.2,MP t s=true):MA N t=some (eV t):=by
 have q1:=I7 hN t (by omega) ho
 have q2:=GC hN t (eI t) h1 hs
 have hl:(e9 t).length≤1000000:=by
  have:=rF t.1 0 hs
  unfold e9
  omega
 have hp:(eI t).length≤1000000:=by
  have:=xh t t.2
  unfold eI
  omega
 have nl:=Aw (e9 t)
 have q3:=I0 hN (e9 t) (e9 t) (eI t) t.1 t.2 (e9 t) hl
 have fe:∀ m:List ((Int × Int) × Int),(eI t).foldl (fun s p=>jj s ((p.1,p.2.1),(p.2.2.1,p.2.2.2))) m=((eI t).map MR).foldl jj m:=fun m=>by rw [List.foldl_map]; rfl
 have q4:=I1 hN (e9 t) (eI t) (e9 t) (eI t) t.1 t.2 (e9 t) (kj (e9 t)) hp (by omega) (mB _)
 rw [fe] at q4
 have nd:=xf ((eI t).map MR) (kj (e9 t)) (mB _)
 have q5:=MK hN (e9 t) (eI t) (e9 t) (eI t) t.1 t.2 (e9 t) (((eI t).map MR).foldl jj (kj (e9 t))) hl
 have q6:=Df (N:=N) (e9 t) (eI t) (e9 t) (eI t) t.1 t.2 (e9 t) (((eI t).map MR).foldl jj (kj (e9 t))) ((e9 t).foldl (vt (((eI t).map MR).foldl jj (kj (e9 t)))) []) nd N (List.range (((eI t).map MR).foldl jj (kj (e9 t))).length) (by rw [List.length_range,Dg]; unfold hZ at hN; omega) List.nodup_range (fun i hi=>List.mem_range.1 hi)
 rw [ol] at q6
 have S3:decide ((0:Nat)=0)=true:=rfl
 rw [MD]
 simp only [MN,MO,PW,PX,List.map_nil,List.length_nil,S3,Bool.and_true,Bool.and_self,cond_true,Option.bind_some,q1,List.length_map,dj,dm,dh,di,gY,gZ,eF,eH,eq_self,decide_true,q2,S1,PY,PZ,S2,Gz,GA,q3,dH,cY,cZ,dI,q4,q5,dU,cB,cC,dV,yC,jm,jn,q6]
 rfl
end
end Go.Proofs.Ytegoimldbgdeiaa
