/- Plain laws: groups that are united. -/
import Derived.Test.YtegoimldbgdeiaaTrwA
import Derived.Test.YtegoimldbgdeiaaAmKL
set_option linter.all false
namespace Go.Proofs.Ytegoimldbgdeiaa
open Go Go.Am
set_option maxRecDepth 100000
section
variable {K:Type} [DecidableEq K]
theorem Ea (v:Int):∀ (m:List (K × Int)) (i:Nat) (hi:i < m.length),(m.map Prod.fst).Nodup→fR m[i].1 v m=m.set i (m[i].1,v)
 | [],i,hi,_=>by cases hi
 | e :: m,0,_,_=>by
  show fR e.1 v (e :: m)=(e.1,v) :: m
  unfold fR
  rw [if_pos rfl]
 | e :: m,i+1,hi,hn=>by
  rw [List.map_cons,List.nodup_cons] at hn
  have oI:i < m.length:=by simpa using hi
  have cM:e.1≠m[i].1:=fun h=>hn.1 (by rw [h]; exact List.mem_map.2 ⟨m[i],List.getElem_mem oI,rfl⟩)
  show fR m[i].1 v (e :: m)=e :: m.set i (m[i].1,v)
  unfold fR
  rw [if_neg (fun h=>cM h.symm),Ea v m i oI hn.2]
def bY (f:Int→Int) (L:List Nat) (m:List (K × Int)):List (K × Int):=m.mapIdx fun i e=>if i∈L then e else (e.1,f e.2)
theorem fk (f:Int→Int) (L:List Nat) (m:List (K × Int)):(bY f L m).length=m.length:=by simp [bY]
theorem C6 (f:Int→Int) (L:List Nat) (m:List (K × Int)):(bY f L m).map Prod.fst=m.map Prod.fst:=by
 apply List.ext_getElem
 ·simp [bY]
 ·intro i h1 h2
  simp only [List.getElem_map,bY,List.getElem_mapIdx]
  split <;> rfl
theorem nW (f:Int→Int) (L:List Nat) (m:List (K × Int)) {i:Nat} (hi:i < m.length) (hL:i∈L):(bY f L m)[i]'(by rw [fk]; exact hi)=m[i]:=by
 simp only [bY,List.getElem_mapIdx,if_pos hL]
theorem ow (f:Int→Int) (m:List (K × Int)):bY f (List.range m.length) m=m:=by
 apply List.ext_getElem
 ·simp [bY]
 ·intro i h1 h2
  simp only [bY,List.getElem_mapIdx,if_pos (List.mem_range.2 h2)]
theorem ox (f:Int→Int) (m:List (K × Int)):bY f [] m=m.map fun e=>(e.1,f e.2):=by
 apply List.ext_getElem
 ·simp [bY]
 ·intro i h1 h2
  simp [bY]
theorem mF (f:Int→Int) (L:List Nat) (m:List (K × Int)) {i:Nat} (hi:i < m.length) (hL:i∈L) (hn:L.Nodup) (hk:(m.map Prod.fst).Nodup):fR m[i].1 (f m[i].2) (bY f L m)=bY f (L.erase i) m:=by
 have oI:i < (bY f L m).length:=by rw [fk]; exact hi
 have e:=Ea (f m[i].2) (bY f L m) i oI (by rw [C6]; exact hk)
 rw [nW f L m hi hL] at e
 rw [e]
 apply List.ext_getElem
 ·simp [bY]
 ·intro j h1 h2
  rw [List.getElem_set]
  by_cases hj:i=j
  ·subst hj
   have:i∉L.erase i:=fun h=>(List.Nodup.mem_erase_iff hn).1 h |>.1 rfl
   simp only [if_pos,bY,List.getElem_mapIdx,if_neg this]
  ·rw [if_neg hj]
   simp only [bY,List.getElem_mapIdx]
   by_cases C7:j∈L
   ·rw [if_pos C7,if_pos ((List.Nodup.mem_erase_iff hn).2 ⟨fun h=>hj h.symm,C7⟩)]
   ·rw [if_neg C7,if_neg fun h=>C7 (List.mem_of_mem_erase h)]
theorem vO (f:Int→Int) (L:List Nat) (m:List (K × Int)) {i:Nat} (hi:i < m.length) (hL:i∈L) (hn:L.Nodup) (hf:f m[i].2=m[i].2):bY f L m=bY f (L.erase i) m:=by
 apply List.ext_getElem
 ·simp [bY]
 ·intro j h1 h2
  simp only [bY,List.getElem_mapIdx]
  by_cases hj:i=j
  ·subst hj
   have:i∉L.erase i:=fun h=>(List.Nodup.mem_erase_iff hn).1 h |>.1 rfl
   rw [if_pos hL,if_neg this,hf]
  ·by_cases C7:j∈L
   ·rw [if_pos C7,if_pos ((List.Nodup.mem_erase_iff hn).2 ⟨fun h=>hj h.symm,C7⟩)]
   ·rw [if_neg C7,if_neg fun h=>C7 (List.mem_of_mem_erase h)]
def kq (l:List K):List (K × Int):=(l.foldl (fun s x=>(fR x s.2 s.1,s.2+1)) (([]:List (K × Int)),(0:Int))).1
def HE (a b:Int):Int:=if b > a then b else a
def N7 (a b:Int):Int:=if b < a then b else a
def C8 (a b g:Int):Int:=if g=HE a b then N7 a b else g
def bK (m:List (K × Int)) (x:K):Int:=(getM x m).getD 0
def jl (m:List (K × Int)) (p:K × K):List (K × Int):=m.map fun e=>(e.1,C8 (bK m p.1) (bK m p.2) e.2)
def vP (m:List (K × Int)) (ns:List (Int × Int)) (x:K):List (Int × Int):=if (getM (bK m x) ns).isSome then ns else fR (bK m x) (ns.length:Int) ns
def tE (l:List K) (ps:List (K × K)):List (K × Int):=
 let m:=ps.foldl jl (kq l)
 let ns:=l.foldl (vP m) []
 m.map fun e=>(e.1,bK ns e.2)
theorem C9 {k:K} {v:Int} {m:List (K × Int)} (h:(m.map Prod.fst).Nodup):((fR k v m).map Prod.fst).Nodup:=by
 rw [rX]
 split
 ·exact h
 ·rename_i hk
  exact List.nodup_append.2 ⟨h,by simp,fun a ha b hb e=>hk (by rw [List.mem_singleton] at hb; subst hb; subst e; exact ha)⟩
theorem mG (l:List K):((kq l).map Prod.fst).Nodup:=by
 have gen:∀ (l:List K) (s:List (K × Int) × Int),(s.1.map Prod.fst).Nodup→(((l.foldl (fun s x=>(fR x s.2 s.1,s.2+1)) s).1).map Prod.fst).Nodup:=by
  intro l
  induction l with
  | nil=>intro s h; exact h
  | cons x l ih=>intro s h; exact ih _ (C9 h)
 exact gen l _ (by simp)
theorem HF (f:Int→Int) (m:List (K × Int)):(m.map fun e=>(e.1,f e.2)).map Prod.fst=m.map Prod.fst:=by
 rw [List.map_map]; rfl
theorem rY (m:List (K × Int)) (p:K × K):(jl m p).map Prod.fst=m.map Prod.fst:=HF _ m
theorem xW (ps:List (K × K)) (m:List (K × Int)) (h:(m.map Prod.fst).Nodup):((ps.foldl jl m).map Prod.fst).Nodup:=by
 induction ps generalizing m with
 | nil=>exact h
 | cons p ps ih=>exact ih _ (by rw [rY]; exact h)
end
abbrev KE:EK:=.st (.cons 0 1 false .int (.cons 1 1 false .int .nil))
theorem sI:gi .int (fun k:Int=>AV.int .i64 k) n3 aj:=⟨fun a b=>D9 .i64 a b,fun _=>rfl,fun _=>rfl⟩
theorem Da:gi KE (fun k:Int × Int=>AV.agg [AV.int .i64 k.1,AV.int .i64 k.2]) n3 ao:=⟨fun a b=>J8 a b,fun _=>rfl,fun _=>rfl⟩
theorem lJ (a:Int) (m:List (Int × Int)):cq .int (AV.int .i64 a) (ab (List.map aj m))=true:=sI.keys a m
theorem nX (a:Int) (m:List (Int × Int)):aK .int (AV.int .i64 a) (AV.int .i64 0) (ab (List.map aj m))=n3 (bK m a):=sI.getD a 0 m
theorem Eb (a:Int) (m:List (Int × Int)):(eg .int (AV.int .i64 a) (ab (List.map aj m))).isSome=(getM a m).isSome:=by
 rw [sI.get a m]; cases getM a m <;> rfl
theorem A9 (a v:Int) (m:List (Int × Int)):cr .int (AV.int .i64 a) (AV.int .i64 v) (ab (List.map aj m))=ab (List.map aj (fR a v m)):=sI.put a v m
theorem dZ (m:List (Int × Int)):af (ab (List.map aj m))=List.map aj m:=sI.cells m
theorem ea (m:List (Int × Int)):aM (ab (List.map aj m))=true:=sI.aM m
theorem sJ (m:List (Int × Int)):(ab (List.map aj m)).length=m.length:=by rw [sI.Qg,List.length_map]
theorem LB (m:List (Int × Int)) {i:Nat} (h:i < m.length):bL (ab (List.map aj m)) i=(n3 m[i].1,n3 m[i].2):=by
 rw [sI.Qg,A8 _ m h]; rfl
theorem Fz (a b:Int) (m:List ((Int × Int) × Int)):cq KE (AV.agg [AV.int .i64 a,AV.int .i64 b]) (ab (List.map ao m))=true:=Da.keys (a,b) m
theorem J9 (a b:Int) (m:List ((Int × Int) × Int)):aK KE (AV.agg [AV.int .i64 a,AV.int .i64 b]) (AV.int .i64 0) (ab (List.map ao m))=n3 (bK m (a,b)):=Da.getD (a,b) 0 m
theorem N8 (a b v:Int) (m:List ((Int × Int) × Int)):cr KE (AV.agg [AV.int .i64 a,AV.int .i64 b]) (AV.int .i64 v) (ab (List.map ao m))=ab (List.map ao (fR (a,b) v m)):=Da.put (a,b) v m
theorem dO (m:List ((Int × Int) × Int)):af (ab (List.map ao m))=List.map ao m:=Da.cells m
theorem dP (m:List ((Int × Int) × Int)):aM (ab (List.map ao m))=true:=Da.aM m
theorem zr (m:List ((Int × Int) × Int)):(ab (List.map ao m)).length=m.length:=by rw [Da.Qg,List.length_map]
theorem N9 (m:List ((Int × Int) × Int)) {i:Nat} (h:i < m.length):bL (ab (List.map ao m)) i=(aJ m[i].1,n3 m[i].2):=by
 rw [Da.Qg,A8 _ m h]; rfl
theorem gu (L:List Nat):aq (List.map n2 (gr L))=L:=by
 unfold aq gr
 rw [List.map_map,List.map_map]
 conv=>rhs; rw [← List.map_id L]
 apply List.map_congr_left
 intro n _
 show ((n:Int)).toNat=n
 exact Int.toNat_natCast n
theorem Sb (L:List Nat):aV L=List.map n2 (gr L):=by
 unfold aV gr
 rw [List.map_map]; rfl
theorem jr (L:List Nat):allFit (ah.fits p2) (aV L)=true:=by rw [Sb,s9]
theorem js (L:List Nat):List.map d2 (aV L)=gr L:=by rw [Sb,ta]
theorem Ka (l:List Int) {k:Nat} (hk:k < l.length):d3 (ai (List.map n3 l) k)=l[k]∧ah.fits p3 (ai (List.map n3 l) k)=true:=by
 rw [eF n3 l k hk,C1,C0]; exact ⟨rfl,rfl⟩
theorem Sc (l:List (Int × Int)) {k:Nat} (hk:k < l.length):d23 (ai (List.map dN l) k)=l[k]∧ah.fits nU (ai (List.map dN l) k)=true:=by
 rw [eF dN l k hk,U6,U5]; exact ⟨rfl,rfl⟩
theorem Kb (l:List (Int × Int)) {k:Nat} (hk:k < l.length):d67 (ai (List.map aJ l) k)=l[k]∧ah.fits dB (ai (List.map aJ l) k)=true:=by
 rw [eF aJ l k hk,Hw,Hv]; exact ⟨rfl,rfl⟩
theorem LC (l:List (Int × Int × Int × Int)) {k:Nat} (hk:k < l.length):d174 (ai (List.map n174 l) k)=l[k]∧ah.fits dM (ai (List.map n174 l) k)=true:=by
 rw [eF n174 l k hk,RS,RR]; exact ⟨rfl,rfl⟩
theorem vQ (l:List (Int × Int × Int × Int × Bool)) {k:Nat} (hk:k < l.length):d110 (ai (List.map n110 l) k)=l[k]∧ah.fits bA (ai (List.map n110 l) k)=true:=by
 rw [eF n110 l k hk,RM,RL]; exact ⟨rfl,rfl⟩
theorem qM (l:List ((List UInt8) × (List (Int × Int)))) {k:Nat} (hk:k < l.length):d131 (ai (List.map n131 l) k)=l[k]∧ah.fits bp (ai (List.map n131 l) k)=true:=by
 rw [eF n131 l k hk,RQ,RN]; exact ⟨rfl,rfl⟩
end Go.Proofs.Ytegoimldbgdeiaa
namespace Go.Proofs.Ytegoimldbgdeiaa
open Go Go.Am
set_option maxRecDepth 100000
theorem Kc {N:Nat} (hN:fA N) (l:List Int) (ps:List (Int × Int)) (x1:List Int) (hl:l.length≤1000000):aF (lH N l) N (x1,l,0,ps,([]:List (Int × Int)))=some (x1,l,ps,kq l):=by
 have key:=dc (rd:=lH N l) l (fun (s:List (Int × Int) × Int) k=>(x1,l,(k:Int),ps,s.1)) (fun s x=>(fR x s.2 s.1,s.2+1)) (fun s=>(x1,l,ps,s.1)) (fun s k=>s.2=(k:Int)) (fun s k hk hP=>by
  obtain ⟨a1,a2⟩:=Ka l hk
  refine ⟨?_,by show s.2+1=_; rw [hP]; rfl⟩
  rw [hP]
  simp only [lH,List.length_map,Int.toNat_natCast,aB hk,ar hk,a1,a2,lJ,A9,a6 (show k < 9223372036854775807 by omega),dZ,ea,dO,dP,s9,ta,jo,jq,gO,gP,fE,fF,ca,cb,bW,bX,eH,eI,cI,cJ,jr,js,Bool.and_self,Bool.and_true,cond_true,cond_false,Option.bind_some,eq_self,decide_true]) (fun s _=>by
  simp only [lH,List.length_map,aQ,dZ,ea,dO,dP,s9,ta,jo,jq,gO,gP,fE,fF,ca,cb,bW,bX,eH,eI,cI,cJ,jr,js,Bool.and_self,Bool.and_true,cond_true,cond_false,Option.bind_some,eq_self,decide_true]) N ([],0) 0 (Nat.zero_le _) (by unfold fA at hN; omega) rfl
 rw [List.drop_zero] at key
 exact key
theorem HG {N:Nat} (l:List Int) (ps:List (Int × Int)) (x1:List Int) (k:Nat) (hk:k < ps.length) (m:List (Int × Int)) (hn:(m.map Prod.fst).Nodup):∀ (n:Nat) (L:List Nat),L.length < n→L.Nodup→(∀ i∈L,i < m.length) →
  dQ (jF N (x1,l,(k:Int),ps,m)) n (x1,l,ps,(bY (C8 (bK m ps[k].1) (bK m ps[k].2)) L m),(m.length:Int),(gr L))=some (x1,l,ps,(m.map fun e=>(e.1,C8 (bK m ps[k].1) (bK m ps[k].2) e.2)),(m.length:Int),[])
 | 0,L,h,_,_=>by omega
 | n+1,L,h,hL,hi=>by
  rw [kp]
  obtain ⟨a1,a2⟩:=Sc ps hk
  have ih:=fun L'=>HG (N:=N) l ps x1 k hk m hn n L'
  generalize hf:C8 (bK m ps[k].1) (bK m ps[k].2)=f at *
  have Fk:=fk f L m
  have ec:decide ((bY f L m).length=m.length)=true:=decide_eq_true Fk
  cases xX:L with
  | nil=>
   have i0:List.isEmpty ([]:List Nat)=true:=rfl
   have e0:(bY f [] m).length=m.length:=fk f [] m
   simp only [jF,sJ,e0,Int.toNat_natCast,gu,i0,ox,List.length_map,dZ,ea,dO,dP,s9,ta,jo,jq,gO,gP,fE,fF,ca,cb,bW,bX,eH,eI,cI,cJ,jr,js,Bool.and_self,Bool.and_true,cond_true,cond_false,Option.bind_some,eq_self,decide_true]
   rfl
  | cons a L'=>
   rw [← xX]
   have i0:List.isEmpty L=false:=by rw [xX]; rfl
   simp only [jF,sJ,Int.toNat_natCast,ec,cond_true,cond_false,gu,i0]
   refine qC (by rw [xX]; simp) fun i fD=>?_
   have bT:=hi i fD
   have yG:i < (bY f L m).length:=by rw [Fk]; exact bT
   have n7:(L.erase i).length=L.length - 1:=List.length_erase_of_mem fD
   have mh:0 < L.length:=List.length_pos_of_mem fD
   have dl:decide (i < m.length)=true:=decide_eq_true bT
   have Kd:=ih (L.erase i) (by omega) (hL.erase i) (fun j hj=>hi j (List.mem_of_mem_erase hj))
   have Oa:=nW f L m bT fD
   have z0:0+k=k:=Nat.zero_add k
   rw [LB _ yG,Oa]
   have Y8:d3 (n3 m[i].2)=m[i].2:=C1 _
   simp only [C0,C1,C0,C1,Bool.and_self,cond_true,dl,ec,z0,a1,lJ,nX]
   have dF:f m[i].2=if m[i].2=HE (bK m ps[k].1) (bK m ps[k].2) then N7 (bK m ps[k].1) (bK m ps[k].2) else m[i].2:=by rw [← hf]; rfl
   by_cases hg:m[i].2=HE (bK m ps[k].1) (bK m ps[k].2)
   ·rw [if_pos hg] at dF
    have hb:(m[i].2 == (if bK m ps[k].2 > bK m ps[k].1 then bK m ps[k].2 else bK m ps[k].1))=true:=by rw [hg]; exact beq_self_eq_true _
    have st:=mF f L m bT fD hL hn
    rw [dF] at st
    have st:fR m[i].1 (if bK m ps[k].2 < bK m ps[k].1 then bK m ps[k].2 else bK m ps[k].1) (bY f L m)=bY f (L.erase i) m:=st
    simp only [hb,A9,st,dZ,ea,dO,dP,s9,ta,jo,jq,gO,gP,fE,fF,ca,cb,bW,bX,eH,eI,cI,cJ,jr,js,Bool.and_self,Bool.and_true,cond_true,cond_false,Option.bind_some,eq_self,decide_true]
    exact Kd
   ·rw [if_neg hg] at dF
    have hb:(m[i].2 == (if bK m ps[k].2 > bK m ps[k].1 then bK m ps[k].2 else bK m ps[k].1))=false:=beq_false_of_ne hg
    have st:=vO f L m bT fD hL dF
    simp only [hb,dZ,ea,dO,dP,s9,ta,jo,jq,gO,gP,fE,fF,ca,cb,bW,bX,eH,eI,cI,cJ,jr,js,Bool.and_self,Bool.and_true,cond_true,cond_false,Option.bind_some,eq_self,decide_true]
    rw [st]
    exact Kd
theorem Ke {N:Nat} (hN:fA N) (l:List Int) (ps:List (Int × Int)) (x1:List Int) (m:List (Int × Int)) (hl:ps.length≤1000000) (hm:m.length≤1000000) (hn:(m.map Prod.fst).Nodup):aF (km N ((),ps)) N (x1,l,0,ps,m)=some (x1,l,ps,(ps.foldl jl m)):=by
 have key:=dc (rd:=km N ((),ps)) ps (fun (s:List (Int × Int)) k=>(x1,l,(k:Int),ps,s)) (fun s p=>jl s p) (fun s=>(x1,l,ps,s)) (fun s k=>(s.map Prod.fst).Nodup∧s.length≤1000000) (fun s k hk hP=>by
  obtain ⟨a1,a2⟩:=Sc ps hk
  have z0:0+k=k:=Nat.zero_add k
  have q:=HG (N:=N) l ps x1 k hk s hP.1 N (List.range s.length) (by rw [List.length_range]; unfold fA at hN; omega) List.nodup_range (fun i hi=>List.mem_range.1 hi)
  rw [ow] at q
  refine ⟨?_,by rw [rY]; exact hP.1,by unfold jl; rw [List.length_map]; exact hP.2⟩
  have dz:decide (ps.length=ps.length)=true:=decide_eq_true rfl
  have dk:decide (k < ps.length)=true:=decide_eq_true hk
  simp only [km,List.length_map,Int.toNat_natCast,aB hk,ar hk,z0,a1,a2,dz,dk,lJ,nX,C0,sJ,q,a6 (show k < 9223372036854775807 by omega),dZ,ea,dO,dP,s9,ta,jo,jq,gO,gP,fE,fF,ca,cb,bW,bX,eH,eI,cI,cJ,jr,js,Bool.and_self,Bool.and_true,cond_true,cond_false,Option.bind_some,eq_self,decide_true]
  rfl) (fun s _=>by
  simp only [km,List.length_map,aQ,dZ,ea,dO,dP,s9,ta,jo,jq,gO,gP,fE,fF,ca,cb,bW,bX,eH,eI,cI,cJ,jr,js,Bool.and_self,Bool.and_true,cond_true,cond_false,Option.bind_some,eq_self,decide_true]) N m 0 (Nat.zero_le _) (by unfold fA at hN; omega) ⟨hn,hm⟩
 rw [List.drop_zero] at key
 exact key
theorem Ob {N:Nat} (hN:fA N) (l:List Int) (ps:List (Int × Int)) (x1:List Int) (m:List (Int × Int)) (hl:l.length≤1000000):aF (iw N (l,l,ps,m)) N (x1,l,l,0,ps,m,[])=some (x1,l,l,ps,m,(l.foldl (vP m) [])):=by
 have key:=dc (rd:=iw N (l,l,ps,m)) l (fun (s:List (Int × Int)) k=>(x1,l,l,(k:Int),ps,m,s)) (vP m) (fun s=>(x1,l,l,ps,m,s)) (fun s k=>True) (fun s k hk hP=>by
  obtain ⟨a1,a2⟩:=Ka l hk
  refine ⟨?_,trivial⟩
  have e:vP m s l[k]=if (getM (bK m l[k]) s).isSome then s else fR (bK m l[k]) (s.length:Int) s:=rfl
  rw [e]
  cases hs:(getM (bK m l[k]) s).isSome with
  | true=>
   simp only [iw,List.length_map,Int.toNat_natCast,aB hk,ar hk,a1,a2,lJ,nX,lJ,nX,C0,C1,Eb,hs,Bool.not_true,if_true,a6 (show k < 9223372036854775807 by omega),dZ,ea,dO,dP,s9,ta,jo,jq,gO,gP,fE,fF,ca,cb,bW,bX,eH,eI,cI,cJ,jr,js,Bool.and_self,Bool.and_true,cond_true,cond_false,Option.bind_some,eq_self,decide_true]
  | false=>
   simp only [iw,List.length_map,Int.toNat_natCast,aB hk,ar hk,a1,a2,lJ,nX,lJ,nX,A9,sJ,C0,C1,Eb,hs,Bool.not_false,Bool.false_eq_true,if_false,a6 (show k < 9223372036854775807 by omega),dZ,ea,dO,dP,s9,ta,jo,jq,gO,gP,fE,fF,ca,cb,bW,bX,eH,eI,cI,cJ,jr,js,Bool.and_self,Bool.and_true,cond_true,cond_false,Option.bind_some,eq_self,decide_true]) (fun s _=>by
  simp only [iw,List.length_map,aQ,dZ,ea,dO,dP,s9,ta,jo,jq,gO,gP,fE,fF,ca,cb,bW,bX,eH,eI,cI,cJ,jr,js,Bool.and_self,Bool.and_true,cond_true,cond_false,Option.bind_some,eq_self,decide_true]) N [] 0 (Nat.zero_le _) (by unfold fA at hN; omega) trivial
 rw [List.drop_zero] at key
 exact key
theorem Ec {N:Nat} (l:List Int) (ps:List (Int × Int)) (x1:List Int) (m:List (Int × Int)) (ns:List (Int × Int)) (hn:(m.map Prod.fst).Nodup):∀ (n:Nat) (L:List Nat),L.length < n→L.Nodup→(∀ i∈L,i < m.length) →
  dQ (kP N) n (x1,l,l,ps,(bY (bK ns) L m),ns,(m.length:Int),(gr L))=some (x1,l,l,ps,(m.map fun e=>(e.1,bK ns e.2)),ns,(m.length:Int),[])
 | 0,L,h,_,_=>by omega
 | n+1,L,h,hL,hi=>by
  rw [kp]
  have ih:=fun L'=>Ec (N:=N) l ps x1 m ns hn n L'
  generalize hf:bK ns=f at *
  have Fk:=fk f L m
  have ec:decide ((bY f L m).length=m.length)=true:=decide_eq_true Fk
  cases xX:L with
  | nil=>
   have i0:List.isEmpty ([]:List Nat)=true:=rfl
   have e0:(bY f [] m).length=m.length:=fk f [] m
   simp only [kP,sJ,e0,Int.toNat_natCast,gu,i0,ox,List.length_map,dZ,ea,dO,dP,s9,ta,jo,jq,gO,gP,fE,fF,ca,cb,bW,bX,eH,eI,cI,cJ,jr,js,Bool.and_self,Bool.and_true,cond_true,cond_false,Option.bind_some,eq_self,decide_true]
   rfl
  | cons a L'=>
   rw [← xX]
   have i0:List.isEmpty L=false:=by rw [xX]; rfl
   simp only [kP,sJ,Int.toNat_natCast,ec,cond_true,cond_false,gu,i0]
   refine qC (by rw [xX]; simp) fun i fD=>?_
   have bT:=hi i fD
   have yG:i < (bY f L m).length:=by rw [Fk]; exact bT
   have n7:(L.erase i).length=L.length - 1:=List.length_erase_of_mem fD
   have mh:0 < L.length:=List.length_pos_of_mem fD
   have dl:decide (i < m.length)=true:=decide_eq_true bT
   have Kd:=ih (L.erase i) (by omega) (hL.erase i) (fun j hj=>hi j (List.mem_of_mem_erase hj))
   have Oa:=nW f L m bT fD
   rw [LB _ yG,Oa]
   have st:=mF f L m bT fD hL hn
   have ev:bK ns m[i].2=f m[i].2:=by rw [hf]
   have st:fR m[i].1 (f m[i].2) (bY f L m)=bY f (L.erase i) m:=st
   simp only [C0,C1,C0,C1,Bool.and_self,cond_true,dl,ec,lJ,nX,lJ,A9,ev,st,dZ,ea,dO,dP,s9,ta,jo,jq,gO,gP,fE,fF,ca,cb,bW,bX,eH,eI,cI,cJ,jr,js,Bool.and_self,Bool.and_true,cond_true,cond_false,Option.bind_some,eq_self,decide_true]
   exact Kd
end Go.Proofs.Ytegoimldbgdeiaa
namespace Go.Proofs.Ytegoimldbgdeiaa
open Go Go.Am
set_option maxRecDepth 100000
theorem Kf {N:Nat} (hN:fA N) (l:List (Int × Int)) (x1:List (Int × Int)) (J:List (Int × Int × Int × Int)) (P:List ((List UInt8) × (List (Int × Int)))) (S:List (Int × Int × Int × Int × Bool)) (E:List (Int × Int)) (hl:l.length≤1000000):aF (kn N (P,S,l)) N (x1,J,l,0,P,S,E,([]:List ((Int × Int) × Int)))=some (x1,J,l,P,S,E,kq l):=by
 have key:=dc (rd:=kn N (P,S,l)) l (fun (s:List ((Int × Int) × Int) × Int) k=>(x1,J,l,(k:Int),P,S,E,s.1)) (fun s x=>(fR x s.2 s.1,s.2+1)) (fun s=>(x1,J,l,P,S,E,s.1)) (fun s k=>s.2=(k:Int)) (fun s k hk hP=>by
  obtain ⟨a1,a2⟩:=Kb l hk
  refine ⟨?_,by show s.2+1=_; rw [hP]; rfl⟩
  rw [hP]
  simp only [kn,List.length_map,Int.toNat_natCast,aB hk,ar hk,a1,a2,Fz,N8,a6 (show k < 9223372036854775807 by omega),dZ,ea,dO,dP,s9,ta,jo,jq,gO,gP,fE,fF,ca,cb,bW,bX,eH,eI,du,dv,cI,cJ,jr,js,Bool.and_self,Bool.and_true,cond_true,cond_false,Option.bind_some,eq_self,decide_true]) (fun s _=>by
  simp only [kn,List.length_map,aQ,dZ,ea,dO,dP,s9,ta,jo,jq,gO,gP,fE,fF,ca,cb,bW,bX,eH,eI,du,dv,cI,cJ,jr,js,Bool.and_self,Bool.and_true,cond_true,cond_false,Option.bind_some,eq_self,decide_true]) N ([],0) 0 (Nat.zero_le _) (by unfold fA at hN; omega) rfl
 rw [List.drop_zero] at key
 exact key
theorem HH {N:Nat} (l:List (Int × Int)) (ps:List (Int × Int × Int × Int)) (x1:List (Int × Int)) (J:List (Int × Int × Int × Int)) (P:List ((List UInt8) × (List (Int × Int)))) (S:List (Int × Int × Int × Int × Bool)) (E:List (Int × Int)) (k:Nat) (hk:k < ps.length) (m:List ((Int × Int) × Int)) (hn:(m.map Prod.fst).Nodup):∀ (n:Nat) (L:List Nat),L.length < n→L.Nodup→(∀ i∈L,i < m.length) →
  dQ (iC N (x1,J,l,ps,(k:Int),P,S,E,m)) n (x1,J,l,ps,P,S,E,(bY (C8 (bK m (ps[k].1,ps[k].2.1)) (bK m (ps[k].2.2.1,ps[k].2.2.2))) L m),(m.length:Int),(gr L))=some (x1,J,l,ps,P,S,E,(m.map fun e=>(e.1,C8 (bK m (ps[k].1,ps[k].2.1)) (bK m (ps[k].2.2.1,ps[k].2.2.2)) e.2)),(m.length:Int),[])
 | 0,L,h,_,_=>by omega
 | n+1,L,h,hL,hi=>by
  rw [kp]
  obtain ⟨a1,a2⟩:=LC ps hk
  have ih:=fun L'=>HH (N:=N) l ps x1 J P S E k hk m hn n L'
  generalize hf:C8 (bK m (ps[k].1,ps[k].2.1)) (bK m (ps[k].2.2.1,ps[k].2.2.2))=f at *
  have Fk:=fk f L m
  have ec:decide ((bY f L m).length=m.length)=true:=decide_eq_true Fk
  cases xX:L with
  | nil=>
   have i0:List.isEmpty ([]:List Nat)=true:=rfl
   have e0:(bY f [] m).length=m.length:=fk f [] m
   simp only [iC,zr,e0,Int.toNat_natCast,gu,i0,ox,List.length_map,dZ,ea,dO,dP,s9,ta,jo,jq,gO,gP,fE,fF,ca,cb,bW,bX,eH,eI,du,dv,cI,cJ,jr,js,Bool.and_self,Bool.and_true,cond_true,cond_false,Option.bind_some,eq_self,decide_true]
   rfl
  | cons a L'=>
   rw [← xX]
   have i0:List.isEmpty L=false:=by rw [xX]; rfl
   simp only [iC,zr,Int.toNat_natCast,ec,cond_true,cond_false,gu,i0]
   refine qC (by rw [xX]; simp) fun i fD=>?_
   have bT:=hi i fD
   have yG:i < (bY f L m).length:=by rw [Fk]; exact bT
   have n7:(L.erase i).length=L.length - 1:=List.length_erase_of_mem fD
   have mh:0 < L.length:=List.length_pos_of_mem fD
   have dl:decide (i < m.length)=true:=decide_eq_true bT
   have Kd:=ih (L.erase i) (by omega) (hL.erase i) (fun j hj=>hi j (List.mem_of_mem_erase hj))
   have Oa:=nW f L m bT fD
   have z0:0+k=k:=Nat.zero_add k
   rw [N9 _ yG,Oa]
   have Y9:d3 (n3 m[i].2)=m[i].2:=C1 _
   simp only [Hv,Hw,C0,C1,Bool.and_self,cond_true,dl,ec,z0,a1,Fz,J9]
   have dF:f m[i].2=if m[i].2=HE (bK m (ps[k].1,ps[k].2.1)) (bK m (ps[k].2.2.1,ps[k].2.2.2)) then N7 (bK m (ps[k].1,ps[k].2.1)) (bK m (ps[k].2.2.1,ps[k].2.2.2)) else m[i].2:=by rw [← hf]; rfl
   by_cases hg:m[i].2=HE (bK m (ps[k].1,ps[k].2.1)) (bK m (ps[k].2.2.1,ps[k].2.2.2))
   ·rw [if_pos hg] at dF
    have hb:(m[i].2 == (if bK m (ps[k].2.2.1,ps[k].2.2.2) > bK m (ps[k].1,ps[k].2.1) then bK m (ps[k].2.2.1,ps[k].2.2.2) else bK m (ps[k].1,ps[k].2.1)))=true:=by rw [hg]; exact beq_self_eq_true _
    have st:=mF f L m bT fD hL hn
    rw [dF] at st
    have st:fR (m[i].1.1,m[i].1.2) (if bK m (ps[k].2.2.1,ps[k].2.2.2) < bK m (ps[k].1,ps[k].2.1) then bK m (ps[k].2.2.1,ps[k].2.2.2) else bK m (ps[k].1,ps[k].2.1)) (bY f L m)=bY f (L.erase i) m:=st
    simp only [hb,N8,st,dZ,ea,dO,dP,s9,ta,jo,jq,gO,gP,fE,fF,ca,cb,bW,bX,eH,eI,du,dv,cI,cJ,jr,js,Bool.and_self,Bool.and_true,cond_true,cond_false,Option.bind_some,eq_self,decide_true]
    exact Kd
   ·rw [if_neg hg] at dF
    have hb:(m[i].2 == (if bK m (ps[k].2.2.1,ps[k].2.2.2) > bK m (ps[k].1,ps[k].2.1) then bK m (ps[k].2.2.1,ps[k].2.2.2) else bK m (ps[k].1,ps[k].2.1)))=false:=beq_false_of_ne hg
    have st:=vO f L m bT fD hL dF
    simp only [hb,dZ,ea,dO,dP,s9,ta,jo,jq,gO,gP,fE,fF,ca,cb,bW,bX,eH,eI,du,dv,cI,cJ,jr,js,Bool.and_self,Bool.and_true,cond_true,cond_false,Option.bind_some,eq_self,decide_true]
    rw [st]
    exact Kd
theorem Kg {N:Nat} (hN:fA N) (l:List (Int × Int)) (ps:List (Int × Int × Int × Int)) (x1:List (Int × Int)) (J:List (Int × Int × Int × Int)) (P:List ((List UInt8) × (List (Int × Int)))) (S:List (Int × Int × Int × Int × Bool)) (E:List (Int × Int)) (m:List ((Int × Int) × Int)) (hl:ps.length≤1000000) (hm:m.length≤1000000) (hn:(m.map Prod.fst).Nodup):aF (iP N (x1,ps,l,P,S,E,m)) N (x1,J,l,ps,0,P,S,E,m)=some (x1,J,l,ps,P,S,E,(ps.foldl (fun s p=>jl s ((p.1,p.2.1),(p.2.2.1,p.2.2.2))) m)):=by
 have key:=dc (rd:=iP N (x1,ps,l,P,S,E,m)) ps (fun (s:List ((Int × Int) × Int)) k=>(x1,J,l,ps,(k:Int),P,S,E,s)) (fun s p=>jl s ((p.1,p.2.1),(p.2.2.1,p.2.2.2))) (fun s=>(x1,J,l,ps,P,S,E,s)) (fun s k=>(s.map Prod.fst).Nodup∧s.length≤1000000) (fun s k hk hP=>by
  obtain ⟨a1,a2⟩:=LC ps hk
  have z0:0+k=k:=Nat.zero_add k
  have q:=HH (N:=N) l ps x1 J P S E k hk s hP.1 N (List.range s.length) (by rw [List.length_range]; unfold fA at hN; omega) List.nodup_range (fun i hi=>List.mem_range.1 hi)
  rw [ow] at q
  refine ⟨?_,by rw [rY]; exact hP.1,by unfold jl; rw [List.length_map]; exact hP.2⟩
  have dz:decide (ps.length=ps.length)=true:=decide_eq_true rfl
  have dk:decide (k < ps.length)=true:=decide_eq_true hk
  simp only [iP,List.length_map,Int.toNat_natCast,aB hk,ar hk,z0,a1,a2,dz,dk,Fz,J9,C0,zr,q,a6 (show k < 9223372036854775807 by omega),dZ,ea,dO,dP,s9,ta,jo,jq,gO,gP,fE,fF,ca,cb,bW,bX,eH,eI,du,dv,cI,cJ,jr,js,Bool.and_self,Bool.and_true,cond_true,cond_false,Option.bind_some,eq_self,decide_true]
  rfl) (fun s _=>by
  simp only [iP,List.length_map,aQ,dZ,ea,dO,dP,s9,ta,jo,jq,gO,gP,fE,fF,ca,cb,bW,bX,eH,eI,du,dv,cI,cJ,jr,js,Bool.and_self,Bool.and_true,cond_true,cond_false,Option.bind_some,eq_self,decide_true]) N m 0 (Nat.zero_le _) (by unfold fA at hN; omega) ⟨hn,hm⟩
 rw [List.drop_zero] at key
 exact key
theorem Oc {N:Nat} (hN:fA N) (l:List (Int × Int)) (ps:List (Int × Int × Int × Int)) (x1:List (Int × Int)) (J:List (Int × Int × Int × Int)) (P:List ((List UInt8) × (List (Int × Int)))) (S:List (Int × Int × Int × Int × Bool)) (E:List (Int × Int)) (m:List ((Int × Int) × Int)) (hl:l.length≤1000000):aF (gL N (l,J,l,ps,P,S,E,m)) N (x1,J,l,ps,l,0,P,S,E,m,[])=some (x1,J,l,ps,l,P,S,E,m,(l.foldl (vP m) [])):=by
 have key:=dc (rd:=gL N (l,J,l,ps,P,S,E,m)) l (fun (s:List (Int × Int)) k=>(x1,J,l,ps,l,(k:Int),P,S,E,m,s)) (vP m) (fun s=>(x1,J,l,ps,l,P,S,E,m,s)) (fun s k=>True) (fun s k hk hP=>by
  obtain ⟨a1,a2⟩:=Kb l hk
  refine ⟨?_,trivial⟩
  have e:vP m s l[k]=if (getM (bK m l[k]) s).isSome then s else fR (bK m l[k]) (s.length:Int) s:=rfl
  rw [e]
  cases hs:(getM (bK m l[k]) s).isSome with
  | true=>
   simp only [gL,List.length_map,Int.toNat_natCast,aB hk,ar hk,a1,a2,Fz,J9,lJ,nX,C0,C1,Eb,hs,Bool.not_true,if_true,a6 (show k < 9223372036854775807 by omega),dZ,ea,dO,dP,s9,ta,jo,jq,gO,gP,fE,fF,ca,cb,bW,bX,eH,eI,du,dv,cI,cJ,jr,js,Bool.and_self,Bool.and_true,cond_true,cond_false,Option.bind_some,eq_self,decide_true]
  | false=>
   simp only [gL,List.length_map,Int.toNat_natCast,aB hk,ar hk,a1,a2,Fz,J9,lJ,nX,A9,sJ,C0,C1,Eb,hs,Bool.not_false,Bool.false_eq_true,if_false,a6 (show k < 9223372036854775807 by omega),dZ,ea,dO,dP,s9,ta,jo,jq,gO,gP,fE,fF,ca,cb,bW,bX,eH,eI,du,dv,cI,cJ,jr,js,Bool.and_self,Bool.and_true,cond_true,cond_false,Option.bind_some,eq_self,decide_true]) (fun s _=>by
  simp only [gL,List.length_map,aQ,dZ,ea,dO,dP,s9,ta,jo,jq,gO,gP,fE,fF,ca,cb,bW,bX,eH,eI,du,dv,cI,cJ,jr,js,Bool.and_self,Bool.and_true,cond_true,cond_false,Option.bind_some,eq_self,decide_true]) N [] 0 (Nat.zero_le _) (by unfold fA at hN; omega) trivial
 rw [List.drop_zero] at key
 exact key
theorem Ed {N:Nat} (l:List (Int × Int)) (ps:List (Int × Int × Int × Int)) (x1:List (Int × Int)) (J:List (Int × Int × Int × Int)) (P:List ((List UInt8) × (List (Int × Int)))) (S:List (Int × Int × Int × Int × Bool)) (E:List (Int × Int)) (m:List ((Int × Int) × Int)) (ns:List (Int × Int)) (hn:(m.map Prod.fst).Nodup):∀ (n:Nat) (L:List Nat),L.length < n→L.Nodup→(∀ i∈L,i < m.length) →
  dQ (jG N) n (x1,J,l,ps,l,P,S,E,(bY (bK ns) L m),ns,(m.length:Int),(gr L))=some (x1,J,l,ps,l,P,S,E,(m.map fun e=>(e.1,bK ns e.2)),ns,(m.length:Int),[])
 | 0,L,h,_,_=>by omega
 | n+1,L,h,hL,hi=>by
  rw [kp]
  have ih:=fun L'=>Ed (N:=N) l ps x1 J P S E m ns hn n L'
  generalize hf:bK ns=f at *
  have Fk:=fk f L m
  have ec:decide ((bY f L m).length=m.length)=true:=decide_eq_true Fk
  cases xX:L with
  | nil=>
   have i0:List.isEmpty ([]:List Nat)=true:=rfl
   have e0:(bY f [] m).length=m.length:=fk f [] m
   simp only [jG,zr,e0,Int.toNat_natCast,gu,i0,ox,List.length_map,dZ,ea,dO,dP,s9,ta,jo,jq,gO,gP,fE,fF,ca,cb,bW,bX,eH,eI,du,dv,cI,cJ,jr,js,Bool.and_self,Bool.and_true,cond_true,cond_false,Option.bind_some,eq_self,decide_true]
   rfl
  | cons a L'=>
   rw [← xX]
   have i0:List.isEmpty L=false:=by rw [xX]; rfl
   simp only [jG,zr,Int.toNat_natCast,ec,cond_true,cond_false,gu,i0]
   refine qC (by rw [xX]; simp) fun i fD=>?_
   have bT:=hi i fD
   have yG:i < (bY f L m).length:=by rw [Fk]; exact bT
   have n7:(L.erase i).length=L.length - 1:=List.length_erase_of_mem fD
   have mh:0 < L.length:=List.length_pos_of_mem fD
   have dl:decide (i < m.length)=true:=decide_eq_true bT
   have Kd:=ih (L.erase i) (by omega) (hL.erase i) (fun j hj=>hi j (List.mem_of_mem_erase hj))
   have Oa:=nW f L m bT fD
   rw [N9 _ yG,Oa]
   have st:=mF f L m bT fD hL hn
   have ev:bK ns m[i].2=f m[i].2:=by rw [hf]
   have st:fR (m[i].1.1,m[i].1.2) (f m[i].2) (bY f L m)=bY f (L.erase i) m:=st
   simp only [Hv,Hw,C0,C1,Bool.and_self,cond_true,dl,ec,lJ,nX,Fz,N8,ev,st,dZ,ea,dO,dP,s9,ta,jo,jq,gO,gP,fE,fF,ca,cb,bW,bX,eH,eI,du,dv,cI,cJ,jr,js,Bool.and_self,Bool.and_true,cond_true,cond_false,Option.bind_some,eq_self,decide_true]
   exact Kd
end Go.Proofs.Ytegoimldbgdeiaa
namespace Go.Proofs.Ytegoimldbgdeiaa
open Go Go.Am
set_option maxRecDepth 100000
abbrev wZ:=(List UInt8) × (List (Int × Int))
abbrev td:=Int × Int × Int × Int × Bool
abbrev fS:=List wZ × List td
def bF (n:Nat):List Int:=(List.range n).map fun i:Nat=>(i:Int)
theorem Ba (n:Nat):bF (n+1)=bF n++[(n:Int)]:=by unfold bF; rw [List.range_succ,List.map_append]; rfl
theorem kr (n:Nat):(bF n).length=n:=by simp [bF]
def te (s:td):Int × Int:=(s.1,s.2.2.1)
def dw (t:fS):List Int:=
 let l:=bF t.1.length
 let m:=tE l (t.2.map te)
 l.map (bK m)
theorem LD (l:List Int) (x:Int):List.map n3 l++[AV.int .i64 x]=List.map n3 (l++[x]):=by rw [List.map_append]; rfl
theorem Od (l:List (Int × Int)) (a b:Int):List.map dN l++[AV.agg [AV.int .i64 a,AV.int .i64 b]]=List.map dN (l++[(a,b)]):=by rw [List.map_append]; rfl
theorem HI (l:List (Int × Int)) (a b:Int):List.map aJ l++[AV.agg [AV.int .i64 a,AV.int .i64 b]]=List.map aJ (l++[(a,b)]):=by rw [List.map_append]; rfl
theorem Sd:allFit (ah.fits p3) ([]:List AV)=true:=rfl
theorem Se:List.map d3 ([]:List AV)=[]:=rfl
theorem HJ:allFit (ah.fits dB) ([]:List AV)=true:=rfl
theorem HK:List.map d67 ([]:List AV)=[]:=rfl
theorem Oe:allFit (ah.fits dM) ([]:List AV)=true:=rfl
theorem Of:List.map d174 ([]:List AV)=[]:=rfl
theorem Vp:af ([]:List (AV × AV))=[]:=rfl
theorem Vq:aM ([]:List (AV × AV))=true:=rfl
theorem HL:allFit (ah.fits cg) ([]:List AV)=true:=rfl
theorem HM:List.map cw ([]:List AV)=[]:=rfl
theorem Sf:allFit (ah.fits cN) ([]:List AV)=true:=rfl
theorem Sg:List.map cW ([]:List AV)=[]:=rfl
theorem Bb {K:Type} [DecidableEq K] (l:List K):(kq l).length≤l.length:=by
 have gen:∀ (l:List K) (s:List (K × Int) × Int),((l.foldl (fun s x=>(fR x s.2 s.1,s.2+1)) s).1).length≤s.1.length+l.length:=by
  intro l
  induction l with
  | nil=>intro s; exact Nat.le_refl _
  | cons x l ih=>
   intro s
   have h1:=ih (fR x s.2 s.1,s.2+1)
   have h2:(fR x s.2 s.1).length≤s.1.length+1:=by
    have:=congrArg List.length (rX (k:=x) (v:=s.2) (m:=s.1))
    rw [List.length_map] at this
    rw [this]
    split <;> simp
   rw [List.foldl_cons,List.length_cons]
   simp only at h1
   omega
 have:=gen l ([],0)
 unfold kq
 simpa using this
theorem Ee {K:Type} [DecidableEq K] (ps:List (K × K)) (m:List (K × Int)):(ps.foldl jl m).length=m.length:=by
 induction ps generalizing m with
 | nil=>rfl
 | cons p ps ih=>rw [List.foldl_cons,ih]; unfold jl; rw [List.length_map]
theorem Xb:∀ l:List Int,aR (List.map n3 l)=true
 | []=>rfl
 | x :: l=>by
  show ((n3 x).closed&&aR (List.map n3 l))=true
  rw [Xb l]; rfl
section
variable {N:Nat} (hN:fA N)
include hN
theorem Kh (t:fS) (h:t.1.length≤1000000):aF (vM N t) N ([],0)=some (bF t.1.length):=by
 have key:=bu (rd:=vM N t) t.1.length (fun k=>(bF k,(k:Int))) (bF t.1.length) (fun k hk=>by
  have d:decide ((bF k).length=(bF k).length)=true:=decide_eq_true rfl
  have d2:decide ((k+1) * 8≤140737488355328)=true:=decide_eq_true (by omega)
  simp only [vM,List.length_map,aB hk,kr,d2,LD,jo,jq,← Ba,a6 (show k < 9223372036854775807 by omega),Bool.and_self,Bool.and_true,cond_true,Option.bind_some,eq_self,decide_true]) (by
  simp only [vM,List.length_map,aQ,kr,jo,jq,Bool.and_self,Bool.and_true,cond_true,cond_false,Option.bind_some,eq_self,decide_true]) N 0 (Nat.zero_le _) (by unfold fA at hN; omega)
 exact key
theorem Ki (t:fS) (l:List Int) (h:t.2.length≤1000000):aF (lG N t l) N ((),0,[])=some ((),t.2.map te):=by
 have key:=bu (rd:=lG N t l) t.2.length (fun k=>((),(k:Int),(t.2.take k).map te)) ((),t.2.map te) (fun k hk=>by
  obtain ⟨a1,a2⟩:=vQ t.2 hk
  have ht:(t.2.take k).length=k:=by rw [List.length_take]; omega
  have d2:decide ((k+1) * 16≤140737488355328)=true:=decide_eq_true (by omega)
  have d0:decide ((0:Nat)=0)=true:=rfl
  have es:(t.2.take k).map te++[(t.2[k].1,t.2[k].2.2.1)]=(t.2.take (k+1)).map te:=by
   rw [List.take_add_one,List.getElem?_eq_getElem hk,List.map_append]; rfl
  have el:((t.2.take (k+1)).map te).length=k+1:=by rw [List.length_map,List.length_take]; omega
  have nb:Nat.beq (k+1) (k+1)=true:=Nat.beq_refl _
  simp only [lG,List.length_map,Int.toNat_natCast,aB hk,ar hk,a1,a2,ht,d2,d0,Od,es,el,nb,gO,gP,a6 (show k < 9223372036854775807 by omega),Bool.and_self,Bool.and_true,cond_true,Option.bind_some,eq_self,decide_true]) (by
  have nb:Nat.beq t.2.length t.2.length=true:=Nat.beq_refl _
  simp only [lG,List.length_map,aQ,List.take_length,nb,gO,gP,Bool.and_self,Bool.and_true,cond_true,cond_false,Option.bind_some,eq_self,decide_true]) N 0 (Nat.zero_le _) (by unfold fA at hN; omega)
 exact key
theorem Kj (l x:List Int) (hl:l.length≤1000000) (ps:List (Int × Int)) (m ns:List (Int × Int)) (c:Int) (L:List Int) (hL:∃ L',L=gr L'):∃ r,aF (jO N l) N ((),l,0,ps,m,ns,c,L,(),[])=some r∧r.2.2.2.2.2.2.2.2=l.map (bK m):=by
 obtain ⟨L',rfl⟩:=hL
 refine ⟨((),l,ps,m,ns,((Int.toNat c:Nat):Int),gr L',(),l.map (bK m)),?_,rfl⟩
 cases sQ:l with
 | nil=>
  have d:decide ((0:Int) < ((([]:List Int).length:Nat):Int))=false:=rfl
  obtain ⟨n,rfl⟩:∃ n,N=n+1:=⟨N - 1,by unfold fA at hN; omega⟩
  have n0:Nat.beq 0 0=true:=rfl
  rw [mD]
  simp only [jO,List.map_nil,List.length_nil,n0,Sd,Se,dZ,cI,cJ,ea,gu,jr,js,gO,gP,cond_false,Bool.and_self,Bool.and_true,cond_true,Option.bind_some,eq_self,decide_true,Sum.elim_inr,Int.lt_irrefl,decide_false]
  rfl
 | cons a l'=>
 rw [← sQ]
 have key:=bu (rd:=jO N l) l.length (fun k=>((),l,(k:Int),ps,m,ns,(if k=0 then c else ((Int.toNat c:Nat):Int)),gr L',(),(l.take k).map (bK m))) ((),l,ps,m,ns,((Int.toNat c:Nat):Int),gr L',(),l.map (bK m)) (fun k hk=>by
  obtain ⟨a1,a2⟩:=Ka l hk
  have ht:(l.take k).length=k:=by rw [List.length_take]; omega
  have d2:decide ((k+1) * 8≤140737488355328)=true:=decide_eq_true (by omega)
  have d0:decide ((0:Nat)=0)=true:=rfl
  have es:(l.take k).map (bK m)++[bK m l[k]]=(l.take (k+1)).map (bK m):=by
   rw [List.take_add_one,List.getElem?_eq_getElem hk,List.map_append]; rfl
  have el:((l.take (k+1)).map (bK m)).length=k+1:=by rw [List.length_map,List.length_take]; omega
  have nb:Nat.beq (k+1) (k+1)=true:=Nat.beq_refl _
  have ec:((Int.toNat (if k=0 then c else ((Int.toNat c:Nat):Int)):Nat):Int)=((Int.toNat c:Nat):Int):=by split <;> simp
  have e1:(k+1=0)=False:=by simp
  simp only [jO,List.length_map,Int.toNat_natCast,aB hk,ar hk,a1,a2,ht,d2,d0,lJ,nX,C0,C1,LD,es,el,nb,ec,e1,if_false,jo,jq,dZ,cI,cJ,ea,gu,jr,js,gO,gP,a6 (show k < 9223372036854775807 by omega),Bool.and_self,Bool.and_true,cond_true,Option.bind_some,eq_self,decide_true]) (by
  have nb:Nat.beq l.length l.length=true:=Nat.beq_refl _
  have e1:(l.length=0)=False:=by rw [sQ]; simp
  simp only [jO,List.length_map,aQ,List.take_length,nb,e1,if_false,Int.toNat_natCast,jo,jq,dZ,cI,cJ,ea,gu,jr,js,gO,gP,Bool.and_self,Bool.and_true,cond_true,cond_false,Option.bind_some,eq_self,decide_true]) N 0 (Nat.zero_le _) (by unfold fA at hN; omega)
 exact key
theorem vR (t:fS) (h1:t.1.length≤1000000) (h2:t.2.length≤1000000):P9 N t=some (dw t):=by
 have q1:=Kh hN t h1
 have q2:=Ki hN t (bF t.1.length) h2
 have hl:(bF t.1.length).length≤1000000:=by rw [kr]; exact h1
 have hp:(t.2.map te).length≤1000000:=by rw [List.length_map]; exact h2
 have nl:=Bb (bF t.1.length)
 have q3:=Kc hN (bF t.1.length) (t.2.map te) (bF t.1.length) hl
 have q4:=Ke hN (bF t.1.length) (t.2.map te) (bF t.1.length) (kq (bF t.1.length)) hp (by omega) (mG _)
 have q5:=Ob hN (bF t.1.length) (t.2.map te) (bF t.1.length) ((t.2.map te).foldl jl (kq (bF t.1.length))) hl
 have nd:=xW (t.2.map te) (kq (bF t.1.length)) (mG _)
 have ul:=Ee (t.2.map te) (kq (bF t.1.length))
 have q6:=Ec (N:=N) (bF t.1.length) (t.2.map te) (bF t.1.length) ((t.2.map te).foldl jl (kq (bF t.1.length))) ((bF t.1.length).foldl (vP ((t.2.map te).foldl jl (kq (bF t.1.length)))) []) nd N (List.range ((t.2.map te).foldl jl (kq (bF t.1.length))).length) (by rw [List.length_range]; unfold fA at hN; omega) List.nodup_range (fun i hi=>List.mem_range.1 hi)
 rw [ow] at q6
 obtain ⟨r,q7,er⟩:=Kj hN (bF t.1.length) (bF t.1.length) hl (t.2.map te) (tE (bF t.1.length) (t.2.map te)) ((bF t.1.length).foldl (vP ((t.2.map te).foldl jl (kq (bF t.1.length)))) []) (((t.2.map te).foldl jl (kq (bF t.1.length))).length:Int) [] ⟨[],rfl⟩
 have z1:decide ((0:Int)≤0∧(0:Int)≤((t.2.length:Nat):Int)∧((t.2.length:Nat):Int)≤140737488355328∧((t.2.length:Nat):Int) * 16≤140737488355328)=true:=decide_eq_true (by omega)
 have z2:decide ((0:Int)≤0∧(0:Int)≤((t.1.length:Nat):Int)∧((t.1.length:Nat):Int)≤140737488355328∧((t.1.length:Nat):Int) * 8≤140737488355328)=true:=decide_eq_true (by omega)
 have r0:∀ x:AV,List.replicate 0 x=[]:=fun _=>rfl
 have tz:Int.toNat 0=0:=rfl
 have Za:Nat.beq 0 ([]:List AV).length=true:=rfl
 have f23:allFit (ah.fits nU) ([]:List AV)=true:=rfl
 have m23:List.map d23 ([]:List AV)=[]:=rfl
 have u0:aq (List.map n2 ([]:List Int))=[]:=rfl
 have Zb:aV []=[]:=rfl
 have Zc:aq ([]:List AV)=[]:=rfl
 have lz:gr []=[]:=rfl
 have f2:allFit (ah.fits p2) ([]:List AV)=true:=rfl
 have m2:List.map d2 ([]:List AV)=[]:=rfl
 have eU:tE (bF t.1.length) (t.2.map te)=((t.2.map te).foldl jl (kq (bF t.1.length))).map fun e=>(e.1,bK ((bF t.1.length).foldl (vP ((t.2.map te).foldl jl (kq (bF t.1.length)))) []) e.2):=rfl
 rw [eU] at q7
 have d0:decide ((0:Nat)=([]:List AV).length)=true:=rfl
 have Vr:decide ((0:Nat)=0)=true:=rfl
 have Vs:Nat.beq 0 0=true:=rfl
 rw [N1]
 simp only [Sd,Se,List.map_nil,List.length_nil,Vr,Bool.and_true,cond_true,Option.bind_some,q1,List.length_map,z1,tz,r0,Za,Vs,f23,m23,Bool.and_self,eq_self,decide_true,q2,jo,jq,gO,gP,Vp,HL,HM,Vq,q3,dZ,cI,cJ,ea,q4,q5,sJ,jr,js,q6,kr,z2,u0,Zc,lz,Zb,f2,m2,Int.toNat_natCast,q7,er,Xb]
 rfl
end
end Go.Proofs.Ytegoimldbgdeiaa
namespace Go.Proofs.Ytegoimldbgdeiaa
open Go Go.Am
set_option maxRecDepth 100000
theorem HN:∀ l:List (Int × Int),bo (List.map n132 l) (List.map n132 l)=true
 | []=>rfl
 | x :: l=>by
  rw [List.map_cons,bo,HN l]
  show (bo [AV.int .i64 x.1,AV.int .i64 x.2] [AV.int .i64 x.1,AV.int .i64 x.2]&&true)=true
  simp [bo,cX,pP]
theorem Ef:∀ l:List wZ,bo (List.map n131 l) (List.map n131 l)=true
 | []=>rfl
 | x :: l=>by
  rw [List.map_cons,bo,Ef l]
  have e:bo (List.map n132 x.2) (List.map n132 x.2)=true:=HN x.2
  show (bo [AV.str x.1,AV.list .iU 2 (List.map n132 x.2)] [AV.str x.1,AV.list .iU 2 (List.map n132 x.2)]&&true)=true
  simp only [bo,cX,pP,e,beq_self_eq_true,Nat.beq_refl,Bool.and_self]
theorem Bc:∀ l:List td,bo (List.map n110 l) (List.map n110 l)=true
 | []=>rfl
 | x :: l=>by
  rw [List.map_cons,bo,Bc l]
  show (bo [AV.int .i64 x.1,AV.int .i64 x.2.1,AV.int .i64 x.2.2.1,AV.int .i64 x.2.2.2.1,AV.bool x.2.2.2.2] [AV.int .i64 x.1,AV.int .i64 x.2.1,AV.int .i64 x.2.2.1,AV.int .i64 x.2.2.2.1,AV.bool x.2.2.2.2]&&true)=true
  simp [bo,cX,pP]
def Kk (t:fS) (p:Int):Nat:=((t.1.getD p.toNat ([],[])).2).length
def Kl (t:fS) (e:Int × Int):Int × Int:=(e.1,Int.tmod (IntKind.wrap .i64 (e.2+1)) (Kk t e.1:Int))
def Sh (t:fS) (e:Int × Int):Bool:=decide (0≤e.1)&&decide (e.1 < (t.1.length:Int))&&!(Kk t e.1 == 0)
def Og (t:fS) (s:td):Bool:=Sh t (s.1,s.2.1)&&Sh t (s.2.2.1,s.2.2.2.1)
def ee (t:fS) (s:td):(Int × Int × Int × Int) × (Int × Int × Int × Int):=
 let a0:=(s.1,s.2.1)
 let a1:=Kl t a0
 let b0:=(s.2.2.1,s.2.2.2.1)
 let b1:=Kl t b0
 if s.2.2.2.2 then ((a0.1,a0.2,b0.1,b0.2),(a1.1,a1.2,b1.1,b1.2)) else ((a0.1,a0.2,b1.1,b1.2),(a1.1,a1.2,b0.1,b0.2))
theorem Oh {t:fS} {e:Int × Int} (h:Sh t e=true):0≤e.1∧e.1 < (t.1.length:Int)∧Kk t e.1≠0:=by
 unfold Sh at h
 simp only [Bool.and_eq_true,decide_eq_true_eq,Bool.not_eq_true',beq_eq_false_iff_ne] at h
 exact ⟨h.1.1,h.1.2,h.2⟩
theorem Eg (N:Nat) (t:fS) (e:Int × Int) (h:Sh t e=true):J5 N (t,e)=some (e.1,e.2,(Kl t e).1,(Kl t e).2):=by
 obtain ⟨h1,h2,h3⟩:=Oh h
 obtain ⟨k,hk⟩:∃ k:Nat,e.1=(k:Int):=⟨e.1.toNat,by omega⟩
 have IU:k < t.1.length:=by omega
 obtain ⟨a1,a2⟩:=qM t.1 IU
 have es:t.1[k].2.length=Kk t e.1:=by
  unfold Kk
  rw [hk,Int.toNat_natCast,List.getD_eq_getElem?_getD,List.getElem?_eq_getElem IU]
  rfl
 have d:(!(decide (((Kk t e.1:Nat):Int)=0)))=true:=by rw [decide_eq_false (by omega)]; rfl
 rw [show J5 N (t,e)=J5 N ((t.1,t.2),(e.1,e.2)) from rfl,NW]
 simp only [hk,Int.toNat_natCast,List.length_map,ar IU,a1,a2,Bool.and_self,cond_true]
 rw [es,d,cond_true,← hk]
 rfl
theorem FA (N:Nat) (t:fS) (s:td) (h:Og t s=true):HA N (t,s)=some ((ee t s).1.1,(ee t s).1.2.1,(ee t s).1.2.2.1,(ee t s).1.2.2.2,(ee t s).2.1,(ee t s).2.2.1,(ee t s).2.2.2.1,(ee t s).2.2.2.2):=by
 unfold Og at h
 rw [Bool.and_eq_true] at h
 have q1:=Eg N t (s.1,s.2.1) h.1
 have q2:=Eg N t (s.2.2.1,s.2.2.2.1) h.2
 rw [J7]
 have Zd:J5 N ((t.1,t.2),(s.1,s.2.1))=_:=q1
 have Ze:J5 N ((t.1,t.2),(s.2.2.1,s.2.2.2.1))=_:=q2
 simp only [bW,bX,ca,cb,Bool.and_self,Bool.and_true,cond_true,Option.bind_some,Zd,Ze,beq_self_eq_true,Ef,Bc]
 unfold ee
 cases hs:s.2.2.2.2
 ·simp only [Bool.not_false,cond_true,Option.bind_some,Bool.false_eq_true,if_false]
 ·simp only [Bool.not_true,cond_false,Option.bind_some,if_true]
def eJ (t:fS):List (Int × Int × Int × Int):=t.2.flatMap fun s=>[(ee t s).1,(ee t s).2]
def cK (p:Nat) (n:Nat):List (Int × Int):=(List.range n).map fun i:Nat=>((p:Int),(i:Int))
def eK:List wZ→Nat→List (Int × Int)
 | [],_=>[]
 | x :: l,p=>cK p x.2.length++eK l (p+1)
def eh (t:fS):List (Int × Int):=eK t.1 0
def Oi (p:Int × Int × Int × Int):(Int × Int) × (Int × Int):=((p.1,p.2.1),(p.2.2.1,p.2.2.2))
def eX (t:fS):List ((Int × Int) × Int):=tE (eh t) ((eJ t).map Oi)
theorem Km (l:List (Int × Int × Int × Int)) (a b:Int × Int × Int × Int):List.map n174 l++[AV.agg [AV.int .i64 a.1,AV.int .i64 a.2.1,AV.int .i64 a.2.2.1,AV.int .i64 a.2.2.2],AV.agg [AV.int .i64 b.1,AV.int .i64 b.2.1,AV.int .i64 b.2.2.1,AV.int .i64 b.2.2.2]]=List.map n174 (l++[a,b]):=by rw [List.map_append]; rfl
theorem Db (t:fS) {k:Nat} (hk:k < t.2.length):(t.2.take (k+1)).flatMap (fun s=>[(ee t s).1,(ee t s).2])=(t.2.take k).flatMap (fun s=>[(ee t s).1,(ee t s).2])++[(ee t t.2[k]).1,(ee t t.2[k]).2]:=by
 rw [List.take_add_one,List.getElem?_eq_getElem hk,List.flatMap_append]
 rfl
theorem xY (t:fS) (l:List td):(l.flatMap (fun s=>[(ee t s).1,(ee t s).2])).length=2 * l.length:=by
 induction l with
 | nil=>rfl
 | cons s l ih=>rw [List.flatMap_cons,List.length_append,ih,List.length_cons]; simp only [List.length_cons,List.length_nil]; omega
theorem mH:∀ (l:List wZ) (p:Nat) (x:wZ),eK (l++[x]) p=eK l p++cK (p+l.length) x.2.length
 | [],p,x=>by simp [eK]
 | y :: l,p,x=>by
  rw [List.cons_append,eK,mH l (p+1) x,eK,List.append_assoc,List.length_cons]
  rw [show p+1+l.length=p+(l.length+1) by omega]
theorem jP:∀ (l:List wZ) (p:Nat),(∀ x∈l,x.2.length≤1000)→(eK l p).length≤1000 * l.length
 | [],_,_=>Nat.le_refl _
 | x :: l,p,h=>by
  have ih:=jP l (p+1) fun y hy=>h y (List.mem_cons_of_mem _ hy)
  have:=h x List.mem_cons_self
  rw [eK,List.length_append,List.length_cons]
  simp only [cK,List.length_map,List.length_range]
  omega
section
variable {N:Nat} (hN:fA N)
include hN
theorem Kn (t:fS) (h:t.2.length≤1000000) (ho:∀ s∈t.2,Og t s=true):aF (vN N t) N ([],0)=some (eJ t):=by
 have key:=bu (rd:=vN N t) t.2.length (fun k=>((t.2.take k).flatMap (fun s=>[(ee t s).1,(ee t s).2]),(k:Int))) (eJ t) (fun k hk=>by
  obtain ⟨a1,a2⟩:=vQ t.2 hk
  have q:=FA N t t.2[k] (ho _ (List.getElem_mem hk))
  have q:HA N ((t.1,t.2),(t.2[k].1,t.2[k].2.1,t.2[k].2.2.1,t.2[k].2.2.2.1,t.2[k].2.2.2.2))=_:=q
  have hl:=xY t (t.2.take k)
  have ht:(t.2.take k).length=k:=by rw [List.length_take]; omega
  rw [ht] at hl
  have Jl:((t.2.take k).flatMap (fun s=>[(ee t s).1,(ee t s).2])++[(ee t t.2[k]).1,(ee t t.2[k]).2]).length=2 * k+2:=by rw [List.length_append,hl]; rfl
  have d2:decide ((2 * k+2) * 32≤140737488355328)=true:=decide_eq_true (by omega)
  have sn:=Km ((t.2.take k).flatMap (fun s=>[(ee t s).1,(ee t s).2])) (ee t t.2[k]).1 (ee t t.2[k]).2
  simp only [vN,List.length_map,Int.toNat_natCast,aB hk,ar hk,a1,a2,bW,bX,ca,cb,q,hl,d2,sn,eH,eI,Jl,Db t hk,a6 (show k < 9223372036854775807 by omega),Bool.and_self,Bool.and_true,cond_true,Option.bind_some,eq_self,decide_true]) (by
  simp only [vN,List.length_map,aQ,List.take_length,eH,eI,Bool.and_self,Bool.and_true,cond_true,cond_false,Option.bind_some,eq_self,decide_true]
  rfl) N 0 (Nat.zero_le _) (by unfold fA at hN; omega)
 exact key
theorem HO (t:fS) (J:List (Int × Int × Int × Int)) (p:Nat) (hp:p < t.1.length) (hs:t.1[p].2.length≤1000) (acc:List (Int × Int)) (ha:acc.length≤1000000) (v3:List (Int × Int)):aF (gZ N J ((p:Int),t.1,t.2,v3)) N (0,t.1,t.2,acc)=some (t.1,t.2,acc++cK p t.1[p].2.length):=by
 obtain ⟨a1,a2⟩:=qM t.1 hp
 have key:=bu (rd:=gZ N J ((p:Int),t.1,t.2,v3)) t.1[p].2.length (fun k=>((k:Int),t.1,t.2,acc++cK p k)) (t.1,t.2,acc++cK p t.1[p].2.length) (fun k hk=>by
  have cl:(acc++cK p k).length=acc.length+k:=by rw [List.length_append]; simp [cK]
  have cs:acc++cK p k++[((p:Int),(k:Int))]=acc++cK p (k+1):=by
   rw [List.append_assoc]; congr 1; unfold cK; rw [List.range_succ,List.map_append]; rfl
  have Zf:(acc++cK p (k+1)).length=acc.length+k+1:=by rw [List.length_append]; simp [cK]; omega
  have d2:decide ((acc.length+k+1) * 16≤140737488355328)=true:=decide_eq_true (by omega)
  simp only [gZ,List.length_map,Int.toNat_natCast,a1,aB hk,cl,d2,HI,cs,Zf,bW,bX,ca,cb,fE,fF,a6 (show k < 9223372036854775807 by omega),Bool.and_self,Bool.and_true,cond_true,Option.bind_some,eq_self,decide_true]) (by
  simp only [gZ,List.length_map,Int.toNat_natCast,a1,aQ,bW,bX,ca,cb,fE,fF,Bool.and_self,Bool.and_true,cond_true,cond_false,Option.bind_some,eq_self,decide_true]) N 0 (Nat.zero_le _) (by unfold fA at hN; omega)
 have e0:acc++cK p 0=acc:=by simp [cK]
 rw [e0] at key
 exact key
theorem HP (t:fS) (J:List (Int × Int × Int × Int)) (h:t.1.length≤1000) (hs:∀ x∈t.1,x.2.length≤1000):aF (lI N t J) N (0,t.1,t.2,[])=some (t.1,t.2,eh t):=by
 have key:=bu (rd:=lI N t J) t.1.length (fun k=>((k:Int),t.1,t.2,eK (t.1.take k) 0)) (t.1,t.2,eh t) (fun k hk=>by
  obtain ⟨a1,a2⟩:=qM t.1 hk
  have hc:=jP (t.1.take k) 0 fun x hx=>hs x (List.mem_of_mem_take hx)
  have ht:(t.1.take k).length=k:=by rw [List.length_take]; omega
  rw [ht] at hc
  have q:=HO hN t J k hk (hs _ (List.getElem_mem hk)) (eK (t.1.take k) 0) (by omega) (eK (t.1.take k) 0)
  have es:eK (t.1.take (k+1)) 0=eK (t.1.take k) 0++cK k t.1[k].2.length:=by
   rw [List.take_add_one,List.getElem?_eq_getElem hk]
   show eK (t.1.take k++[t.1[k]]) 0=_
   rw [mH,ht,Nat.zero_add]
  simp only [lI,List.length_map,Int.toNat_natCast,aB hk,ar hk,a2,q,← es,bW,bX,ca,cb,fE,fF,a6 (show k < 9223372036854775807 by omega),Bool.and_self,Bool.and_true,cond_true,Option.bind_some,eq_self,decide_true]) (by
  simp only [lI,List.length_map,aQ,List.take_length,bW,bX,ca,cb,fE,fF,Bool.and_self,Bool.and_true,cond_true,cond_false,Option.bind_some,eq_self,decide_true]
  rfl) N 0 (Nat.zero_le _) (by unfold fA at hN; omega)
 exact key
theorem vS (t:fS) (h1:t.1.length≤1000) (hs:∀ x∈t.1,x.2.length≤1000) (h2:t.2.length≤100000) (ho:∀ s∈t.2,Og t s=true):N3 N t=some (eX t):=by
 have q1:=Kn hN t (by omega) ho
 have q2:=HP hN t (eJ t) h1 hs
 have hl:(eh t).length≤1000000:=by
  have:=jP t.1 0 hs
  unfold eh
  omega
 have hp:(eJ t).length≤1000000:=by
  have:=xY t t.2
  unfold eJ
  omega
 have nl:=Bb (eh t)
 have q3:=Kf hN (eh t) (eh t) (eJ t) t.1 t.2 (eh t) hl
 have fe:∀ m:List ((Int × Int) × Int),(eJ t).foldl (fun s p=>jl s ((p.1,p.2.1),(p.2.2.1,p.2.2.2))) m=((eJ t).map Oi).foldl jl m:=fun m=>by rw [List.foldl_map]; rfl
 have q4:=Kg hN (eh t) (eJ t) (eh t) (eJ t) t.1 t.2 (eh t) (kq (eh t)) hp (by omega) (mG _)
 rw [fe] at q4
 have nd:=xW ((eJ t).map Oi) (kq (eh t)) (mG _)
 have q5:=Oc hN (eh t) (eJ t) (eh t) (eJ t) t.1 t.2 (eh t) (((eJ t).map Oi).foldl jl (kq (eh t))) hl
 have q6:=Ed (N:=N) (eh t) (eJ t) (eh t) (eJ t) t.1 t.2 (eh t) (((eJ t).map Oi).foldl jl (kq (eh t))) ((eh t).foldl (vP (((eJ t).map Oi).foldl jl (kq (eh t)))) []) nd N (List.range (((eJ t).map Oi).foldl jl (kq (eh t))).length) (by rw [List.length_range,Ee]; unfold fA at hN; omega) List.nodup_range (fun i hi=>List.mem_range.1 hi)
 rw [ow] at q6
 have Vr:decide ((0:Nat)=0)=true:=rfl
 rw [N6]
 simp only [Oe,Of,HJ,HK,List.map_nil,List.length_nil,Vr,Bool.and_true,Bool.and_self,cond_true,Option.bind_some,q1,List.length_map,bW,bX,ca,cb,fE,fF,eH,eI,eq_self,decide_true,q2,Vp,Sf,Sg,Vq,HL,HM,q3,dO,du,dv,dP,q4,q5,dZ,cI,cJ,ea,zr,jr,js,q6]
 rfl
end
end Go.Proofs.Ytegoimldbgdeiaa
