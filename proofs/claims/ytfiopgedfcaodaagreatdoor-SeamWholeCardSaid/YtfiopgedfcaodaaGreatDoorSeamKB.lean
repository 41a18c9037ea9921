/- Plain laws: pieces are checked,and their places. -/
import Derived.Test.YtfiopgedfcaodaaGreatDoorSeamKA
import Derived.Test.YtfiopgedfcaodaaGreatDoorAmKJ
set_option linter.all false
namespace Go.Proofs.YtfiopgedfcaodaaGreatDoor
open Go Go.Am Go.Sort
set_option maxRecDepth 100000
theorem yG (C:List (List P3)) {k:Nat} (hk:k < C.length):d115 (ab (List.map n115 C) k)=C[k]∧aA.fits hZ (ab (List.map n115 C) k)=true:=by
 rw [dx n115 C k hk,Yi,SA]; exact ⟨rfl,rfl⟩
def pU (C:List (List P3)):Int:=if C.length > 16 then 5 else ay (C.map eR)
theorem BV {l:List P3} (h:eR l=0):l.length≤4096:=by
 unfold eR at h
 split at h
 ·cases h
 ·omega
theorem vS {C:List (List P3)} (h:pU C=0):C.length≤16∧∀ l∈C,eR l=0:=by
 unfold pU at h
 split at h
 ·cases h
 ·exact ⟨by omega,fun l hl=>bN.1 h _ (List.mem_map.2 ⟨l,hl,rfl⟩)⟩
def vk (C:List (List P3)) (p:P3):Int:=if p.1 < 0∨p.1≥(C.length:Int) then 10 else if (p.2.1,p.2.2)∈aT (C.getD p.1.toNat []) then 0 else 7
def tQ (C:List (List P3)) (i:Nat):List P3:=(aT (C.getD i [])).map fun k=>((i:Int),k.1,k.2)
def aL (C:List (List P3)):List P3:=(List.range C.length).flatMap (tQ C)
theorem lJ {α β:Type} (f:α→List β):∀ (l:List α) (s:List β),l.foldl (fun s i=>s++f i) s=s++l.flatMap f
 | [],s=>by simp
 | a :: l,s=>by rw [List.foldl_cons,lJ f l,List.flatMap_cons,List.append_assoc]
theorem yH {α:Type} [DecidableEq α] (lt:α→α→Bool) (d:α) (l:List α):(yC lt d l).length≤l.length:=by
 have gen:∀ (l s:List α),(l.foldl (fun s k=>mw lt d k s) s).length≤s.length+l.length:=by
  intro l
  induction l with
  | nil=>intro s; simp
  | cons k l ih=>
   intro s
   rw [List.foldl_cons,List.length_cons]
   have h1:=ih (mw lt d k s)
   have h2:=sN (lt:=lt) d k s
   omega
 have:=gen l []
 unfold yC
 simpa using this
theorem pI {l:List P3} (h:eR l=0):(aT l).length≤8192:=by
 have h1:=yH vQ (0,0) (bn l)
 have h2:=BV h
 rw [gA] at h1
 unfold aT
 omega
section
variable {N:Nat} (hN:cU N)
include hN
theorem yI (l:List P3):I0 N l=some (if eR l=0 then (aT l,0) else ([],eR l)):=by
 rw [Qu]
 simp only [eN,eO,Bool.and_true,cond_true,Option.bind_some,DU hN l]
 by_cases h:eR l=0
 ·have:=BV h
  simp only [h,bne_self_eq_false,cond_false,F9 hN l (by omega),Option.bind_some,mj,ml,cond_true,if_true]
 ·have hb:(eR l != 0)=true:=bne_iff_ne.2 h
  rw [hb,if_neg h]
  rfl
theorem HD (C:List (List P3)):Yp N C=some (pU C):=by
 rw [U2]
 simp only [List.length_map]
 unfold pU
 by_cases h:C.length > 16
 ·have h':(C.length:Int) > 16:=by omega
  simp [h,h']
 ·have h':¬ (C.length:Int) > 16:=by omega
  have sn:∀ (l:List Int) (a:Int),List.map n24 l++[AV.int .i64 a]=List.map n24 (l++[a]):=fun l a=>by rw [List.map_append]; rfl
  have key:=bD (rd:=kC N C) C (fun s k=>(s,(k:Int))) (fun s l=>s++[eR l]) (fun s=>s) (fun s k=>s.length=k) (fun s k hk hs=>by
   obtain ⟨a1,a2⟩:=yG C hk
   have hb:decide ((s.length+1) * 8≤140737488355328)=true:=decide_eq_true (by omega)
   have hl:(s++[eR C[k]]).length=s.length+1:=by simp
   refine ⟨?_,by rw [hl,hs]⟩
   simp only [kC,List.length_map,Int.toNat_natCast,a1,a2,ax hk,an hk,Bool.and_self,Bool.and_true,cond_true,eN,eO,DU hN C[k],Option.bind_some,decide_true,hb,sn,IR,IS,hl,aN (show k < 9223372036854775807 by omega)]) (fun s hs=>by
   simp only [kC,List.length_map,aJ,cond_false,IR,IS,Bool.and_true,cond_true,Option.bind_some,decide_true]) N [] 0 (Nat.zero_le _) (by unfold cU at hN; omega) rfl
  have gR:ak (kC N C) N ([],0)=_:=key
  have z:((bif (allFit (aA.fits nL) ([]:List AV)&&true) then some ((List.map d24 ([]:List AV)),0) else none:Option ((List Int) × Int)).bind fun w8=>bif (decide (0=(List.map n24 w8.1).length)&&true) then some w8 else none)=some ([],0):=rfl
  have z':((bif (allFit (aA.fits nL) ([]:List AV)&&true) then some ((List.map d24 ([]:List AV)),0) else none:Option ((List Int) × Int)).bind fun w8=>bif (decide (0=w8.1.length)&&true) then some w8 else none)=some ([],0):=rfl
  have hf:∀ (l:List (List P3)) (s:List Int),l.foldl (fun s l=>s++[eR l]) s=s++l.map eR:=by
   intro l
   induction l with
   | nil=>intro s; simp
   | cons a l ih=>intro s; rw [List.foldl_cons,ih]; simp
  rw [if_neg h]
  simp only [h',decide_false,cond_false]
  rw [z',Option.bind_some,gR,List.drop_zero,Option.bind_some,hf,List.nil_append]
  simp only [IR,IS,Bool.and_true,cond_true,Option.bind_some]
  rw [gb hN _ (by rw [List.length_map]; omega)]
  rfl
end
end Go.Proofs.YtfiopgedfcaodaaGreatDoor
namespace Go.Proofs.YtfiopgedfcaodaaGreatDoor
open Go Go.Am Go.Sort
set_option maxRecDepth 100000
theorem AG:iy (.st (.cons 0 1 false .int (.cons 1 2 true (.st (.cons 0 1 false .int (.cons 1 1 false .int .nil))) .nil))) qk n3 mr:=⟨fun a b=>AB a b,fun _=>rfl,fun _=>rfl⟩
theorem uO (p:P3) (m:List (P3 × Int)):cH (.st (.cons 0 1 false .int (.cons 1 2 true (.st (.cons 0 1 false .int (.cons 1 1 false .int .nil))) .nil))) (AV.agg [AV.int .i64 p.1,AV.int .i64 p.2.1,AV.int .i64 p.2.2]) (aB (List.map mr m))=true:=AG.keys p m
theorem SE (p:P3) (m:List (P3 × Int)):dz (.st (.cons 0 1 false .int (.cons 1 2 true (.st (.cons 0 1 false .int (.cons 1 1 false .int .nil))) .nil))) (AV.agg [AV.int .i64 p.1,AV.int .i64 p.2.1,AV.int .i64 p.2.2]) (aB (List.map mr m))=(getM p m).map n3:=AG.get p m
theorem AH (p:P3) (m:List (P3 × Int)):bf (.st (.cons 0 1 false .int (.cons 1 2 true (.st (.cons 0 1 false .int (.cons 1 1 false .int .nil))) .nil))) (AV.agg [AV.int .i64 p.1,AV.int .i64 p.2.1,AV.int .i64 p.2.2]) (AV.int .i64 0) (aB (List.map mr m))=n3 ((getM p m).getD 0):=AG.getD p 0 m
theorem SF (p:P3) (v:Int) (m:List (P3 × Int)):er (.st (.cons 0 1 false .int (.cons 1 2 true (.st (.cons 0 1 false .int (.cons 1 1 false .int .nil))) .nil))) (AV.agg [AV.int .i64 p.1,AV.int .i64 p.2.1,AV.int .i64 p.2.2]) (AV.int .i64 v) (aB (List.map mr m))=aB (List.map mr (sJ p v m)):=AG.put p v m
theorem fb (m:List (P3 × Int)):ah (aB (List.map mr m))=List.map mr m:=AG.cells m
theorem fc (m:List (P3 × Int)):jw (aB (List.map mr m))=true:=AG.jw m
theorem Gb (s:List P3) (a b c:Int):List.map qk s++[AV.agg [AV.int .i64 a,AV.int .i64 b,AV.int .i64 c]]=List.map qk (s++[(a,b,c)]):=by
 rw [List.map_append]; rfl
theorem lg {α β:Type} (g:α→β):∀ (l:List α) (s:List β),l.foldl (fun s x=>s++[g x]) s=s++l.map g
 | [],s=>by simp
 | a :: l,s=>by rw [List.foldl_cons,lg g l]; simp
theorem vT {C:List (List P3)} (hC:∀ l∈C,eR l=0) (i:Nat):(tQ C i).length≤8192:=by
 unfold tQ
 rw [List.length_map]
 by_cases h:i < C.length
 ·have e:C.getD i []=C[i]:=by simp [h]
  rw [e]
  exact pI (hC _ (List.getElem_mem h))
 ·have e:C.getD i []=[]:=by simp [h]
  rw [e]
  exact pI rfl
theorem kG {C:List (List P3)} (p:P3):p∈aL C↔∃ i:Nat,i < C.length∧p.1=(i:Int)∧(p.2.1,p.2.2)∈aT (C.getD i []):=by
 unfold aL tQ
 simp only [List.mem_flatMap,List.mem_range,List.mem_map]
 constructor
 ·rintro ⟨i,hi,k,hk,rfl⟩
  exact ⟨i,hi,rfl,hk⟩
 ·rintro ⟨i,hi,h1,h2⟩
  exact ⟨i,hi,_,h2,by rw [← h1]⟩
section
variable {N:Nat} (hN:cU N)
include hN
theorem VK (K:List (Int × Int)) (e:Int) (C:List (List P3)) (s:List P3) (i:Int) (hK:K.length≤8192):ak (iU N (K,e)) N ([],0,C,s,i)=some (K.map fun k=>(i,k.1,k.2),C,s,i):=by
 have key:=bD (rd:=iU N (K,e)) K (fun acc k=>(acc,(k:Int),C,s,i)) (fun acc k=>acc++[(i,k.1,k.2)]) (fun acc=>(acc,C,s,i)) (fun acc k=>acc.length=k) (fun acc k hk hs=>by
  obtain ⟨a1,a2⟩:=uN K hk
  have hb:decide ((acc.length+1) * 24≤140737488355328)=true:=decide_eq_true (by omega)
  have hl:(acc++[(i,K[k].1,K[k].2)]).length=acc.length+1:=by simp
  refine ⟨?_,by rw [hl,hs]⟩
  simp only [iU,List.length_map,Int.toNat_natCast,a1,a2,ax hk,an hk,Bool.and_self,Bool.and_true,cond_true,decide_true,hb,Gb,ea,ec,eH,ee,Option.bind_some,hl,aN (show k < 9223372036854775807 by omega)]) (fun acc _=>by
  simp only [iU,List.length_map,aJ,cond_false,ea,ec,eH,ee,Bool.and_self,Bool.and_true,cond_true,Option.bind_some,decide_true]) N [] 0 (Nat.zero_le _) (by unfold cU at hN; omega) rfl
 have gR:ak (iU N (K,e)) N ([],0,C,s,i)=_:=key
 rw [gR,List.drop_zero,lg,List.nil_append]
section
variable (C:List (List P3)) (hC:∀ l∈C,eR l=0) (hl:C.length≤16)
include hC hl
theorem Gc:ak (iV N C) N ((),0,C,[])=some ((),C,aL C):=by
 have key:=bD (rd:=iV N C) (List.range C.length) (fun s k=>((),(k:Int),C,s)) (fun s i=>s++tQ C i) (fun s=>((),C,s)) (fun s k=>s.length≤8192 * k) (fun s k hk hs=>by
  have hk:k < C.length:=by simpa using hk
  rw [List.getElem_range]
  obtain ⟨a1,a2⟩:=yG C hk
  have hn:=hC _ (List.getElem_mem hk)
  have e:C.getD k []=C[k]:=by simp [hk]
  have hkl:=pI hn
  have q:=yI hN C[k]
  rw [if_pos hn] at q
  have Na:=vT hC k
  have hb:decide ((s.length+(tQ C k).length) * 24≤140737488355328)=true:=decide_eq_true (by omega)
  have hi:=VK hN (aT C[k]) 0 C s (k:Int) hkl
  have he:(aT C[k]).map (fun x=>((k:Int),x.1,x.2))=tQ C k:=by unfold tQ; rw [e]
  rw [he] at hi
  have z:∀ a b:List P3,List.map qk a++List.map qk b=List.map qk (a++b):=fun a b=>by rw [List.map_append]
  have zn:allFit (aA.fits nO) ([]:List AV)=true:=rfl
  have zC:(s++tQ C k).length=s.length+(tQ C k).length:=List.length_append
  refine ⟨?_,by rw [zC]; omega⟩
  simp only [iV,List.length_map,Int.toNat_natCast,a1,a2,ax hk,an hk,Bool.and_self,Bool.and_true,cond_true,eN,eO,q,Option.bind_some,zn,eH,ee,ea,ec,List.map_nil,List.length_nil,decide_true,hi,hb,z,zC,Nat.beq_refl,aN (show k < 9223372036854775807 by omega)]) (fun s _=>by
  rw [List.length_range]
  simp only [iV,List.length_map,aJ,cond_false,Nat.beq_refl,ea,ec,eH,ee,Bool.and_self,Bool.and_true,cond_true,Option.bind_some]) N [] 0 (Nat.zero_le _) (by unfold cU at hN; simp; omega) (Nat.zero_le _)
 have gR:ak (iV N C) N ((),0,C,[])=_:=key
 rw [gR,List.drop_zero,lJ,List.nil_append]
 rfl
omit hC hl in
theorem Jb (S:List P3) (hS:S.length≤1000000):∃ x,ak (kD N ((),C,S)) N (0,C,S,[])=some x∧∃ m:List (P3 × Int),x=(C,S,m)∧∀ p,(getM p m).isSome=decide (p∈S):=by
 refine hX (rd:=kD N ((),C,S)) (S:=List (P3 × Int)) S.length (fun m k=>((k:Int),C,S,m)) (fun m k=>∀ p,(getM p m).isSome=decide (p∈S.take k)) _ ?_ ?_ N [] 0 (Nat.zero_le _) (by unfold cU at hN; omega) (fun p=>by simp [getM])
 ·intro m k hk hP
  obtain ⟨a1,a2⟩:=vi S hk
  have hd:decide (k < S.length)=true:=decide_eq_true hk
  refine ⟨sJ S[k] (k:Int) m,?_,fun p=>?_⟩
  ·simp only [kD,List.length_map,Int.toNat_natCast,Nat.zero_add,a1,a2,ax hk,an hk,hd,decide_true,Bool.and_self,Bool.and_true,cond_true,uO,SF,fb,fc,dl,dp,eH,ee,ea,ec,Option.bind_some,aN (show k < 9223372036854775807 by omega)]
  ·have et:S.take (k+1)=S.take k++[S[k]]:=by rw [List.take_succ,List.getElem?_eq_getElem hk]; rfl
   rw [sK,et]
   by_cases h:p=S[k]
   ·rw [if_pos h]
    exact (decide_eq_true (by rw [List.mem_append,List.mem_singleton]; exact .inr h)).symm
   ·rw [if_neg h,hP,decide_eq_decide,List.mem_append,List.mem_singleton]
    exact ⟨.inl,fun c=>c.resolve_right h⟩
 ·intro m hP
  refine ⟨(C,S,m),?_,m,rfl,fun p=>by rw [hP,List.take_length]⟩
  simp only [kD,List.length_map,aJ,cond_false,fb,fc,dl,dp,eH,ee,ea,ec,Bool.and_self,Bool.and_true,cond_true,Option.bind_some]
def zD (C:List (List P3)) (j:qW):Int:=ay [vk C (j.1,j.2.1,j.2.2.1),vk C (j.2.2.2.1,j.2.2.2.2.1,j.2.2.2.2.2),if (j.1,j.2.1,j.2.2.1)=(j.2.2.2.1,j.2.2.2.2.1,j.2.2.2.2.2) then 9 else 0]
def ra (C:List (List P3)) (J:List qW):Int:=if pU C≠0 then pU C else if J.length > 1024 then 5 else ay (J.map (zD C))
omit hN hC hl in
theorem DZ (m:List (P3 × Int)) (hm:∀ p,(getM p m).isSome=decide (p∈aL C)) (p:P3):ay [if p.1 < 0∨p.1≥(C.length:Int) then 10 else 0,if (!(Option.isSome ((getM p m).map n3)))=true then 7 else 0]=vk C p:=by
 have h1:Option.isSome ((getM p m).map n3)=decide (p∈aL C):=by rw [Option.isSome_map,hm]
 rw [h1]
 unfold vk
 simp only [ay]
 by_cases h:p.1 < 0∨p.1≥(C.length:Int)
 ·rw [if_pos h,if_pos h]; rfl
 ·rw [if_neg h,if_neg h]
  have uZ:p∈aL C↔(p.2.1,p.2.2)∈aT (C.getD p.1.toNat []):=by
   rw [kG]
   constructor
   ·rintro ⟨i,hi,h2,h3⟩
    rw [h2,Int.toNat_natCast]; exact h3
   ·intro h3
    exact ⟨p.1.toNat,by omega,by omega,h3⟩
  by_cases hk:(p.2.1,p.2.2)∈aT (C.getD p.1.toNat [])
  ·rw [if_pos hk,decide_eq_true (uZ.2 hk)]; rfl
  ·rw [if_neg hk,decide_eq_false fun c=>hk (uZ.1 c)]; rfl
omit hC hl in
theorem MI (J:List qW) (hJ:J.length≤1024) (S:List P3) (m:List (P3 × Int)) (hm:∀ p,(getM p m).isSome=decide (p∈aL C)):ak (iW N J) N ([],0,C,S,m,(),())=some (J.map (zD C),C,S,m,(),()):=by
 have key:=bD (rd:=iW N J) J (fun acc k=>(acc,(k:Int),C,S,m,(),())) (fun acc j=>acc++[zD C j]) (fun acc=>(acc,C,S,m,(),())) (fun acc k=>acc.length=k) (fun acc k hk hs=>by
  have hd:=dx n127 J k hk
  have a1:d127 (ab (List.map n127 J) k)=J[k]:=by rw [hd,Sw]
  have a2:aA.fits ca (ab (List.map n127 J) k)=true:=by rw [hd,Sv]
  have hb:decide ((acc.length+1) * 8≤140737488355328)=true:=decide_eq_true (by omega)
  have hl:(acc++[zD C J[k]]).length=acc.length+1:=by simp
  have sn:∀ (l:List Int) (a:Int),List.map n24 l++[AV.int .i64 a]=List.map n24 (l++[a]):=fun l a=>by rw [List.map_append]; rfl
  refine ⟨?_,by rw [hl,hs]⟩
  have k1:=uO (J[k].1,J[k].2.1,J[k].2.2.1) m
  have k2:=uO (J[k].2.2.2.1,J[k].2.2.2.2.1,J[k].2.2.2.2.2) m
  have g1:=AH (J[k].1,J[k].2.1,J[k].2.2.1) m
  have g2:=AH (J[k].2.2.2.1,J[k].2.2.2.2.1,J[k].2.2.2.2.2) m
  have t1:=SE (J[k].1,J[k].2.1,J[k].2.2.1) m
  have t2:=SE (J[k].2.2.2.1,J[k].2.2.2.2.1,J[k].2.2.2.2.2) m
  have e1:=DZ C m hm (J[k].1,J[k].2.1,J[k].2.2.1)
  have e2:=DZ C m hm (J[k].2.2.2.1,J[k].2.2.2.2.1,J[k].2.2.2.2.2)
  have es:zD C J[k]=ay [vk C (J[k].1,J[k].2.1,J[k].2.2.1),vk C (J[k].2.2.2.1,J[k].2.2.2.2.1,J[k].2.2.2.2.2),if (J[k].1,J[k].2.1,J[k].2.2.1)=(J[k].2.2.2.1,J[k].2.2.2.2.1,J[k].2.2.2.2.2) then 9 else 0]:=rfl
  have q2:∀ x y:Int,Cd N [x,y]=some (ay [x,y]):=fun x y=>gb hN _ (by simp)
  have q3:∀ x y z:Int,Cd N [x,y,z]=some (ay [x,y,z]):=fun x y z=>gb hN _ (by simp)
  simp only at k1 k2 g1 g2 t1 t2 e1 e2
  generalize J[k]=j at *
  have adT:(j.1 == j.2.2.2.1&&(j.2.1 == j.2.2.2.2.1&&j.2.2.1 == j.2.2.2.2.2))=decide ((j.1,j.2.1,j.2.2.1)=(j.2.2.2.1,j.2.2.2.2.1,j.2.2.2.2.2)):=by
   rw [Bool.eq_iff_iff]
   simp only [Bool.and_eq_true,beq_iff_eq,decide_eq_true_eq,Prod.mk.injEq]
  have cb:∀ (x n X:Int) (R:List (List P3) × List P3 × List (P3 × Int) × Unit × Unit),((bif decide (x < 0) then some (ay [if True then 10 else 0,X],R) else some (ay [if decide (x≥n)=true then 10 else 0,X],R)):Option (Int × List (List P3) × List P3 × List (P3 × Int) × Unit × Unit))=some (ay [if x < 0∨x≥n then 10 else 0,X],R):=fun x n X R=>by
   by_cases h1:x < 0
   ·simp [h1]
   ·simp [h1]
  simp only [iW,List.length_map,Int.toNat_natCast,a1,a2,ax hk,an hk,Bool.and_self,cond_true,k1,k2,g1,g2,Ub,t1,t2,kF,Option.bind_some,Ax,BR,q2,q3,eH,ee,ea,ec,dl,dp,fb,fc,beq_self_eq_true,decide_true]
  rw [cb,e1,Option.bind_some]
  simp only [k2,g2,Ub,t2,Bool.and_self,cond_true]
  rw [cb,e2,Option.bind_some]
  simp only [hb,Bool.and_self,cond_true,sn,IR,IS,Bool.and_true,adT,decide_eq_true_eq,Option.bind_some,aN (show k < 9223372036854775807 by omega)]
  rw [← es]
  simp only [hl,decide_true,Bool.and_self,cond_true,Option.bind_some]) (fun acc _=>by
  simp only [iW,List.length_map,aJ,cond_false,IR,IS,fb,fc,dl,dp,eH,ee,ea,ec,Bool.and_self,Bool.and_true,cond_true,Option.bind_some,decide_true]) N [] 0 (Nat.zero_le _) (by unfold cU at hN; omega) rfl
 have gR:ak (iW N J) N ([],0,C,S,m,(),())=_:=key
 rw [gR,List.drop_zero,lg,List.nil_append]
end
end
end Go.Proofs.YtfiopgedfcaodaaGreatDoor
namespace Go.Proofs.YtfiopgedfcaodaaGreatDoor
open Go Go.Am Go.Sort
set_option maxRecDepth 100000
theorem L0 (x y:Int):((bif allFit (aA.fits nL) [AV.int .i64 x,AV.int .i64 y] then some (List.map d24 [AV.int .i64 x,AV.int .i64 y]) else none:Option (List Int)))=some [x,y]:=rfl
theorem w3 (x y:Int):((bif allFit (aA.fits p3) [AV.int .i64 x,AV.int .i64 y] then some (List.map d3 [AV.int .i64 x,AV.int .i64 y]) else none:Option (List Int)))=some [x,y]:=rfl
section
variable {N:Nat} (hN:cU N)
include hN
theorem Rq (C:List (List P3)) (J:List qW):T42 N (C,J)=some (ra C J):=by
 rw [U5]
 simp only [eH,ee,Bool.and_true,cond_true,Option.bind_some,HD hN C,kF,List.length_map,L0]
 rw [gb hN _ (by simp),Option.bind_some]
 unfold ra
 simp only [ay]
 by_cases h0:pU C=0
 ·obtain ⟨c1,c2⟩:=vS h0
  rw [if_pos h0,if_neg (show ¬ pU C≠0 from fun c=>c h0)]
  by_cases h1:J.length > 1024
  ·have mO:(J.length:Int) > 1024:=by omega
   simp [h1,mO]
  ·have mO:¬ (J.length:Int) > 1024:=by omega
   have Na:(aL C).length≤1000000:=by
    have gen:∀ (n:Nat),((List.range n).flatMap (tQ C)).length≤8192 * n:=by
     intro n
     induction n with
     | zero=>simp
     | succ n ih=>
      rw [List.range_succ,List.flatMap_append,List.length_append]
      have:=vT c2 n
      simp only [List.flatMap_cons,List.flatMap_nil,List.append_nil]
      omega
    have:=gen C.length
    unfold aL
    omega
   obtain ⟨x,r,m,rfl,hm⟩:=Jb hN C (aL C) Na
   have n0:ah ([]:List (AV × AV))=[]:=rfl
   have x0:jw ([]:List (AV × AV))=true:=rfl
   have f0:allFit (aA.fits a6) []=true:=rfl
   have f1:allFit (aA.fits nO) []=true:=rfl
   have f2:allFit (aA.fits nL) []=true:=rfl
   have nb:Nat.beq 0 0=true:=rfl
   have hq:Cd N (J.map (zD C))=_:=gb hN _ (by rw [List.length_map]; omega)
   rw [if_neg h1]
   simp only [mO,decide_false,Bool.false_eq_true,if_false,if_true,bne_self_eq_false,cond_false,n0,x0,f0,f1,f2,nb,List.map_nil,List.length_nil,eH,ee,ea,ec,fb,fc,dl,dp,Bool.and_self,cond_true,Option.bind_some,Gc hN C c2 c1,r,MI hN C J (by omega) (aL C) m hm,decide_true,IR,IS,hq]
 ·have hb:(pU C != 0)=true:=bne_iff_ne.2 h0
  rw [if_neg h0,if_pos h0,hb]
  rfl
omit hN in
theorem Rr (s:List P3) (a b c:Int):List.map nN s++[AV.agg [AV.int .i64 a,AV.int .i64 b,AV.int .i64 c]]=List.map nN (s++[(a,b,c)]):=by
 rw [List.map_append]; rfl
end
end Go.Proofs.YtfiopgedfcaodaaGreatDoor
namespace Go.Proofs.YtfiopgedfcaodaaGreatDoor
open Go Go.Am Go.Sort
set_option maxRecDepth 100000
def jA (j:qW):P3:=(j.1,j.2.1,j.2.2.1)
def jB (j:qW):P3:=(j.2.2.2.1,j.2.2.2.2.1,j.2.2.2.2.2)
def tied (J:List qW) (p:P3):Bool:=J.any fun j=>decide (jA j=p) || decide (jB j=p)
theorem D0 {C:List (List P3)} (hC:∀ l∈C,eR l=0) (hl:C.length≤16):(aL C).length≤131072:=by
 have gen:∀ (n:Nat),((List.range n).flatMap (tQ C)).length≤8192 * n:=by
  intro n
  induction n with
  | zero=>simp
  | succ n ih=>
   rw [List.range_succ,List.flatMap_append,List.length_append]
   have:=vT hC n
   simp only [List.flatMap_cons,List.flatMap_nil,List.append_nil]
   omega
 have:=gen C.length
 unfold aL
 omega
section
variable {N:Nat} (hN:cU N)
include hN
theorem MJ (l:List P3) (hl:l.length≤1000000):T44 N l=some l:=by
 rw [Vj]
 have key:=bD (rd:=yn N l) l (fun s k=>(s,(k:Int))) (fun s p=>s++[p]) (fun s=>s) (fun s k=>s.length=k) (fun s k hk hs=>by
  obtain ⟨a1,a2⟩:=vi l hk
  have hb:decide ((s.length+1) * 24≤140737488355328)=true:=decide_eq_true (by omega)
  have zC:(s++[l[k]]).length=s.length+1:=by simp
  have hsn:List.map nN s++[AV.agg [AV.int .i64 l[k].1,AV.int .i64 l[k].2.1,AV.int .i64 l[k].2.2]]=List.map nN (s++[l[k]]):=Rr s _ _ _
  refine ⟨?_,by rw [zC,hs]⟩
  simp only [yn,List.length_map,Int.toNat_natCast,a1,a2,ax hk,an hk,Bool.and_self,Bool.and_true,cond_true,decide_true,hb,hsn,zz,zA,Option.bind_some,zC,aN (show k < 9223372036854775807 by omega)]) (fun s _=>by
  simp only [yn,List.length_map,aJ,cond_false,zz,zA,Bool.and_true,cond_true,Option.bind_some,decide_true]) N [] 0 (Nat.zero_le _) (by unfold cU at hN; omega) rfl
 have gR:ak (yn N l) N ([],0)=_:=key
 have z:((bif (allFit (aA.fits dW) ([]:List AV)&&true) then some ((List.map d89 ([]:List AV)),0) else none:Option ((List (Int × Int × Int)) × Int)).bind fun uJ=>bif (decide (0=(List.map nN uJ.1).length)&&true) then some uJ else none)=some ([],0):=rfl
 rw [z,Option.bind_some,gR,List.drop_zero,qN,List.nil_append,Option.bind_some]
 simp only [zz,zA,Bool.and_true,cond_true] <;> rfl
end
end Go.Proofs.YtfiopgedfcaodaaGreatDoor
namespace Go.Proofs.YtfiopgedfcaodaaGreatDoor
open Go Go.Am Go.Sort
set_option maxRecDepth 100000
section
variable {N:Nat} (hN:cU N)
include hN
section
variable (J:List qW) (S:List P3) (m:List (P3 × Bool)) (hS:S.length≤1000000) (hm:∀ p,(getM p m).getD false=tied J p)
include hS hm
end
end
end Go.Proofs.YtfiopgedfcaodaaGreatDoor
namespace Go.Proofs.YtfiopgedfcaodaaGreatDoor
open Go Go.Am Go.Sort
set_option maxRecDepth 100000
theorem sR {C:List (List P3)} {J:List qW} (h:ra C J=0):pU C=0∧J.length≤1024:=by
 unfold ra at h
 split at h
 ·rename_i h0; exact absurd h h0
 ·rename_i h0
  split at h
  ·cases h
  ·exact ⟨Decidable.not_not.1 h0,by omega⟩
section
variable {N:Nat} (hN:cU N)
include hN
end
end Go.Proofs.YtfiopgedfcaodaaGreatDoor
namespace Go.Proofs.YtfiopgedfcaodaaGreatDoor
open Go Go.Am Go.Sort
set_option maxRecDepth 100000
def Cg (a b:P3):Prop:=a.1 < b.1∨a.1=b.1∧(a.2.2 < b.2.2∨a.2.2=b.2.2∧a.2.1 < b.2.1)
def MK (a b:P3):Int:=ay [q8 a.1 b.1,q8 a.2.2 b.2.2,q8 a.2.1 b.2.1]
theorem BW (a b:Int):(q8 a b < 0↔a < b)∧(q8 a b=0↔a=b):=by
 unfold q8
 split
 ·constructor <;> constructor <;> intro <;> omega
 ·split
  ·constructor <;> constructor <;> intro <;> omega
  ·constructor <;> constructor <;> intro <;> omega
theorem HE (a b:P3):(MK a b < 0↔Cg a b)∧(MK a b=0↔a=b):=by
 obtain ⟨h1,h2⟩:=BW a.1 b.1
 obtain ⟨h3,h4⟩:=BW a.2.2 b.2.2
 obtain ⟨h5,h6⟩:=BW a.2.1 b.2.1
 unfold MK Cg
 simp only [ay]
 have he:a=b↔a.1=b.1∧a.2.1=b.2.1∧a.2.2=b.2.2:=⟨fun h=>by subst h; exact ⟨rfl,rfl,rfl⟩,fun ⟨e1,e2,e3⟩=>Prod.ext e1 (Prod.ext e2 e3)⟩
 rw [he]
 by_cases c1:q8 a.1 b.1=0
 ·rw [if_pos c1]
  have:=h2.1 c1
  by_cases c2:q8 a.2.2 b.2.2=0
  ·rw [if_pos c2]
   have:=h4.1 c2
   by_cases c3:q8 a.2.1 b.2.1=0
   ·rw [if_pos c3]
    have:=h6.1 c3
    constructor <;> constructor <;> intro <;> omega
   ·rw [if_neg c3]
    constructor <;> constructor <;> intro <;> omega
  ·rw [if_neg c2]
   constructor <;> constructor <;> intro <;> omega
 ·rw [if_neg c1]
  constructor <;> constructor <;> intro <;> omega
theorem AI {a b c:P3} (h1:Cg a b) (h2:Cg b c):Cg a c:=by unfold Cg at *; omega
theorem uP (C:List (List P3)):(aL C).Pairwise Cg:=by
 unfold aL
 rw [List.pairwise_flatMap]
 constructor
 ·intro i _
  unfold tQ
  rw [List.pairwise_map]
  refine ((my IU LP (0,0) (bn (C.getD i []))).1).imp fun {x y} h=>?_
  have h:=of_decide_eq_true ((tK x y).symm.trans h)
  exact .inr ⟨rfl,h⟩
 ·refine List.pairwise_lt_range.imp fun {i j} h x hx y hy=>?_
  unfold tQ at hx hy
  obtain ⟨k1,_,rfl⟩:=List.mem_map.1 hx
  obtain ⟨k2,_,rfl⟩:=List.mem_map.1 hy
  unfold Cg
  simp only
  omega
theorem VL {lo hi:Nat} (h1:lo≤1000000) (h2:hi≤1000000):IntKind.wrap .i64 (Int.fdiv (IntKind.wrap .u64 (IntKind.wrap .i64 ((lo:Int)+(hi:Int)))) (2 ^ (min (Int.toNat 1) 64)))=(((lo+hi) / 2:Nat):Int):=by
 rw [DA (x:=(lo:Int)+(hi:Int)) (by omega)]
 have hu:IntKind.wrap .u64 ((lo:Int)+(hi:Int))=(lo:Int)+(hi:Int):=IntWalk.u64_in _ (by omega)
 have hp:(2:Int) ^ (min (Int.toNat 1) 64)=2:=rfl
 rw [hu,hp,Int.fdiv_eq_ediv_of_nonneg _ (by omega),DA (by omega)]
 omega
section
variable {N:Nat} (hN:cU N)
include hN
theorem D1 (a b:P3):DK N (a,b)=some (MK a b):=by
 rw [QF]
 simp only [HB,Option.bind_some,beq_self_eq_true,Bool.and_self,cond_true]
 have h3:∀ x y z:Int,((bif allFit (aA.fits p3) [AV.int .i64 x,AV.int .i64 y,AV.int .i64 z]&&true then some (List.map d3 [AV.int .i64 x,AV.int .i64 y,AV.int .i64 z]) else none:Option (List Int)))=some [x,y,z]:=fun x y z=>rfl
 rw [h3]
 simp only [Option.bind_some]
 rw [yD hN _ (by simp)]
 rfl
section
variable (S:List P3) (hS:S.length≤131072) (hs:S.Pairwise Cg)
include hS hs
theorem ML (a2:Int) (acc:List qW) (k:Nat) (hk:k < S.length):∃ x,ak (iY N a2 ((),S) (acc,(k:Int),S)) N (0,(S.length:Int),S)=some x∧∃ lo:Nat,x=((lo:Int),S)∧lo≤S.length∧(∀ i (h:i < S.length),i < lo→Cg S[i] (a2,S[k].2))∧(∀ i (h:i < S.length),lo≤i→¬ Cg S[i] (a2,S[k].2)):=by
 obtain ⟨b1,b2⟩:=vi S hk
 have hp:=List.pairwise_iff_getElem.1 hs
 refine An (rd:=iY N a2 ((),S) (acc,(k:Int),S)) (Inv:=fun v=>∃ lo hi:Nat,v=((lo:Int),(hi:Int),S)∧lo≤hi∧hi≤S.length∧(∀ i (h:i < S.length),i < lo→Cg S[i] (a2,S[k].2))∧(∀ i (h:i < S.length),hi≤i→¬ Cg S[i] (a2,S[k].2))) (m:=fun v=>(v.2.1 - v.1).toNat) ?_ N _ ⟨0,S.length,rfl,Nat.zero_le _,Nat.le_refl _,fun i h h2=>by omega,fun i h h2=>by omega⟩ (by unfold cU at hN; simp; omega)
 rintro _ ⟨lo,hi,rfl,i1,i2,i3,i4⟩
 by_cases bP:lo < hi
 ·left
  have hm:=VL (lo:=lo) (hi:=hi) (by omega) (by omega)
  have GH:(lo+hi) / 2 < S.length:=by omega
  obtain ⟨a1,a3⟩:=vi S GH
  have hd:decide ((lo+hi) / 2 < S.length)=true:=decide_eq_true GH
  have q:=D1 hN S[(lo+hi) / 2] (a2,S[k].2)
  have q':DK N ((S[(lo+hi) / 2].1,S[(lo+hi) / 2].2.1,S[(lo+hi) / 2].2.2),(a2,S[k].2.1,S[k].2.2))=_:=q
  have hc:=(HE S[(lo+hi) / 2] (a2,S[k].2)).1
  by_cases h:MK S[(lo+hi) / 2] (a2,S[k].2) < 0
  ·refine ⟨((((lo+hi) / 2+1:Nat):Int),(hi:Int),S),?_,⟨(lo+hi) / 2+1,hi,rfl,by omega,i2,fun i hi2 h2=>?_,i4⟩,?_⟩
   ·simp only [iY,List.length_map,hm,Int.toNat_natCast,Nat.zero_add,a1,a3,b1,ax bP,an GH,hd,decide_true,Bool.and_self,Bool.and_true,cond_true,q',h,Option.bind_some,ea,ec,aN (show (lo+hi) / 2 < 9223372036854775807 by omega)]
   ·have hl:=hc.1 h
    by_cases e:i=(lo+hi) / 2
    ·subst e; exact hl
    ·exact AI (hp i ((lo+hi) / 2) hi2 GH (by omega)) hl
   ·simp only; omega
  ·refine ⟨((lo:Int),(((lo+hi) / 2:Nat):Int),S),?_,⟨lo,(lo+hi) / 2,rfl,by omega,by omega,i3,fun i hi2 h2 hl=>?_⟩,?_⟩
   ·simp only [iY,List.length_map,hm,Int.toNat_natCast,Nat.zero_add,a1,a3,b1,ax bP,an GH,hd,decide_true,Bool.and_self,Bool.and_true,cond_true,q',h,decide_false,cond_false,Option.bind_some,ea,ec]
   ·by_cases e:i=(lo+hi) / 2
    ·subst e; exact h (hc.2 hl)
    ·exact h (hc.2 (AI (hp ((lo+hi) / 2) i GH hi2 (by omega)) hl))
   ·simp only; omega
 ·right
  obtain rfl:lo=hi:=by omega
  refine ⟨((lo:Int),S),?_,lo,rfl,i2,i3,i4⟩
  simp only [iY,List.length_map,aJ,cond_false,ea,ec,decide_true,Bool.and_self,Bool.and_true,cond_true,Option.bind_some]
def comm (S:List P3) (a1 a2:Int) (p:P3):Bool:=decide ((a2,p.2)∈S)&&(p.1 == a1)
theorem Rs (a1 a2:Int):ak (pG N a1 a2 ((),S)) N ([],0,S)=some ((S.filter (comm S a1 a2)).map (fun p=>(p.1,p.2.1,p.2.2,a2,p.2.1,p.2.2)),S):=by
 have hp:=List.pairwise_iff_getElem.1 hs
 have key:=bD (rd:=pG N a1 a2 ((),S)) S (fun acc k=>(acc,(k:Int),S)) (fun acc p=>if comm S a1 a2 p then acc++[(p.1,p.2.1,p.2.2,a2,p.2.1,p.2.2)] else acc) (fun acc=>(acc,S)) (fun acc k=>acc.length≤k) (fun acc k hk aj1=>by
  obtain ⟨b1,b2⟩:=vi S hk
  have hd:decide (k < S.length)=true:=decide_eq_true hk
  obtain ⟨x,r,lo,rfl,l1,l2,l3⟩:=ML hN S hS hs a2 acc k hk
  have VM:((bif decide ((lo:Int) < (S.length:Int)) then bif decide ((0:Int)≤(lo:Int)∧(lo:Int) < (S.length:Int)) then bif (true&&decide (lo < S.length))&&aA.fits nO (ab (List.map qk S) lo) then (DK N (((d94 (ab (List.map qk S) lo)).1,(d94 (ab (List.map qk S) lo)).2.1,(d94 (ab (List.map qk S) lo)).2.2),(a2,S[k].2.1,S[k].2.2))).bind fun y=>some ((lo:Int),(y == 0),S) else none else none else some ((lo:Int),false,S)):Option (Int × Bool × List P3))=some ((lo:Int),decide ((a2,S[k].2)∈S),S):=by
   by_cases hl:lo < S.length
   ·obtain ⟨ZX,a3⟩:=vi S hl
    have q':DK N ((S[lo].1,S[lo].2.1,S[lo].2.2),(a2,S[k].2.1,S[k].2.2))=_:=D1 hN S[lo] (a2,S[k].2)
    have h1:decide (lo < S.length)=true:=decide_eq_true hl
    simp only [ax hl,an hl,h1,ZX,a3,Bool.and_self,cond_true,q',Option.bind_some]
    congr 3
    rw [Bool.eq_iff_iff,beq_iff_eq,decide_eq_true_iff,(HE _ _).2]
    constructor
    ·intro e; rw [← e]; exact List.getElem_mem hl
    ·intro hm
     obtain ⟨j,hj,Y6⟩:=List.getElem_of_mem hm
     have VN:∀ z:P3,¬ Cg z z:=fun z hz=>by unfold Cg at hz; omega
     have h2:lo≤j:=by
      by_cases c:lo≤j
      ·exact c
      ·have:=l2 j hj (by omega)
       rw [Y6] at this
       exact absurd this (VN _)
     by_cases e:lo=j
     ·subst e; exact Y6
     ·have:=hp lo j hl hj (by omega)
      rw [Y6] at this
      exact absurd this (l3 lo hl (Nat.le_refl _))
   ·have h1:decide ((lo:Int) < (S.length:Int))=false:=decide_eq_false (by omega)
    have hm:¬ (a2,S[k].2)∈S:=fun hm=>by
     obtain ⟨j,hj,Y6⟩:=List.getElem_of_mem hm
     have VN:∀ z:P3,¬ Cg z z:=fun z hz=>by unfold Cg at hz; omega
     have:=l2 j hj (by omega)
     rw [Y6] at this
     exact VN _ this
    rw [h1,decide_eq_false hm]
    rfl
  have hb:decide ((acc.length+1) * 48≤140737488355328)=true:=decide_eq_true (by omega)
  have zC:(acc++[(S[k].1,S[k].2.1,S[k].2.2,a2,S[k].2.1,S[k].2.2)]).length=acc.length+1:=by simp
  have hsn:List.map n127 acc++[AV.agg [AV.int .i64 S[k].1,AV.int .i64 S[k].2.1,AV.int .i64 S[k].2.2,AV.int .i64 a2,AV.int .i64 S[k].2.1,AV.int .i64 S[k].2.2]]=List.map n127 (acc++[(S[k].1,S[k].2.1,S[k].2.2,a2,S[k].2.1,S[k].2.2)]):=by rw [List.map_append]; rfl
  refine ⟨?_,by split <;> (try rw [zC]) <;> omega⟩
  simp only [pG,List.length_map,Int.toNat_natCast,Nat.zero_add,b1,b2,ax hk,an hk,hd,decide_true,Bool.and_true,Bool.and_self,cond_true,ea,ec,Option.bind_some,r]
  rw [VM]
  unfold comm
  by_cases h1:(a2,S[k].2)∈S
  ·rw [decide_eq_true h1]
   by_cases h2:S[k].1=a1
   ·have h2b:(S[k].1 == a1)=true:=beq_iff_eq.2 h2
    simp only [Option.bind_some,cond_true,h2b,yl,ym,ea,ec,Bool.and_self,decide_true,hb,hsn,zC,if_true,aN (show k < 9223372036854775807 by omega)]
   ·have h2b:(S[k].1 == a1)=false:=beq_false_of_ne h2
    simp only [Option.bind_some,cond_true,cond_false,h2b,yl,ym,ea,ec,Bool.and_self,decide_true,Bool.and_false,Bool.false_eq_true,if_false,aN (show k < 9223372036854775807 by omega)]
  ·rw [decide_eq_false h1]
   simp only [Option.bind_some,cond_true,cond_false,yl,ym,ea,ec,Bool.and_self,decide_true,Bool.false_and,Bool.false_eq_true,if_false,aN (show k < 9223372036854775807 by omega)]) (fun acc _=>by
  simp only [pG,List.length_map,aJ,cond_false,yl,ym,ea,ec,decide_true,Bool.and_self,Bool.and_true,cond_true,Option.bind_some]) N [] 0 (Nat.zero_le _) (by unfold cU at hN; omega) (Nat.zero_le _)
 have gR:ak (pG N a1 a2 ((),S)) N ([],0,S)=_:=key
 rw [gR,List.drop_zero]
 congr 2
 have gen:∀ (l:List P3) (s:List qW),l.foldl (fun acc p=>if comm S a1 a2 p then acc++[(p.1,p.2.1,p.2.2,a2,p.2.1,p.2.2)] else acc) s=s++(l.filter (comm S a1 a2)).map (fun p=>(p.1,p.2.1,p.2.2,a2,p.2.1,p.2.2)):=by
  intro l
  induction l with
  | nil=>intro s; simp
  | cons p l ih=>
   intro s
   rw [List.foldl_cons,ih,List.filter_cons]
   cases comm S a1 a2 p <;> simp
 rw [gen,List.nil_append]
end
end
end Go.Proofs.YtfiopgedfcaodaaGreatDoor
namespace Go.Proofs.YtfiopgedfcaodaaGreatDoor
open Go Go.Am Go.Sort
set_option maxRecDepth 100000
theorem D2 {α:Type} (L:List α) (a:Nat):∀ n,(List.range n).flatMap (fun i=>if i=a then L else [])=if a < n then L else []
 | 0=>rfl
 | n+1=>by
  rw [List.range_succ,List.flatMap_append,D2 L a n]
  simp only [List.flatMap_cons,List.flatMap_nil,List.append_nil]
  by_cases h:n=a
  ·subst h
   rw [if_neg (Nat.lt_irrefl _),if_pos rfl,if_pos (Nat.lt_succ_self _)]; rfl
  ·rw [if_neg h,List.append_nil]
   by_cases h2:a < n
   ·rw [if_pos h2,if_pos (by omega)]
   ·rw [if_neg h2,if_neg (by omega)]
def dc (C:List (List P3)) (a b:Nat):List qW:=((aT (C.getD a [])).filter fun k=>decide (k∈aT (C.getD b []))).map fun k=>((a:Int),k.1,k.2,(b:Int),k.1,k.2)
theorem VO (C:List (List P3)) (a b:Nat) (ha:a < C.length) (hb:b < C.length):((aL C).filter (comm (aL C) (a:Int) (b:Int))).map (fun p=>(p.1,p.2.1,p.2.2,(b:Int),p.2.1,p.2.2))=dc C a b:=by
 have h0:∀ g:P3→Bool,(aL C).filter g=(List.range C.length).flatMap (fun i=>(tQ C i).filter g):=fun g=>by
  unfold aL
  exact List.filter_flatMap
 have hf:∀ i,(tQ C i).filter (comm (aL C) (a:Int) (b:Int))=if i=a then ((aT (C.getD a [])).filter (fun k=>decide (k∈aT (C.getD b [])))).map (fun k=>((a:Int),k.1,k.2)) else []:=by
  intro i
  by_cases h:i=a
  ·subst h
   rw [if_pos rfl]
   unfold tQ
   rw [List.filter_map]
   congr 1
   apply List.filter_congr
   intro k _
   unfold comm
   simp only [Function.comp_apply,beq_self_eq_true,Bool.and_true,decide_eq_decide]
   rw [kG]
   constructor
   ·rintro ⟨j,hj,h2,h3⟩
    have:j=b:=by simp only at h2; omega
    subst this
    exact h3
   ·intro h3
    exact ⟨b,hb,rfl,h3⟩
  ·rw [if_neg h,List.filter_eq_nil_iff]
   intro p hp
   unfold tQ at hp
   obtain ⟨k,_,rfl⟩:=List.mem_map.1 hp
   unfold comm
   have:((i:Int) == (a:Int))=false:=beq_false_of_ne (by omega)
   rw [this,Bool.and_false]
   simp
 rw [h0,funext hf,D2,if_pos ha,List.map_map]
 rfl
def Rt (C:List (List P3)) (a1 a2:Int):List qW × Int:=
 if a1 < 0∨a1≥(C.length:Int)∨a2 < 0∨a2≥(C.length:Int) then ([],10) else if a1=a2 then ([],9) else (dc C a1.toNat a2.toNat,0)
theorem adW (a1 a2 n:Int):((bif decide (a1 < 0) then some true else bif decide (a1≥n) then some true else bif decide (a2 < 0) then some true else some (decide (a2≥n))):Option Bool)=some (decide (a1 < 0∨a1≥n∨a2 < 0∨a2≥n)):=by
 by_cases h1:a1 < 0
 ·simp [h1]
 ·by_cases h2:a1≥n
  ·simp [h1,h2]
  ·by_cases h3:a2 < 0
   ·simp [h1,h2,h3]
   ·by_cases h4:a2≥n <;> simp [h1,h2,h3,h4]
theorem adX (x y z:Int):((bif allFit (aA.fits nL) [AV.int .i64 x,AV.int .i64 y,AV.int .i64 z] then some (List.map d24 [AV.int .i64 x,AV.int .i64 y,AV.int .i64 z]) else none:Option (List Int)))=some [x,y,z]:=rfl
section
variable {N:Nat} (hN:cU N)
include hN
theorem VP (K:List (Int × Int)) (e:Int) (s:List P3) (i:Int) (hK:K.length≤8192):ak (gQ N (K,e)) N ([],0,s,i)=some (K.map fun k=>(i,k.1,k.2),s,i):=by
 have key:=bD (rd:=gQ N (K,e)) K (fun acc k=>(acc,(k:Int),s,i)) (fun acc k=>acc++[(i,k.1,k.2)]) (fun acc=>(acc,s,i)) (fun acc k=>acc.length=k) (fun acc k hk hs=>by
  obtain ⟨a1,a2⟩:=uN K hk
  have hb:decide ((acc.length+1) * 24≤140737488355328)=true:=decide_eq_true (by omega)
  have hl:(acc++[(i,K[k].1,K[k].2)]).length=acc.length+1:=by simp
  refine ⟨?_,by rw [hl,hs]⟩
  simp only [gQ,List.length_map,Int.toNat_natCast,a1,a2,ax hk,an hk,Bool.and_self,Bool.and_true,cond_true,decide_true,hb,Gb,ea,ec,Option.bind_some,hl,aN (show k < 9223372036854775807 by omega)]) (fun acc _=>by
  simp only [gQ,List.length_map,aJ,cond_false,ea,ec,Bool.and_self,Bool.and_true,cond_true,Option.bind_some,decide_true]) N [] 0 (Nat.zero_le _) (by unfold cU at hN; omega) rfl
 have gR:ak (gQ N (K,e)) N ([],0,s,i)=_:=key
 rw [gR,List.drop_zero,lg,List.nil_append]
theorem yJ (C:List (List P3)) (hC:∀ l∈C,eR l=0) (hl:C.length≤16):ak (iX N C) N ((),0,[])=some ((),aL C):=by
 have key:=bD (rd:=iX N C) (List.range C.length) (fun s k=>((),(k:Int),s)) (fun s i=>s++tQ C i) (fun s=>((),s)) (fun s k=>s.length≤8192 * k) (fun s k hk hs=>by
  have hk:k < C.length:=by simpa using hk
  rw [List.getElem_range]
  obtain ⟨a1,a2⟩:=yG C hk
  have hn:=hC _ (List.getElem_mem hk)
  have e:C.getD k []=C[k]:=by simp [hk]
  have hkl:=pI hn
  have q:=yI hN C[k]
  rw [if_pos hn] at q
  have Na:=vT hC k
  have hb:decide ((s.length+(tQ C k).length) * 24≤140737488355328)=true:=decide_eq_true (by omega)
  have hi:=VP hN (aT C[k]) 0 s (k:Int) hkl
  have he:(aT C[k]).map (fun x=>((k:Int),x.1,x.2))=tQ C k:=by unfold tQ; rw [e]
  rw [he] at hi
  have z:∀ a b:List P3,List.map qk a++List.map qk b=List.map qk (a++b):=fun a b=>by rw [List.map_append]
  have zn:allFit (aA.fits nO) ([]:List AV)=true:=rfl
  have zC:(s++tQ C k).length=s.length+(tQ C k).length:=List.length_append
  refine ⟨?_,by rw [zC]; omega⟩
  simp only [iX,List.length_map,Int.toNat_natCast,a1,a2,ax hk,an hk,Bool.and_self,Bool.and_true,cond_true,eN,eO,q,Option.bind_some,zn,ea,ec,List.map_nil,List.length_nil,decide_true,hi,hb,z,zC,Nat.beq_refl,aN (show k < 9223372036854775807 by omega)]) (fun s _=>by
  rw [List.length_range]
  simp only [iX,List.length_map,aJ,cond_false,Nat.beq_refl,ea,ec,Bool.and_self,Bool.and_true,cond_true,Option.bind_some]) N [] 0 (Nat.zero_le _) (by unfold cU at hN; simp; omega) (Nat.zero_le _)
 have gR:ak (iX N C) N ((),0,[])=_:=key
 rw [gR,List.drop_zero,lJ,List.nil_append]
 rfl
theorem Ru (C:List (List P3)) (a1 a2:Int):T36 N (C,a1,a2)=some (if pU C=0 then Rt C a1 a2 else ([],pU C)):=by
 rw [Vb]
 have q3:∀ x y z:Int,Cd N [x,y,z]=some (ay [x,y,z]):=fun x y z=>gb hN _ (by simp)
 simp only [List.length_map,adW,eH,ee,Bool.and_true,cond_true,Option.bind_some,HD hN C,kF,adX,q3,ay]
 by_cases h0:pU C=0
 ·obtain ⟨c1,c2⟩:=vS h0
  rw [if_pos h0,if_pos h0]
  unfold Rt
  by_cases h1:a1 < 0∨a1≥(C.length:Int)∨a2 < 0∨a2≥(C.length:Int)
  ·rw [decide_eq_true h1,if_pos h1]; rfl
  ·rw [decide_eq_false h1,if_neg h1]
   by_cases h2:a1=a2
   ·have hb:(a1 == a2)=true:=beq_iff_eq.2 h2
    rw [hb,if_pos h2]; rfl
   ·have hb:(a1 == a2)=false:=beq_false_of_ne h2
    rw [hb,if_neg h2]
    have Na:=D0 c2 c1
    obtain ⟨a,rfl⟩:∃ a:Nat,a1=(a:Int):=⟨a1.toNat,by omega⟩
    obtain ⟨b,rfl⟩:∃ b:Nat,a2=(b:Int):=⟨a2.toNat,by omega⟩
    have ni:=Rs hN (aL C) Na (uP C) (a:Int) (b:Int)
    rw [VO C a b (by omega) (by omega)] at ni
    have nb:Nat.beq 0 0=true:=rfl
    have f1:allFit (aA.fits nO) []=true:=rfl
    have f2:allFit (aA.fits ca) []=true:=rfl
    simp only [Bool.false_eq_true,if_false,if_true,bne_self_eq_false,cond_false,nb,f1,f2,List.map_nil,List.length_nil,Bool.and_self,cond_true,Option.bind_some,yJ hN C c2 c1,ea,ec,decide_true,ni,yl,ym,Int.toNat_natCast]
 ·have hb:(pU C != 0)=true:=bne_iff_ne.2 h0
  rw [if_neg h0,if_neg h0,hb]
  rfl
end
end Go.Proofs.YtfiopgedfcaodaaGreatDoor
namespace Go.Proofs.YtfiopgedfcaodaaGreatDoor
open Go Go.Am Go.Sort
set_option maxRecDepth 100000
theorem D3:∀ s:List (List P3),allFit (aA.fits hZ) (List.map n115 s++[AV.list .full 3 []])=true
 | []=>rfl
 | x :: s=>by
  show (aA.fits hZ (n115 x)&&allFit (aA.fits hZ) (List.map n115 s++[AV.list .full 3 []]))=true
  rw [D3 s,SA]; rfl
theorem MM (s:List (List P3)):List.map d115 (List.map n115 s++[AV.list .full 3 []])=s++[[]]:=by
 rw [List.map_append,ee]; rfl
theorem HF (s:List (List P3)) (l:List P3):List.map n115 s++[AV.list .gr 3 (List.map n120 l)]=List.map n115 (s++[l]):=by
 rw [List.map_append]; rfl
section
variable {N:Nat} (hN:cU N)
include hN
theorem MN (C:List (List P3)) (hC:C.length≤100) (hl:∀ l∈C,l.length≤4098):Yx N C=some C:=by
 rw [U8]
 have key:=bD (rd:=tL N C) C (fun s k=>(s,(k:Int))) (fun s l=>s++[l]) (fun s=>s) (fun s k=>s.length=k) (fun s k hk hs=>by
  obtain ⟨a1,a2⟩:=yG C hk
  have hb:decide ((s.length+1) * 24≤140737488355328)=true:=decide_eq_true (by omega)
  have zC:(s++[C[k]]).length=s.length+1:=by simp
  have yU:=hl _ (List.getElem_mem hk)
  refine ⟨?_,by rw [zC,hs]⟩
  by_cases h0:C[k]=[]
  ·rw [h0] at a1 zC ⊢
   simp only [tL,List.length_map,Int.toNat_natCast,a1,a2,ax hk,an hk,Bool.and_self,Bool.and_true,cond_true,List.map_nil,List.isEmpty_nil,decide_true,hb,D3,MM,Option.bind_some,zC,eH,ee,aN (show k < 9223372036854775807 by omega)]
  ·have cL:List.isEmpty (List.map n120 C[k])=false:=by
    cases hd:C[k] with
    | nil=>exact absurd hd h0
    | cons x y=>rfl
   have Jq:decide ((0+C[k].length) * 24≤140737488355328)=true:=decide_eq_true (by omega)
   simp only [tL,List.length_map,Int.toNat_natCast,a1,a2,ax hk,an hk,Bool.and_self,Bool.and_true,cond_true,cond_false,cL,Jq,decide_true,hb,List.nil_append,HF,eH,ee,Option.bind_some,zC,aN (show k < 9223372036854775807 by omega)]) (fun s _=>by
  simp only [tL,List.length_map,aJ,cond_false,eH,ee,Bool.and_true,cond_true,Option.bind_some,decide_true]) N [] 0 (Nat.zero_le _) (by unfold cU at hN; omega) rfl
 have gR:ak (tL N C) N ([],0)=_:=key
 have z:((bif (allFit (aA.fits hZ) ([]:List AV)&&true) then some ((List.map d115 ([]:List AV)),0) else none:Option ((List (List (Int × Int × Int))) × Int)).bind fun w9=>bif (decide (0=(List.map n115 w9.1).length)&&true) then some w9 else none)=some ([],0):=rfl
 rw [z,Option.bind_some,gR,List.drop_zero,qN,List.nil_append,Option.bind_some]
 simp only [eH,ee,Bool.and_true,cond_true] <;> rfl
end
end Go.Proofs.YtfiopgedfcaodaaGreatDoor
