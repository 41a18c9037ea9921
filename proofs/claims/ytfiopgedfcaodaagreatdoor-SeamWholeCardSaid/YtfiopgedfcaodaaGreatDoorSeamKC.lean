/- Plain laws: degrees and counts of what is sewn. -/
import Derived.Test.YtfiopgedfcaodaaGreatDoorSeamKA
import Derived.Test.YtfiopgedfcaodaaGreatDoorSeamTh
import Derived.Test.YtfiopgedfcaodaaGreatDoorSeamKB
set_option linter.all false
namespace Go.Proofs.YtfiopgedfcaodaaGreatDoor
open Go Go.Am
set_option maxRecDepth 100000
def uL (n:Nat) (u:Nat→Nat):List Int:=(List.range n).map fun i=>((u i:Nat):Int)
@[simp] theorem eT (n:Nat) (u:Nat→Nat):(uL n u).length=n:=by simp [uL]
theorem Gd {n:Nat} (u:Nat→Nat) {k:Nat} (hk:k < (uL n u).length):(uL n u)[k]=(u k:Int):=by simp [uL]
theorem VR (n:Nat) (u:Nat→Nat) (k v:Nat):(uL n u).set k (v:Int)=uL n (zB u k v):=by
 apply List.ext_getElem
 ·simp
 ·intro j h1 h2
  have e1:(uL n (zB u k v))[j]=((zB u k v j:Nat):Int):=Gd _ _
  rw [List.getElem_set,e1]
  by_cases e:j=k
  ·subst e; rw [if_pos rfl,fM]
  ·have e':¬ k=j:=fun h=>e h.symm
   rw [if_neg e',qY e,Gd]
theorem Ju (n:Nat) (u:Nat→Nat) {k:Nat} (hk:k < n):d3 (ab (List.map n3 (uL n u)) k)=(u k:Int)∧aA.fits p3 (ab (List.map n3 (uL n u)) k)=true:=by
 obtain ⟨a1,a2⟩:=at3 (uL n u) (k:=k) (by simpa using hk)
 exact ⟨a1.trans (Gd u _),a2⟩
theorem Je (n:Nat) (u:Nat→Nat) (k v:Nat):ap (List.map n3 (uL n u)) k (AV.int .i64 (v:Int))=List.map n3 (uL n (zB u k v)):=by rw [SC,VR]
def gd (f:Nat→Nat) (k:Nat):Nat:=(List.range k).countP fun i=>decide (f i=i)
theorem sT (f:Nat→Nat) (k:Nat):gd f (k+1)=gd f k+if f k=k then 1 else 0:=by
 unfold gd
 rw [List.range_succ,List.countP_append,List.countP_singleton]
 by_cases h:f k=k <;> simp [h]
theorem Ge (f:Nat→Nat) (k:Nat):gd f k≤k:=by
 have:=List.countP_le_length (p:=fun i=>decide (f i=i)) (l:=List.range k)
 rwa [List.length_range] at this
theorem Rw {n:Int} {b:Int × Int} (h:q7 n b=0):0≤b.1∧b.1≤b.2∧b.2 < n:=by
 have h:=bN.1 h
 have h1:=h (oU b.1 0 (n - 1)) (by simp)
 have h2:=h (oU b.2 0 (n - 1)) (by simp)
 have h3:=h (if decide (b.1 > b.2)=true then 11 else 0) (by simp)
 unfold oU at h1 h2
 split at h1
 ·cases h1
 ·split at h2
  ·cases h2
  ·split at h3
   ·cases h3
   ·rename_i a b c
    simp at c
    omega
theorem HJ {C:List (List P3)} {B:List (Int × Int)} (h:sL C B=0):C.length≤8192∧B.length≤8192∧∀ b∈B,0≤b.1∧b.1≤b.2∧b.2 < (C.length:Int):=by
 unfold sL at h
 split at h
 ·cases h
 ·rename_i h0
  refine ⟨by omega,by omega,?_⟩
  cases hf:foldI DR [] C with
  | inr e=>
   rw [hf] at h
   have key:∀ (l:List (List P3)) (s:List P3) (e:Int × List P3),foldI DR s l=.inr e→e.1≠0:=by
    intro l
    induction l with
    | nil=>intro s e h; cases h
    | cons c l ih=>
     intro s e h
     unfold foldI at h
     cases hs:DR s c with
     | inl s'=>rw [hs] at h; exact ih s' e h
     | inr y=>
      rw [hs] at h
      injection h with h
      subst h
      unfold DR at hs
      split at hs
      ·injection hs with hs; subst hs; show (12:Int)≠0; decide
      ·have k2:∀ (l:List P3) (s:List P3) (e:Int × List P3),foldI Cf s l=.inr e→e.1≠0:=by
        intro l
        induction l with
        | nil=>intro s e h; cases h
        | cons p l ih=>
         intro s e h
         unfold foldI at h
         unfold Cf at h
         split at h
         ·exact ih _ e h
         ·rename_i hz
          injection h with h
          subst h
          exact hz
       exact k2 _ _ _ hs
   exact absurd h (key _ _ _ hf)
  | inl s=>
   rw [hf] at h
   intro b hb
   exact Rw (bN.1 h _ (List.mem_map.2 ⟨b,hb,rfl⟩))
theorem HK (a b:Nat):((if (b:Int) > (a:Int) then (b:Int) else (a:Int))=((max a b:Nat):Int))∧((if (b:Int) < (a:Int) then (b:Int) else (a:Int))=((min a b:Nat):Int)):=by
 constructor <;> split <;> omega
def AK (s:List Int) (i:Nat):List Int:=s.set i (IntKind.wrap .i64 (s.getD i 0+1))
theorem j3 (s:List Int) (i:Nat):(AK s i).length=s.length:=by simp [AK]
def Ev (n:Nat) (B:List (Int × Int)):List Int:=B.foldl (fun s b=>AK (AK s b.1.toNat) b.2.toNat) (List.replicate n 0)
theorem BX (n:Nat) (B:List (Int × Int)):(Ev n B).length=n:=by
 unfold Ev
 have:∀ (B:List (Int × Int)) (s:List Int),(B.foldl (fun s b=>AK (AK s b.1.toNat) b.2.toNat) s).length=s.length:=fun B=>by
  induction B with
  | nil=>intro s; rfl
  | cons b B ih=>intro s; rw [List.foldl_cons,ih,j3,j3]
 rw [this,List.length_replicate]
theorem MO (s:List Int) {i:Nat} (hi:i < s.length):ap (List.map n3 s) i (AV.int .i64 (IntKind.wrap .i64 (s[i]+1)))=List.map n3 (AK s i):=by
 rw [SC]
 unfold AK
 have e:s.getD i 0=s[i]:=by simp [hi]
 rw [e]
section
variable {N:Nat} (hN:cU N) (C:List (List P3)) (B:List (Int × Int)) (hC:C.length≤8192) (hB:B.length≤8192) (hb:∀ b∈B,0≤b.1∧b.1≤b.2∧b.2 < (C.length:Int))
include hN hC hB hb
theorem MP:ak (sx N (C,B)) N (0,List.replicate C.length 0)=some (Ev C.length B):=by
 have key:=bD (rd:=sx N (C,B)) B (fun s k=>((k:Int),s)) (fun s b=>AK (AK s b.1.toNat) b.2.toNat) (fun s=>s) (fun s _=>s.length=C.length) (fun s k hk hs=>by
  obtain ⟨a1,a2⟩:=Hx B hk
  obtain ⟨c1,c2,c3⟩:=hb _ (List.getElem_mem hk)
  obtain ⟨i,hi⟩:=Int.eq_ofNat_of_zero_le c1
  obtain ⟨j,hj⟩:=Int.eq_ofNat_of_zero_le (Int.le_trans c1 c2)
  have Za:i < C.length:=by omega
  have Zb:j < C.length:=by omega
  have his:i < s.length:=by omega
  have hjs:j < (AK s i).length:=by rw [j3]; omega
  obtain ⟨x1,x2⟩:=at3 s his
  obtain ⟨y1,y2⟩:=at3 (AK s i) hjs
  have di:decide (i < C.length)=true:=decide_eq_true Za
  have dj:decide (j < C.length)=true:=decide_eq_true Zb
  refine ⟨?_,by rw [j3,j3,hs]⟩
  simp only [sx,List.length_map,Int.toNat_natCast,a1,a2,hi,hj,ax hk,an hk,an Za,an Zb,Bool.and_self,cond_true,hs,Nat.zero_add,decide_true,di,dj,x1,x2,MO s his,j3,y1,y2,MO (AK s i) hjs,qi,qj,Option.bind_some,aN (show k < 9223372036854775807 by omega)]) (fun s hs=>by
  simp only [sx,List.length_map,aJ,cond_false,qi,qj,Bool.and_self,cond_true,Option.bind_some]) N (List.replicate C.length 0) 0 (Nat.zero_le _) (by unfold cU at hN; omega) (by simp)
 rw [List.drop_zero] at key
 exact key
def rn (B:List (Int × Int)):List (Nat × Nat):=B.map fun b=>(b.1.toNat,b.2.toNat)
omit hN hC hB hb in
theorem D5 (es:List (Nat × Nat)) {k:Nat} (hk:k < es.length):nR (es.take (k+1))=tO (nR (es.take k)) es[k]:=by
 unfold nR
 rw [List.take_add_one,List.foldl_append,List.getElem?_eq_getElem hk]
 rfl
omit hC hB hb in
theorem pJ {n:Nat} {f:Nat→Nat} (o9:Unit × List Int) (ho:o9.2.length=n):∀ (b9 i:Nat) (u:Nat→Nat),i < b9→i < n→UF f n u →
  ∃ u',ak (gP N o9) b9 ((i:Int),uL n u)=some ((f i:Int),uL n u')∧UF f n u'
 | 0,i,u,h,_,_=>by omega
 | b9+1,i,u,hf,hi,hu=>by
  rw [bt]
  obtain ⟨a1,a2⟩:=Ju n u hi
  have hle:=hu.le i hi
  have yL:u i < n:=by omega
  obtain ⟨b1,b2⟩:=Ju n u yL
  obtain ⟨c1,c2⟩:=Ju n (zB u i (u (u i))) hi
  rw [fM] at c1
  have di:decide (i < n)=true:=decide_eq_true hi
  have du:decide (u i < n)=true:=decide_eq_true yL
  by_cases he:u i=i
  ·refine ⟨u,?_,hu⟩
   have hb:((u i:Int) != (i:Int))=false:=by simp [he]
   simp only [gP,List.length_map,ho,eT,Int.toNat_natCast,Nat.zero_add,an hi,decide_true,di,a1,a2,Bool.and_self,cond_true,hb,cond_false,qi,qj,Option.bind_some,Sum.elim_inr]
   rw [hu.fix i hi he]
  ·have hb:((u i:Int) != (i:Int))=true:=by simp; omega
   have bP:=hu.le (u i) yL
   have kW:gP N o9 ((i:Int),uL n u)=some (.inl ((u (u i):Int),uL n (zB u i (u (u i))))):=by
    simp only [gP,List.length_map,ho,eT,Int.toNat_natCast,Nat.zero_add,an hi,an yL,decide_true,di,du,a1,a2,b1,b2,Bool.and_self,cond_true,hb,Je,c1,c2,qi,qj,Option.bind_some]
   rw [kW]
   simp only [Option.bind_some,Sum.elim_inl]
   have vF:=hu.half hi he
   obtain ⟨u',h1,h2⟩:=pJ o9 ho b9 (u (u i)) _ (by omega) (by omega) vF
   refine ⟨u',?_,h2⟩
   rw [h1,(hu.lb (u i) yL).trans (hu.lb i hi)]
theorem AL (o9:Unit × List Int) (ho:o9.2.length=C.length):∀ (m k b9:Nat) (u:Nat→Nat),k+m=B.length→m < b9→UF (nR ((rn B).take k)) C.length u →
  ∃ u',ak (pD N (C,B) o9) b9 ((k:Int),uL C.length u)=some (uL C.length u')∧UF (nR (rn B)) C.length u'
 | 0,k,b9,u,hk,hf,hu=>by
  obtain ⟨b9,rfl⟩:∃ g,b9=g+1:=⟨b9 - 1,by omega⟩
  have hk:k=B.length:=by omega
  subst hk
  rw [bt]
  refine ⟨u,?_,?_⟩
  ·simp only [pD,List.length_map,aJ,cond_false,qi,qj,Bool.and_self,cond_true,Option.bind_some,Sum.elim_inr]
  ·have e:(rn B).take B.length=rn B:=List.take_of_length_le (by simp [rn])
   rwa [e] at hu
 | m+1,k,b9,u,hk,hf,hu=>by
  obtain ⟨b9,rfl⟩:∃ g,b9=g+1:=⟨b9 - 1,by omega⟩
  have gl:k < B.length:=by omega
  rw [bt]
  obtain ⟨a1,a2⟩:=Hx B gl
  obtain ⟨c1,c2,c3⟩:=hb _ (List.getElem_mem gl)
  obtain ⟨i,hi⟩:=Int.eq_ofNat_of_zero_le c1
  obtain ⟨j,hj⟩:=Int.eq_ofNat_of_zero_le (Int.le_trans c1 c2)
  have Za:i < C.length:=by omega
  have Zb:j < C.length:=by omega
  have hke:k < (rn B).length:=by simp [rn]; exact gl
  have he:(rn B)[k]=(i,j):=by simp [rn,hi,hj]
  have hl:=D5 (rn B) hke
  rw [he] at hl
  have dY:=qX ((rn B).take k)
  obtain ⟨u1,r1,Er⟩:=pJ hN o9 ho N i u (by unfold cU at hN; omega) Za hu
  obtain ⟨u2,r2,vF⟩:=pJ hN o9 ho N j u1 (by unfold cU at hN; omega) Zb Er
  have Rx:ak (uI N o9) N ((j:Int),uL C.length u1)=some ((nR ((rn B).take k) j:Int),uL C.length u2):=r2
  obtain ⟨m1,m2⟩:=HK (nR ((rn B).take k) i) (nR ((rn B).take k) j)
  have MQ:max (nR ((rn B).take k) i) (nR ((rn B).take k) j) < C.length:=by
   have x1:=dY.le i
   have x2:=dY.le j
   omega
  have dm:decide (max (nR ((rn B).take k) i) (nR ((rn B).take k) j) < C.length)=true:=decide_eq_true MQ
  have Ws:=vF.join dY (i,j) Za Zb
  rw [← hl] at Ws
  obtain ⟨u',h1,h2⟩:=AL o9 ho m (k+1) b9 _ (by omega) (by omega) Ws
  refine ⟨u',?_,h2⟩
  have kW:pD N (C,B) o9 ((k:Int),uL C.length u)=some (.inl (((k+1:Nat):Int),uL C.length (zB u2 (max (nR ((rn B).take k) i) (nR ((rn B).take k) j)) (min (nR ((rn B).take k) i) (nR ((rn B).take k) j))))):=by
   simp only [pD,List.length_map,Int.toNat_natCast,a1,a2,hi,hj,ax gl,an gl,Bool.and_self,cond_true,qi,qj,Option.bind_some,r1,Rx,m1,m2,ho,eT,an MQ,Nat.zero_add,decide_true,dm,Je,aN (show k < 9223372036854775807 by omega)]
  rw [kW]
  simp only [Option.bind_some,Sum.elim_inl]
  exact h1
omit hC hB hb in
theorem yM {n:Nat} (hn:n≤8192) {f:Nat→Nat} (o9:Unit × List Int) (ho:o9.2.length=n) (c1 c2 z:Int):∀ (m k b9:Nat) (u:Nat→Nat),k+m=n→m < b9→UF f n u →
  ∃ u',ak (pE N o9) b9 ((k:Int),c1,c2,(gd f k:Int),z,uL n u)=some (c1,c2,(gd f n:Int),z,uL n u')
 | 0,k,b9,u,hk,hf,hu=>by
  obtain ⟨b9,rfl⟩:∃ g,b9=g+1:=⟨b9 - 1,by omega⟩
  have hk:k=n:=by omega
  subst hk
  rw [bt]
  exact ⟨u,by simp only [pE,List.length_map,ho,aJ,cond_false,qi,qj,Bool.and_self,cond_true,Option.bind_some,Sum.elim_inr]⟩
 | m+1,k,b9,u,hk,hf,hu=>by
  obtain ⟨b9,rfl⟩:∃ g,b9=g+1:=⟨b9 - 1,by omega⟩
  have gl:k < n:=by omega
  rw [bt]
  obtain ⟨u1,r1,Er⟩:=pJ hN o9 ho N k u (by unfold cU at hN; omega) gl hu
  have V0:ak (sy N o9) N ((k:Int),uL n u)=some ((f k:Int),uL n u1):=r1
  obtain ⟨u',h1⟩:=yM hn o9 ho c1 c2 z m (k+1) b9 u1 (by omega) (by omega) Er
  refine ⟨u',?_⟩
  have jh:=Ge f k
  have kW:pE N o9 ((k:Int),c1,c2,(gd f k:Int),z,uL n u)=some (.inl (((k+1:Nat):Int),c1,c2,(gd f (k+1):Int),z,uL n u1)):=by
   simp only [pE,List.length_map,ho,ax gl,cond_true,qi,qj,Bool.and_self,Option.bind_some,V0,aN (show k < 9223372036854775807 by omega),aN (show gd f k < 9223372036854775807 by omega)]
   rw [sT]
   by_cases h:f k=k
   ·simp only [h,beq_self_eq_true,cond_true,if_true,qi,qj,Bool.and_self,Option.bind_some]
   ·have hb:((f k:Int) == (k:Int))=false:=beq_false_of_ne (by omega)
    simp only [hb,cond_false,h,if_false,qi,qj,Bool.and_self,cond_true,Option.bind_some,Nat.add_zero]
  rw [kW]
  simp only [Option.bind_some,Sum.elim_inl]
  exact h1
omit hC hB hb in
theorem Gf (a0:List (List P3) × List (Int × Int)) (hn:a0.1.length≤8192):ak (iT N a0) N ((),0,[])=some ((),uL a0.1.length id):=by
 have hs:∀ k,uL k id++[(k:Int)]=uL (k+1) id:=fun k=>by unfold uL; rw [List.range_succ,List.map_append]; rfl
 have key:=hU (rd:=iT N a0) a0.1.length (fun k=>((),(k:Int),uL k id)) ((),uL a0.1.length id) (fun k hk=>by
  have hb:(k+1) * 8≤140737488355328:=by omega
  simp only [iT,List.length_map,ax hk,cond_true,eT,decide_true,Bool.and_self,hb,SB,hs,List.length_append,List.length_singleton,Nat.beq_refl,qi,qj,Option.bind_some,aN (show k < 9223372036854775807 by omega)]) (by
  simp only [iT,List.length_map,aJ,cond_false,eT,Nat.beq_refl,qi,qj,Bool.and_self,cond_true,Option.bind_some]) N 0 (Nat.zero_le _) (by unfold cU at hN; omega)
 exact key
def Zc (C:List (List P3)) (B:List (Int × Int)):Int × Int × Int × Int:=
 ((C.length:Int),(B.length:Int),(gd (nR (rn B)) C.length:Int),IntKind.wrap .i64 (IntKind.wrap .i64 ((B.length:Int) - (C.length:Int))+(gd (nR (rn B)) C.length:Int)))
end
end Go.Proofs.YtfiopgedfcaodaaGreatDoor
namespace Go.Proofs.YtfiopgedfcaodaaGreatDoor
open Go Go.Am Go.Sort
set_option maxRecDepth 100000
def lK (S:List P3) (p:P3):Nat:=S.idxOf p
theorem nC {S:List P3} {p:P3} (h:p∈S):lK S p < S.length:=List.idxOf_lt_length_of_mem h
theorem Gg {S:List P3} (hS:S.Nodup) (k:Nat) (h:k < S.length):lK S S[k]=k:=hS.idxOf_getElem k h
theorem nD (C:List (List P3)):(aL C).Nodup:=(uP C).imp fun {a b} h e=>by
 subst e
 unfold Cg at h
 omega
theorem AM:iy .int (fun k=>AV.int .i64 k) (fun v=>AV.int .i64 v) mq:=⟨fun a b=>Re .i64 a b,fun _=>rfl,fun _=>rfl⟩
theorem MR (k:Int) (m:List (Int × Int)):cH .int (AV.int .i64 k) (aB (List.map mq m))=true:=AM.keys k m
theorem MS (k:Int) (m:List (Int × Int)):bf .int (AV.int .i64 k) (AV.int .i64 0) (aB (List.map mq m))=n3 ((getM k m).getD 0):=AM.getD k 0 m
theorem Zd (k v:Int) (m:List (Int × Int)):er .int (AV.int .i64 k) (AV.int .i64 v) (aB (List.map mq m))=aB (List.map mq (sJ k v m)):=AM.put k v m
theorem nS (m:List (Int × Int)):ah (aB (List.map mq m))=List.map mq m:=AM.cells m
theorem nT (m:List (Int × Int)):jw (aB (List.map mq m))=true:=AM.jw m
def ef (L:List Nat):List Int:=L.map fun n:Nat=>(n:Int)
def kQ (CL:List (List P3)):List Nat:=CL.map List.length
def ia (CL:List (List P3)):List (Nat × List P3):=(List.range CL.length).map fun c=>(c,CL.getD c [])
theorem vm (L:List Nat):bj (List.map n2 (ef L))=L:=by
 unfold bj ef
 rw [List.map_map,List.map_map]
 conv=>rhs; rw [← List.map_id L]
 apply List.map_congr_left
 intro n _
 show ((n:Int)).toNat=n
 exact Int.toNat_natCast n
theorem HL (L:List Nat):cP L=List.map n2 (ef L):=by
 unfold cP ef
 rw [List.map_map]; rfl
theorem Jv (L:List Nat):allFit (aA.fits p2) (cP L)=true:=by rw [HL,fa2]
theorem Jw (L:List Nat):List.map d2 (cP L)=ef L:=by rw [HL,md2]
@[simp] theorem D6 (CL:List (List P3)):(kQ CL).length=CL.length:=by simp [kQ]
theorem Jf (CL:List (List P3)):kQ CL++[0]=kQ (CL++[[]]):=by simp [kQ]
theorem D7 (CL:List (List P3)) (c:Nat) (l:List P3):ap (kQ CL) c l.length=kQ (CL.set c l):=by
 rw [eh]
 unfold kQ
 rw [List.map_set]
theorem Ze {fs:List Nat} {j n:Nat} (h:nth fs j=some n):EB fs j n=true:=by unfold EB; rw [decide_eq_true h]; rfl
theorem sU {CL:List (List P3)} {c:Nat} (h:c < CL.length):nth (kQ CL) c=some CL[c].length:=by
 rw [aY]
 simp [kQ,h]
@[simp] theorem sV (CL:List (List P3)):(ia CL).length=CL.length:=by simp [ia]
theorem sW {CL:List (List P3)} {c:Nat} (h:c < (ia CL).length):(ia CL)[c]=(c,CL[c]'(by simpa using h)):=by
 have h':c < CL.length:=by simpa using h
 simp [ia,h']
theorem Jg (CL:List (List P3)) (l:List P3):ia CL++[(CL.length,l)]=ia (CL++[l]):=by
 unfold ia
 rw [List.length_append,List.length_singleton,List.range_succ,List.map_append]
 congr 1
 ·apply List.map_congr_left
  intro c hc
  have hc:=List.mem_range.1 hc
  simp [List.getElem?_append,hc]
 ·simp
theorem MT (CL:List (List P3)) (c:Nat) (l:List P3):(ia CL).set c (c,l)=ia (CL.set c l):=by
 apply List.ext_getElem
 ·simp
 ·intro j h1 h2
  have hj:j < CL.length:=by simpa using h1
  rw [sW h2,List.getElem_set]
  by_cases e:c=j
  ·subst e; simp
  ·rw [if_neg e,sW (by simpa using hj)]
   simp [e]
theorem atF {CL:List (List P3)} {c:Nat} (h:c < CL.length):dR (ab (List.map dL (ia CL)) c)=(c,CL[c])∧aA.fits cQ (ab (List.map dL (ia CL)) c)=true:=by
 have hd:=dx dL (ia CL) c (by simpa using h)
 rw [hd,QR,QQ,sW]
 exact ⟨rfl,rfl⟩
theorem Zf (CL:List (List P3)):List.map dL (ia CL)++[AV.list (.aP 4 CL.length) 3 []]=List.map dL (ia (CL++[[]])):=by
 rw [← Jg,List.map_append]; rfl
theorem Zg (CL:List (List P3)) (c:Nat) (l:List P3) (a b d:Int):ap (List.map dL (ia CL)) c (AV.list (.aP 4 c) 3 (List.map qk l++[AV.agg [AV.int .i64 a,AV.int .i64 b,AV.int .i64 d]]))=List.map dL (ia (CL.set c (l++[(a,b,d)]))):=by
 rw [← MT,eh,List.map_set,Gb]
 rfl
def D8 (f:Nat→Nat) (S:List P3) (CL:List (List P3)) (i:Nat):List (List P3):=
 if f i=i then CL++[[S.getD i (0,0,0)]] else CL.set (gd f (f i)) (CL.getD (gd f (f i)) []++[S.getD i (0,0,0)])
def cX (f:Nat→Nat) (S:List P3) (k:Nat):List (List P3):=(List.range k).foldl (D8 f S) []
theorem kd (f:Nat→Nat) (S:List P3) (k:Nat):cX f S (k+1)=D8 f S (cX f S k) k:=by
 unfold cX
 rw [List.range_succ,List.foldl_append]
 rfl
theorem jE (f:Nat→Nat) (S:List P3):∀ k,(cX f S k).length=gd f k
 | 0=>rfl
 | k+1=>by
  rw [kd,sT]
  unfold D8
  split
  ·rw [List.length_append,jE f S k]; rfl
  ·rw [List.length_set,jE f S k]; rfl
theorem pf (f:Nat→Nat) (S:List P3):∀ k,∀ l∈cX f S k,l.length≤k
 | 0,l,h=>by cases h
 | k+1,l,h=>by
  rw [kd] at h
  unfold D8 at h
  split at h
  ·rcases List.mem_append.1 h with h | h
   ·have:=pf f S k l h; omega
   ·rw [List.mem_singleton] at h; subst h; simp
  ·rcases List.mem_or_eq_of_mem_set h with h | h
   ·have:=pf f S k l h; omega
   ·subst h
    rw [List.length_append,List.length_singleton]
    by_cases hc:gd f (f k) < (cX f S k).length
    ·have e:(cX f S k).getD (gd f (f k)) []=(cX f S k)[gd f (f k)]:=by simp [hc]
     rw [e]
     have:=pf f S k _ (List.getElem_mem hc)
     omega
    ·have e:(cX f S k).getD (gd f (f k)) []=[]:=by simp [hc]
     rw [e]; simp
theorem nE {f:Nat→Nat} {r:Nat} (h:f r=r):∀ {k:Nat},r < k→gd f r < gd f k
 | 0,hk=>by omega
 | k+1,hk=>by
  rw [sT]
  by_cases e:r=k
  ·subst e; rw [if_pos h]; omega
  ·have:=nE h (k:=k) (by omega)
   omega
section
variable {N:Nat} (hN:cU N)
include hN
theorem MU {n:Nat} {f:Nat→Nat} (o:Unit × List P3 × List (P3 × Int) × List Int) (ho:o.2.2.2.length=n) (S:List P3) (m:List (P3 × Int)):∀ (b9 i:Nat) (u:Nat→Nat),i < b9→i < n→UF f n u →
  ∃ u',ak (jb N o) b9 ((i:Int),S,m,uL n u)=some ((f i:Int),S,m,uL n u')∧UF f n u'
 | 0,i,u,h,_,_=>by omega
 | b9+1,i,u,hf,hi,hu=>by
  rw [bt]
  obtain ⟨a1,a2⟩:=Ju n u hi
  have hle:=hu.le i hi
  have yL:u i < n:=by omega
  obtain ⟨b1,b2⟩:=Ju n u yL
  obtain ⟨c1,c2⟩:=Ju n (zB u i (u (u i))) hi
  rw [fM] at c1
  have di:decide (i < n)=true:=decide_eq_true hi
  have du:decide (u i < n)=true:=decide_eq_true yL
  by_cases he:u i=i
  ·refine ⟨u,?_,hu⟩
   have hb:((u i:Int) != (i:Int))=false:=by simp [he]
   simp only [jb,List.length_map,ho,eT,Int.toNat_natCast,Nat.zero_add,an hi,decide_true,di,a1,a2,Bool.and_self,Bool.and_true,cond_true,hb,cond_false,qi,qj,ea,ec,fb,fc,dl,dp,Option.bind_some,Sum.elim_inr]
   rw [hu.fix i hi he]
  ·have hb:((u i:Int) != (i:Int))=true:=by simp; omega
   have bP:=hu.le (u i) yL
   have kW:jb N o ((i:Int),S,m,uL n u)=some (.inl ((u (u i):Int),S,m,uL n (zB u i (u (u i))))):=by
    simp only [jb,List.length_map,ho,eT,Int.toNat_natCast,Nat.zero_add,an hi,an yL,decide_true,di,du,a1,a2,b1,b2,Bool.and_self,Bool.and_true,cond_true,hb,Je,c1,c2,qi,qj,ea,ec,fb,fc,dl,dp,Option.bind_some]
   rw [kW]
   simp only [Option.bind_some,Sum.elim_inl]
   have vF:=hu.half hi he
   obtain ⟨u',h1,h2⟩:=MU o ho S m b9 (u (u i)) _ (by omega) (by omega) vF
   refine ⟨u',?_,h2⟩
   rw [h1,(hu.lb (u i) yL).trans (hu.lb i hi)]
theorem MV {n:Nat} {f:Nat→Nat} (o:Unit × List P3 × List (P3 × Int) × List Int) (ho:o.2.2.2.length=n) (S:List P3) (m:List (P3 × Int)) (E:List (Nat × List P3)) (L:List Nat) (M:List (Int × Int)):∀ (b9 i:Nat) (u:Nat→Nat),i < b9→i < n→UF f n u →
  ∃ u',ak (fY N o) b9 ((i:Int),S,m,uL n u,E,ef L,M)=some ((f i:Int),S,m,uL n u',E,ef L,M)∧UF f n u'
 | 0,i,u,h,_,_=>by omega
 | b9+1,i,u,hf,hi,hu=>by
  rw [bt]
  obtain ⟨a1,a2⟩:=Ju n u hi
  have hle:=hu.le i hi
  have yL:u i < n:=by omega
  obtain ⟨b1,b2⟩:=Ju n u yL
  obtain ⟨c1,c2⟩:=Ju n (zB u i (u (u i))) hi
  rw [fM] at c1
  have di:decide (i < n)=true:=decide_eq_true hi
  have du:decide (u i < n)=true:=decide_eq_true yL
  by_cases he:u i=i
  ·refine ⟨u,?_,hu⟩
   have hb:((u i:Int) != (i:Int))=false:=by simp [he]
   simp only [fY,List.length_map,ho,eT,Int.toNat_natCast,Nat.zero_add,an hi,decide_true,di,a1,a2,Bool.and_self,Bool.and_true,cond_true,hb,cond_false,qi,qj,ea,ec,fb,fc,dl,dp,nS,nT,jN,jO,gG,gH,vm,Jv,Jw,Option.bind_some,Sum.elim_inr]
   rw [hu.fix i hi he]
  ·have hb:((u i:Int) != (i:Int))=true:=by simp; omega
   have bP:=hu.le (u i) yL
   have kW:fY N o ((i:Int),S,m,uL n u,E,ef L,M)=some (.inl ((u (u i):Int),S,m,uL n (zB u i (u (u i))),E,ef L,M)):=by
    simp only [fY,List.length_map,ho,eT,Int.toNat_natCast,Nat.zero_add,an hi,an yL,decide_true,di,du,a1,a2,b1,b2,Bool.and_self,Bool.and_true,cond_true,hb,Je,c1,c2,qi,qj,ea,ec,fb,fc,dl,dp,nS,nT,jN,jO,gG,gH,vm,Jv,Jw,Option.bind_some]
   rw [kW]
   simp only [Option.bind_some,Sum.elim_inl]
   have vF:=hu.half hi he
   obtain ⟨u',h1,h2⟩:=MV o ho S m E L M b9 (u (u i)) _ (by omega) (by omega) vF
   refine ⟨u',?_,h2⟩
   rw [h1,(hu.lb (u i) yL).trans (hu.lb i hi)]
end
end Go.Proofs.YtfiopgedfcaodaaGreatDoor
namespace Go.Proofs.YtfiopgedfcaodaaGreatDoor
open Go Go.Am Go.Sort
set_option maxRecDepth 100000
theorem SG (k:Int) (m:List (Int × Int)):dz .int (AV.int .i64 k) (aB (List.map mq m))=(getM k m).map n3:=AM.get k m
def je (S:List P3) (J:List qW):List (Nat × Nat):=J.map fun j=>(lK S (j.1,j.2.1,j.2.2.1),lK S (j.2.2.2.1,j.2.2.2.2.1,j.2.2.2.2.2))
def inJ (S:List P3) (J:List qW):Prop:=∀ j∈J,(j.1,j.2.1,j.2.2.1)∈S∧(j.2.2.2.1,j.2.2.2.2.1,j.2.2.2.2.2)∈S
def MW (S:List P3) (m:List (P3 × Int)):Prop:=∀ p,p∈S→getM p m=some (lK S p:Int)
section
variable {N:Nat} (hN:cU N)
include hN
theorem Gh (C:List (List P3)) (hC:∀ l∈C,eR l=0) (hl:C.length≤16):ak (yo N C) N ((),0,[])=some ((),aL C):=yJ hN C hC hl
theorem Jh (S:List P3) (hS:S.length≤1000000) (hd:S.Nodup):∃ m,ak (ja N ((),S)) N (0,S,[])=some (S,m)∧MW S m:=by
 have key:∃ x,ak (ja N ((),S)) N (0,S,[])=some x∧∃ m:List (P3 × Int),x=(S,m)∧MW S m:=by
  refine hX (rd:=ja N ((),S)) (S:=List (P3 × Int)) S.length (fun m k=>((k:Int),S,m)) (fun m k=>∀ p,p∈S.take k→getM p m=some (lK S p:Int)) _ ?_ ?_ N [] 0 (Nat.zero_le _) (by unfold cU at hN; omega) (fun p h=>by simp at h)
  ·intro m k hk hP
   obtain ⟨a1,a2⟩:=vi S hk
   have hdk:decide (k < S.length)=true:=decide_eq_true hk
   refine ⟨sJ S[k] (k:Int) m,?_,fun p=>?_⟩
   ·simp only [ja,List.length_map,Int.toNat_natCast,Nat.zero_add,a1,a2,ax hk,an hk,hdk,decide_true,Bool.and_self,Bool.and_true,cond_true,uO,SF,fb,fc,dl,dp,ea,ec,Option.bind_some,aN (show k < 9223372036854775807 by omega)]
   ·have et:S.take (k+1)=S.take k++[S[k]]:=by rw [List.take_succ,List.getElem?_eq_getElem hk]; rfl
    intro hp
    rw [sK]
    by_cases h:p=S[k]
    ·rw [if_pos h,h,Gg hd]
    ·rw [if_neg h]
     rw [et,List.mem_append,List.mem_singleton] at hp
     exact hP p (hp.resolve_right h)
  ·intro m hP
   refine ⟨(S,m),?_,m,rfl,fun p hp=>hP p (by rwa [List.take_length])⟩
   simp only [ja,List.length_map,aJ,cond_false,fb,fc,dl,dp,ea,ec,Bool.and_self,Bool.and_true,cond_true,Option.bind_some]
 obtain ⟨x,r,m,rfl,h⟩:=key
 exact ⟨m,r,h⟩
theorem Ji (S:List P3) (hS:S.length≤1000000) (m:List (P3 × Int)):ak (kE N ((),S)) N ((),0,S,m,[])=some ((),S,m,uL S.length id):=by
 have hs:∀ k,uL k id++[(k:Int)]=uL (k+1) id:=fun k=>by unfold uL; rw [List.range_succ,List.map_append]; rfl
 have key:=hU (rd:=kE N ((),S)) S.length (fun k=>((),(k:Int),S,m,uL k id)) ((),S,m,uL S.length id) (fun k hk=>by
  have hb:decide ((k+1) * 8≤140737488355328)=true:=decide_eq_true (by omega)
  simp only [kE,List.length_map,ax hk,cond_true,eT,decide_true,Bool.and_self,Bool.and_true,hb,SB,hs,List.length_append,List.length_singleton,Nat.beq_refl,qi,qj,ea,ec,fb,fc,dl,dp,Option.bind_some,aN (show k < 9223372036854775807 by omega)]) (by
  simp only [kE,List.length_map,aJ,cond_false,eT,Nat.beq_refl,qi,qj,ea,ec,fb,fc,dl,dp,Bool.and_self,Bool.and_true,cond_true,Option.bind_some]) N 0 (Nat.zero_le _) (by unfold cU at hN; omega)
 exact key
theorem MX (S:List P3) (hS:S.length≤1000000) (J:List qW) (hJ:J.length≤1024) (tj:inJ S J) (m:List (P3 × Int)) (hm:MW S m):∃ u,ak (ms N J ((),S,m,uL S.length id)) N (0,S,m,uL S.length id)=some (S,m,uL S.length u)∧UF (nR (je S J)) S.length u:=by
 have key:∃ x,ak (ms N J ((),S,m,uL S.length id)) N (0,S,m,uL S.length id)=some x∧∃ u:Nat→Nat,x=(S,m,uL S.length u)∧UF (nR (je S J)) S.length u:=by
  refine hX (rd:=ms N J ((),S,m,uL S.length id)) (S:=Nat→Nat) J.length (fun u k=>((k:Int),S,m,uL S.length u)) (fun u k=>UF (nR ((je S J).take k)) S.length u) _ ?_ ?_ N id 0 (Nat.zero_le _) (by unfold cU at hN; omega) (UF.id _)
  ·intro u k hk hu
   have hd:=dx n127 J k hk
   have a1:d127 (ab (List.map n127 J) k)=J[k]:=by rw [hd,Sw]
   have a2:aA.fits ca (ab (List.map n127 J) k)=true:=by rw [hd,Sv]
   obtain ⟨i1,i2⟩:=tj _ (List.getElem_mem hk)
   have q1:=hm _ i1
   have q2:=hm _ i2
   have l1:=nC i1
   have l2:=nC i2
   have hke:k < (je S J).length:=by simp [je]; exact hk
   have he:(je S J)[k]=(lK S (J[k].1,J[k].2.1,J[k].2.2.1),lK S (J[k].2.2.2.1,J[k].2.2.2.2.1,J[k].2.2.2.2.2)):=by simp [je]
   have hl:=D5 (je S J) hke
   rw [he] at hl
   have dY:=qX ((je S J).take k)
   have k1:=uO (J[k].1,J[k].2.1,J[k].2.2.1) m
   have k2:=uO (J[k].2.2.2.1,J[k].2.2.2.2.1,J[k].2.2.2.2.2) m
   have g1:=AH (J[k].1,J[k].2.1,J[k].2.2.1) m
   have g2:=AH (J[k].2.2.2.1,J[k].2.2.2.2.1,J[k].2.2.2.2.2) m
   rw [q1,Option.getD_some] at g1
   rw [q2,Option.getD_some] at g2
   simp only at k1 k2 g1 g2
   generalize lK S (J[k].1,J[k].2.1,J[k].2.2.1)=i at *
   generalize lK S (J[k].2.2.2.1,J[k].2.2.2.2.1,J[k].2.2.2.2.2)=j at *
   obtain ⟨u1,r1,Er⟩:=MU hN ((),S,m,uL S.length id) (eT _ _) S m N i u (by unfold cU at hN; omega) l1 hu
   obtain ⟨u2,r2,vF⟩:=MU hN ((),S,m,uL S.length id) (eT _ _) S m N j u1 (by unfold cU at hN; omega) l2 Er
   have Rx:ak (uK N ((),S,m,uL S.length id)) N ((j:Int),S,m,uL S.length u1)=some ((nR ((je S J).take k) j:Int),S,m,uL S.length u2):=r2
   obtain ⟨m1,m2⟩:=HK (nR ((je S J).take k) i) (nR ((je S J).take k) j)
   obtain ⟨m1',m2'⟩:=HK (nR ((je S J).take k) j) (nR ((je S J).take k) i)
   have MQ:max (nR ((je S J).take k) i) (nR ((je S J).take k) j) < S.length:=by
    have x1:=dY.le i
    have x2:=dY.le j
    omega
   have dm:decide (max (nR ((je S J).take k) i) (nR ((je S J).take k) j) < S.length)=true:=decide_eq_true MQ
   have Ws:=vF.join dY (i,j) l1 l2
   rw [← hl] at Ws
   refine ⟨_,?_,Ws⟩
   simp only [ms,List.length_map,Int.toNat_natCast,a1,a2,k1,k2,g1,g2,Ub,ZZ,ax hk,an hk,Bool.and_self,Bool.and_true,cond_true,qi,qj,ea,ec,fb,fc,dl,dp,Option.bind_some,r1,Rx,m1,m2,eT,an MQ,Nat.zero_add,decide_true,dm,Je,aN (show k < 9223372036854775807 by omega)]
  ·intro u hu
   refine ⟨(S,m,uL S.length u),?_,u,rfl,?_⟩
   ·simp only [ms,List.length_map,aJ,cond_false,fb,fc,dl,dp,ea,ec,qi,qj,Bool.and_self,Bool.and_true,cond_true,Option.bind_some]
   ·have e:(je S J).take J.length=je S J:=List.take_of_length_le (by simp [je])
    rwa [e] at hu
 obtain ⟨x,r,u,rfl,h⟩:=key
 exact ⟨u,r,h⟩
def MY (f:Nat→Nat) (k:Nat) (M:List (Int × Int)):Prop:=∀ r:Nat,getM (r:Int) M=if r < k∧f r=r then some (gd f r:Int) else none
theorem Ry (S:List P3) (hS:S.length≤1000000) (m:List (P3 × Int)) {f:Nat→Nat} (hf:iG f) (eL:Unit × List P3 × List (P3 × Int) × List Int) (ho:eL.2.2.2.length=S.length) (u:Nat→Nat) (hu:UF f S.length u) :
  ∃ u' M,ak (jC N ((),S) eL) N (0,(),(),S,m,uL S.length u,[],[],[])=some ((),(),S,m,uL S.length u',ia (cX f S S.length),ef (kQ (cX f S S.length)),M)∧UF f S.length u'∧MY f S.length M:=by
 have key:∃ x,ak (jC N ((),S) eL) N (0,(),(),S,m,uL S.length u,[],[],[])=some x∧∃ s:(Nat→Nat) × List (Int × Int),x=((),(),S,m,uL S.length s.1,ia (cX f S S.length),ef (kQ (cX f S S.length)),s.2)∧UF f S.length s.1∧MY f S.length s.2:=by
  refine hX (rd:=jC N ((),S) eL) (S:=(Nat→Nat) × List (Int × Int)) S.length (fun s k=>((k:Int),(),(),S,m,uL S.length s.1,ia (cX f S k),ef (kQ (cX f S k)),s.2)) (fun s k=>UF f S.length s.1∧MY f k s.2) _ ?_ ?_ N (u,[]) 0 (Nat.zero_le _) (by unfold cU at hN; omega) ⟨hu,fun r=>by simp [getM]⟩
  ·rintro ⟨u,M⟩ k hk ⟨hu,hM⟩
   obtain ⟨a1,a2⟩:=vi S hk
   have hdk:decide (k < S.length)=true:=decide_eq_true hk
   obtain ⟨u1,r1,Er⟩:=MV hN eL ho S m (ia (cX f S k)) (kQ (cX f S k)) M N k u (by unfold cU at hN; omega) hk hu
   obtain ⟨u2,r2,vF⟩:=MV hN eL ho S m (ia (cX f S k)) (kQ (cX f S k)) M N k u1 (by unfold cU at hN; omega) hk Er
   have Rx:ak (ql N eL) N ((k:Int),S,m,uL S.length u1,ia (cX f S k),ef (kQ (cX f S k)),M)=some ((f k:Int),S,m,uL S.length u2,ia (cX f S k),ef (kQ (cX f S k)),M):=r2
   have hle:=hf.le k
   have hg:=hM (f k)
   have jh:=jE f S k
   have Jo:=Ge f k
   have uZ:=pf f S k
   have ad2:decide (((cX f S k).length+1) * 24≤140737488355328)=true:=decide_eq_true (by omega)
   have eS:S.getD k (0,0,0)=S[k]:=by simp [hk]
   have yN:=kd f S k
   unfold D8 at yN
   rw [eS] at yN
   by_cases h:f k=k
   ·rw [if_neg (by omega)] at hg
    rw [if_pos h] at yN
    generalize cX f S k=CL at *
    have bP:CL.length < (CL++[[]]).length:=by simp
    obtain ⟨f1,f2⟩:=atF bP
    have qw:(CL++[[]])[CL.length]'bP=[]:=by simp
    rw [qw] at f1
    have JH:=Ze (sU bP)
    rw [qw,List.length_nil] at JH
    have kf:(CL++[[]]).set CL.length ([]++[(S[k].1,S[k].2.1,S[k].2.2)])=CL++[[S[k]]]:=by simp
    have hsf:=Zg (CL++[[]]) CL.length [] S[k].1 S[k].2.1 S[k].2.2
    rw [kf,List.map_nil,List.nil_append] at hsf
    have Zh:=(Cw (n:=_) (sU bP)).trans (D7 (CL++[[]]) CL.length [(S[k].1,S[k].2.1,S[k].2.2)])
    have ad3:(CL++[[]]).set CL.length [(S[k].1,S[k].2.1,S[k].2.2)]=CL++[[S[k]]]:=by simp
    rw [ad3,List.length_singleton] at Zh
    have zC:decide (CL.length < CL.length+1)=true:=decide_eq_true (by omega)
    have En:(CL++[[]]).length=CL.length+1:=by simp
    have Iv:(CL++[[S[k]]]).length=CL.length+1:=by simp
    have h24:decide (1 * 24≤140737488355328)=true:=rfl
    refine ⟨(u2,sJ (f k:Int) (CL.length:Int) M),?_,vF,fun r=>?_⟩
    ·simp only [jC,List.length_map,Int.toNat_natCast,Nat.zero_add,a1,a2,ax hk,an hk,hdk,decide_true,Bool.and_self,Bool.and_true,cond_true,ea,ec,fb,fc,dl,dp,qi,qj,gG,gH,vm,Jv,Jw,nS,nT,jN,jO,Option.bind_some,r1,MR,MS,SG,Ub,hg,Option.map_none,Option.isSome_none,Bool.not_false,Rx,sV,ad2,D6,Zf,Jf,List.length_append,List.length_singleton,Nat.beq_refl,Zd,En,an (show CL.length < CL.length+1 by omega),zC,f1,f2,JH,List.map_nil,List.length_nil,List.nil_append,hsf,Zh,Iv,h24,aN (show k < 9223372036854775807 by omega)]
     rw [yN]
    ·rw [sK,hM r,h]
     by_cases e:r=k
     ·subst e
      rw [if_pos rfl,if_pos ⟨by omega,h⟩,jh]
     ·have e':¬ (r:Int)=(k:Int):=by omega
      rw [if_neg e']
      by_cases c:r < k∧f r=r
      ·rw [if_pos c,if_pos ⟨by omega,c.2⟩]
      ·rw [if_neg c,if_neg fun d=>c ⟨by omega,d.2⟩]
   ·have bP:f k < k:=by omega
    rw [if_pos ⟨bP,hf.idem k⟩] at hg
    rw [if_neg h] at yN
    have hc:gd f (f k) < (cX f S k).length:=by rw [jh]; exact nE (hf.idem k) bP
    have hmc:=uZ _ (List.getElem_mem hc)
    have eC:(cX f S k).getD (gd f (f k)) []=(cX f S k)[gd f (f k)]:=by simp [hc]
    rw [eC] at yN
    generalize cX f S k=CL at *
    obtain ⟨f1,f2⟩:=atF hc
    have JH:=Ze (sU hc)
    have hsf:=Zg CL (gd f (f k)) CL[gd f (f k)] S[k].1 S[k].2.1 S[k].2.2
    have Zh:=(Cw (n:=_) (sU hc)).trans (D7 CL (gd f (f k)) (CL[gd f (f k)]++[S[k]]))
    rw [List.length_append,List.length_singleton] at Zh
    have hdc:decide (gd f (f k) < CL.length)=true:=decide_eq_true hc
    have h24:decide ((CL[gd f (f k)].length+1) * 24≤140737488355328)=true:=decide_eq_true (by omega)
    refine ⟨(u1,M),?_,Er,fun r=>?_⟩
    ·simp only [jC,List.length_map,Int.toNat_natCast,Nat.zero_add,a1,a2,ax hk,an hk,hdk,decide_true,Bool.and_self,Bool.and_true,cond_true,cond_false,ea,ec,fb,fc,dl,dp,qi,qj,gG,gH,vm,Jv,Jw,nS,nT,jN,jO,Option.bind_some,r1,MR,MS,SG,Ub,ZZ,hg,Option.map_some,Option.isSome_some,Option.getD_some,Bool.not_true,sV,D6,Nat.beq_refl,an hc,hdc,f1,f2,JH,h24,hsf,Zh,List.length_set,aN (show k < 9223372036854775807 by omega)]
     rw [yN]
    ·rw [hM r]
     by_cases e:r=k
     ·subst e
      rw [if_neg (fun d=>absurd d.1 (Nat.lt_irrefl _)),if_neg fun d=>h d.2]
     ·by_cases c:r < k∧f r=r
      ·rw [if_pos c,if_pos ⟨by omega,c.2⟩]
      ·rw [if_neg c,if_neg fun d=>c ⟨by omega,d.2⟩]
  ·rintro ⟨u,M⟩ ⟨hu,hM⟩
   refine ⟨((),(),S,m,uL S.length u,ia (cX f S S.length),ef (kQ (cX f S S.length)),M),?_,(u,M),rfl,hu,hM⟩
   simp only [jC,List.length_map,aJ,cond_false,fb,fc,dl,dp,ea,ec,qi,qj,nS,nT,jN,jO,gG,gH,vm,Jv,Jw,Nat.beq_refl,Bool.and_self,Bool.and_true,cond_true,Option.bind_some]
 obtain ⟨x,r,s,rfl,h1,h2⟩:=key
 exact ⟨s.1,s.2,r,h1,h2⟩
end
end Go.Proofs.YtfiopgedfcaodaaGreatDoor
namespace Go.Proofs.YtfiopgedfcaodaaGreatDoor
open Go Go.Am Go.Sort
set_option maxRecDepth 100000
theorem pK (l:List P3) (p:Int × Int):p∈aT l↔p∈bn l:=(my IU LP (0,0) (bn l)).2 p
theorem yO {l:List P3} {b:P3} (h:b∈l):dO b∈bn l∧cY b∈bn l:=by
 induction l with
 | nil=>cases h
 | cons a l ih=>
  rw [bn]
  rcases List.mem_cons.1 h with rfl | h
  ·simp
  ·have:=ih h
   simp [this.1,this.2]
theorem yP {C:List (List P3)} {i:Nat} (hi:i < C.length) {b:P3} (hb:b∈C[i]):((i:Int),b.1,b.2.1)∈aL C∧((i:Int),(cY b).1,(cY b).2)∈aL C:=by
 have e:C.getD i []=C[i]:=by simp [hi]
 have h:=yO hb
 refine ⟨(kG _).2 ⟨i,hi,rfl,?_⟩,(kG _).2 ⟨i,hi,rfl,?_⟩⟩
 ·rw [e,pK]; exact h.1
 ·rw [e,pK]; exact h.2
def lL (f:Nat→Nat) (S:List P3) (i:Nat) (b:P3):Int × Int:=
 (((min (gd f (f (lK S ((i:Int),b.1,b.2.1)))) (gd f (f (lK S ((i:Int),(cY b).1,(cY b).2)))):Nat):Int),((max (gd f (f (lK S ((i:Int),b.1,b.2.1)))) (gd f (f (lK S ((i:Int),(cY b).1,(cY b).2)))):Nat):Int))
def jR (f:Nat→Nat) (S:List P3) (C:List (List P3)) (k:Nat):List (Int × Int):=(List.range k).flatMap fun i=>(C.getD i []).map (lL f S i)
theorem nF (f:Nat→Nat) (S:List P3) (C:List (List P3)) (k:Nat):jR f S C (k+1)=jR f S C k++(C.getD k []).map (lL f S k):=by
 unfold jR
 rw [List.range_succ,List.flatMap_append]
 simp only [List.flatMap_cons,List.flatMap_nil,List.append_nil]
theorem AN (f:Nat→Nat) (S:List P3) (C:List (List P3)) (hC:∀ l∈C,l.length≤4096):∀ k,(jR f S C k).length≤4096 * k
 | 0=>by simp [jR]
 | k+1=>by
  rw [nF,List.length_append,List.length_map]
  have:=AN f S C hC k
  have h2:(C.getD k []).length≤4096:=by
   by_cases h:k < C.length
   ·have e:C.getD k []=C[k]:=by simp [h]
    rw [e]; exact hC _ (List.getElem_mem h)
   ·have e:C.getD k []=[]:=by simp [h]
    rw [e]; simp
  omega
theorem Zi (a b:Nat):((if (a:Int) < (b:Int) then (a:Int) else (b:Int))=((min a b:Nat):Int))∧((if (a:Int) > (b:Int) then (a:Int) else (b:Int))=((max a b:Nat):Int)):=by
 constructor <;> split <;> omega
section
variable {N:Nat} (hN:cU N)
theorem MZ {n:Nat} {f:Nat→Nat} (o:Unit × List P3 × List (P3 × Int) × List Int) (ho:o.2.2.2.length=n) (S:List P3) (m:List (P3 × Int)) (E:List (Nat × List P3)) (L:List Nat) (M:List (Int × Int)) (v:Int × Unit × List (Int × Int) × List P3 × List (P3 × Int) × List Int × List (Nat × List P3) × List Int × List (Int × Int)):∀ (b9 i:Nat) (u:Nat→Nat),i < b9→i < n→UF f n u →
  ∃ u',ak (eJ N o v) b9 ((i:Int),S,m,uL n u,E,ef L,M)=some ((f i:Int),S,m,uL n u',E,ef L,M)∧UF f n u'
 | 0,i,u,h,_,_=>by omega
 | b9+1,i,u,hf,hi,hu=>by
  rw [bt]
  obtain ⟨a1,a2⟩:=Ju n u hi
  have hle:=hu.le i hi
  have yL:u i < n:=by omega
  obtain ⟨b1,b2⟩:=Ju n u yL
  obtain ⟨c1,c2⟩:=Ju n (zB u i (u (u i))) hi
  rw [fM] at c1
  have di:decide (i < n)=true:=decide_eq_true hi
  have du:decide (u i < n)=true:=decide_eq_true yL
  by_cases he:u i=i
  ·refine ⟨u,?_,hu⟩
   have hb:((u i:Int) != (i:Int))=false:=by simp [he]
   simp only [eJ,List.length_map,ho,eT,Int.toNat_natCast,Nat.zero_add,an hi,decide_true,di,a1,a2,Bool.and_self,Bool.and_true,cond_true,hb,cond_false,qi,qj,ea,ec,fb,fc,dl,dp,nS,nT,jN,jO,gG,gH,vm,Jv,Jw,Option.bind_some,Sum.elim_inr]
   rw [hu.fix i hi he]
  ·have hb:((u i:Int) != (i:Int))=true:=by simp; omega
   have bP:=hu.le (u i) yL
   have kW:eJ N o v ((i:Int),S,m,uL n u,E,ef L,M)=some (.inl ((u (u i):Int),S,m,uL n (zB u i (u (u i))),E,ef L,M)):=by
    simp only [eJ,List.length_map,ho,eT,Int.toNat_natCast,Nat.zero_add,an hi,an yL,decide_true,di,du,a1,a2,b1,b2,Bool.and_self,Bool.and_true,cond_true,hb,Je,c1,c2,qi,qj,ea,ec,fb,fc,dl,dp,nS,nT,jN,jO,gG,gH,vm,Jv,Jw,Option.bind_some]
   rw [kW]
   simp only [Option.bind_some,Sum.elim_inl]
   have vF:=hu.half hi he
   obtain ⟨u',h1,h2⟩:=MZ o ho S m E L M v b9 (u (u i)) _ (by omega) (by omega) vF
   refine ⟨u',?_,h2⟩
   rw [h1,(hu.lb (u i) yL).trans (hu.lb i hi)]
include hN
theorem VS (C:List (List P3)) (i:Nat) (hi:i < C.length) (hl:C[i].length≤4096) (S:List P3) (hS:S.length≤1000000) (tj:∀ b∈C[i],((i:Int),b.1,b.2.1)∈S∧((i:Int),(cY b).1,(cY b).2)∈S) (m:List (P3 × Int)) (hm:MW S m) {f:Nat→Nat} (hf:iG f) (eL:Unit × List P3 × List (P3 × Int) × List Int) (ho:eL.2.2.2.length=S.length) (E:List (Nat × List P3)) (L:List Nat) (M:List (Int × Int)) (hM:MY f S.length M) (B:List (Int × Int)) (hB:B.length≤1000000) (v:Int × Unit × List (Int × Int) × List P3 × List (P3 × Int) × List Int × List (Nat × List P3) × List Int × List (Int × Int)) (hv:v.1=(i:Int)) (u:Nat→Nat) (hu:UF f S.length u) :
  ∃ u',ak (fL N C eL v) N (0,(),B,S,m,uL S.length u,E,ef L,M)=some ((),B++C[i].map (lL f S i),S,m,uL S.length u',E,ef L,M)∧UF f S.length u':=by
 have key:∃ x,ak (fL N C eL v) N (0,(),B,S,m,uL S.length u,E,ef L,M)=some x∧∃ u':Nat→Nat,x=((),B++C[i].map (lL f S i),S,m,uL S.length u',E,ef L,M)∧UF f S.length u':=by
  obtain ⟨e1,e2⟩:=yG C hi
  have hz:(B++(C[i].take 0).map (lL f S i))=B:=by simp
  have go:=hX (rd:=fL N C eL v) (S:=Nat→Nat) C[i].length (fun u k=>((k:Int),(),B++(C[i].take k).map (lL f S i),S,m,uL S.length u,E,ef L,M)) (fun u k=>UF f S.length u) (fun x=>∃ u':Nat→Nat,x=((),B++C[i].map (lL f S i),S,m,uL S.length u',E,ef L,M)∧UF f S.length u') ?_ ?_ N u 0 (Nat.zero_le _) (by unfold cU at hN; omega) hu
  ·have go':∃ x,ak (fL N C eL v) N (0,(),(B++(C[i].take 0).map (lL f S i)),S,m,uL S.length u,E,ef L,M)=some x∧_:=go
   rwa [hz] at go'
  ·intro u k hk hu
   obtain ⟨a1,a2⟩:=iH C[i] hk
   obtain ⟨n1,n2⟩:=tj _ (List.getElem_mem hk)
   have q1:=hm _ n1
   have q2:=hm _ n2
   have l1:=nC n1
   have l2:=nC n2
   have et:(C[i].take (k+1)).map (lL f S i)=(C[i].take k).map (lL f S i)++[lL f S i C[i][k]]:=by rw [List.take_add_one,List.getElem?_eq_getElem hk,List.map_append]; rfl
   have ZG:(B++(C[i].take k).map (lL f S i)).length≤2000000:=by
    rw [List.length_append,List.length_map,List.length_take]
    omega
   rw [et,← List.append_assoc]
   generalize B++(C[i].take k).map (lL f S i)=D at *
   have k1:=uO ((i:Int),C[i][k].1,C[i][k].2.1) m
   have k2:=uO ((i:Int),(cY C[i][k]).1,(cY C[i][k]).2) m
   have g1:=AH ((i:Int),C[i][k].1,C[i][k].2.1) m
   have g2:=AH ((i:Int),(cY C[i][k]).1,(cY C[i][k]).2) m
   have qT:QS N (C[i][k].1,C[i][k].2.1,C[i][k].2.2)=some (C[i][k].1,C[i][k].2.1,(cY C[i][k]).1,(cY C[i][k]).2):=QU N _
   have eb:lL f S i C[i][k]=(((min (gd f (f (lK S ((i:Int),C[i][k].1,C[i][k].2.1)))) (gd f (f (lK S ((i:Int),(cY C[i][k]).1,(cY C[i][k]).2)))):Nat):Int),((max (gd f (f (lK S ((i:Int),C[i][k].1,C[i][k].2.1)))) (gd f (f (lK S ((i:Int),(cY C[i][k]).1,(cY C[i][k]).2)))):Nat):Int)):=rfl
   rw [q1,Option.getD_some] at g1
   rw [q2,Option.getD_some] at g2
   simp only at k1 k2 g1 g2
   rw [eb]
   generalize lK S ((i:Int),C[i][k].1,C[i][k].2.1)=x at *
   generalize lK S ((i:Int),(cY C[i][k]).1,(cY C[i][k]).2)=y at *
   obtain ⟨u1,r1,Er⟩:=MZ (N:=N) eL ho S m E L M ((k:Int),(),D,S,m,uL S.length u,E,ef L,M) N x u (by unfold cU at hN; omega) l1 hu
   obtain ⟨u2,r2,vF⟩:=MZ (N:=N) eL ho S m E L M ((k:Int),(),D,S,m,uL S.length u,E,ef L,M) N y u1 (by unfold cU at hN; omega) l2 Er
   have Rx:ak (nQ N eL ((k:Int),(),D,S,m,uL S.length u,E,ef L,M)) N ((y:Int),S,m,uL S.length u1,E,ef L,M)=some ((f y:Int),S,m,uL S.length u2,E,ef L,M):=r2
   have c1:=hM (f x)
   have c2:=hM (f y)
   have lx:=hf.le x
   have ly:=hf.le y
   rw [if_pos ⟨by omega,hf.idem x⟩] at c1
   rw [if_pos ⟨by omega,hf.idem y⟩] at c2
   obtain ⟨m1,m2⟩:=Zi (gd f (f x)) (gd f (f y))
   obtain ⟨m1',m2'⟩:=HK (gd f (f x)) (gd f (f y))
   have ad5:decide ((D.length+1) * 16≤140737488355328)=true:=decide_eq_true (by omega)
   refine ⟨u2,?_,vF⟩
   simp only [fL,hv,List.length_map,Int.toNat_natCast,e1,a1,a2,qT,k1,k2,g1,g2,Ub,ZZ,ax hk,an hk,Bool.and_self,Bool.and_true,cond_true,qi,qj,ea,ec,vd,vf,fb,fc,dl,dp,nS,nT,jN,jO,gG,gH,vm,Jv,Jw,Option.bind_some,r1,Rx,MR,MS,c1,c2,Option.getD_some,m1,m2,m1',m2',Vw,eT,beq_self_eq_true,Nat.zero_add,decide_true,ad5,Nat.beq_refl,List.length_append,List.length_singleton,aN (show k < 9223372036854775807 by omega)]
  ·intro u hu
   refine ⟨((),B++(C[i].take C[i].length).map (lL f S i),S,m,uL S.length u,E,ef L,M),?_,u,by rw [List.take_length],hu⟩
   simp only [fL,hv,Int.toNat_natCast,e1,List.length_map,aJ,cond_false,fb,fc,dl,dp,ea,ec,qi,qj,vd,vf,nS,nT,jN,jO,gG,gH,vm,Jv,Jw,Nat.beq_refl,Bool.and_self,Bool.and_true,cond_true,decide_true,Option.bind_some]
 obtain ⟨x,r,u,rfl,h⟩:=key
 exact ⟨u,r,h⟩
theorem M0 (C:List (List P3)) (hl:∀ l∈C,l.length≤4096) (hC:C.length≤16) (hS:(aL C).length≤1000000) (m:List (P3 × Int)) (hm:MW (aL C) m) {f:Nat→Nat} (hf:iG f) (eL:Unit × List P3 × List (P3 × Int) × List Int) (ho:eL.2.2.2.length=(aL C).length) (E:List (Nat × List P3)) (L:List Nat) (M:List (Int × Int)) (hM:MY f (aL C).length M) (u:Nat→Nat) (hu:UF f (aL C).length u) :
  ∃ u',ak (jc N C eL) N (0,(),[],aL C,m,uL (aL C).length u,E,ef L,M)=some ((),jR f (aL C) C C.length,aL C,m,uL (aL C).length u',E,ef L,M)∧UF f (aL C).length u':=by
 have key:∃ x,ak (jc N C eL) N (0,(),[],aL C,m,uL (aL C).length u,E,ef L,M)=some x∧∃ u':Nat→Nat,x=((),jR f (aL C) C C.length,aL C,m,uL (aL C).length u',E,ef L,M)∧UF f (aL C).length u':=by
  refine hX (rd:=jc N C eL) (S:=Nat→Nat) C.length (fun u k=>((k:Int),(),jR f (aL C) C k,aL C,m,uL (aL C).length u,E,ef L,M)) (fun u k=>UF f (aL C).length u) _ ?_ ?_ N u 0 (Nat.zero_le _) (by unfold cU at hN; omega) hu
  ·intro u k hk hu
   obtain ⟨e1,e2⟩:=yG C hk
   have ZG:=AN f (aL C) C hl k
   obtain ⟨u1,r1,Er⟩:=VS hN C k hk (hl _ (List.getElem_mem hk)) (aL C) hS (fun b hb=>yP hk hb) m hm hf eL ho E L M hM (jR f (aL C) C k) (by omega) ((k:Int),(),jR f (aL C) C k,aL C,m,uL (aL C).length u,E,ef L,M) rfl u hu
   have e:C.getD k []=C[k]:=by simp [hk]
   refine ⟨u1,?_,Er⟩
   rw [nF,e]
   simp only [jc,Int.toNat_natCast,e1,e2,List.length_map,ax hk,an hk,fb,fc,dl,dp,ea,ec,qi,qj,vd,vf,nS,nT,jN,jO,gG,gH,vm,Jv,Jw,Nat.beq_refl,Bool.and_self,Bool.and_true,cond_true,decide_true,Option.bind_some,r1,aN (show k < 9223372036854775807 by omega)]
  ·intro u hu
   refine ⟨((),jR f (aL C) C C.length,aL C,m,uL (aL C).length u,E,ef L,M),?_,u,rfl,hu⟩
   simp only [jc,List.length_map,aJ,cond_false,fb,fc,dl,dp,ea,ec,qi,qj,vd,vf,nS,nT,jN,jO,gG,gH,vm,Jv,Jw,Nat.beq_refl,Bool.and_self,Bool.and_true,cond_true,decide_true,Option.bind_some]
 obtain ⟨x,r,u,rfl,h⟩:=key
 exact ⟨u,r,h⟩
end
end Go.Proofs.YtfiopgedfcaodaaGreatDoor
namespace Go.Proofs.YtfiopgedfcaodaaGreatDoor
open Go Go.Am Go.Sort
set_option maxRecDepth 100000
theorem ad6 (E:List (Nat × List P3)):List.map AV.fx (List.map dL E)=List.map dI (E.map Prod.snd):=by
 rw [List.map_map,List.map_map]; rfl
theorem ad7 (l:List (List P3)):aC (List.map dI l)=true:=jx (fun _=>rfl) l
theorem D9 (CL:List (List P3)):(ia CL).map Prod.snd=CL:=by
 apply List.ext_getElem
 ·simp
 ·intro j h1 h2
  rw [List.getElem_map,sW]
theorem HM {C:List (List P3)} {p:P3} (h:vk C p=0):p∈aL C:=by
 unfold vk at h
 split at h
 ·cases h
 ·rename_i h1
  split at h
  ·rename_i h2
   exact (kG p).2 ⟨p.1.toNat,by omega,by omega,h2⟩
  ·cases h
theorem Rz {C:List (List P3)} {J:List qW} (h:ra C J=0):inJ (aL C) J:=by
 obtain ⟨h1,h2⟩:=sR h
 unfold ra at h
 rw [if_neg (fun c=>c h1),if_neg (by omega)] at h
 intro j hj
 have:=bN.1 h (zD C j) (List.mem_map.2 ⟨j,hj,rfl⟩)
 unfold zD at this
 have:=bN.1 this
 exact ⟨HM (this _ (by simp)),HM (this _ (by simp))⟩
def BY (C:List (List P3)) (J:List qW):Nat→Nat:=nR (je (aL C) J)
def dX (C:List (List P3)) (J:List qW):List (List P3):=cX (BY C J) (aL C) (aL C).length
def iz (C:List (List P3)) (J:List qW):List (Int × Int):=jR (BY C J) (aL C) C C.length
def VT (C:List (List P3)) (J:List qW):(List (List P3) × List (Int × Int)) × Int:=
 if ra C J≠0 then (([],[]),ra C J) else if (dX C J).length > 8192∨(iz C J).length > 8192 then (([],[]),5) else ((dX C J,iz C J),0)
section
variable {N:Nat} (hN:cU N)
include hN
theorem RA (C:List (List P3)) (J:List qW):YG N (C,J)=some (VT C J):=by
 rw [Vl]
 have f127:allFit (aA.fits ca) (List.map n127 J)=true:=yl J
 have ad8:List.map d127 (List.map n127 J)=J:=ym J
 simp only [eH,ee,f127,ad8,Bool.and_true,Bool.and_self,cond_true,Option.bind_some,Rq hN C J]
 unfold VT
 by_cases h:ra C J=0
 ·rw [if_neg (fun c=>c h)]
  obtain ⟨hp,hJ⟩:=sR h
  obtain ⟨c1,c2⟩:=vS hp
  have tj:=Rz h
  have hSl:=D0 c2 c1
  obtain ⟨m,r2,hm⟩:=Jh hN (aL C) (by omega) (nD C)
  obtain ⟨u1,r4,Er⟩:=MX hN (aL C) (by omega) J hJ tj m hm
  obtain ⟨u2,M,r5,vF,hM⟩:=Ry hN (aL C) (by omega) m (qX (je (aL C) J)) ((),aL C,m,uL (aL C).length id) (eT _ _) u1 Er
  obtain ⟨u3,r6,Ws⟩:=M0 hN C (fun l hl=>BV (c2 l hl)) c1 (by omega) m hm (qX (je (aL C) J)) ((),aL C,m,uL (aL C).length id) (eT _ _) (ia (dX C J)) (kQ (dX C J)) M hM u2 vF
  have r1:=Gh hN C c2 c1
  have r3:=Ji hN (aL C) (by omega) m
  have r5':ak (jC N ((),aL C) ((),aL C,m,uL (aL C).length id)) N (0,(),(),aL C,m,uL (aL C).length u1,[],[],[])=some ((),(),aL C,m,uL (aL C).length u2,ia (dX C J),ef (kQ (dX C J)),M):=r5
  have r6':ak (jc N C ((),aL C,m,uL (aL C).length id)) N (0,(),[],aL C,m,uL (aL C).length u2,ia (dX C J),ef (kQ (dX C J)),M)=some ((),iz C J,aL C,m,uL (aL C).length u3,ia (dX C J),ef (kQ (dX C J)),M):=r6
  have hb:(ra C J != 0)=false:=by simp [h]
  have nb:Nat.beq 0 0=true:=rfl
  have f94:allFit (aA.fits nO) []=true:=rfl
  have f46:allFit (aA.fits aW) []=true:=rfl
  have f3:allFit (aA.fits p3) []=true:=rfl
  have f53:allFit (aA.fits bl) []=true:=rfl
  have ff:allFit (aA.fits cQ) []=true:=rfl
  have f2:allFit (aA.fits p2) (cP [])=true:=rfl
  have g2:List.map d2 (cP [])=[]:=rfl
  have fm:allFit (aA.fits eF) []=true:=rfl
  have fm2:allFit (aA.fits a6) []=true:=rfl
  have n0:ah ([]:List (AV × AV))=[]:=rfl
  have x0:jw ([]:List (AV × AV))=true:=rfl
  simp only [hb,cond_false,nb,f94,f46,f3,f53,ff,f2,g2,fm,fm2,n0,x0,List.map_nil,List.length_nil,Bool.and_self,Bool.and_true,cond_true,decide_true,Option.bind_some,ea,ec,qi,qj,vd,vf,fb,fc,dl,dp,nS,nT,jN,jO,gG,gH,vm,Jv,Jw,r1,r2,r3,r4,r5',r6',List.length_map,sV,ad6,D9,ad7,LU,LV,Nat.beq_refl]
  by_cases h1:(dX C J).length > 8192
  ·have mO:decide (((dX C J).length:Int) > 8192)=true:=decide_eq_true (by omega)
   rw [if_pos (.inl h1),mO]; rfl
  ·have mO:decide (((dX C J).length:Int) > 8192)=false:=decide_eq_false (by omega)
   by_cases h2:(iz C J).length > 8192
   ·have NO:decide (((iz C J).length:Int) > 8192)=true:=decide_eq_true (by omega)
    rw [if_pos (.inr h2),mO,NO]; rfl
   ·have NO:decide (((iz C J).length:Int) > 8192)=false:=decide_eq_false (by omega)
    rw [if_neg (fun c=>c.elim h1 h2),mO,NO]
    simp only [cond_false,Option.bind_some,sV,decide_true,cond_true,D9]
 ·have hb:(ra C J != 0)=true:=bne_iff_ne.2 h
  rw [if_pos h]
  simp only [hb,cond_true]
  rfl
end
end Go.Proofs.YtfiopgedfcaodaaGreatDoor
namespace Go.Proofs.YtfiopgedfcaodaaGreatDoor
open Go Go.Am Go.Sort
set_option maxRecDepth 100000
section
variable {N:Nat} (hN:cU N)
include hN
end
end Go.Proofs.YtfiopgedfcaodaaGreatDoor
namespace Go.Proofs.YtfiopgedfcaodaaGreatDoor
open Go Go.Am Go.Sort
set_option maxRecDepth 100000
theorem Zj (l:List (List P3)):eY (List.map mm l) (List.map mm l)=true:=by
 have h3:∀ l:List P3,eY (List.map nN l) (List.map nN l)=true:=fun l=>by
  induction l with
  | nil=>rfl
  | cons x l ih=>
   rw [List.map_cons]
   show (cM (nN x) (nN x)&&eY (List.map nN l) (List.map nN l))=true
   rw [ih]
   show ((ru (.int .i64 x.1) (.int .i64 x.1)&&(ru (.int .i64 x.2.1) (.int .i64 x.2.1)&&(ru (.int .i64 x.2.2) (.int .i64 x.2.2)&&true)))&&true)=true
   simp [ru]
 induction l with
 | nil=>rfl
 | cons x l ih=>
  rw [List.map_cons]
  show (cM (mm x) (mm x)&&eY (List.map mm l) (List.map mm l))=true
  rw [ih]
  show ((Nat.beq 3 3&&eY (List.map nN x) (List.map nN x))&&true)=true
  rw [h3]; rfl
theorem VU (s:List (List P3)) (l:List P3):List.map mm s++[AV.list .gr 3 (List.map nN l)]=List.map mm (s++[l]):=by
 rw [List.map_append]; rfl
theorem yQ (f:Nat→Nat) (S:List P3) (C:List (List P3)) (hC:∀ l∈C,l.length≤12):∀ k,(jR f S C k).length≤12 * k
 | 0=>by simp [jR]
 | k+1=>by
  rw [nF,List.length_append,List.length_map]
  have:=yQ f S C hC k
  have h2:(C.getD k []).length≤12:=by
   by_cases h:k < C.length
   ·have e:C.getD k []=C[k]:=by simp [h]
    rw [e]; exact hC _ (List.getElem_mem h)
   ·have e:C.getD k []=[]:=by simp [h]
    rw [e]; simp
  omega
theorem Jj (C:List (List P3)) (hC:∀ l∈C,l.length≤12):(aL C).length≤24 * C.length:=by
 have gen:∀ n,((List.range n).flatMap (tQ C)).length≤24 * n:=by
  intro n
  induction n with
  | zero=>simp
  | succ n ih=>
   rw [List.range_succ,List.flatMap_append,List.length_append]
   have:(tQ C n).length≤24:=by
    unfold tQ
    rw [List.length_map]
    unfold aT
    have h1:=yH vQ (0,0) (bn (C.getD n []))
    have h2:(C.getD n []).length≤12:=by
     by_cases h:n < C.length
     ·have e:C.getD n []=C[n]:=by simp [h]
      rw [e]; exact hC _ (List.getElem_mem h)
     ·have e:C.getD n []=[]:=by simp [h]
      rw [e]; simp
    rw [gA] at h1
    omega
   simp only [List.flatMap_cons,List.flatMap_nil,List.append_nil]
   omega
 exact gen C.length
section
variable {N:Nat} (hN:cU N)
include hN
theorem RB (x:List (List P3) × List (Int × Int)) (h1:x.1.length≤1000000) (h2:∀ l∈x.1,l.length≤1000000):T50 N x=some x:=by
 have key:=bD (rd:=yp N x) x.1 (fun s k=>((k:Int),s,x.2)) (fun s l=>s++[l]) (fun s=>(s,x.2)) (fun s k=>s.length=k) (fun s k hk hs=>by
  obtain ⟨a1,a2⟩:=Mn x.1 hk
  have hb:decide ((s.length+1) * 24≤140737488355328)=true:=decide_eq_true (by omega)
  have zC:(s++[x.1[k]]).length=s.length+1:=by simp
  have q:=MJ hN x.1[k] (h2 _ (List.getElem_mem hk))
  refine ⟨?_,by rw [zC,hs]⟩
  simp only [yp,List.length_map,Int.toNat_natCast,a1,a2,ax hk,an hk,Bool.and_self,Bool.and_true,cond_true,ea,ec,q,Option.bind_some,Zj,decide_true,hb,VU,LW,LX,vd,vf,zC,aN (show k < 9223372036854775807 by omega)]) (fun s _=>by
  simp only [yp,List.length_map,aJ,cond_false,LW,LX,vd,vf,Bool.and_self,Bool.and_true,cond_true,Option.bind_some,decide_true]) N [] 0 (Nat.zero_le _) (by unfold cU at hN; omega) rfl
 have gR:ak (yp N x) N (0,[],x.2)=_:=key
 have f63:allFit (aA.fits Es) []=true:=rfl
 rw [Vo]
 simp only [f63,vd,vf,List.map_nil,List.length_nil,Bool.and_self,Bool.and_true,cond_true,decide_true,Option.bind_some,gR,List.drop_zero,qN,List.nil_append,LW,LX]
end
end Go.Proofs.YtfiopgedfcaodaaGreatDoor
namespace Go.Proofs.YtfiopgedfcaodaaGreatDoor
open Go Go.Am
set_option maxRecDepth 100000
theorem RC {s s':List P3} {c:List P3} (h:foldI Cf s c=.inl s'):s'.length≤s.length+c.length:=by
 have:=Ap (st:=Cf) (P:=fun s' k=>s'.length≤s.length+k) (l:=c) (s:=s) (s':=s') (k:=0) (fun s1 a s2 k _ hk h=>by
  unfold Cf at h
  split at h
  ·injection h with h; subst h; simp; omega
  ·cases h) (by simp) h
 simpa using this
section
variable {N:Nat} (hN:cU N) (C:List (List P3)) (B:List (Int × Int)) (hC:C.length≤10000) (hB:B.length≤10000) (hc:∀ c∈C,c.length≤10000)
include hN hC hB hc
theorem RD:ak (sB N (C,B)) N ([],0)=some (Sum.elim (fun _=>.inr ()) (fun y=>.inl y.1) (foldI DR [] C)):=by
 have key:=eQ (rd:=sB N (C,B)) C (fun s k=>(s,(k:Int))) DR (fun _=>.inr ()) (fun y=>.inl y.1) (fun s k=>s.length≤10000 * k) (fun s k hk hs=>by
  obtain ⟨a1,a2⟩:=YV C hk
  have Jo:=hc _ (List.getElem_mem hk)
  refine ⟨?_,fun s' h=>?_⟩
  ·have hi:=VD hN C B hC hB hc k hk s s (by omega)
   simp only [sB,List.length_map,Int.toNat_natCast,a1,a2,ax hk,an hk,Bool.and_self,Bool.and_true,cond_true,zz,zA,decide_true,Option.bind_some,hi,aN (show k < 9223372036854775807 by omega)]
   unfold DR
   by_cases hz:C[k].length=0
   ·simp only [hz,if_true,Sum.map_inr]
    rfl
   ·have hb:((C[k].length:Int) == 0)=false:=beq_false_of_ne (by omega)
    simp only [hb,cond_false,hz,if_false]
    cases foldI Cf s C[k] <;> simp only [Sum.elim_inl,Sum.elim_inr,Sum.map_inl,Sum.map_inr,zz,zA,decide_true,cond_true,Option.bind_some]
  ·unfold DR at h
   split at h
   ·cases h
   ·have:=RC h
    omega) (fun s hs=>by
  simp only [sB,List.length_map,aJ,cond_false]) N [] 0 (Nat.zero_le _) (by unfold cU at hN; omega) (by simp)
 rw [List.drop_zero] at key
 exact key
theorem M1:ak (sC N (C,B)) N 0=some (if ay (B.map (q7 C.length))=0 then .inr () else .inl (ay (B.map (q7 C.length)))):=by
 refine oV (rd:=sC N (C,B)) (B.map (q7 C.length)) (fun k hk=>?_) (by
  rw [List.length_map]
  simp only [sC,List.length_map,aJ,cond_false]) N (by unfold cU at hN; rw [List.length_map]; omega)
 have hk:k < B.length:=by simpa using hk
 obtain ⟨a1,a2⟩:=Hx B hk
 rw [List.getElem_map]
 simp only [sC,List.length_map,Int.toNat_natCast,a1,a2,ax hk,an hk,Bool.and_self,cond_true,aN (show k < 9223372036854775807 by omega)]
 unfold q7 oU
 simp only [ay]
 generalize B[k]=b
 by_cases c1:b.1 < 0
 ·simp [c1]
 ·by_cases c2:b.1≥(C.length:Int)
  ·have d2:b.1 > (C.length:Int) - 1:=by omega
   simp [c1,c2,d2]
  ·have d2:¬ b.1 > (C.length:Int) - 1:=by omega
   by_cases c3:b.2 < 0
   ·simp [c1,c2,c3,d2]
   ·by_cases c4:b.2≥(C.length:Int)
    ·have d4:b.2 > (C.length:Int) - 1:=by omega
     simp [c1,c2,c3,c4,d2,d4]
    ·have d4:¬ b.2 > (C.length:Int) - 1:=by omega
     by_cases c5:b.1 > b.2 <;> simp [c1,c2,c3,c4,c5,d2,d4]
theorem RE:T56 N (C,B)=some (sL C B):=by
 rw [UX]
 unfold sL
 by_cases h0:C.length > 8192∨B.length > 8192
 ·rw [if_pos h0]
  have:((bif (decide ((C.length:Int) > 8192)) then (some true) else (some (decide ((B.length:Int) > 8192)))):Option Bool)=some true:=by
   by_cases h1:(C.length:Int) > 8192
   ·simp [h1]
   ·have h2:(B.length:Int) > 8192:=by omega
    simp [h2]
  simp only [List.length_map,this,Option.bind_some,cond_true]
 ·rw [if_neg h0]
  have:((bif (decide ((C.length:Int) > 8192)) then (some true) else (some (decide ((B.length:Int) > 8192)))):Option Bool)=some false:=by
   have h1:¬ (C.length:Int) > 8192:=by omega
   have h2:¬ (B.length:Int) > 8192:=by omega
   simp [h1,h2]
  simp only [List.length_map,this,Option.bind_some,cond_false]
  have z:((bif allFit (aA.fits dW) ([]:List AV)&&true then some (List.map d89 ([]:List AV),0) else none:Option ((List P3) × Int)).bind fun Qa=>bif decide (0=Qa.1.length)&&true then some Qa else none)=some ([],0):=rfl
  rw [z,Option.bind_some,RD hN C B hC hB hc,Option.bind_some]
  cases foldI DR [] C with
  | inr e=>rfl
  | inl s=>
   simp only [Sum.elim_inl,Sum.elim_inr,M1 hN C B hC hB hc,Option.bind_some]
   by_cases hz:ay (B.map (q7 C.length))=0
   ·simp only [hz,if_true,Sum.elim_inr]
   ·simp only [hz,if_false,Sum.elim_inl]
theorem RG:Z9 N (C,B)=some (if sL C B=0 then (Ev C.length B,0) else ([],sL C B)):=by
 rw [UO]
 simp only [LU,LV,vd,vf,Bool.and_self,cond_true,Option.bind_some,DS hN C B hC hB hc]
 by_cases h:sL C B=0
 ·obtain ⟨h1,h2,h3⟩:=HJ h
  have hd:decide ((0:Int)≤(C.length:Int)∧(C.length:Int)≤(C.length:Int)∧(C.length:Int)≤140737488355328∧(C.length:Int) * 8≤140737488355328)=true:=decide_eq_true (by omega)
  simp only [h,bne_self_eq_false,cond_false,List.length_map,hd,cond_true,Int.toNat_natCast,adK,qi,qj,Bool.and_self,Option.bind_some,MP hN C B h1 h2 h3,BX,decide_true,cl3,if_true]
 ·rw [KV h,if_neg h]
  rfl
theorem RH:T55 N (C,B)=some (if sL C B=0 then (Zc C B,0) else ((0,0,0,0),sL C B)):=by
 rw [UQ]
 simp only [LU,LV,vd,vf,Bool.and_self,cond_true,Option.bind_some,DS hN C B hC hB hc]
 by_cases h:sL C B=0
 ·obtain ⟨h1,h2,h3⟩:=HJ h
  have z:((bif (Nat.beq 0 (([]:List AV)).length&&Nat.beq 0 (([]:List AV)).length)&&(allFit (aA.fits p3) ([]:List AV)&&true) then some ((),0,(List.map d3 ([]:List AV))) else none:Option (Unit × Int × (List Int))).bind fun w8=>some w8)=some ((),0,[]):=rfl
  simp only [Bool.and_self] at z
  obtain ⟨u,r1,hu⟩:=AL hN C B h1 h2 h3 ((),uL C.length id) (by simp) B.length 0 N id (by omega) (by unfold cU at hN; omega) (UF.id _)
  obtain ⟨u2,r2⟩:=yM hN h1 (f:=nR (rn B)) ((),uL C.length id) (by simp) (C.length:Int) (B.length:Int) 0 C.length 0 N u (by omega) (by unfold cU at hN; omega) hu
  have V0:ak (pD N (C,B) ((),uL C.length id)) N (0,uL C.length id)=_:=r1
  have Rx:ak (pE N ((),uL C.length id)) N (0,(C.length:Int),(B.length:Int),0,0,uL C.length u)=_:=r2
  have ha:ak (iT N (C,B)) N ((),0,[])=_:=Gf hN (C,B) h1
  simp only [h,bne_self_eq_false,cond_false,if_true]
  rw [z]
  simp only [Option.bind_some,ha,qi,qj,Bool.and_self,cond_true,V0,List.length_map,Rx]
  rfl
 ·rw [KV h,if_neg h]
  rfl
end
theorem Jk {α:Type} (l:List α) {k:Nat} (hk:k < l.length):l.take k++[l[k]]=l.take (k+1):=by
 rw [List.take_add_one,List.getElem?_eq_getElem hk]; rfl
section
variable {N:Nat} (hN:cU N) (C:List (List P3)) (B:List (Int × Int)) (hC:C.length≤10000) (hB:B.length≤10000) (hc:∀ c∈C,c.length≤10000)
include hN hC hB hc
end
end Go.Proofs.YtfiopgedfcaodaaGreatDoor
