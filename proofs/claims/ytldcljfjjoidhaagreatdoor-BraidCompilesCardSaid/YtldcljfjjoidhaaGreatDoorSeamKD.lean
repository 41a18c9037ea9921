/- Plain laws: the rows of a net. -/
import Derived.Test.YtldcljfjjoidhaaGreatDoorSeamKC
import Derived.Test.YtldcljfjjoidhaaGreatDoorBraY
set_option linter.all false
namespace Go.Proofs.YtldcljfjjoidhaaGreatDoor
open Go Go.Am Go.Sort
open List (map)
open Int (toNat)
open Go.IntKind (wrap)
open Go.Am.aR (fits)
set_option maxRecDepth 100000
theorem Bq {V X:Type} {rd:V→Option (V ⊕ X)} (P:V→Prop) (μ:V→Nat) (Q:X→Prop)
  (h:∀ v,P v→(∃ v',rd v=some (.inl v')∧P v'∧μ v' < μ v)∨∃ x,rd v=some (.inr x)∧Q x):∀ n v,P v→μ v < n→∃ x,aL rd n v=some x∧Q x
 | 0,_,_,hm=>by omega
 | n+1,v,hP,hm=>by
  rw [bB]
  rcases h v hP with ⟨v',e,hP',hl⟩ | ⟨x,e,hQ⟩
  ·rw [e]
   exact Bq P μ Q h n v' hP' (by omega)
  ·rw [e]
   exact ⟨x,rfl,hQ⟩
theorem gL {l:List dv} (h:dA l=0):l.length≤4096∧(∀ b∈l,ky b=0)∧JN (ltOf kV) l:=by
 unfold dA at h
 by_cases hl:l.length > 4096
 ·rw [if_pos hl] at h; simp at h
 ·rw [if_neg hl] at h
  have hz:∀ k,k < l.length→Em l k=0:=fun k hk=>fP.1 h _ (List.mem_map.2 ⟨k,List.mem_range.2 hk,rfl⟩)
  have hb:∀ k (hk:k < l.length),ky l[k]=0:=fun k hk=>by
   have:=hz k hk
   unfold Em at this
   have e1:l.getD k (0,0,0)=l[k]:=by simp [hk]
   rw [e1] at this
   by_cases hc:ky l[k]=0
   ·exact hc
   ·rw [if_pos hc] at this; exact absurd this hc
  have hs:∀ k (hk:k+1 < l.length),ltOf kV l[k] l[k+1]=true:=fun k hk=>by
   have:=hz (k+1) hk
   unfold Em at this
   have e1:l.getD (k+1) (0,0,0)=l[k+1]:=by simp [hk]
   have e2:l.getD (k+1 - 1) (0,0,0)=l[k]:=by simp [show k < l.length by omega]
   rw [e1,e2,if_neg (by simp [hb (k+1) hk])] at this
   rw [No]
   cases hc:less l[k] l[k+1] with
   | true=>rfl
   | false=>rw [if_pos ⟨by omega,hc⟩] at this; simp at this
  refine ⟨by omega,fun b jB=>by obtain ⟨k,hk,rfl⟩:=List.getElem_of_mem jB; exact hb k hk,?_⟩
  refine List.pairwise_iff_getElem.2 fun i j hi hj RD=>?_
  obtain ⟨d,rfl⟩:∃ d,j=i+1+d:=⟨j - i - 1,by omega⟩
  clear RD
  induction d with
  | zero=>exact hs i hj
  | succ d ih=>exact Gr.trans _ _ _ (ih (by omega)) (hs (i+1+d) hj)
theorem Er {l:List dv} (h:JN (ltOf kV) l) {i j:Nat} (hi:i < l.length) (hj:j < l.length) (RD:i≤j):l[i].2.1≤l[j].2.1:=by
 by_cases e:i=j
 ·subst e; exact Int.le_refl _
 ·have:=List.pairwise_iff_getElem.1 h i j hi hj (by omega)
  rw [uN] at this
  have:=of_decide_eq_true this
  omega
def jb (b:dv):Int:=if b.1+b.2.2 < b.1 then b.1+b.2.2 else b.1
theorem HS {b:dv} (h:ky b=0):-100001≤jb b∧jb b≤100000:=by
 obtain ⟨c1,c2,c3⟩:=oB h
 have:=fm c1
 unfold qH at this
 simp only at this
 unfold jb
 split <;> omega
theorem Su (N:Nat) {b:dv} (h:ky b=0):T81 N b=some (jb b):=by
 obtain ⟨c1,c2,c3⟩:=oB h
 have:=fm c1
 unfold qH at this
 simp only at this
 rw [Xi,gk (by omega)]
 rfl
theorem Sv (N:Nat) {b:dv} (h:ky b=0):T87 N b=some (jb b):=by
 obtain ⟨c1,c2,c3⟩:=oB h
 have:=fm c1
 unfold qH at this
 simp only at this
 rw [Xo,gk (by omega)]
 rfl
theorem Nu {a b:dv} (ha:ky a=0) (hb:ky b=0) (hy:a.2.1=b.2.1) (h:jb a=jb b):a=b:=by
 obtain ⟨a1,a2,a3⟩:=oB ha
 obtain ⟨b1,b2,b3⟩:=oB hb
 have ea:=((mw _).1 a1).2
 have eb:=((mw _).1 b1).2
 unfold qH at ea eb
 simp only at ea eb
 unfold jb at h
 obtain ⟨x,y,s⟩:=a
 obtain ⟨x',y',s'⟩:=b
 simp only at *
 subst hy
 rcases a2 with rfl | rfl <;> rcases b2 with rfl | rfl
 ·rw [if_pos (by omega),if_pos (by omega)] at h
  have:x=x':=by omega
  subst this; rfl
 ·rw [if_pos (by omega),if_neg (by omega)] at h
  omega
 ·rw [if_neg (by omega),if_pos (by omega)] at h
  omega
 ·rw [if_neg (by omega),if_neg (by omega)] at h
  subst h; rfl
def bW (l:List dv) (y:Int):List Int:=(l.filter fun b=>b.2.1 == y).map jb
theorem Es {l:List dv} (h:dA l=0) (y:Int):(bW l y).Nodup:=by
 obtain ⟨h1,h2,h3⟩:=gL h
 have hn:l.Nodup:=Ju Gr h3
 unfold bW List.Nodup
 rw [List.pairwise_map]
 refine List.Pairwise.imp_of_mem ?_ (hn.filter _)
 intro a b ha hb T1 e
 have ha:=List.mem_filter.1 ha
 have hb:=List.mem_filter.1 hb
 have ya:a.2.1=y:=by simpa using ha.2
 have yb:b.2.1=y:=by simpa using hb.2
 exact T1 (Nu (h2 a ha.1) (h2 b hb.1) (by omega) e)
theorem Et {l:List dv} (h:dA l=0) {y x:Int} (hx:x∈bW l y):-100001≤x∧x≤100000:=by
 obtain ⟨b,hb,rfl⟩:=List.mem_map.1 hx
 exact HS ((gL h).2.1 b (List.mem_filter.1 hb).1)
def Nv (s:Int × Int × Int) (x:Int):Int × Int × Int:=(s.1+1,(if x < (if s.1=0 then x else s.2.1) then x else (if s.1=0 then x else s.2.1)),(if x+1 > (if s.1=0 then x+1 else s.2.2) then x+1 else (if s.1=0 then x+1 else s.2.2)))
def kW (c:List Int):Int × Int × Int:=c.foldl Nv (0,0,0)
theorem Nw (c:List Int) (x:Int):kW (c++[x])=Nv (kW c) x:=by unfold kW; rw [List.foldl_append]; rfl
theorem tD (c:List Int):(kW c).1=c.length∧(c≠[]→(kW c).2.1∈c∧(∀ x∈c,(kW c).2.1≤x)∧(kW c).2.2 - 1∈c∧∀ x∈c,x+1≤(kW c).2.2):=by
 have key:∀ k,k≤c.length→(kW (c.take k)).1=k∧(k≠0→(kW (c.take k)).2.1∈c.take k∧(∀ x∈c.take k,(kW (c.take k)).2.1≤x)∧(kW (c.take k)).2.2 - 1∈c.take k∧∀ x∈c.take k,x+1≤(kW (c.take k)).2.2):=by
  intro k
  induction k with
  | zero=>intro _; exact ⟨rfl,fun h=>absurd rfl h⟩
  | succ k ih=>
   intro hk
   have jg:k < c.length:=by omega
   obtain ⟨i1,i2⟩:=ih (by omega)
   have e:c.take (k+1)=c.take k++[c[k]]:=by rw [List.take_add_one,List.getElem?_eq_getElem jg]; rfl
   rw [e,Nw]
   by_cases h0:k=0
   ·subst h0
    refine ⟨by unfold Nv; simp only [i1]; rfl,fun _=>?_⟩
    have e0:(kW ([]:List Int)).1=0:=rfl
    unfold Nv
    simp only [List.take_zero,List.nil_append,e0,if_true,Int.lt_irrefl,if_false,gt_iff_lt,List.mem_singleton]
    exact ⟨trivial,fun x hx=>by omega,by omega,fun x hx=>by omega⟩
   ·obtain ⟨j1,j2,j3,j4⟩:=i2 h0
    have hz:¬ (kW (c.take k)).1=0:=by rw [i1]; omega
    refine ⟨by unfold Nv; simp only [i1]; omega,fun _=>?_⟩
    generalize kW (c.take k)=f at *
    unfold Nv
    simp only [hz,if_false]
    refine ⟨?_,?_,?_,?_⟩
    ·split
     ·exact List.mem_append.2 (.inr (List.mem_singleton.2 rfl))
     ·exact List.mem_append.2 (.inl j1)
    ·intro x hx
     rcases List.mem_append.1 hx with hx | hx
     ·have:=j2 x hx
      split <;> omega
     ·rw [List.mem_singleton] at hx
      subst hx
      split <;> omega
    ·split
     ·rw [Int.add_sub_cancel]; exact List.mem_append.2 (.inr (List.mem_singleton.2 rfl))
     ·exact List.mem_append.2 (.inl j3)
    ·intro x hx
     rcases List.mem_append.1 hx with hx | hx
     ·have:=j4 x hx
      split <;> omega
     ·rw [List.mem_singleton] at hx
      subst hx
      split <;> omega
 have:=key c.length (Nat.le_refl _)
 rw [List.take_length] at this
 refine ⟨this.1,fun hc=>this.2 ?_⟩
 intro h0
 exact hc (List.length_eq_zero_iff.1 h0)
def Sw (c:List Int):Prop:=c≠[]∧(kW c).2.2 - (kW c).2.1=c.length
instance (c:List Int):Decidable (Sw c):=inferInstanceAs (Decidable (_∧_))
theorem Jw:∀ a b c:Int,(fun x y:Int=>decide (x≤y)) a b=true→(fun x y:Int=>decide (x≤y)) b c=true→(fun x y:Int=>decide (x≤y)) a c=true:=fun a b c h1 h2=>by
 simp only [decide_eq_true_eq] at *
 omega
theorem Jx:∀ a b:Int,((fun x y:Int=>decide (x≤y)) a b || (fun x y:Int=>decide (x≤y)) b a)=true:=fun a b=>by
 simp only [Bool.or_eq_true,decide_eq_true_eq]
 omega
def fq (c:List Int):List Int:=c.mergeSort fun x y=>decide (x≤y)
theorem tE (c:List Int):(fq c).length=c.length:=List.length_mergeSort c
theorem qd (c:List Int) (x:Int):x∈fq c↔x∈c:=List.mem_mergeSort
theorem Sx {c:List Int} (hn:c.Nodup) {i j:Nat} (hj:j < (fq c).length) (RD:i < j):(fq c)[i] < (fq c)[j]:=by
 have h1:=List.pairwise_iff_getElem.1 (List.pairwise_mergeSort Jw Jx c) i j (by unfold fq at hj; omega) hj RD
 have h2:(fq c).Nodup:=(List.mergeSort_perm c _).nodup_iff.2 hn
 have h3:=List.pairwise_iff_getElem.1 h2 i j (by omega) hj RD
 have h1:=of_decide_eq_true h1
 unfold fq at *
 omega
theorem nD {c:List Int} (hn:c.Nodup):∀ (d i:Nat) (h:i+d < (fq c).length),(fq c)[i]+d≤(fq c)[i+d]
 | 0,i,h=>by simp
 | d+1,i,h=>by
  have h1:=nD hn d i (by omega)
  have h2:=Sx hn (i:=i+d) (j:=i+(d+1)) h (by omega)
  omega
theorem Br {c:List Int} (hn:c.Nodup) (h0:0 < (fq c).length):(fq c)[0]=(kW c).2.1∧(fq c)[(fq c).length - 1]+1=(kW c).2.2:=by
 have hc:c≠[]:=fun h=>by subst h; simp [fq] at h0
 obtain ⟨j1,j2,j3,j4⟩:=(tD c).2 hc
 constructor
 ·have a1:=j2 _ ((qd c _).1 (List.getElem_mem h0))
  obtain ⟨i,hi,e⟩:=List.getElem_of_mem ((qd c _).2 j1)
  have:=nD hn i 0 (by omega)
  simp only [Nat.zero_add] at this
  omega
 ·have hl:(fq c).length - 1 < (fq c).length:=by omega
  have a1:=j4 _ ((qd c _).1 (List.getElem_mem hl))
  obtain ⟨i,hi,e⟩:=List.getElem_of_mem ((qd c _).2 j3)
  have:=nD hn ((fq c).length - 1 - i) i (by omega)
  have e2:i+((fq c).length - 1 - i)=(fq c).length - 1:=by omega
  simp only [e2] at this
  omega
theorem Sy {c:List Int} (hn:c.Nodup) (h0:0 < (fq c).length):Sw c↔∀ k (hk:k < (fq c).length),(fq c)[k]=(fq c)[0]+k:=by
 have hc:c≠[]:=fun h=>by subst h; simp [fq] at h0
 obtain ⟨e1,e2⟩:=Br hn h0
 have hlen:=tE c
 have hl:(fq c).length - 1 < (fq c).length:=by omega
 constructor
 ·rintro ⟨-,h⟩ k hk
  have a1:=nD hn k 0 (by omega)
  have a2:=nD hn ((fq c).length - 1 - k) k (by omega)
  have e3:k+((fq c).length - 1 - k)=(fq c).length - 1:=by omega
  simp only [e3,Nat.zero_add] at a1 a2
  omega
 ·intro h
  refine ⟨hc,?_⟩
  have:=h _ hl
  omega
abbrev bX:=Int × Int × Int
def cZ (l:List dv):Int:=(l.getD 0 (0,0,0)).2.1
def uT (l:List dv):Int:=(l.getD (l.length - 1) (0,0,0)).2.1
def kz (l:List dv):Nat:=(uT l - cZ l+1).toNat
def qW (l:List dv) (j:Nat):bX:=(cZ l+j,(kW (bW l (cZ l+j))).2.1,(kW (bW l (cZ l+j))).2.2)
def tF (l:List dv):List bX:=(List.range (kz l)).map (qW l)
def T9 (l:List dv):Prop:=∀ j,j < kz l→Sw (bW l (cZ l+j))
instance (l:List dv):Decidable (T9 l):=inferInstanceAs (Decidable (∀ j,j < kz l→_))
def zM (l:List dv):List bX × Int:=if l=[] then ([],12) else if T9 l then (tF l,0) else ([],17)
theorem Eu {l:List dv} (h:dA l=0) {j:Nat} (hj:j < l.length):cZ l≤l[j].2.1∧l[j].2.1≤uT l:=by
 obtain ⟨h1,h2,h3⟩:=gL h
 have e0:l.getD 0 (0,0,0)=l[0]:=by simp [show 0 < l.length by omega]
 have e1:l.getD (l.length - 1) (0,0,0)=l[l.length - 1]:=by simp [show l.length - 1 < l.length by omega]
 unfold cZ uT
 rw [e0,e1]
 exact ⟨Er h3 (by omega) hj (by omega),Er h3 hj (by omega) (by omega)⟩
theorem Nx {l:List dv} (h:dA l=0) (h0:0 < l.length):-100000≤cZ l∧cZ l≤uT l∧uT l≤100000:=by
 obtain ⟨h1,h2,h3⟩:=gL h
 have b:∀ j (hj:j < l.length),-100000≤l[j].2.1∧l[j].2.1≤100000:=fun j hj=>by
  have:=fm (oB (h2 _ (List.getElem_mem hj))).1
  unfold qH at this
  simp only at this
  omega
 have i0:=Eu h h0
 have e0:l.getD 0 (0,0,0)=l[0]:=by simp [h0]
 have e1:l.getD (l.length - 1) (0,0,0)=l[l.length - 1]:=by simp [show l.length - 1 < l.length by omega]
 have b0:=b 0 h0
 have b1:=b (l.length - 1) (by omega)
 have ef:cZ l=l[0].2.1:=by unfold cZ; rw [e0]
 have el:uT l=l[l.length - 1].2.1:=by unfold uT; rw [e1]
 omega
theorem Ny (l:List bX) {k:Nat} (hk:k < l.length):e9 (ah (map aH l) k)=l[k]∧fits hZ (ah (map aH l) k)=true:=by
 rw [fH aH l k hk,aaW,aaV]; exact ⟨rfl,rfl⟩
theorem aa3 (l:List bX) {k:Nat} (hk:k < l.length):bG (ah (map az l) k)=l[k]∧fits gJ (ah (map az l) k)=true:=by
 rw [fH az l k hk,aaY,aaX]; exact ⟨rfl,rfl⟩
theorem Sz (l:List bX) (x y z:Int):map aH l++[AV.agg [AV.int .i64 x,AV.int .i64 y,AV.int .i64 z]]=map aH (l++[(x,y,z)]):=by rw [List.map_append]; rfl
theorem SA (l:List bX) (x y z:Int):map az l++[AV.agg [AV.int .i64 x,AV.int .i64 y,AV.int .i64 z]]=map az (l++[(x,y,z)]):=by rw [List.map_append]; rfl
section
variable {N:Nat} (hN:fL N)
include hN
theorem Xq (l:List dv) (h:dA l=0) (acc:List bX) (y:Int):aL (iZ N l (acc,y)) N (acc,0,0,y,0,0)=some (acc,(kW (bW l y)).1,y,(kW (bW l y)).2.1,(kW (bW l y)).2.2):=by
 obtain ⟨h1,h2,h3⟩:=gL h
 have key:=mq (rd:=iZ N l (acc,y)) l (fun (s:Int × Int × Int) k=>(acc,s.1,(k:Int),y,s.2.1,s.2.2)) (fun s b=>if b.2.1 == y then Nv s (jb b) else s) (fun s=>(acc,s.1,y,s.2.1,s.2.2)) (fun s k=>0≤s.1∧s.1≤k) (fun s k hk hs=>by
  obtain ⟨a1,a2⟩:=gl l hk
  have hc:=h2 l[k] (List.getElem_mem hk)
  have q:T87 N (l[k].1,l[k].2.1,l[k].2.2)=some (jb l[k]):=Sv N hc
  have hci:=HS hc
  generalize l[k]=b at *
  have w1:wrap .i64 (jb b+1)=jb b+1:=gk (by omega)
  have w2:wrap .i64 (s.1+1)=s.1+1:=gk (by omega)
  by_cases hy:b.2.1=y
  ·have hb:(b.2.1 != y)=false:=by rw [hy]; exact bne_self_eq_false _
   have AX:(b.2.1 == y)=true:=by rw [hy]; exact beq_self_eq_true _
   refine ⟨?_,?_⟩
   ·simp only [AX,if_true]
    by_cases h0:s.1=0
    ·have hz:(s.1 == 0)=true:=by rw [h0]; rfl
     simp only [iZ,jM,List.length_map,a8 hk,aB hk,Int.toNat_natCast,a1,a2,Bool.and_self,cond_true,cond_false,hb,q,Option.bind_some,oL,oM,Bool.and_true,decide_true,hz,w1,w2,bE (show k < 9223372036854775807 by omega)]
     unfold Nv
     simp only [h0,if_true]
    ·have hz:(s.1 == 0)=false:=beq_false_of_ne h0
     simp only [iZ,jM,List.length_map,a8 hk,aB hk,Int.toNat_natCast,a1,a2,Bool.and_self,cond_true,cond_false,hb,q,Option.bind_some,oL,oM,Bool.and_true,decide_true,hz,w1,w2,bE (show k < 9223372036854775807 by omega)]
     unfold Nv
     simp only [h0,if_false]
   ·simp only [AX,if_true]
    unfold Nv
    simp only
    omega
  ·have hb:(b.2.1 != y)=true:=bne_iff_ne.2 hy
   have AX:(b.2.1 == y)=false:=beq_false_of_ne hy
   refine ⟨?_,?_⟩
   ·simp only [iZ,jM,List.length_map,a8 hk,aB hk,Int.toNat_natCast,a1,a2,Bool.and_self,cond_true,hb,AX,Bool.false_eq_true,if_false,Option.bind_some,oL,oM,Bool.and_true,decide_true,bE (show k < 9223372036854775807 by omega)]
   ·simp only [AX,Bool.false_eq_true,if_false]; omega) (fun s hs=>by
  simp only [iZ,jM,List.length_map,bO,cond_false,oL,oM,Bool.and_self,Bool.and_true,decide_true,cond_true,Option.bind_some]) N (0,0,0) 0 (Nat.zero_le _) (by unfold fL at hN; omega) ⟨Int.le_refl _,Int.le_refl _⟩
 have pW:aL (iZ N l (acc,y)) N (acc,0,0,y,0,0)=_:=key
 rw [pW,List.drop_zero]
 have e:l.foldl (fun s b=>if b.2.1 == y then Nv s (jb b) else s) (0,0,0)=kW (bW l y):=by
  unfold kW bW
  rw [List.foldl_map,List.foldl_filter]
 rw [e]
theorem Nz (l:List dv) (h:dA l=0):T20 N l=some (zM l):=by
 obtain ⟨h1,h2,h3⟩:=gL h
 unfold zM
 by_cases h0:l=[]
 ·subst h0
  rw [if_pos rfl,Nt]
  rfl
 ·have hl:0 < l.length:=List.length_pos_iff.2 h0
  have bd:=Nx h hl
  rw [if_neg h0,Nt]
  have hb:((l.length:Int) == 0)=false:=beq_false_of_ne (by omega)
  obtain ⟨a1,a2⟩:=gl l hl
  have Yq:aw (ah (map af l) (toNat 0))=l[0]:=a1
  have Yr:fits ay (ah (map af l) (toNat 0))=true:=a2
  have i0:decide ((0:Int)≤0∧0 < (l.length:Int))=true:=aB hl
  have ef:l[0].2.1=cZ l:=by unfold cZ; simp [hl]
  have qa:l.length - 1 < l.length:=by omega
  obtain ⟨c1,c2⟩:=gl l qa
  have wl:wrap .i64 ((l.length:Int) - 1)=((l.length - 1:Nat):Int):=by rw [gk (by omega)]; omega
  have el:l[l.length - 1].2.1=uT l:=by unfold uT; simp [qa]
  have z:((bif (allFit (fits gJ) ([]:List AV)&&true) then some ((map bG ([]:List AV)),cZ l) else none:Option (List bX × Int)).bind fun Gh=>bif (decide (0=Gh.1.length)&&true) then some Gh else none)=some ([],cZ l):=rfl
  have key:=ke (rd:=qJ N l) (kz l) (fun k=>((List.range k).map (qW l),cZ l+k)) (fun k=>!decide (Sw (bW l (cZ l+k)))) (fun _=>Sum.inl ((),17)) (Sum.inr (tF l)) (fun k hk=>by
   have hle:decide (cZ l+(k:Int)≤uT l)=true:=decide_eq_true (by unfold kz at hk; omega)
   have r:=Xq hN l h ((List.range k).map (qW l)) (cZ l+k)
   obtain ⟨f1,f2⟩:=tD (bW l (cZ l+k))
   have es:(List.range (k+1)).map (qW l)=(List.range k).map (qW l)++[qW l k]:=by rw [List.range_succ,List.map_append]; rfl
   have hlen:((List.range k).map (qW l)).length=k:=by simp
   have aa4:∀ x∈bW l (cZ l+k),-100001≤x∧x≤100000:=fun x hx=>Et h hx
   have jF:(bW l (cZ l+k)).length≤l.length:=by unfold bW; rw [List.length_map]; exact List.length_filter_le _ _
   have Ys:k≤200001:=by unfold kz at hk; omega
   have N2:decide ((k+1) * 24≤140737488355328)=true:=decide_eq_true (by omega)
   have sn:=SA ((List.range k).map (qW l)) (cZ l+k) (kW (bW l (cZ l+k))).2.1 (kW (bW l (cZ l+k))).2.2
   have er:qW l k=(cZ l+k,(kW (bW l (cZ l+k))).2.1,(kW (bW l (cZ l+k))).2.2):=rfl
   have wk:wrap .i64 (cZ l+(k:Int)+1)=cZ l+((k+1:Nat):Int):=by rw [gk (by omega)]; omega
   rw [er] at es
   rw [es]
   generalize (List.range k).map (qW l)=acc at *
   unfold Sw
   generalize CA:bW l (cZ l+k)=c at *
   have z2:((bif (allFit (fits gJ) (map az acc)&&true) then some ((map bG (map az acc)),(0:Int),(0:Int),cZ l+(k:Int),(0:Int),(0:Int)) else none:Option (List bX × Int × Int × Int × Int × Int)).bind fun JO=>bif (decide ((map az acc).length=(map az JO.1).length)&&true) then some JO else none)=some (acc,0,0,cZ l+(k:Int),0,0):=by
    simp only [oL,oM,Bool.and_self,cond_true,Option.bind_some,decide_true]
   simp only [Bool.and_true] at z2
   by_cases hc:c=[]
   ·have hn:((kW c).1 == 0)=true:=by rw [f1,hc]; rfl
    simp only [qJ,List.length_map,wl,aB qa,Int.toNat_natCast,c1,c2,el,hle,Bool.and_self,Bool.and_true,cond_true,z2,Option.bind_some,r,hn,oL,oM,decide_true]
    simp only [hc,ne_eq,not_true_eq_false,false_and,decide_false,Bool.not_false,if_true]
   ·obtain ⟨j1,j2,j3,j4⟩:=f2 hc
    have hn:((c.length:Int) == 0)=false:=beq_false_of_ne (by have:=List.length_pos_iff.2 hc; omega)
    have b1:=aa4 _ j1
    have b2:=aa4 _ j3
    have wd:wrap .i64 ((kW c).2.2 - (kW c).2.1)=(kW c).2.2 - (kW c).2.1:=gk (by omega)
    by_cases hq:(kW c).2.2 - (kW c).2.1=(c.length:Int)
    ·have cD:((c.length:Int) != (kW c).2.2 - (kW c).2.1)=false:=by rw [hq]; exact bne_self_eq_false _
     simp only [qJ,List.length_map,wl,aB qa,Int.toNat_natCast,c1,c2,el,hle,Bool.and_self,Bool.and_true,cond_true,cond_false,z2,Option.bind_some,r,hn,f1,oL,oM,decide_true,wd,cD,hlen,N2,sn,List.length_append,List.length_singleton,wk]
     simp only [ne_eq,hc,not_false_eq_true,hq,and_self,decide_true,Bool.not_true,Bool.false_eq_true,if_false]
    ·have cD:((c.length:Int) != (kW c).2.2 - (kW c).2.1)=true:=bne_iff_ne.2 (fun e=>hq e.symm)
     simp only [qJ,List.length_map,wl,aB qa,Int.toNat_natCast,c1,c2,el,hle,Bool.and_self,Bool.and_true,cond_true,cond_false,z2,Option.bind_some,r,hn,f1,oL,oM,decide_true,wd,cD]
     simp only [hq,and_false,decide_false,Bool.not_false,if_true]) (by
   have E5:decide (cZ l+(kz l:Int)≤uT l)=false:=decide_eq_false (by unfold kz; omega)
   simp only [qJ,List.length_map,wl,aB qa,Int.toNat_natCast,c1,c2,el,E5,Bool.and_self,Bool.and_true,cond_true,cond_false,oL,oM,decide_true,Option.bind_some]
   rfl) N (by unfold kz; unfold fL at hN; omega)
  have e0:(([]:List bX),cZ l)=((List.range 0).map (qW l),cZ l+((0:Nat):Int)):=by simp
  simp only [List.length_map,hb,cond_false,i0,Yq,Yr,Bool.and_self,cond_true,ef]
  rw [z,Option.bind_some,e0,key]
  by_cases eD:T9 l
  ·have hf:(List.range (kz l)).find? (fun k:Nat=>!decide (Sw (bW l (cZ l+k))))=none:=by
    rw [List.find?_eq_none]
    intro k hk
    have:=eD k (List.mem_range.1 hk)
    simp [this]
   rw [hf,if_pos eD]
   simp only [Option.bind_some,Sum.elim_inr,oL,oM,Bool.and_true,cond_true]
  ·rw [if_neg eD]
   cases hf:(List.range (kz l)).find? (fun k:Nat=>!decide (Sw (bW l (cZ l+k)))) with
   | some j=>rfl
   | none=>
    refine absurd (fun k hk=>?_) eD
    have:=List.find?_eq_none.1 hf k (List.mem_range.2 hk)
    simpa using this
end
end Go.Proofs.YtldcljfjjoidhaaGreatDoor
namespace Go.Proofs.YtldcljfjjoidhaaGreatDoor
open Go Go.Am Go.Sort
open List (map)
open Int (toNat)
open Go.IntKind (wrap)
open Go.Am.aR (fits)
set_option maxRecDepth 100000
theorem Xr (l:List Int) (x:Int):map cC l++[AV.int .i64 x]=map cC (l++[x]):=by rw [List.map_append]; rfl
theorem Xs (l:List Int) {k:Nat} (hk:k < l.length):fx (ah (map cC l) k)=l[k]∧fits p3 (ah (map cC l) k)=true:=by
 rw [fH cC l k hk]; exact ⟨rfl,rfl⟩
theorem Bs (c:List Int):rI (map cC c)=map cC (fq c):=by
 unfold rI fq
 have e:(map cC c).map zJ=c:=by
  rw [List.map_map]
  conv=>rhs; rw [← List.map_id c]
  exact List.map_congr_left fun _ _=>rfl
 rw [e]
 rfl
theorem Bt (c:List Int):uR (map cC c)=true:=by
 induction c with
 | nil=>rfl
 | cons x c ih=>exact ih
theorem Aq (p:dv→Bool) (l:List dv):(∀ k (hk:k < (l.takeWhile p).length) (h2:k < l.length),p l[k]=true)∧∀ h:(l.takeWhile p).length < l.length,p l[(l.takeWhile p).length]=false:=by
 obtain ⟨h1,h2⟩:=iE p l
 refine ⟨fun k hk h3=>h1 _ ?_,h2⟩
 have hle:(l.takeWhile p).length≤l.length:=(List.takeWhile_sublist p).length_le
 have:k < (l.take (l.takeWhile p).length).length:=by rw [List.length_take]; omega
 have e:(l.take (l.takeWhile p).length)[k]=l[k]:=List.getElem_take
 rw [← e]
 exact List.getElem_mem this
def Xt (l:List dv) (rows:List bX) (i:Nat):Prop:=
 i≤l.length∧rows=(List.range rows.length).map (qW l)∧(∀ j,j < rows.length→Sw (bW l (cZ l+j)))∧∀ j (hj:j < l.length),j < i↔l[j].2.1 < cZ l+rows.length
def uU (l:List dv) (i:Nat) (y:Int):Nat:=i+((l.drop i).takeWhile fun b=>b.2.1 == y).length
theorem uV {l:List dv} (h:dA l=0) {i:Nat} (hi:i < l.length) (hb:∀ j (hj:j < l.length),j < i→l[j].2.1 < l[i].2.1) :
  i < uU l i l[i].2.1∧uU l i l[i].2.1≤l.length∧(∀ j (hj:j < l.length),i≤j→j < uU l i l[i].2.1→l[j].2.1=l[i].2.1)∧(∀ j (hj:j < l.length),uU l i l[i].2.1≤j→l[i].2.1 < l[j].2.1):=by
 obtain ⟨h1,h2,h3⟩:=gL h
 have hlen:(l.drop i).length=l.length - i:=List.length_drop
 have hle:((l.drop i).takeWhile fun b=>b.2.1 == l[i].2.1).length≤(l.drop i).length:=(List.takeWhile_sublist _).length_le
 obtain ⟨t1,t2⟩:=Aq (fun b=>b.2.1 == l[i].2.1) (l.drop i)
 have oO:0 < ((l.drop i).takeWhile fun b=>b.2.1 == l[i].2.1).length:=by
  rw [List.drop_eq_getElem_cons hi,List.takeWhile_cons]
  simp
 unfold uU
 generalize ((l.drop i).takeWhile fun b=>b.2.1 == l[i].2.1).length=t at *
 refine ⟨by omega,by omega,fun j hj RD hjt=>?_,fun j hj hjt=>?_⟩
 ·have:=t1 (j - i) (by omega) (by omega)
  rw [List.getElem_drop] at this
  have e:i+(j - i)=j:=by omega
  simp only [e] at this
  simpa using this
 ·have ht:t < (l.drop i).length:=by omega
  have:=t2 ht
  rw [List.getElem_drop] at this
  have a1:=Er h3 (i:=i) (j:=i+t) hi (by omega) (by omega)
  have a2:=Er h3 (i:=i+t) (j:=j) (by omega) hj hjt
  have cD:l[i+t].2.1≠l[i].2.1:=by simpa using this
  omega
theorem Bu {l:List dv} (h:dA l=0) {i:Nat} (hi:i < l.length) (hb:∀ j (hj:j < l.length),j < i→l[j].2.1 < l[i].2.1) :
  bW l l[i].2.1=((l.drop i).take (uU l i l[i].2.1 - i)).map jb:=by
 obtain ⟨e1,e2,e3,e4⟩:=uV h hi hb
 unfold bW
 congr 1
 generalize uU l i l[i].2.1=e at *
 have AJ:l=l.take i++((l.drop i).take (e - i)++l.drop e):=by
  have:l.drop e=(l.drop i).drop (e - i):=by rw [List.drop_drop]; congr 1; omega
  rw [this,List.take_append_drop,List.take_append_drop]
 generalize l[i].2.1=y at *
 have f1:(l.take i).filter (fun b=>b.2.1 == y)=[]:=by
  rw [List.filter_eq_nil_iff]
  intro b jB
  obtain ⟨j,hj,rfl⟩:=List.getElem_of_mem jB
  rw [List.length_take] at hj
  rw [List.getElem_take]
  have:=hb j (by omega) (by omega)
  simp
  omega
 have f2:((l.drop i).take (e - i)).filter (fun b=>b.2.1 == y)=(l.drop i).take (e - i):=by
  rw [List.filter_eq_self]
  intro b jB
  obtain ⟨j,hj,rfl⟩:=List.getElem_of_mem jB
  rw [List.length_take,List.length_drop] at hj
  rw [List.getElem_take,List.getElem_drop]
  have:=e3 (i+j) (by omega) (by omega) (by omega)
  simpa using this
 have f3:(l.drop e).filter (fun b=>b.2.1 == y)=[]:=by
  rw [List.filter_eq_nil_iff]
  intro b jB
  obtain ⟨j,hj,rfl⟩:=List.getElem_of_mem jB
  rw [List.length_drop] at hj
  rw [List.getElem_drop]
  have:=e4 (e+j) (by omega) (by omega)
  simp
  omega
 conv=>lhs; rw [AJ]
 rw [List.filter_append,List.filter_append,f1,f2,f3,List.append_nil,List.nil_append]
theorem Ev {l:List dv} (h:dA l=0) {y:Int} (hc:bW l y≠[]):∃ j,∃ hj:j < l.length,l[j].2.1=y:=by
 obtain ⟨x,hx⟩:=List.exists_mem_of_ne_nil _ hc
 obtain ⟨b,hb,-⟩:=List.mem_map.1 hx
 obtain ⟨hb,hy⟩:=List.mem_filter.1 hb
 obtain ⟨j,hj,rfl⟩:=List.getElem_of_mem hb
 exact ⟨j,hj,by simpa using hy⟩
section
variable {N:Nat} (hN:fL N)
include hN
theorem NA (l:List dv) (h:dA l=0) (rows:List bX) (e:Int) {i:Nat} (hi:i < l.length) (hb:∀ j (hj:j < l.length),j < i→l[j].2.1 < l[i].2.1) :
  aL (lO N l (rows,e,(i:Int))) N (rows,(i:Int),(),[])=some (rows,(uU l i l[i].2.1:Int),(),bW l l[i].2.1):=by
 obtain ⟨h1,h2,h3⟩:=gL h
 obtain ⟨e1,e2,e3,e4⟩:=uV h hi hb
 rw [Bu h hi hb]
 obtain ⟨a1,a2⟩:=gl l hi
 generalize hE:uU l i l[i].2.1=E at *
 have key:=cW (rd:=lO N l (rows,e,(i:Int))) (E - i) (fun k=>(rows,((i+k:Nat):Int),(),((l.drop i).take k).map jb)) (rows,(E:Int),(),((l.drop i).take (E - i)).map jb) (fun k hk=>by
  have Ys:i+k < l.length:=by omega
  obtain ⟨b1,b2⟩:=gl l Ys
  have hy:=e3 (i+k) Ys (by omega) (by omega)
  have hyb:(l[i+k].2.1 == l[i].2.1)=true:=by rw [hy]; exact beq_self_eq_true _
  have q:T81 N (l[i+k].1,l[i+k].2.1,l[i+k].2.2)=some (jb l[i+k]):=Su N (h2 _ (List.getElem_mem Ys))
  have hs:(((l.drop i).take k).map jb).length=k:=by rw [List.length_map,List.length_take,List.length_drop]; omega
  have es:((l.drop i).take (k+1)).map jb=((l.drop i).take k).map jb++[jb l[i+k]]:=by
   rw [List.take_add_one,List.getElem?_eq_getElem (by rw [List.length_drop]; omega),List.map_append,List.getElem_drop]
   rfl
  have N2:decide ((k+1) * 8≤140737488355328)=true:=decide_eq_true (by omega)
  have ew:wrap .i64 (((i+k:Nat):Int)+1)=((i+(k+1):Nat):Int):=by rw [gk (by omega)]; omega
  rw [es]
  generalize ((l.drop i).take k).map jb=c at *
  have sn:=Xr c (jb l[i+k])
  simp only [lO,List.length_map,a8 Ys,aB Ys,aB hi,Int.toNat_natCast,a1,a2,b1,b2,Bool.and_self,Bool.and_true,cond_true,hyb,my,mz,EL,EM,Nat.beq_refl,decide_true,Option.bind_some,q,hs,N2,sn,List.length_append,List.length_singleton,ew]) (by
  have hs:(((l.drop i).take (E - i)).map jb).length=E - i:=by rw [List.length_map,List.length_take,List.length_drop]; omega
  have hc:((bif decide (((i+(E - i):Nat):Int) < (l.length:Int)) then bif (decide ((0:Int)≤((i+(E - i):Nat):Int)∧((i+(E - i):Nat):Int) < (l.length:Int))&&fits ay (ah (map af l) (i+(E - i)))) then some (rows,(aw (ah (map af l) (i+(E - i)))).2.1 == l[i].2.1,((l.drop i).take (E - i)).map jb) else none else some (rows,false,((l.drop i).take (E - i)).map jb)):Option (List bX × Bool × List Int))=some (rows,false,((l.drop i).take (E - i)).map jb):=by
   have eE:i+(E - i)=E:=by omega
   rw [eE]
   by_cases hl:E < l.length
   ·obtain ⟨b1,b2⟩:=gl l hl
    have hy:=e4 E hl (Nat.le_refl _)
    have hyb:(l[E].2.1 == l[i].2.1)=false:=beq_false_of_ne (by omega)
    rw [a8 hl,aB hl,b1,b2,hyb]
    rfl
   ·rw [decide_eq_false (by omega)]
    rfl
  have eE:((i+(E - i):Nat):Int)=(E:Int):=by omega
  generalize ((l.drop i).take (E - i)).map jb=c at *
  simp only [lO,List.length_map,aB hi,Int.toNat_natCast,a1,a2,Bool.and_self,Bool.and_true,cond_true,my,mz,EL,EM,Nat.beq_refl,decide_true,Option.bind_some] at hc ⊢
  rw [hc]
  simp only [Option.bind_some,cond_false,my,mz,EL,EM,Nat.beq_refl,decide_true,Bool.and_self,cond_true,eE]) N 0 (Nat.zero_le _) (by unfold fL at hN; omega)
 simpa using key
theorem SB (o:List bX × Int × Unit × List Int) (rows:List bX) (b:Int) (s:List Int) (hs:s.length≤4096) (ho:o.2.2.2.length=s.length) (h0:0 < s.length) (AI:∀ x∈s,-100001≤x∧x≤100000) :
  aL (gK N o) N (rows,b,0,s)=some (if ∀ k (hk:k < s.length),s[k]=s[0]+k then .inr (rows,b,s) else .inl (rows,17,s)):=by
 obtain ⟨a1,a2⟩:=Xs s h0
 have Yq:fx (ah (map cC s) (toNat 0))=s[0]:=a1
 have Yr:fits p3 (ah (map cC s) (toNat 0))=true:=a2
 have i0:decide ((0:Int)≤0∧0 < (s.length:Int))=true:=aB h0
 have h0':decide (toNat 0 < s.length)=true:=decide_eq_true h0
 have key:=ke (rd:=gK N o) s.length (fun k=>(rows,b,(k:Int),s)) (fun k=>!decide (s.getD k 0=s.getD 0 0+k)) (fun _=>Sum.inl (rows,17,s)) (Sum.inr (rows,b,s)) (fun k hk=>by
  obtain ⟨b1,b2⟩:=Xs s hk
  have g0:s.getD 0 0=s[0]:=by simp [h0]
  have g1:s.getD k 0=s[k]:=by simp [hk]
  have bd:=AI _ (List.getElem_mem h0)
  have w1:wrap .i64 (s[0]+(k:Int))=s[0]+k:=gk (by omega)
  have jg:decide (k < s.length)=true:=decide_eq_true hk
  rw [g0,g1]
  by_cases hq:s[k]=s[0]+k
  ·have cD:(s[k] != s[0]+(k:Int))=false:=by rw [hq]; exact bne_self_eq_false _
   simp only [gK,List.length_map,ho,a8 hk,aB hk,Int.toNat_natCast,Nat.zero_add,b1,b2,jg,h0',i0,Yq,Yr,decide_true,Bool.and_self,Bool.and_true,cond_true,cond_false,w1,cD,my,mz,EL,EM,Option.bind_some,bE (show k < 9223372036854775807 by omega)]
   simp only [hq,decide_true,Bool.not_true,Bool.false_eq_true,if_false]
  ·have cD:(s[k] != s[0]+(k:Int))=true:=bne_iff_ne.2 hq
   simp only [gK,List.length_map,ho,a8 hk,aB hk,Int.toNat_natCast,Nat.zero_add,b1,b2,jg,h0',i0,Yq,Yr,decide_true,Bool.and_self,Bool.and_true,cond_true,w1,cD,my,mz,EL,EM,Option.bind_some]
   simp only [hq,decide_false,Bool.not_false,if_true]) (by
  simp only [gK,List.length_map,ho,bO,cond_false,my,mz,EL,EM,Bool.and_self,Bool.and_true,decide_true,cond_true,Option.bind_some]) N (by unfold fL at hN; omega)
 have pW:aL (gK N o) N (rows,b,0,s)=_:=key
 rw [pW]
 by_cases hq:∀ k (hk:k < s.length),s[k]=s[0]+k
 ·rw [if_pos hq]
  have hf:(List.range s.length).find? (fun k:Nat=>!decide (s.getD k 0=s.getD 0 0+k))=none:=by
   rw [List.find?_eq_none]
   intro k hk
   have hk:=List.mem_range.1 hk
   have:=hq k hk
   have g0:s.getD 0 0=s[0]:=by simp [h0]
   have g1:s.getD k 0=s[k]:=by simp [hk]
   rw [g0,g1,this]
   simp
  rw [hf]
 ·rw [if_neg hq]
  cases hf:(List.range s.length).find? (fun k:Nat=>!decide (s.getD k 0=s.getD 0 0+k)) with
  | some j=>rfl
  | none=>
   refine absurd (fun k hk=>?_) hq
   have:=List.find?_eq_none.1 hf k (List.mem_range.2 hk)
   have g0:s.getD 0 0=s[0]:=by simp [h0]
   have g1:s.getD k 0=s[k]:=by simp [hk]
   rw [g0,g1] at this
   simpa using this
end
end Go.Proofs.YtldcljfjjoidhaaGreatDoor
namespace Go.Proofs.YtldcljfjjoidhaaGreatDoor
open Go Go.Am Go.Sort
open List (map)
open Int (toNat)
open Go.IntKind (wrap)
open Go.Am.aR (fits)
set_option maxRecDepth 100000
def Jy (l:List dv) (x:List bX × Int):Prop:=if T9 l then x=(tF l,0) else x.2=17
section
variable {N:Nat} (hN:fL N)
include hN
theorem NB (l:List dv) (h:dA l=0) (h0:0 < l.length) (rows:List bX) (i:Nat) (hI:Xt l rows i) :
  (∃ v',kM N l (rows,0,(i:Int))=some (.inl v')∧(∃ Ua i',v'=(Ua,0,((i':Nat):Int))∧Xt l Ua i')∧l.length - v'.2.2.toNat < l.length - i)∨∃ x,kM N l (rows,0,(i:Int))=some (.inr x)∧Jy l x:=by
 obtain ⟨h1,h2,h3⟩:=gL h
 obtain ⟨g1,g2,g3,g4⟩:=hI
 have bd:=Nx h h0
 have rl:∀ j,j < rows.length→∃ k,∃ hk:k < l.length,l[k].2.1=cZ l+j:=fun j hj=>Ev h (g3 j hj).1
 have rM:rows.length≤kz l:=by
  rcases Nat.eq_zero_or_pos rows.length with hz | hz
  ·omega
  ·obtain ⟨k,hk,e⟩:=rl (rows.length - 1) (by omega)
   have:=(Eu h hk).2
   unfold kz
   omega
 have rM2:kz l≤200001:=by unfold kz; omega
 by_cases hi:i < l.length
 ·obtain ⟨a1,a2⟩:=gl l hi
  have hb:∀ j (hj:j < l.length),j < i→l[j].2.1 < l[i].2.1:=fun j hj hji=>by
   have e1:=(g4 j hj).1 hji
   have e2:¬ l[i].2.1 < cZ l+rows.length:=fun hc=>by have:=(g4 i hi).2 hc; omega
   omega
  have hy0:cZ l+rows.length≤l[i].2.1:=by
   have e2:¬ l[i].2.1 < cZ l+rows.length:=fun hc=>by have:=(g4 i hi).2 hc; omega
   omega
  have hiy:=Eu h hi
  -- the row before
  have Xu:((bif (decide ((rows.length:Int) > 0)) then bif (decide ((0:Int)≤(wrap .i64 ((rows.length:Int) - 1))∧(wrap .i64 ((rows.length:Int) - 1)) < (rows.length:Int))&&fits hZ (ah (map aH rows) (toNat (wrap .i64 ((rows.length:Int) - 1))))) then some (rows,(l[i].2.1 != (wrap .i64 ((e9 (ah (map aH rows) (toNat (wrap .i64 ((rows.length:Int) - 1))))).1+1)))) else none else some (rows,false)):Option (List bX × Bool))=some (rows,!decide (l[i].2.1=cZ l+rows.length)):=by
   by_cases hr:rows.length=0
   ·have ez:i=0:=by
     rcases Nat.eq_zero_or_pos i with hz | hz
     ·exact hz
     ·have e1:=(g4 0 h0).1 hz
      have e2:=(Eu h h0).1
      rw [hr] at e1
      omega
    have ey:l[i].2.1=cZ l:=by
     subst ez
     unfold cZ
     simp [h0]
    rw [decide_eq_false (by omega),hr]
    simp [ey]
   ·have hk:rows.length - 1 < rows.length:=by omega
    obtain ⟨c1,c2⟩:=Ny rows hk
    have wl:wrap .i64 ((rows.length:Int) - 1)=((rows.length - 1:Nat):Int):=by rw [gk (by omega)]; omega
    have er:rows[rows.length - 1].1=cZ l+((rows.length - 1:Nat):Int):=by
     have:rows[rows.length - 1]=qW l (rows.length - 1):=by
      have:=List.getElem_of_eq g2 hk
      rw [this,List.getElem_map,List.getElem_range]
     rw [this]
     rfl
    have w2:wrap .i64 (cZ l+((rows.length - 1:Nat):Int)+1)=cZ l+rows.length:=by rw [gk (by omega)]; omega
    rw [decide_eq_true (by omega),wl,aB hk,Int.toNat_natCast,c1,c2,er,w2]
    by_cases hq:l[i].2.1=cZ l+rows.length
    ·rw [hq]; simp
    ·have cD:(l[i].2.1 != cZ l+(rows.length:Int))=true:=bne_iff_ne.2 hq
     simp [hq,cD]
  by_cases hq:l[i].2.1=cZ l+rows.length
  ·-- the next row
   have hqd:(!decide (l[i].2.1=cZ l+rows.length))=false:=by rw [decide_eq_true hq]; rfl
   have aa5:=NA hN l h rows 0 hi hb
   obtain ⟨e1,e2,e3,e4⟩:=uV h hi hb
   have hnd:=Es h l[i].2.1
   have hlen:0 < (fq (bW l l[i].2.1)).length:=by
    rw [tE,Bu h hi hb,List.length_map,List.length_take,List.length_drop]
    omega
   have hle:(fq (bW l l[i].2.1)).length≤4096:=by
    rw [tE]
    unfold bW
    rw [List.length_map]
    have:=List.length_filter_le (fun b:dv=>b.2.1 == l[i].2.1) l
    omega
   have AI:∀ x∈fq (bW l l[i].2.1),-100001≤x∧x≤100000:=fun x hx=>Et h ((qd _ _).1 hx)
   have hsl:=tE (bW l l[i].2.1)
   have SC:=SB hN (rows,(uU l i l[i].2.1:Int),(),bW l l[i].2.1) rows 0 (fq (bW l l[i].2.1)) hle hsl.symm hlen AI
   have aa6:=Sy hnd hlen
   obtain ⟨s1,s2⟩:=Br hnd hlen
   obtain ⟨fl1,fl2⟩:=tD (bW l l[i].2.1)
   have z1:decide ((bW l l[i].2.1).length≤140737488355328)=true:=decide_eq_true (by omega)
   obtain ⟨t1,t2⟩:=Xs _ hlen
   have t1':fx (ah (map cC (fq (bW l l[i].2.1))) (toNat 0))=(fq (bW l l[i].2.1))[0]:=t1
   have t2':fits p3 (ah (map cC (fq (bW l l[i].2.1))) (toNat 0))=true:=t2
   have jF:0 < (bW l l[i].2.1).length:=by omega
   have i0:decide ((0:Int)≤0∧0 < ((bW l l[i].2.1).length:Int))=true:=aB jF
   have i0':decide (toNat 0 < (bW l l[i].2.1).length)=true:=decide_eq_true (by show 0 < _; omega)
   have hrb:decide ((rows.length+1) * 24≤140737488355328)=true:=decide_eq_true (by omega)
   by_cases eD:Sw (bW l l[i].2.1)
   ·refine .inl ⟨(rows++[qW l rows.length],0,(uU l i l[i].2.1:Int)),?_,⟨_,_,rfl,?_⟩,?_⟩
    ·rw [if_pos (aa6.1 eD)] at SC
     have bs:=AI _ (List.getElem_mem hlen)
     have wn:wrap .i64 ((fq (bW l l[i].2.1))[0]+((bW l l[i].2.1).length:Int))=(kW (bW l l[i].2.1)).2.2:=by
      have:=eD.2
      rw [gk (by omega)]
      omega
     have er:qW l rows.length=(l[i].2.1,(fq (bW l l[i].2.1))[0],(kW (bW l l[i].2.1)).2.2):=by
      unfold qW
      rw [← hq,s1]
     have sn:=Sz rows l[i].2.1 (fq (bW l l[i].2.1))[0] (kW (bW l l[i].2.1)).2.2
     rw [er]
     simp only [kM,List.length_map,a8 hi,aB hi,Int.toNat_natCast,a1,a2,Bool.and_self,Bool.and_true,cond_true,my,mz,Option.bind_some,decide_true]
     rw [Xu]
     simp only [Option.bind_some,hqd,cond_false]
     have z5:((bif (Nat.beq 0 (([]:List AV)).length&&allFit (fits p3) ([]:List AV)) then some (rows,(i:Int),(),(map fx ([]:List AV))) else none:Option (List bX × Int × Unit × List Int)).bind fun Jm=>bif decide (rows.length=Jm.1.length) then some Jm else none)=some (rows,(i:Int),(),[]):=by
      show (bif decide (rows.length=rows.length) then some (rows,(i:Int),(),([]:List Int)) else none)=_
      rw [decide_eq_true rfl]
      rfl
     simp only [Bool.true_and]
     rw [z5,Option.bind_some,aa5,Option.bind_some]
     simp only [Option.bind_some, List.length_map,decide_true,z1,Bt,Bool.and_self,cond_true,Bs,EL,EM,SC,Sum.elim_inr,i0,i0',hsl,Nat.zero_add,t1',t2',hrb,wn,sn,my,mz,List.length_append,List.length_singleton]
    ·refine ⟨e2,?_,?_,?_⟩
     ·rw [List.length_append,List.length_singleton,List.range_succ,List.map_append]
      conv=>lhs; rw [g2]
      simp
     ·intro j hj
      rw [List.length_append,List.length_singleton] at hj
      by_cases Yn:j < rows.length
      ·exact g3 j Yn
      ·obtain rfl:j=rows.length:=by omega
       rw [← hq]; exact eD
     ·intro j hj
      rw [List.length_append,List.length_singleton]
      constructor
      ·intro hje
       by_cases hji:j < i
       ·have:=(g4 j hj).1 hji; omega
       ·have:=e3 j hj (by omega) hje; omega
      ·intro cu
       rcases Nat.lt_or_ge j (uU l i l[i].2.1) with hh | hh
       ·exact hh
       ·have:=e4 j hj hh; omega
    ·show l.length - toNat (uU l i l[i].2.1:Int) < _
     rw [Int.toNat_natCast]
     omega
   ·refine .inr ⟨(rows,17),?_,?_⟩
    ·rw [if_neg (fun hh=>eD (aa6.2 hh))] at SC
     simp only [kM,List.length_map,a8 hi,aB hi,Int.toNat_natCast,a1,a2,Bool.and_self,Bool.and_true,cond_true,my,mz,Option.bind_some,decide_true]
     rw [Xu]
     simp only [Option.bind_some,hqd,cond_false]
     have z5:((bif (Nat.beq 0 (([]:List AV)).length&&allFit (fits p3) ([]:List AV)) then some (rows,(i:Int),(),(map fx ([]:List AV))) else none:Option (List bX × Int × Unit × List Int)).bind fun Jm=>bif decide (rows.length=Jm.1.length) then some Jm else none)=some (rows,(i:Int),(),[]):=by
      show (bif decide (rows.length=rows.length) then some (rows,(i:Int),(),([]:List Int)) else none)=_
      rw [decide_eq_true rfl]
      rfl
     simp only [Bool.true_and]
     rw [z5,Option.bind_some,aa5,Option.bind_some]
     simp only [Option.bind_some, List.length_map,decide_true,z1,Bt,Bool.and_self,cond_true,Bs,EL,EM,SC,Sum.elim_inl,my,mz]
    ·unfold Jy
     rw [if_neg]
     intro hh
     refine eD ?_
     have:rows.length < kz l:=by unfold kz; omega
     rw [hq]
     exact hh _ this
  ·have hqd:(!decide (l[i].2.1=cZ l+rows.length))=true:=by rw [decide_eq_false hq]; rfl
   refine .inr ⟨(rows,17),?_,?_⟩
   ·simp only [kM,List.length_map,a8 hi,aB hi,Int.toNat_natCast,a1,a2,Bool.and_self,Bool.and_true,cond_true,my,mz,Option.bind_some,decide_true]
    rw [Xu]
    simp only [Option.bind_some,hqd,cond_true,my,mz,decide_true]
   ·unfold Jy
    rw [if_neg]
    intro hh
    have cu:rows.length < kz l:=by unfold kz; omega
    obtain ⟨k,hk,e⟩:=Ev h (hh _ cu).1
    rcases Nat.lt_or_ge k i with hki | hki
    ·have:=(g4 k hk).1 hki; omega
    ·have:=Er h3 hi hk hki; omega
 ·refine .inr ⟨(rows,0),?_,?_⟩
  ·have qi:decide ((i:Int) < (l.length:Int))=false:=decide_eq_false (by omega)
   simp only [kM,List.length_map,qi,cond_false,my,mz,Bool.and_self,Bool.and_true,decide_true,cond_true,Option.bind_some]
  ·have qa:l.length - 1 < l.length:=by omega
   have e1:=(g4 _ qa).1 (by omega)
   have el:uT l=l[l.length - 1].2.1:=by unfold uT; simp [qa]
   have eM:rows.length=kz l:=by
    have:kz l≤rows.length:=by unfold kz; omega
    omega
   unfold Jy
   have eD:T9 l:=fun j hj=>g3 j (by omega)
   rw [if_pos eD,g2,eM]
   rfl
theorem ND (l:List dv):T15 N l=some (if dA l=0 then zM l else ([],dA l)):=by
 have z2:∀ x y:Int,((bif (allFit (fits vO) [(AV.int .i64 x),(AV.int .i64 y)]&&true) then some (map ka [(AV.int .i64 x),(AV.int .i64 y)]) else none:Option (lW)))=some [x,y]:=fun _ _=>rfl
 rw [Xk]
 simp only [fy,fj,Bool.and_true,cond_true,Option.bind_some,List.length_map,HQ hN,lH]
 simp only [Bool.and_true] at z2
 rw [z2,Option.bind_some,nw hN _ (by simp),Option.bind_some,HN]
 unfold zM
 by_cases h:dA l=0
 ·rw [if_pos h]
  by_cases h0:l=[]
  ·subst h0
   rw [if_pos rfl,h]
   rfl
  ·have hl:0 < l.length:=List.length_pos_iff.2 h0
   have hb:((l.length:Int) == 0)=false:=beq_false_of_ne (by omega)
   rw [if_neg h0,h,hb]
   have ef:aJ [0,if false=true then 12 else 0]=0:=rfl
   rw [if_pos ef]
   obtain ⟨x,e,hx⟩:=Bq (rd:=kM N l) (fun v=>∃ rows i,v=(rows,0,((i:Nat):Int))∧Xt l rows i) (fun v=>l.length - v.2.2.toNat) (Jy l) (fun v hv=>by
    obtain ⟨rows,i,rfl,hI⟩:=hv
    rcases NB hN l h hl rows i hI with ⟨v',e1,e2,e3⟩ | ⟨x,e1,e2⟩
    ·exact .inl ⟨v',e1,e2,by simpa using e3⟩
    ·exact .inr ⟨x,e1,e2⟩) N ([],0,((0:Nat):Int)) ⟨[],0,rfl,by omega,rfl,fun j hj=>absurd hj (Nat.not_lt_zero _),fun j hj=>⟨fun hh=>absurd hh (Nat.not_lt_zero _),fun hh=>by
     have:=(Eu h hj).1
     simp at hh
     omega⟩⟩ (by have:=(gL h).1; unfold fL at hN; show l.length - 0 < N; omega)
   have z:((bif allFit (fits hZ) ([]:List AV) then some ((map e9 ([]:List AV)),(0:Int),(0:Int)) else none:Option (List bX × Int × Int)).bind fun VS=>bif decide (0=VS.1.length) then some VS else none)=some ([],0,0):=rfl
   have e':aL (kM N l) N ([],0,0)=some x:=e
   rw [z,Option.bind_some,e',Option.bind_some]
   unfold Jy at hx
   by_cases eD:T9 l
   ·rw [if_pos eD] at hx ⊢
    subst hx
    simp only [bne_self_eq_false,cond_false,my,mz,cond_true]
   ·rw [if_neg eD] at hx ⊢
    rw [hx]
    rfl
 ·rw [if_neg h]
  have ef:aJ [dA l,if ((l.length:Int) == 0)=true then 12 else 0]=dA l:=by unfold aJ; rw [if_neg h]
  rw [ef,if_neg h]
  rfl
end
end Go.Proofs.YtldcljfjjoidhaaGreatDoor
