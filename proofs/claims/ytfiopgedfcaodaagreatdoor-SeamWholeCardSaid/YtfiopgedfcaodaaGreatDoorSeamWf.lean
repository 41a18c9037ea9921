/- Plain laws: a net in two parts that are sewn at all common knots: classes are knots. -/
import Derived.Test.YtfiopgedfcaodaaGreatDoorSeamWe
import Derived.Test.YtfiopgedfcaodaaGreatDoorSeamKD
set_option linter.all false
namespace Go.Proofs.YtfiopgedfcaodaaGreatDoor
open Go Go.Am Go.Sort
set_option maxRecDepth 100000
theorem Eg {α:Type} [DecidableEq α] {a b:List α} (ha:a.Nodup) (hb:b.Nodup) (h:∀ x,x∈a↔x∈b):a.length=b.length:=
 Nat.le_antisymm (gB a b ha fun x hx=>(h x).1 hx) (gB b a hb fun x hx=>(h x).2 hx)
theorem tS {α β:Type} {g:α→β}:∀ {l:List α},l.Nodup→(∀ x∈l,∀ y∈l,g x=g y→x=y)→(l.map g).Nodup
 | [],_,_=>List.Pairwise.nil
 | a :: l,h,hi=>by
  obtain ⟨h1,h2⟩:=List.pairwise_cons.1 h
  rw [List.map_cons]
  refine List.pairwise_cons.2 ⟨fun y hy e=>?_,tS h2 fun x hx y hy=>hi x (by simp [hx]) y (by simp [hy])⟩
  obtain ⟨x,hx,rfl⟩:=List.mem_map.1 hy
  exact h1 x hx (hi a (by simp) x (by simp [hx]) e)
theorem mB (l:List P3) (k:Int × Int):k∈aT l↔∃ b∈l,k=dO b∨k=cY b:=by
 rw [pK]
 constructor
 ·exact Ed
 ·rintro ⟨b,hb,rfl | rfl⟩
  ·exact (yO hb).1
  ·exact (yO hb).2
theorem Eh (l:List P3):(aT l).Nodup:=((my IU LP (0,0) (bn l)).1).imp fun {a b} h e=>by
 subst e
 have:=IU.irrefl a
 have h:ltOf zx a a=true:=h
 rw [this] at h
 cases h
theorem Ei (l:List P3):eR l=0↔l.length≤4096∧(∀ b∈l,mz b=0)∧l.Pairwise fun a b=>less a b=true:=by
 unfold eR
 constructor
 ·intro h
  split at h
  ·cases h
  ·rename_i hl
   have h:=bN.1 h
   have hE:∀ k,k < l.length→yF l k=0:=fun k hk=>h _ (List.mem_map.2 ⟨k,List.mem_range.2 hk,rfl⟩)
   have hB:∀ b∈l,mz b=0:=by
    intro b hb
    obtain ⟨k,hk,rfl⟩:=List.getElem_of_mem hb
    have e:=hE k hk
    have eg:l.getD k (0,0,0)=l[k]:=by simp [hk]
    unfold yF at e
    rw [eg] at e
    by_cases c:mz l[k]=0
    ·exact c
    ·rw [if_pos c] at e; exact e
   have hA:∀ k,(h1:k+1 < l.length)→less l[k] l[k+1]=true:=by
    intro k h1
    have e:=hE (k+1) h1
    have eg:l.getD (k+1) (0,0,0)=l[k+1]:=by simp [h1]
    have eg2:l.getD (k+1 - 1) (0,0,0)=l[k]:=by simp [show k < l.length by omega]
    unfold yF at e
    rw [eg,eg2,hB _ (List.getElem_mem h1),if_neg (fun c=>c rfl)] at e
    cases hc:less l[k] l[k+1] with
    | true=>rfl
    | false=>rw [if_pos ⟨by omega,hc⟩] at e; cases e
   refine ⟨by omega,hB,List.pairwise_iff_getElem.2 fun i j hi hj Rc=>?_⟩
   obtain ⟨d,rfl⟩:∃ d,j=i+1+d:=⟨j - (i+1),by omega⟩
   clear Rc
   induction d with
   | zero=>exact hA i (by omega)
   | succ d ih=>exact Y7.trans _ _ _ (ih (by omega)) (hA (i+1+d) hj)
 ·rintro ⟨h1,h2,h3⟩
  rw [if_neg (by omega)]
  refine bN.2 fun x hx=>?_
  obtain ⟨k,hk,rfl⟩:=List.mem_map.1 hx
  have hk:=List.mem_range.1 hk
  have eg:l.getD k (0,0,0)=l[k]:=by simp [hk]
  unfold yF
  rw [eg,h2 _ (List.getElem_mem hk),if_neg (fun c=>c rfl),if_neg]
  rintro ⟨c1,c2⟩
  have eg2:l.getD (k - 1) (0,0,0)=l[k - 1]:=by simp [show k - 1 < l.length by omega]
  rw [eg2,List.pairwise_iff_getElem.1 h3 (k - 1) k (by omega) hk (by omega)] at c2
  cases c2
theorem Ej {a l:List P3} (hs:a.Sublist l) (h:eR l=0):eR a=0:=by
 obtain ⟨h1,h2,h3⟩:=(Ei l).1 h
 exact (Ei a).2 ⟨Nat.le_trans hs.length_le h1,fun b hb=>h2 b (hs.subset hb),h3.sublist hs⟩
theorem M2 {l:List P3} (h:eR l=0) {b:P3} (hb:b∈l):dO b≠cY b:=by
 obtain ⟨h1,_⟩:=Ee h hb
 unfold bu at h1
 split at h1
 ·cases h1
 ·rename_i c
  have e2:(dO b).2=b.2.1:=rfl
  rw [e2] at c
  intro e
  have e3:b.2.1=IntKind.wrap .i64 (b.2.1+1):=congrArg Prod.snd e
  have ew:IntKind.wrap .i64 (b.2.1+1)=b.2.1+1:=DA ⟨by omega,by omega⟩
  omega
theorem vV {S:List P3} {p:P3} (h:p∈S):S.getD (lK S p) (0,0,0)=p:=by
 have hl:=nC h
 have hg:S[lK S p]=p:=List.getElem_idxOf hl
 simp [hl,hg]
theorem HP {f:Nat→Nat}:∀ {n c:Nat},c < gd f n→∃ i,i < n∧f i=i∧gd f i=c
 | 0,c,h=>by simp [gd] at h
 | n+1,c,h=>by
  rw [sT] at h
  by_cases hc:c < gd f n
  ·obtain ⟨i,h1,h2⟩:=HP hc
   exact ⟨i,by omega,h2⟩
  ·split at h
   ·rename_i hr
    exact ⟨n,by omega,hr,by omega⟩
   ·omega
theorem RK {f:Nat→Nat} {r s:Nat} (hr:f r=r) (hs:f s=s) (h:gd f r=gd f s):r=s:=by
 rcases Nat.lt_trichotomy r s with c | c | c
 ·have:=nE hr c; omega
 ·exact c
 ·have:=nE hs c; omega
section
variable (A B:List P3)
theorem Ns (p:P3):p∈aL [A,B]↔(p.1=0∧p.2∈aT A)∨(p.1=1∧p.2∈aT B):=by
 rw [kG]
 constructor
 ·rintro ⟨i,hi,h1,h2⟩
  have hi:i < 2:=hi
  rcases (show i=0∨i=1 by omega) with rfl | rfl
  ·exact .inl ⟨h1,h2⟩
  ·exact .inr ⟨h1,h2⟩
 ·rintro (⟨h1,h2⟩ | ⟨h1,h2⟩)
  ·exact ⟨0,by simp,h1,h2⟩
  ·exact ⟨1,by simp,h1,h2⟩
theorem B0 (j:qW):j∈dc [A,B] 0 1↔∃ k:Int × Int,k∈aT A∧k∈aT B∧j=(0,k.1,k.2,1,k.1,k.2):=by
 unfold dc
 rw [List.mem_map]
 constructor
 ·rintro ⟨k,hk,rfl⟩
  obtain ⟨h1,h2⟩:=List.mem_filter.1 hk
  exact ⟨k,h1,of_decide_eq_true h2,rfl⟩
 ·rintro ⟨k,h1,h2,rfl⟩
  exact ⟨k,List.mem_filter.2 ⟨h1,decide_eq_true h2⟩,rfl⟩
theorem aea (hA:eR A=0) (hB:eR B=0) (Nr:A.length≤12):ra [A,B] (dc [A,B] 0 1)=0:=by
 refine RI ?_ ?_ fun j hj=>?_
 ·unfold pU
  rw [if_neg (by simp)]
  refine bN.2 fun x hx=>?_
  obtain ⟨l,hl,rfl⟩:=List.mem_map.1 hx
  rcases List.mem_cons.1 hl with rfl | hl
  ·exact hA
  ·rw [List.mem_singleton] at hl; subst hl; exact hB
 ·unfold dc
  rw [List.length_map]
  refine Nat.le_trans (List.length_filter_le _ _) ?_
  have h1:(aT A).length≤(bn A).length:=yH vQ (0,0) (bn A)
  rw [gA] at h1
  have:(aT ([A,B].getD 0 [])).length=(aT A).length:=rfl
  omega
 ·obtain ⟨k,h1,h2,rfl⟩:=(B0 A B j).1 hj
  unfold zD
  refine bN.2 fun x hx=>?_
  have e1:vk [A,B] (0,k.1,k.2)=0:=by
   unfold vk
   rw [if_neg (by simp),if_pos (show ((k.1,k.2):Int × Int)∈aT ([A,B].getD (0:Int).toNat []) from h1)]
  have e2:vk [A,B] (1,k.1,k.2)=0:=by
   unfold vk
   rw [if_neg (by simp),if_pos (show ((k.1,k.2):Int × Int)∈aT ([A,B].getD (1:Int).toNat []) from h2)]
  simp only [List.mem_cons,List.not_mem_nil,or_false] at hx
  rcases hx with rfl | rfl | rfl
  ·exact e1
  ·exact e2
  ·rw [if_neg]
   intro c
   have:=congrArg Prod.fst c
   simp at this
def yY:Nat→Nat:=BY [A,B] (dc [A,B] 0 1)
theorem tT:iG (yY A B):=qX _
theorem Zn {p q:P3} (hp:p∈aL [A,B]) (hq:q∈aL [A,B]):yY A B (lK (aL [A,B]) p)=yY A B (lK (aL [A,B]) q)↔p.2=q.2:=by
 constructor
 ·intro h
  have hc:=(yx (S:=fun i=>((aL [A,B]).getD i (0,0,0)).2=q.2) (es:=je (aL [A,B]) (dc [A,B] 0 1)) (fun e he=>by
   unfold je at he
   obtain ⟨j,hj,rfl⟩:=List.mem_map.1 he
   obtain ⟨k,h1,h2,rfl⟩:=(B0 A B j).1 hj
   have m1:((0,k.1,k.2):P3)∈aL [A,B]:=(Ns A B _).2 (.inl ⟨rfl,h1⟩)
   have m2:((1,k.1,k.2):P3)∈aL [A,B]:=(Ns A B _).2 (.inr ⟨rfl,h2⟩)
   simp only
   rw [vV m1,vV m2]) h).2 (by show ((aL [A,B]).getD _ (0,0,0)).2=q.2; rw [vV hq])
  have hc:((aL [A,B]).getD (lK (aL [A,B]) p) (0,0,0)).2=q.2:=hc
  rwa [vV hp] at hc
 ·intro h
  have Zo:∀ k:Int × Int,k∈aT A→k∈aT B→yY A B (lK (aL [A,B]) (0,k))=yY A B (lK (aL [A,B]) (1,k)):=fun k h1 h2=>
   DN (es:=je (aL [A,B]) (dc [A,B] 0 1)) (e:=(lK (aL [A,B]) (0,k),lK (aL [A,B]) (1,k))) (List.mem_map.2 ⟨(0,k.1,k.2,1,k.1,k.2),(B0 A B _).2 ⟨k,h1,h2,rfl⟩,rfl⟩)
  rcases (Ns A B p).1 hp with ⟨p1,p2⟩ | ⟨p1,p2⟩ <;> rcases (Ns A B q).1 hq with ⟨q1,q2⟩ | ⟨q1,q2⟩
  ·rw [show p=q from Prod.ext (p1.trans q1.symm) h]
  ·have e1:p=(0,q.2):=Prod.ext p1 h
   have e2:q=(1,q.2):=Prod.ext q1 rfl
   rw [e1]
   rw [show yY A B (lK (aL [A,B]) q)=yY A B (lK (aL [A,B]) (1,q.2)) from by rw [← e2]]
   exact Zo q.2 (by rw [← h]; exact p2) q2
  ·have e1:p=(1,q.2):=Prod.ext p1 h
   have e2:q=(0,q.2):=Prod.ext q1 rfl
   rw [e1]
   rw [show yY A B (lK (aL [A,B]) q)=yY A B (lK (aL [A,B]) (0,q.2)) from by rw [← e2]]
   exact (Zo q.2 q2 (by rw [← h]; exact p2)).symm
  ·rw [show p=q from Prod.ext (p1.trans q1.symm) h]
def kc (k:Int × Int):Nat:=if ((0,k):P3)∈aL [A,B] then gd (yY A B) (yY A B (lK (aL [A,B]) (0,k))) else gd (yY A B) (yY A B (lK (aL [A,B]) (1,k)))
theorem yS {p:P3} (hp:p∈aL [A,B]):gd (yY A B) (yY A B (lK (aL [A,B]) p))=kc A B p.2:=by
 unfold kc
 split
 ·rename_i h
  rw [(Zn A B hp h).2 rfl]
 ·rename_i h
  rcases (Ns A B p).1 hp with ⟨p1,p2⟩ | ⟨p1,p2⟩
  ·exact absurd ((Ns A B (0,p.2)).2 (.inl ⟨rfl,p2⟩)) h
  ·rw [show yY A B (lK (aL [A,B]) p)=yY A B (lK (aL [A,B]) (1,p.2)) from by rw [show ((1,p.2):P3)=p from Prod.ext p1.symm rfl]]
def nc:Nat:=gd (yY A B) (aL [A,B]).length
theorem Gi {k:Int × Int} (h:k∈aT A∨k∈aT B):∃ p∈aL [A,B],p.2=k:=by
 rcases h with h | h
 ·exact ⟨(0,k),(Ns A B _).2 (.inl ⟨rfl,h⟩),rfl⟩
 ·exact ⟨(1,k),(Ns A B _).2 (.inr ⟨rfl,h⟩),rfl⟩
theorem kJ {k h:Int × Int} (hk:k∈aT A∨k∈aT B) (hh:h∈aT A∨h∈aT B) (e:kc A B k=kc A B h):k=h:=by
 obtain ⟨p,hp,rfl⟩:=Gi A B hk
 obtain ⟨q,hq,rfl⟩:=Gi A B hh
 rw [← yS A B hp,← yS A B hq] at e
 exact (Zn A B hp hq).1 (RK ((tT A B).idem _) ((tT A B).idem _) e)
theorem Ek {k:Int × Int} (hk:k∈aT A∨k∈aT B):kc A B k < nc A B:=by
 obtain ⟨p,hp,rfl⟩:=Gi A B hk
 rw [← yS A B hp]
 exact nE ((tT A B).idem _) (Nat.lt_of_le_of_lt ((tT A B).le _) (nC hp))
theorem M3 {c:Nat} (hc:c < nc A B):∃ k,(k∈aT A∨k∈aT B)∧kc A B k=c:=by
 obtain ⟨i,h1,h2,h3⟩:=HP hc
 have hm:(aL [A,B])[i]∈aL [A,B]:=List.getElem_mem h1
 refine ⟨((aL [A,B])[i]).2,?_,?_⟩
 ·rcases (Ns A B _).1 hm with ⟨_,h⟩ | ⟨_,h⟩
  ·exact .inl h
  ·exact .inr h
 ·rw [← yS A B hm,Gg (nD _) i h1,h2,h3]
end
structure eU (l A B:List P3):Prop where
 perm:(A++B).Perm l
 Jr:eR l=0
 aeb:eR A=0
 mz:eR B=0
 len:l.length≤12
section
variable {l A B:List P3} (h:eU l A B)
include h
theorem eU.mem (b:P3):b∈l↔b∈A∨b∈B:=by rw [← h.perm.mem_iff,List.mem_append]
theorem eU.Gj (k:Int × Int):k∈aT l↔k∈aT A∨k∈aT B:=by
 rw [mB,mB,mB]
 constructor
 ·rintro ⟨b,hb,hk⟩
  rcases (h.mem b).1 hb with hb | hb
  ·exact .inl ⟨b,hb,hk⟩
  ·exact .inr ⟨b,hb,hk⟩
 ·rintro (⟨b,hb,hk⟩ | ⟨b,hb,hk⟩)
  ·exact ⟨b,(h.mem b).2 (.inl hb),hk⟩
  ·exact ⟨b,(h.mem b).2 (.inr hb),hk⟩
theorem eU.lens:A.length+B.length=l.length:=by rw [← h.perm.length_eq,List.length_append]
theorem eU.num:nc A B=(aT l).length:=by
 have e:=Eg (a:=(aT l).map (kc A B)) (b:=List.range (nc A B)) (tS (Eh l) fun x hx y hy e=>kJ A B ((h.Gj x).1 hx) ((h.Gj y).1 hy) e) List.nodup_range fun c=>by
  rw [List.mem_map,List.mem_range]
  constructor
  ·rintro ⟨k,hk,rfl⟩
   exact Ek A B ((h.Gj k).1 hk)
  ·intro hc
   obtain ⟨k,hk,e⟩:=M3 A B hc
   exact ⟨k,(h.Gj k).2 hk,e⟩
 rw [List.length_map,List.length_range] at e
 exact e.symm
theorem eU.VW:(dX [A,B] (dc [A,B] 0 1)).length=nc A B:=jE _ _ _
def sX (A B:List P3) (b:P3):Int × Int:=(((min (kc A B (dO b)) (kc A B (cY b)):Nat):Int),((max (kc A B (dO b)) (kc A B (cY b)):Nat):Int))
theorem eU.bars:iz [A,B] (dc [A,B] 0 1)=(A++B).map (sX A B):=by
 have e:iz [A,B] (dc [A,B] 0 1)=(List.range 2).flatMap fun i=>([A,B].getD i []).map (lL (yY A B) (aL [A,B]) i):=rfl
 rw [e,show List.range 2=[0,1] from rfl,List.flatMap_cons,List.flatMap_cons,List.flatMap_nil,List.append_nil,List.map_append]
 have one:∀ (i:Nat) (hi:i < [A,B].length),([A,B].getD i []).map (lL (yY A B) (aL [A,B]) i)=([A,B].getD i []).map (sX A B):=by
  intro i hi
  apply List.map_congr_left
  intro b hb
  have eg:[A,B].getD i []=[A,B][i]:=by rw [List.getD_eq_getElem?_getD,List.getElem?_eq_getElem hi]; rfl
  rw [eg] at hb
  obtain ⟨m1,m2⟩:=yP hi hb
  unfold lL sX
  rw [yS A B m1,yS A B m2]
  rfl
 have o1:A.map (lL (yY A B) (aL [A,B]) 0)=A.map (sX A B):=one 0 (by simp)
 have o2:B.map (lL (yY A B) (aL [A,B]) 1)=B.map (sX A B):=one 1 (by simp)
 rw [← o1,← o2]
 rfl
theorem eU.lo {b:P3} (hb:b∈l):dO b∈aT A∨dO b∈aT B:=(h.Gj _).1 ((mB l _).2 ⟨b,hb,.inl rfl⟩)
theorem eU.up {b:P3} (hb:b∈l):cY b∈aT A∨cY b∈aT B:=(h.Gj _).1 ((mB l _).2 ⟨b,hb,.inr rfl⟩)
theorem eU.ne {b:P3} (hb:b∈l):kc A B (dO b)≠kc A B (cY b):=fun e=>M2 h.Jr hb (kJ A B (h.lo hb) (h.up hb) e)
theorem eU.bar {e:Int × Int} (he:e∈(A++B).map (sX A B)):0≤e.1∧e.1 < e.2∧e.2 < (nc A B:Int):=by
 obtain ⟨b,hb,rfl⟩:=List.mem_map.1 he
 have hb:=h.perm.mem_iff.1 hb
 have h1:=h.ne hb
 have h2:=Ek A B (h.lo hb)
 have h3:=Ek A B (h.up hb)
 unfold sX
 simp only
 omega
theorem eU.same {c:Nat} {p:P3} (hp:p∈(dX [A,B] (dc [A,B] 0 1)).getD c []):p∈aL [A,B]∧kc A B p.2=c:=by
 have tj:p∈aL [A,B]:=by
  obtain ⟨i,hi,e,_⟩:=(BZ (tT A B) (aL [A,B]) p _ (Nat.le_refl _) c).1 hp
  have e2:(aL [A,B]).getD i (0,0,0)=(aL [A,B])[i]:=by simp [hi]
  rw [e2] at e
  rw [← e]
  exact List.getElem_mem hi
 refine ⟨tj,?_⟩
 rw [← yS A B tj]
 exact (RJ (tT A B) (nD _) tj c).1 hp
end
end Go.Proofs.YtfiopgedfcaodaaGreatDoor
