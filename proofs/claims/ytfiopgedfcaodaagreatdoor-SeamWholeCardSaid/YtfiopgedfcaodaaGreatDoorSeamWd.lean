/- Plain laws: a part of a net is what is joined by touching. -/
import Derived.Test.YtfiopgedfcaodaaGreatDoorSeamWc
set_option linter.all false
namespace Go.Proofs.YtfiopgedfcaodaaGreatDoor
open Go Go.Am
set_option maxRecDepth 100000
inductive s6 (l:List P3) (b:P3):P3→Prop
 | base:s6 l b b
 | step {x y:P3}:s6 l b x→y∈l→q9 x y=true→s6 l b y
theorem yK (b:P3) (m o:List P3) {x:P3} (hx:x∈o):x∈m.foldl (vj b) o:=by
 obtain ⟨t,ht⟩:=vR b m o
 rw [ht]
 exact List.mem_append_left _ hx
theorem HG (b:P3):∀ (m o:List P3) (y:P3),y∈m→q9 b y=true→y∈m.foldl (vj b) o
 | [],_,_,h,_=>by cases h
 | x :: m,o,y,h,ht=>by
  rw [List.foldl_cons]
  rcases List.mem_cons.1 h with rfl | h
  ·refine yK b m _ ?_
   unfold vj
   by_cases hy:y∈o
   ·rw [if_neg (fun h=>h.2 hy)]; exact hy
   ·rw [if_pos ⟨ht,hy⟩]; simp
  ·exact HG b m _ y h ht
theorem D4 (l:List P3):∀ (n:Nat) (o:List P3) (i:Nat),(o.Nodup∧∀ x∈o,x∈l)→i≤o.length→l.length≤n+i→(∀ j (hj:j < o.length),j < i→∀ y∈l,q9 o[j] y=true→y∈o) →
  (∀ x∈o,x∈yX l n o i)∧∀ x∈yX l n o i,∀ y∈l,q9 x y=true→y∈yX l n o i
 | 0,o,i,ho,hi,hn,hc=>by
  have hlen:=gB o l ho.1 ho.2
  refine ⟨fun x hx=>hx,fun x hx y hy ht=>?_⟩
  have wq:x∈o:=hx
  obtain ⟨j,hj,rfl⟩:=List.getElem_of_mem wq
  exact hc j hj (by omega) y hy ht
 | n+1,o,i,ho,hi,hn,hc=>by
  rw [yX]
  by_cases h:i < o.length
  ·rw [dif_pos h]
   obtain ⟨t,ht⟩:=vR o[i] l o
   have hlen:o.length≤(l.foldl (vj o[i]) o).length:=by rw [ht,List.length_append]; omega
   have ih:=D4 l n (l.foldl (vj o[i]) o) (i+1) (sQ o[i] l o ho fun x hx=>hx) (by omega) (by omega) (fun j hj hji y hy htc=>by
    have hjo:j < o.length:=by omega
    have e:(l.foldl (vj o[i]) o)[j]=o[j]:=by
     have:(l.foldl (vj o[i]) o)[j]?=o[j]?:=by rw [ht,List.getElem?_append_left hjo]
     rw [List.getElem?_eq_getElem hj,List.getElem?_eq_getElem hjo] at this
     exact Option.some.inj this
    rw [e] at htc
    by_cases hjj:j < i
    ·exact yK o[i] l o (hc j hjo hjj y hy htc)
    ·have:j=i:=by omega
     subst this
     exact HG o[j] l o y hy htc)
   exact ⟨fun x hx=>ih.1 x (yK o[i] l o hx),ih.2⟩
  ·rw [dif_neg h]
   refine ⟨fun x hx=>hx,fun x hx y hy ht=>?_⟩
   obtain ⟨j,hj,rfl⟩:=List.getElem_of_mem hx
   exact hc j hj (by omega) y hy ht
theorem HH (l:List P3) (c b:P3) (hb:s6 l c b):∀ (m o:List P3),(∀ x∈m,x∈l)→(∀ x∈o,s6 l c x)→∀ x∈m.foldl (vj b) o,s6 l c x
 | [],_,_,ho=>ho
 | x :: m,o,hm,ho=>by
  refine HH l c b hb m (vj b o x) (fun y hy=>hm y (List.mem_cons_of_mem _ hy)) fun y hy=>?_
  unfold vj at hy
  split at hy
  ·rename_i h
   rcases List.mem_append.1 hy with hy | hy
   ·exact ho y hy
   ·rw [List.mem_singleton] at hy
    subst hy
    exact .step hb (hm _ List.mem_cons_self) h.1
  ·exact ho y hy
theorem HI (l:List P3) (c:P3):∀ (n:Nat) (o:List P3) (i:Nat),(∀ x∈o,s6 l c x)→∀ x∈yX l n o i,s6 l c x
 | 0,_,_,ho=>ho
 | n+1,o,i,ho=>by
  rw [yX]
  by_cases h:i < o.length
  ·rw [dif_pos h]
   exact HI l c n _ _ (HH l c o[i] (ho _ (List.getElem_mem h)) l o (fun x hx=>hx) ho)
  ·rw [dif_neg h]; exact ho
theorem Rv (l:List P3) (b:P3) (hb:b∈l) (x:P3):x∈yX l l.length [b] 0↔s6 l b x:=by
 have ho:([b]:List P3).Nodup∧∀ x∈[b],x∈l:=⟨by simp,fun x hx=>by rw [List.mem_singleton] at hx; subst hx; exact hb⟩
 obtain ⟨d1,d2⟩:=D4 l l.length [b] 0 ho (by simp) (by omega) (fun j _ h=>absurd h (by omega))
 constructor
 ·exact fun h=>HI l b l.length [b] 0 (fun y hy=>by rw [List.mem_singleton] at hy; subst hy; exact .base) x h
 ·intro h
  induction h with
  | base=>exact d1 b (by simp)
  | step _ hy ht ih=>exact d2 _ ih _ hy ht
end Go.Proofs.YtfiopgedfcaodaaGreatDoor
