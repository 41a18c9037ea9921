/- Plain laws: parts of a net. -/
import Derived.Test.YtophnjjjmikmeaaGreatOttPm
import Derived.Test.YtophnjjjmikmeaaGreatOttLp
set_option linter.all false
namespace Go.Proofs.YtophnjjjmikmeaaGreat
open Go Go.Am Go.Sort
set_option maxRecDepth 100000
def kL (a b:aV):Bool:=decide (dq a=dq b) || decide (dq a=eT b) || decide (eT a=dq b) || decide (eT a=eT b)
def jB (l:List aV) (k:Int × Int):Nat:=(l.filter fun b=>decide (dq b=k) || decide (eT b=k)).length
def Ai (b:aV) (o:List aV) (x:aV):List aV:=if kL b x=true∧x∉o then o++[x] else o
theorem BH (b:aV):∀ (l:List aV) (o:List aV),∃ t,l.foldl (Ai b) o=o++t
 | [],o=>⟨[],(List.append_nil o).symm⟩
 | x :: l,o=>by
  obtain ⟨t,ht⟩:=BH b l (Ai b o x)
  rw [List.foldl_cons,ht]
  unfold Ai
  split
  ·exact ⟨[x]++t,by rw [List.append_assoc]⟩
  ·exact ⟨t,rfl⟩
theorem Ts (b:aV) {l:List aV} {o:List aV} (ho:o.Nodup∧∀ x∈o,x∈l) {x:aV} (hx:x∈l):(Ai b o x).Nodup∧∀ y∈Ai b o x,y∈l:=by
 unfold Ai
 split
 ·rename_i h
  refine ⟨?_,fun y hy=>?_⟩
  ·rw [List.nodup_append]
   refine ⟨ho.1,by simp,fun a ha c hc=>?_⟩
   rw [List.mem_singleton] at hc
   subst hc
   intro e
   subst e
   exact h.2 ha
  ·rcases List.mem_append.1 hy with hy | hy
   ·exact ho.2 y hy
   ·rw [List.mem_singleton] at hy; subst hy; exact hx
 ·exact ho
theorem G4 (b:aV) {l:List aV}:∀ (m o:List aV),(o.Nodup∧∀ x∈o,x∈l)→(∀ x∈m,x∈l)→(m.foldl (Ai b) o).Nodup∧∀ y∈m.foldl (Ai b) o,y∈l
 | [],_,ho,_=>ho
 | x :: m,o,ho,hm=>G4 b m (Ai b o x) (Ts b ho (hm x List.mem_cons_self)) fun y hy=>hm y (List.mem_cons_of_mem _ hy)
def LA (l:List aV):Nat→List aV→Nat→List aV
 | 0,o,_=>o
 | n+1,o,i=>if h:i < o.length then LA l n (l.foldl (Ai o[i]) o) (i+1) else o
theorem ir {α:Type} [DecidableEq α]:∀ (o l:List α),o.Nodup→(∀ x∈o,x∈l)→o.length≤l.length
 | [],_,_,_=>Nat.zero_le _
 | x :: o,l,hn,h=>by
  have hx:=h x List.mem_cons_self
  obtain ⟨D6,WT⟩:=List.nodup_cons.1 hn
  have:=ir o (l.erase x) WT fun y hy=>by
   have cg:y≠x:=fun e=>D6 (e ▸ hy)
   exact (List.mem_erase_of_ne cg).2 (h y (List.mem_cons_of_mem _ hy))
  rw [List.length_erase_of_mem hx] at this
  have lu:=List.length_pos_of_mem hx
  rw [List.length_cons]
  omega
section
variable {N:Nat} (hN:gU N)
include hN
end
theorem Tt (s:List (List aV)) (l:List aV):List.map n29 s++[AV.list .gX 3 (List.map n59 l)]=List.map n29 (s++[l]):=by
 rw [List.map_append]
 rfl
def kC (l:List aV) (b:aV):List aV:=FO (ltOf ji) (0,0,0) (LA l l.length [b] 0)
def yX (l:List aV) (P:List (List aV)) (b:aV):List (List aV):=if (P.any fun p=>decide (b∈p))=true then P else P++[kC l b]
section
variable {N:Nat} (hN:gU N)
include hN
end
inductive DO (l:List aV) (b:aV):aV→Prop
 | base:DO l b b
 | step {x y:aV}:DO l b x→y∈l→kL x y=true→DO l b y
theorem yd (b:aV) (m o:List aV) {x:aV} (hx:x∈o):x∈m.foldl (Ai b) o:=by
 obtain ⟨t,ht⟩:=BH b m o
 rw [ht]
 exact List.mem_append_left _ hx
theorem G5 (b:aV):∀ (m o:List aV) (y:aV),y∈m→kL b y=true→y∈m.foldl (Ai b) o
 | [],_,_,h,_=>by cases h
 | x :: m,o,y,h,ht=>by
  rw [List.foldl_cons]
  rcases List.mem_cons.1 h with rfl | h
  ·refine yd b m _ ?_
   unfold Ai
   by_cases hy:y∈o
   ·rw [if_neg (fun h=>h.2 hy)]; exact hy
   ·rw [if_pos ⟨ht,hy⟩]; simp
  ·exact G5 b m _ y h ht
theorem Dr (l:List aV):∀ (n:Nat) (o:List aV) (i:Nat),(o.Nodup∧∀ x∈o,x∈l)→i≤o.length→l.length≤n+i→(∀ j (hj:j < o.length),j < i→∀ y∈l,kL o[j] y=true→y∈o) →
  (∀ x∈o,x∈LA l n o i)∧∀ x∈LA l n o i,∀ y∈l,kL x y=true→y∈LA l n o i
 | 0,o,i,ho,hi,hn,hc=>by
  have hlen:=ir o l ho.1 ho.2
  refine ⟨fun x hx=>hx,fun x hx y hy ht=>?_⟩
  have oM:x∈o:=hx
  obtain ⟨j,hj,rfl⟩:=List.getElem_of_mem oM
  exact hc j hj (by omega) y hy ht
 | n+1,o,i,ho,hi,hn,hc=>by
  rw [LA]
  by_cases h:i < o.length
  ·rw [dif_pos h]
   obtain ⟨t,ht⟩:=BH o[i] l o
   have hlen:o.length≤(l.foldl (Ai o[i]) o).length:=by rw [ht,List.length_append]; omega
   have ih:=Dr l n (l.foldl (Ai o[i]) o) (i+1) (G4 o[i] l o ho fun x hx=>hx) (by omega) (by omega) (fun j hj hji y hy ZI=>by
    have ZJ:j < o.length:=by omega
    have e:(l.foldl (Ai o[i]) o)[j]=o[j]:=by
     have:(l.foldl (Ai o[i]) o)[j]?=o[j]?:=by rw [ht,List.getElem?_append_left ZJ]
     rw [List.getElem?_eq_getElem hj,List.getElem?_eq_getElem ZJ] at this
     exact Option.some.inj this
    rw [e] at ZI
    by_cases hjj:j < i
    ·exact yd o[i] l o (hc j ZJ hjj y hy ZI)
    ·have:j=i:=by omega
     subst this
     exact G5 o[j] l o y hy ZI)
   exact ⟨fun x hx=>ih.1 x (yd o[i] l o hx),ih.2⟩
  ·rw [dif_neg h]
   refine ⟨fun x hx=>hx,fun x hx y hy ht=>?_⟩
   obtain ⟨j,hj,rfl⟩:=List.getElem_of_mem hx
   exact hc j hj (by omega) y hy ht
theorem G6 (l:List aV) (c b:aV) (hb:DO l c b):∀ (m o:List aV),(∀ x∈m,x∈l)→(∀ x∈o,DO l c x)→∀ x∈m.foldl (Ai b) o,DO l c x
 | [],_,_,ho=>ho
 | x :: m,o,hm,ho=>by
  refine G6 l c b hb m (Ai b o x) (fun y hy=>hm y (List.mem_cons_of_mem _ hy)) fun y hy=>?_
  unfold Ai at hy
  split at hy
  ·rename_i h
   rcases List.mem_append.1 hy with hy | hy
   ·exact ho y hy
   ·rw [List.mem_singleton] at hy
    subst hy
    exact .step hb (hm _ List.mem_cons_self) h.1
  ·exact ho y hy
theorem G7 (l:List aV) (c:aV):∀ (n:Nat) (o:List aV) (i:Nat),(∀ x∈o,DO l c x)→∀ x∈LA l n o i,DO l c x
 | 0,_,_,ho=>ho
 | n+1,o,i,ho=>by
  rw [LA]
  by_cases h:i < o.length
  ·rw [dif_pos h]
   exact G7 l c n _ _ (G6 l c o[i] (ho _ (List.getElem_mem h)) l o (fun x hx=>hx) ho)
  ·rw [dif_neg h]; exact ho
theorem OI (l:List aV) (b:aV) (hb:b∈l) (x:aV):x∈LA l l.length [b] 0↔DO l b x:=by
 have ho:([b]:List aV).Nodup∧∀ x∈[b],x∈l:=⟨by simp,fun x hx=>by rw [List.mem_singleton] at hx; subst hx; exact hb⟩
 obtain ⟨d1,d2⟩:=Dr l l.length [b] 0 ho (by simp) (by omega) (fun j _ h=>absurd h (by omega))
 constructor
 ·exact fun h=>G7 l b l.length [b] 0 (fun y hy=>by rw [List.mem_singleton] at hy; subst hy; exact .base) x h
 ·intro h
  induction h with
  | base=>exact d1 b (by simp)
  | step _ hy ht ih=>exact d2 _ ih _ hy ht
theorem gd (l:List aV) (b:aV) (hb:b∈l) (x:aV):x∈kC l b↔DO l b x:=by
 unfold kC
 rw [(jV BD OA (0,0,0) (LA l l.length [b] 0)).2,OI l b hb]
theorem IA (a b:aV):kL a b=kL b a:=by
 unfold kL
 have e1:decide (dq a=dq b)=decide (dq b=dq a):=by rw [decide_eq_decide]; exact eq_comm
 have e2:decide (dq a=eT b)=decide (eT b=dq a):=by rw [decide_eq_decide]; exact eq_comm
 have e3:decide (eT a=dq b)=decide (dq b=eT a):=by rw [decide_eq_decide]; exact eq_comm
 have e4:decide (eT a=eT b)=decide (eT b=eT a):=by rw [decide_eq_decide]; exact eq_comm
 rw [e1,e2,e3,e4]
 cases decide (dq b=dq a) <;> cases decide (eT b=dq a) <;> cases decide (dq b=eT a) <;> cases decide (eT b=eT a) <;> rfl
theorem DO.ZK {l:List aV} {a b:aV} (ha:a∈l) (h:DO l a b):b∈l:=by
 cases h with
 | base=>exact ha
 | step _ hy _=>exact hy
end Go.Proofs.YtophnjjjmikmeaaGreat
