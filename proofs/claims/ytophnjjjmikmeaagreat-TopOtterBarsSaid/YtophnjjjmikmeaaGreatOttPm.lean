/- Plain laws: valid bars,sorted lists of bars. -/
import Derived.Test.YtophnjjjmikmeaaGreatOttPl
set_option linter.all false
namespace Go.Proofs.YtophnjjjmikmeaaGreat
open Go Go.Am Go.Sort
set_option maxRecDepth 100000
theorem rX (a b:aV):ltOf ji a b=less a b:=by
 rw [pW]
 unfold less
 by_cases h1:a.2.1=b.2.1
 ·rw [if_neg (fun c=>c h1)]
  by_cases h2:a.1=b.1
  ·rw [if_neg (fun c=>c h2),decide_eq_decide]
   exact ⟨fun h=>by omega,fun h=>by omega⟩
  ·rw [if_pos h2,decide_eq_decide]
   exact ⟨fun h=>by omega,fun h=>by omega⟩
 ·rw [if_pos h1,decide_eq_decide]
  exact ⟨fun h=>by omega,fun h=>by omega⟩
theorem GY {b:aV} (h:gW b=0):aP (dq b)=0∧(b.2.2=-1∨b.2.2=1)∧aP (eT b)=0:=by
 unfold gW at h
 by_cases h0:aP (dq b)=0
 ·rw [if_neg (by simp [h0])] at h
  by_cases h1:b.2.2≠-1∧b.2.2≠1
  ·rw [if_pos h1] at h; simp at h
  ·rw [if_neg h1] at h
   exact ⟨h0,by omega,h⟩
 ·rw [if_pos h0] at h
  exact absurd h h0
theorem sY {α:Type} {lt:α→α→Bool} (hw:SWO lt) {l:List α} (h:vb lt l):l.Nodup:=by
 refine List.Pairwise.imp ?_ h
 intro a b Dl e
 subst e
 rw [hw.1 a] at Dl
 cases Dl
theorem FP {l:List aV} {k:Int × Int}:k∈bW l↔∃ b∈l,k=dq b∨k=eT b:=by
 induction l with
 | nil=>simp [bW]
 | cons b l ih=>
  simp only [bW,List.mem_cons,ih]
  constructor
  ·rintro (h | h | ⟨d,hd,h⟩)
   ·exact ⟨b,.inl rfl,.inl h⟩
   ·exact ⟨b,.inl rfl,.inr h⟩
   ·exact ⟨d,.inr hd,h⟩
  ·rintro ⟨d,rfl | hd,h | h⟩
   ·exact .inl h
   ·exact .inr (.inl h)
   ·exact .inr (.inr ⟨d,hd,.inl h⟩)
   ·exact .inr (.inr ⟨d,hd,.inr h⟩)
theorem xX {l:List aV} {k:Int × Int}:k∈sW l↔∃ b∈l,k=dq b∨k=eT b:=by
 rw [← FP]
 exact (jV FI Lm (0,0) (bW l)).2 k
theorem Lu (l:List aV):(sW l).length≤2 * l.length:=by
 rw [← od]
 unfold sW FO
 have:∀ (l a:List (Int × Int)),(l.foldl (fun s k=>uC Mi (0,0) k s) a).length≤l.length+a.length:=by
  intro l
  induction l with
  | nil=>intro a; simp
  | cons x l ih=>
   intro a
   have h1:=ih (uC Mi (0,0) x a)
   have h2:=Ls (lt:=Mi) (0,0) x a
   rw [List.foldl_cons,List.length_cons]
   omega
 exact this (bW l) []
section
variable {N:Nat} (hN:gU N)
include hN
end
theorem rY {l:List aV} (h:ng l=0):l.length≤4096∧(∀ b∈l,gW b=0)∧vb (ltOf ji) l:=by
 unfold ng at h
 by_cases hl:l.length > 4096
 ·rw [if_pos hl] at h; simp at h
 ·rw [if_neg hl] at h
  have hz:∀ k,k < l.length→BA l k=0:=fun k hk=>iq.1 h _ (List.mem_map.2 ⟨k,List.mem_range.2 hk,rfl⟩)
  have hb:∀ k (hk:k < l.length),gW l[k]=0:=fun k hk=>by
   have:=hz k hk
   unfold BA at this
   have e1:l.getD k (0,0,0)=l[k]:=by simp [hk]
   rw [e1] at this
   by_cases hc:gW l[k]=0
   ·exact hc
   ·rw [if_pos hc] at this; exact absurd this hc
  have hs:∀ k (hk:k+1 < l.length),ltOf ji l[k] l[k+1]=true:=fun k hk=>by
   have:=hz (k+1) hk
   unfold BA at this
   have e1:l.getD (k+1) (0,0,0)=l[k+1]:=by simp [hk]
   have e2:l.getD (k+1 - 1) (0,0,0)=l[k]:=by simp [show k < l.length by omega]
   rw [e1,e2,if_neg (by simp [hb (k+1) hk])] at this
   rw [rX]
   cases hc:less l[k] l[k+1] with
   | true=>rfl
   | false=>rw [if_pos ⟨by omega,hc⟩] at this; simp at this
  refine ⟨by omega,fun b jC=>by obtain ⟨k,hk,rfl⟩:=List.getElem_of_mem jC; exact hb k hk,?_⟩
  refine List.pairwise_iff_getElem.2 fun i j hi hj XA=>?_
  obtain ⟨d,rfl⟩:∃ d,j=i+1+d:=⟨j - i - 1,by omega⟩
  clear XA
  induction d with
  | zero=>exact hs i hj
  | succ d ih=>exact BD.trans _ _ _ (ih (by omega)) (hs (i+1+d) hj)
theorem OE {l:List aV} (hl:l.length≤4096) (hv:∀ b∈l,gW b=0) (n1:vb (ltOf ji) l):ng l=0:=by
 unfold ng
 rw [if_neg (by omega)]
 refine iq.2 fun x hx=>?_
 obtain ⟨k,hk,rfl⟩:=List.mem_map.1 hx
 have hk:k < l.length:=List.mem_range.1 hk
 have e1:l.getD k (0,0,0)=l[k]:=by simp [hk]
 have c1:gW l[k]=0:=hv _ (List.getElem_mem hk)
 unfold BA
 rw [e1,if_neg (by simp [c1])]
 refine if_neg ?_
 rintro ⟨h0,hl⟩
 have DM:k - 1 < l.length:=by omega
 have e2:l.getD (k - 1) (0,0,0)=l[k - 1]:=by simp [DM]
 rw [e2,← rX] at hl
 have:=List.pairwise_iff_getElem.1 n1 (k - 1) k DM hk (by omega)
 rw [hl] at this
 cases this
end Go.Proofs.YtophnjjjmikmeaaGreat
