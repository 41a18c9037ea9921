/- Plain laws: the law of even seams. -/
import Derived.Test.YtfiopgedfcaodaaGreatDoorSeamQa
import Derived.Test.YtfiopgedfcaodaaGreatDoorSeamKB
import Derived.Test.YtfiopgedfcaodaaGreatDoorSeamTd
set_option linter.all false
namespace Go.Proofs.YtfiopgedfcaodaaGreatDoor
open Go Go.Am
set_option maxRecDepth 100000
section
variable {N:Nat} (hN:Big N) {a b:Nat} (ha:1≤a) (ha':a≤256) (hb:1≤b) (hb':b≤256)
include hN ha ha' hb hb'
end
theorem chkR_of {l:List Int} (h1:1≤l.length) (h2:l.length≤256) (hx:∀ x∈l,1≤x) (hs:l.sum≤256):chkR l=0:=by
 have hx2:∀ x∈l,1≤x∧x≤256:=by
  have gen:∀ (l:List Int),(∀ x∈l,1≤x)→0≤l.sum∧∀ x∈l,x≤l.sum:=by
   intro l
   induction l with
   | nil=>intro _; simp
   | cons y l ih=>
    intro h
    have h1:=h y (by simp)
    obtain ⟨h2,h3⟩:=ih fun z hz=>h z (by simp [hz])
    rw [List.sum_cons]
    refine ⟨by omega,fun x hx=>?_⟩
    rcases List.mem_cons.1 hx with rfl | hx
    ·omega
    ·have:=h3 x hx; omega
  intro x h
  have:=(gen l hx).2 x h
  exact ⟨hx x h,by omega⟩
 have hf:∀ (l:List Int) (s:Int),(∀ x∈l,1≤x∧x≤256)→foldI stR s l=.inl (s+l.sum):=by
  intro l
  induction l with
  | nil=>intro s _; simp [foldI]
  | cons y l ih=>
   intro s h
   have h1:=h y (by simp)
   have hr:rng y 1 256=0:=by unfold rng; rw [if_neg (by omega)]
   have hst:stR s y=.inl (s+y):=by unfold stR; rw [hr]; rfl
   simp only [foldI,hst,Sum.elim_inl]
   rw [ih _ fun z hz=>h z (by simp [hz]),List.sum_cons]
   congr 1
   omega
 unfold chkR
 rw [if_neg (by omega),if_neg (by omega),hf l 0 hx2,Sum.elim_inl,if_neg (by omega)]
end Go.Proofs.YtfiopgedfcaodaaGreatDoor
