/- Plain laws: the even join,its runs,and that they are even. -/
import Derived.Test.YtfiopgedfcaodaaGreatDoorSeamKA
import Derived.Test.YtfiopgedfcaodaaGreatDoorAmKL
set_option linter.all false
namespace Go.Proofs.YtfiopgedfcaodaaGreatDoor
open Go Go.Am
set_option maxRecDepth 100000
section
variable {a b:Nat} (ha:1≤a) (ha':a≤256) (hb:1≤b) (hb':b≤256)
theorem lng_nat (a b:Nat):lng (a:Int) (b:Int)=((max a b:Nat):Int):=by unfold lng; split <;> omega
theorem jns_nat (a b:Nat):jns (a:Int) (b:Int)=(List.range (max a b)).map fun (k:Nat)=>((evQ a (max a b) k:Int),(evQ b (max a b) k:Int)):=by
 unfold jns jnA
 rw [lng_nat,Int.toNat_natCast]
 apply List.map_congr_left
 intro k _
 unfold evQ
 simp
theorem jns_len (a b:Nat):(jns (a:Int) (b:Int)).length=max a b:=by rw [jns_nat]; simp
theorem jns_get (a b:Nat) {k:Nat} (hk:k < max a b):(jns (a:Int) (b:Int)).getD k (0,0)=((evQ a (max a b) k:Int),(evQ b (max a b) k:Int)):=by
 rw [jns_nat]
 simp [hk]
theorem evQ_full {n k:Nat} (hn:1≤n):evQ n n k=k:=by unfold evQ; exact Nat.mul_div_cancel k (by omega)
include ha ha' hb hb'
theorem chkM_nat:chkM (a:Int) (b:Int)=0:=by
 have h1:rng (a:Int) 1 256=0:=by unfold rng; rw [if_neg (by omega)]
 have h2:rng (b:Int) 1 256=0:=by unfold rng; rw [if_neg (by omega)]
 unfold chkM
 simp [firstNZ,h1,h2]
theorem chkJ_jns:chkJ (a:Int) (b:Int) (jns (a:Int) (b:Int))=0:=by
 unfold chkJ
 rw [chkM_nat ha ha' hb hb',jns_len,lng_nat]
 have hL:1≤max a b:=by omega
 have ham:a≤max a b:=Nat.le_max_left a b
 have hbm:b≤max a b:=Nat.le_max_right a b
 have he:firstNZ ((List.range (max a b)).map (errJ (a:Int) (b:Int) (jns (a:Int) (b:Int))))=0:=by
  rw [firstNZ_zero]
  intro e he
  obtain ⟨k,hk,rfl⟩:=List.mem_map.1 he
  have hk:=List.mem_range.1 hk
  have q1:=evQ_lt ha ham hk
  have q2:=evQ_lt hb hbm hk
  unfold errJ
  rw [jns_get a b hk]
  simp only
  rw [if_neg (by omega)]
  by_cases h0:k=0
  ·subst h0
   rw [if_pos rfl,evQ_zero ha ham,evQ_zero hb hbm]
   rfl
  ·rw [if_neg h0,jns_get a b (show k - 1 < max a b by omega)]
   have s1:=evQ_step ha ham (k - 1)
   have s2:=evQ_step hb hbm (k - 1)
   rw [show k - 1+1=k by omega] at s1 s2
   have f1:a=max a b→evQ a (max a b) k=evQ a (max a b) (k - 1)+1:=fun h=>by
    rw [← h,evQ_full ha,evQ_full ha]; omega
   have f2:b=max a b→evQ b (max a b) k=evQ b (max a b) (k - 1)+1:=fun h=>by
    rw [← h,evQ_full hb,evQ_full hb]; omega
   generalize evQ a (max a b) k=x1 at *
   generalize evQ a (max a b) (k - 1)=x0 at *
   generalize evQ b (max a b) k=y1 at *
   generalize evQ b (max a b) (k - 1)=y0 at *
   have hf:fol (a:Int) (b:Int) ((x0:Int),(y0:Int)) ((x1:Int),(y1:Int))=true:=by
    unfold fol
    simp only
    rw [w64 (x:=(x1:Int) - (x0:Int)) (by omega),w64 (x:=(y1:Int) - (y0:Int)) (by omega)]
    simp only [Bool.and_eq_true,Bool.or_eq_true,beq_iff_eq,decide_eq_true_eq]
    constructor
    ·by_cases h:a=max a b
     ·left; have:=f1 h; omega
     ·rcases s1 with s1 | s1
      ·right; omega
      ·left; omega
    ·by_cases h:b=max a b
     ·left; have:=f2 h; omega
     ·rcases s2 with s2 | s2
      ·right; omega
      ·left; omega
   rw [hf]
   rfl
 rw [he]
 have hl:(jns (a:Int) (b:Int)).getD (max a b - 1) (0,0)=((a:Int) - 1,(b:Int) - 1):=by
  rw [jns_get a b (show max a b - 1 < max a b by omega),evQ_last ha ham,evQ_last hb hbm]
  congr 1 <;> omega
 rw [hl]
 simp
def evRuns (s L k:Nat):List Int:=(List.range s).map fun (i:Nat)=>((evC s L (k+i+1):Int) - (evC s L (k+i):Int))
theorem runs_jns:runsF (a:Int) (b:Int) (jns (a:Int) (b:Int))=evRuns (min a b) (max a b) 0:=by
 have hs:1≤min a b:=by omega
 have hsL:min a b≤max a b:=by omega
 unfold runsF
 have hsh:shN (a:Int) (b:Int)=min a b:=by unfold shN; split <;> omega
 rw [hsh,jns_nat,List.foldl_map]
 have hidx:∀ k:Nat,(if (a:Int) > (b:Int) then ((evQ a (max a b) k:Int),(evQ b (max a b) k:Int)).2 else ((evQ a (max a b) k:Int),(evQ b (max a b) k:Int)).1)=(evQ (min a b) (max a b) k:Int):=fun k=>by
  by_cases h:(a:Int) > (b:Int)
  ·rw [if_pos h,Nat.min_eq_right (by omega)]
  ·rw [if_neg h,Nat.min_eq_left (by omega)]
 have hf:(fun (s:List Int) (k:Nat)=>bump s (if (a:Int) > (b:Int) then ((evQ a (max a b) k:Int),(evQ b (max a b) k:Int)).2 else ((evQ a (max a b) k:Int),(evQ b (max a b) k:Int)).1))=fun s k=>bump s (evQ (min a b) (max a b) k:Int):=by
  funext s k
  rw [hidx]
 rw [hf]
 have key:∀ k,k≤max a b→(List.range k).foldl (fun s k=>bump s (evQ (min a b) (max a b) k:Int)) (List.replicate (min a b) 0)=(List.range (min a b)).map fun (i:Nat)=>(evR (min a b) (max a b) k i:Int):=by
  intro k
  induction k with
  | zero=>
   intro _
   apply List.ext_getElem
   ·simp
   ·intro j h1 h2
    simp [evR]
  | succ k ih=>
   intro hk
   rw [List.range_succ,List.foldl_append,ih (by omega)]
   show bump _ (evQ (min a b) (max a b) k:Int)=_
   have hq:=evQ_lt hs hsL (show k < max a b by omega)
   unfold bump
   rw [Int.toNat_natCast]
   apply List.ext_getElem
   ·simp
   ·intro j h1 h2
    have hj:j < min a b:=by simpa using h2
    have hle:=evR_le hs hsL k (evQ (min a b) (max a b) k)
    rw [List.getElem_set]
    simp only [List.getElem_map,List.getElem_range,List.getD_eq_getElem?_getD,List.getElem?_map,List.getElem?_range hq,Option.map_some,Option.getD_some]
    rw [evR_step hs hsL]
    by_cases e:evQ (min a b) (max a b) k=j
    ·have e':j=evQ (min a b) (max a b) k:=e.symm
     rw [if_pos e,if_pos e',w64 (by omega),e']
     simp
    ·have e':¬ j=evQ (min a b) (max a b) k:=fun h=>e h.symm
     rw [if_neg e,if_neg e']
 rw [key _ (Nat.le_refl _)]
 unfold evRuns
 apply List.map_congr_left
 intro i hi
 have hi:=List.mem_range.1 hi
 have hsx:=evC_succ hs hsL i
 rw [evR_all hs hsL hi,Nat.zero_add]
 omega
end
theorem psum_runs {s L:Nat} (hs:1≤s) (k:Nat):∀ j,j≤s→psum (evRuns s L k) j=(evC s L (k+j):Int) - (evC s L k:Int)
 | 0,_=>by simp [psum]
 | j+1,h=>by
  have hl:(evRuns s L k).length=s:=by simp [evRuns]
  rw [psum_succ _ (by rw [hl]; omega),psum_runs hs k j (by omega)]
  have e:(evRuns s L k)[j]'(by rw [hl]; omega)=(evC s L (k+j+1):Int) - (evC s L (k+j):Int):=by simp [evRuns]
  rw [e,show k+(j+1)=k+j+1 by omega]
  omega
theorem evRuns_in {s L:Nat} (hs:1≤s) (hsL:s≤L) (k:Nat) (x:Int) (h:x∈evRuns s L k):1≤x:=by
 obtain ⟨i,_,rfl⟩:=List.mem_map.1 h
 have:=evC_succ hs hsL (k+i)
 omega
theorem evRuns_sum {s L:Nat} (hs:1≤s) (hsL:s≤L):(evRuns s L 0).sum=(L:Int):=by
 have hl:(evRuns s L 0).length=s:=by simp [evRuns]
 have h:=psum_runs hs (L:=L) 0 s (Nat.le_refl _)
 unfold psum at h
 rw [List.take_of_length_le (by rw [hl]; exact Nat.le_refl _),Nat.zero_add,evC_all hs,evC_zero hs] at h
 simpa using h
end Go.Proofs.YtfiopgedfcaodaaGreatDoor
