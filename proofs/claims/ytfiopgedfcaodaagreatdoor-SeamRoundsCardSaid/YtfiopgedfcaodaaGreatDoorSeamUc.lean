/- Plain laws: the pieces of a text,groups,rates read. -/
import Derived.Test.YtfiopgedfcaodaaGreatDoorSeamUb
set_option linter.all false
namespace Go.Proofs.YtfiopgedfcaodaaGreatDoor
open Go Go.Am
set_option maxRecDepth 100000
def preL (p:List UInt8):List (List UInt8)→List (List UInt8)
 | []=>[p]
 | x :: xs=>(p++x) :: xs
theorem splitL_cons (c b:UInt8) (s:List UInt8):splitL c (b :: s)=if b=c then [] :: splitL c s else preL [b] (splitL c s):=by
 rw [splitL]
 split
 ·rfl
 ·cases splitL c s <;> rfl
theorem cutL_len (c:UInt8):∀ s:List UInt8,(cutL c s).1.length≤s.length∧(cutL c s).2.1.length≤s.length
 | []=>⟨Nat.le_refl _,Nat.le_refl _⟩
 | b :: s=>by
  have:=cutL_len c s
  rw [cutL]
  split
  ·simp
  ·simp; omega
theorem splitL_lenc (c:UInt8):∀ s:List UInt8,(splitL c s).length=s.count c+1
 | []=>rfl
 | b :: s=>by
  have ih:=splitL_lenc c s
  rw [splitL_cons]
  by_cases h:b=c
  ·subst h; simp [ih]
  ·rw [if_neg h,List.count_cons_of_ne h,← ih]
   have:=splitL_ne c s
   cases hs:splitL c s with
   | nil=>exact absurd hs this
   | cons x l=>rfl
theorem splitL_mem (c:UInt8):∀ (s:List UInt8) (w:List UInt8),w∈splitL c s→w.length≤s.length
 | [],w,h=>by simp [splitL] at h; subst h; exact Nat.le_refl _
 | b :: s,w,h=>by
  have ih:=splitL_mem c s
  rw [splitL_cons] at h
  by_cases hb:b=c
  ·rw [if_pos hb] at h
   rcases List.mem_cons.1 h with rfl | h
   ·simp
   ·have:=ih w h; simp; omega
  ·rw [if_neg hb] at h
   cases hs:splitL c s with
   | nil=>exact absurd hs (splitL_ne c s)
   | cons x l=>
    rw [hs] at h ih
    rcases List.mem_cons.1 h with rfl | h
    ·have:=ih x List.mem_cons_self; simp; omega
    ·have:=ih w (List.mem_cons_of_mem _ h); simp; omega
def grp (w:List UInt8):Option (Int × Int):=if (cutL 120 w).2.2=true then (match numB (cutL 120 w).1,numB (cutL 120 w).2.1 with | some a,some b=>some (a,b) | _,_=>none) else none
theorem grp_in {w:List UInt8} {a b:Int} (h:grp w=some (a,b)):1≤a∧a≤999999999∧1≤b∧b≤999999999:=by
 unfold grp at h
 split at h
 ·cases h1:numB (cutL 120 w).1 with
  | none=>rw [h1] at h; cases h
  | some x=>
   cases h2:numB (cutL 120 w).2.1 with
   | none=>rw [h1,h2] at h; cases h
   | some y=>
    rw [h1,h2] at h
    cases h
    have:=numB_in h1
    have:=numB_in h2
    omega
 ·cases h
end Go.Proofs.YtfiopgedfcaodaaGreatDoor
