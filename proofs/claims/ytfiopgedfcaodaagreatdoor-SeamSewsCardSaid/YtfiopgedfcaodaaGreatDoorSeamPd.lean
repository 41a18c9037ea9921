/- Plain laws: degrees and counts of what is sewn. -/
import Derived.Test.YtfiopgedfcaodaaGreatDoorSeamPc
set_option linter.all false
namespace Go.Proofs.YtfiopgedfcaodaaGreatDoor
open Go Go.Am
set_option maxRecDepth 100000
def uL (n:Nat) (u:Nat → Nat):List Int:=(List.range n).map fun i=>((u i:Nat):Int)
@[simp] theorem uL_len (n:Nat) (u:Nat → Nat):(uL n u).length = n:=by simp [uL]
theorem uL_get {n:Nat} (u:Nat → Nat) {k:Nat} (hk:k < (uL n u).length):(uL n u)[k] = (u k:Int):=by simp [uL]
theorem uL_set (n:Nat) (u:Nat → Nat) (k v:Nat):(uL n u).set k (v:Int) = uL n (upd u k v):=by
 apply List.ext_getElem
 ·simp
 ·intro j h1 h2
  have e1:(uL n (upd u k v))[j] = ((upd u k v j:Nat):Int):=uL_get _ _
  rw [List.getElem_set,e1]
  by_cases e:j = k
  ·subst e; rw [if_pos rfl,upd_self]
  ·have e':¬ k = j:=fun h=>e h.symm
   rw [if_neg e',upd_ne e,uL_get]
theorem uL_ext {n:Nat} {u v:Nat → Nat} (h:∀ i,i < n → u i = v i):uL n u = uL n v:=by
 unfold uL
 apply List.map_congr_left
 intro i hi
 rw [h i (List.mem_range.1 hi)]
theorem atU (n:Nat) (u:Nat → Nat) {k:Nat} (hk:k < n):d3 (nthD (List.map n3 (uL n u)) k) = (u k:Int) ∧ Pat.fits p3 (nthD (List.map n3 (uL n u)) k) = true:=by
 obtain ⟨a1,a2⟩:=at3 (uL n u) (k:=k) (by simpa using hk)
 exact ⟨a1.trans (uL_get u _),a2⟩
theorem setU (n:Nat) (u:Nat → Nat) (k v:Nat):setN (List.map n3 (uL n u)) k (AV.int .i64 (v:Int)) = List.map n3 (uL n (upd u k v)):=by rw [setN3,uL_set]
def cnt (f:Nat → Nat) (k:Nat):Nat:=(List.range k).countP fun i=>decide (f i = i)
theorem cnt_succ (f:Nat → Nat) (k:Nat):cnt f (k + 1) = cnt f k + if f k = k then 1 else 0:=by
 unfold cnt
 rw [List.range_succ,List.countP_append,List.countP_singleton]
 by_cases h:f k = k <;> simp [h]
theorem cnt_le (f:Nat → Nat) (k:Nat):cnt f k ≤ k:=by
 have:=List.countP_le_length (p:=fun i=>decide (f i = i)) (l:=List.range k)
 rwa [List.length_range] at this
theorem mm_if (a b:Nat):((if (b:Int) > (a:Int) then (b:Int) else (a:Int)) = ((max a b:Nat):Int)) ∧ ((if (b:Int) < (a:Int) then (b:Int) else (a:Int)) = ((min a b:Nat):Int)):=by
 constructor <;> split <;> omega
section
variable {N:Nat} (hN:Big N) (C:List (List P3)) (B:List (Int × Int)) (hC:C.length ≤ 8192) (hB:B.length ≤ 8192) (hb:∀ b ∈ B,0 ≤ b.1 ∧ b.1 ≤ b.2 ∧ b.2 < (C.length:Int))
include hN hC hB hb
omit hN hC hB hb in
theorem lab_take (es:List (Nat × Nat)) {k:Nat} (hk:k < es.length):lab (es.take (k + 1)) = mrg (lab (es.take k)) es[k]:=by
 unfold lab
 rw [List.take_add_one,List.foldl_append,List.getElem?_eq_getElem hk]
 rfl
end
end Go.Proofs.YtfiopgedfcaodaaGreatDoor
