/- Plain laws: runs of joins. -/
import Derived.Test.YtfiopgedfcaodaaGreatDoorSeamTr
import Derived.Test.YtfiopgedfcaodaaGreatDoorSeamPe
set_option linter.all false
namespace Go.Proofs.YtfiopgedfcaodaaGreatDoor
open Go Go.Am
set_option maxRecDepth 100000

theorem at3 (l : List Int) {k : Nat} (hk : k < l.length) : d3 (nthD (List.map n3 l) k) = l[k] ∧ Pat.fits p3 (nthD (List.map n3 l) k) = true := by
  rw [nthD_map n3 l k hk, dn3, fn3]
  exact ⟨rfl, rfl⟩
theorem snoc3 (l : List Int) (a : Int) : List.map n3 l ++ [AV.int .i64 a] = List.map n3 (l ++ [a]) := by
  rw [List.map_append]; rfl

/-! ### The error of runs -/
section
variable {N : Nat} (hN : Big N) (l : List Int) (hl : l.length ≤ 1000000)
include hN hl
end

theorem T60_same {N : Nat} (hN : Big N) (l : List Int) (hl : l.length ≤ 1000000) : T60 N (l, l) = some true := by
  rw [T60_eq]
  simp only [bne_self_eq_false, cond_false, List.length_map]
  have key := loopR_count (rd := R60x58 N l l) l.length (fun k => (k : Int)) (.inr ()) (fun k hk => by
    obtain ⟨a1, a2⟩ := at3 l hk
    simp only [R60x58, List.length_map, Int.toNat_natCast, a1, a2, lt_range hk, in_range hk, Bool.and_self, cond_true, bne_self_eq_false, cond_false, w_succ (show k < 9223372036854775807 by omega)]) (by
    simp only [R60x58, List.length_map, ge_range, cond_false]) N 0 (Nat.zero_le _) (by unfold Big at hN; omega)
  have key' : loopR (R60x58 N l l) N 0 = some (.inr ()) := key
  rw [key', Option.bind_some]
  rfl

/-! ### Pairs out of runs -/
section
variable {N : Nat} (hN : Big N) (l : List Int) (hl : l.length ≤ 256) (hx : ∀ x ∈ l, 1 ≤ x ∧ x ≤ 256)
include hN hl hx
end

/-! ### Runs of pairs -/
theorem setN3 (s : List Int) (i : Nat) (v : Int) : setN (List.map n3 s) i (AV.int .i64 v) = List.map n3 (s.set i v) := by
  rw [setN_eq]
  show (List.map n3 s).set i (n3 v) = _
  rw [List.map_set]
section
variable {N : Nat} (hN : Big N) (m n : Int) (l : List (Int × Int)) (hl : l.length ≤ 1000000)
include hN hl
end

end Go.Proofs.YtfiopgedfcaodaaGreatDoor
