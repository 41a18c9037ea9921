/- Plain laws: seams between edges. -/
import Derived.Test.YtfiopgedfcaodaaGreatDoorSeamTs
import Derived.Test.YtfiopgedfcaodaaGreatDoorSeamPe
set_option linter.all false
namespace Go.Proofs.YtfiopgedfcaodaaGreatDoor
open Go Go.Am
set_option maxRecDepth 100000
abbrev Six := Int × Int × Int × Int × Int × Int
theorem snoc129 (l : List Six) (a b c d e f : Int) : List.map n129 l ++ [AV.agg [AV.int .i64 a, AV.int .i64 b, AV.int .i64 c, AV.int .i64 d, AV.int .i64 e, AV.int .i64 f]] = List.map n129 (l ++ [(a, b, c, d, e, f)]) := by
  rw [List.map_append]; rfl
theorem T46_same {N : Nat} (hN : Big N) (l : List Six) (hl : l.length ≤ 1000000) : T46 N l = some l := by
  rw [T46_eq]
  have key := loopR_count (rd := R46x58 N l) l.length (fun k => (l.take k, (k : Int))) l (fun k hk => by
    have hb : (k + 1) * 48 ≤ 140737488355328 := by omega
    simp only [R46x58, List.length_map, Int.toNat_natCast, nthD_map n127 l k hk, fn127, dn127, lt_range hk, in_range hk, Bool.and_self, cond_true, snoc129, fa129, md129, List.length_take, List.length_append, List.length_singleton, Nat.min_eq_left (Nat.le_of_lt hk), hb, decide_true, Bool.and_true, Option.bind_some, w_succ (show k < 9223372036854775807 by omega)]
    rw [show l.take k ++ [(l[k].1, l[k].2.1, l[k].2.2.1, l[k].2.2.2.1, l[k].2.2.2.2.1, l[k].2.2.2.2.2)] = l.take (k + 1) from by rw [List.take_succ, List.getElem?_eq_getElem hk]; rfl]) (by
    simp only [R46x58, List.length_map, ge_range, cond_false, fa129, md129, decide_true, Bool.and_true, cond_true, Option.bind_some, List.take_length])
  have h1 := key N 0 (Nat.zero_le _) (by unfold Big at hN; omega)
  have z : ((bif (allFit (Pat.fits p129) ([] : List AV) && true) then some ((List.map d129 ([] : List AV)), 0) else none : Option ((List Six) × Int))) = some (l.take 0, ((0 : Nat) : Int)) := rfl
  rw [z]
  simp only [Option.bind_some]
  rw [show (decide (0 = (List.map n129 (l.take 0)).length) && true) = true from rfl, cond_true, Option.bind_some, h1]
  simp only [Option.bind_some, fa129, md129, cond_true]
theorem T45_same {N : Nat} (hN : Big N) (l : List Six) (hl : l.length ≤ 1000000) : T45 N (l, l) = some true := by
  rw [T45_eq]
  simp only [bne_self_eq_false, cond_false, List.length_map]
  have key := loopR_count (rd := R45x58 N l l) l.length (fun k => (k : Int)) (.inr ()) (fun k hk => by
    simp only [R45x58, List.length_map, Int.toNat_natCast, nthD_map n129 l k hk, fn129, dn129, lt_range hk, in_range hk, Bool.and_self, cond_true, beq_self_eq_true, Bool.not_true, cond_false, w_succ (show k < 9223372036854775807 by omega)]) (by
    simp only [R45x58, List.length_map, ge_range, cond_false]) N 0 (Nat.zero_le _) (by unfold Big at hN; omega)
  have key' : loopR (R45x58 N l l) N 0 = some (.inr ()) := key
  rw [key', Option.bind_some]
  rfl
section seam
variable {N : Nat} (hN : Big N) (a b : Int) (e1 e2 : List (Int × Int))
def lgN (e1 e2 : List (Int × Int)) : Nat := max e1.length e2.length
def kA (k : Nat) : Int × Int := e1.getD (k * e1.length / lgN e1 e2) (0, 0)
def kB (k : Nat) : Int × Int := e2.getD (k * e2.length / lgN e1 e2) (0, 0)
def six (k : Nat) : Six := (a, (kA e1 e2 k).1, (kA e1 e2 k).2, b, (kB e1 e2 k).1, (kB e1 e2 k).2)
def samek (k : Nat) : Bool := (a == b) && ((((kA e1 e2 k).1 == (kB e1 e2 k).1) && (((kA e1 e2 k).2 == (kB e1 e2 k).2) && true)) && true)
def stS (s : List Six) (k : Nat) : List Six ⊕ List Six := if samek a b e1 e2 k then .inr s else .inl (s ++ [six a b e1 e2 k])
variable (h1 : 1 ≤ e1.length) (h1' : e1.length ≤ 256) (h2 : 1 ≤ e2.length) (h2' : e2.length ≤ 256)
include h1 h1' h2 h2'
include hN
end seam
end Go.Proofs.YtfiopgedfcaodaaGreatDoor
