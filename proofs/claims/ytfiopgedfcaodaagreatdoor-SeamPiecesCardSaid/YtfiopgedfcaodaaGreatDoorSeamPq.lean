/- Plain laws: loose places by the reference, and what is only copied or compared. -/
import Derived.Test.YtfiopgedfcaodaaGreatDoorSeamPo
set_option linter.all false
namespace Go.Proofs.YtfiopgedfcaodaaGreatDoor
open Go Go.Am Go.Sort
set_option maxRecDepth 100000
def jA (j : Six) : P3 := (j.1, j.2.1, j.2.2.1)
def jB (j : Six) : P3 := (j.2.2.2.1, j.2.2.2.2.1, j.2.2.2.2.2)
def tied (J : List Six) (p : P3) : Bool := J.any fun j => decide (jA j = p) || decide (jB j = p)
def looseF (C : List (List P3)) (J : List Six) : List P3 := (plcs C).filter fun p => !tied J p
theorem eq3 (a b : P3) : (a.1 == b.1 && (a.2.1 == b.2.1 && a.2.2 == b.2.2)) = decide (a = b) := by
  rw [Bool.eq_iff_iff]
  simp only [Bool.and_eq_true, beq_iff_eq, decide_eq_true_eq]
  constructor
  · rintro ⟨h1, h2, h3⟩; exact Prod.ext h1 (Prod.ext h2 h3)
  · rintro rfl; exact ⟨rfl, rfl, rfl⟩
theorem foldl_or {α : Type} (g : α → Bool) : ∀ (l : List α) (t : Bool), l.foldl (fun t j => t || g j) t = (t || l.any g)
  | [], t => by simp
  | a :: l, t => by rw [List.foldl_cons, foldl_or g l, List.any_cons, Bool.or_assoc]
theorem foldl_filter {α : Type} (g : α → Bool) : ∀ (l : List α) (s : List α), l.foldl (fun s p => if g p then s ++ [p] else s) s = s ++ l.filter g
  | [], s => by simp
  | a :: l, s => by
    rw [List.foldl_cons, foldl_filter g l, List.filter_cons]
    cases g a <;> simp
theorem at129 (J : List Six) {k : Nat} (hk : k < J.length) : d129 (nthD (List.map n129 J) k) = J[k] ∧ Pat.fits p129 (nthD (List.map n129 J) k) = true := by
  rw [nthD_map n129 J k hk, dn129, fn129]; exact ⟨rfl, rfl⟩
theorem at89k (S : List P3) {k : Nat} (hk : k < S.length) : d89 (nthD (List.map n89 S) k) = S[k] ∧ Pat.fits p89 (nthD (List.map n89 S) k) = true := by
  rw [nthD_map n89 S k hk, dn89, fn89]; exact ⟨rfl, rfl⟩
theorem plcs_len {C : List (List P3)} (hC : ∀ l ∈ C, chkN l = 0) (hl : C.length ≤ 16) : (plcs C).length ≤ 131072 := by
  have gen : ∀ (n : Nat), ((List.range n).flatMap (plc C)).length ≤ 8192 * n := by
    intro n
    induction n with
    | zero => simp
    | succ n ih =>
      rw [List.range_succ, List.flatMap_append, List.length_append]
      have := plc_len hC n
      simp only [List.flatMap_cons, List.flatMap_nil, List.append_nil]
      omega
  have := gen C.length
  unfold plcs
  omega
section
variable {N : Nat} (hN : Big N)
include hN
theorem R39_in (J : List Six) (S : List P3) (s : List P3) (k : Nat) (hJ : J.length ≤ 1024) (hk : k < S.length) : loopR (R39x31306 N J S (s, (k : Int))) N (s, false, 0) = some (s, tied J S[k]) := by
  obtain ⟨b1, b2⟩ := at89k S hk
  have key := loopR_foldl (rd := R39x31306 N J S (s, (k : Int))) J (fun t i => (s, t, (i : Int))) (fun t j => t || (decide (jA j = S[k]) || decide (jB j = S[k]))) (fun t => (s, t)) (fun _ _ => True) (fun t i hi _ => by
    obtain ⟨a1, a2⟩ := at129 J hi
    have e1 := eq3 (jA J[i]) S[k]
    have e2 := eq3 (jB J[i]) S[k]
    unfold jA at e1
    unfold jB at e2
    simp only at e1 e2
    refine ⟨?_, trivial⟩
    cases t with
    | true => simp only [R39x31306, List.length_map, lt_range hi, cond_true, fa89, md89, Bool.and_true, decide_true, Option.bind_some, w_succ (show i < 9223372036854775807 by omega), Bool.true_or]
    | false =>
      simp only [R39x31306, List.length_map, Int.toNat_natCast, a1, a2, b1, b2, lt_range hi, in_range hi, in_range hk, Bool.and_self, Bool.and_true, cond_true, cond_false, e1, e2, fa89, md89, decide_true, Option.bind_some, w_succ (show i < 9223372036854775807 by omega), Bool.false_or]
      unfold jA jB
      cases decide ((J[i].1, J[i].2.1, J[i].2.2.1) = S[k]) <;> rfl) (fun t _ => by
    simp only [R39x31306, List.length_map, ge_range, cond_false, fa89, md89, Bool.and_true, cond_true, decide_true, Option.bind_some]) N false 0 (Nat.zero_le _) (by unfold Big at hN; omega) trivial
  have key' : loopR (R39x31306 N J S (s, (k : Int))) N (s, false, 0) = _ := key
  rw [key', List.drop_zero, foldl_or, Bool.false_or]
  rfl
theorem T39_loose (C : List (List P3)) (J : List Six) (hC : ∀ l ∈ C, chkN l = 0) (hl : C.length ≤ 16) (hJ : J.length ≤ 1024) : T39 N (C, J) = some (looseF C J) := by
  have hpl := plcs_len hC hl
  rw [T39_eq]
  have key := loopR_foldl (rd := R39x122 N J (plcs C)) (plcs C) (fun s k => (s, (k : Int))) (fun s p => if !tied J p then s ++ [p] else s) (fun s => s) (fun s k => s.length ≤ k) (fun s k hk hs => by
    obtain ⟨b1, b2⟩ := at89k (plcs C) hk
    have hi := R39_in hN J (plcs C) s k hJ hk
    have hb : decide ((s.length + 1) * 24 ≤ 140737488355328) = true := decide_eq_true (by omega)
    have hla : (s ++ [(plcs C)[k]]).length = s.length + 1 := by simp
    have hsn : List.map n89 s ++ [AV.agg [AV.int .i64 (plcs C)[k].1, AV.int .i64 (plcs C)[k].2.1, AV.int .i64 (plcs C)[k].2.2]] = List.map n89 (s ++ [(plcs C)[k]]) := snoc89b s _ _ _
    refine ⟨?_, by split <;> (try rw [hla]) <;> omega⟩
    simp only [R39x122, List.length_map, Int.toNat_natCast, b1, b2, lt_range hk, in_range hk, Bool.and_self, Bool.and_true, cond_true, fa89, md89, decide_true, Option.bind_some, hi, hb, hsn, hla, w_succ (show k < 9223372036854775807 by omega)]
    cases tied J (plcs C)[k] <;> rfl) (fun s _ => by
    simp only [R39x122, List.length_map, ge_range, cond_false, fa89, md89, Bool.and_true, cond_true, decide_true, Option.bind_some]) N [] 0 (Nat.zero_le _) (by unfold Big at hN; omega) (Nat.zero_le _)
  have key' : loopR (R39x122 N J (plcs C)) N ([], 0) = _ := key
  have z : ((bif (allFit (Pat.fits p89) ([] : List AV) && true) then some ((List.map d89 ([] : List AV)), 0) else none : Option ((List (Int × Int × Int)) × Int)).bind fun w16 => bif (decide (0 = (List.map n89 w16.1).length) && true) then some w16 else none) = some ([], 0) := rfl
  rw [z]
  simp only [fa115, md115, Bool.and_true, cond_true, Option.bind_some, T114_plcs hN C hC hl, key', List.drop_zero, fa89, md89]
  rw [foldl_filter (fun p => !tied J p), List.nil_append]
  rfl
theorem T43_same (l : List P3) (hl : l.length ≤ 1000000) : T43 N (l, l) = some true := by
  rw [T43_eq]
  simp only [bne_self_eq_false, cond_false, List.length_map]
  have key := loopR_count (rd := R43x58 N l l) l.length (fun k => (k : Int)) (.inr ()) (fun k hk => by
    obtain ⟨a1, a2⟩ := at89k l hk
    simp only [R43x58, List.length_map, Int.toNat_natCast, a1, a2, lt_range hk, in_range hk, Bool.and_self, cond_true, beq_self_eq_true, Bool.not_true, cond_false, w_succ (show k < 9223372036854775807 by omega)]) (by
    simp only [R43x58, List.length_map, ge_range, cond_false]) N 0 (Nat.zero_le _) (by unfold Big at hN; omega)
  have key' : loopR (R43x58 N l l) N 0 = some (.inr ()) := key
  rw [key', Option.bind_some]
  rfl
theorem T44_same (l : List P3) (hl : l.length ≤ 1000000) : T44 N l = some l := by
  rw [T44_eq]
  have key := loopR_foldl (rd := R44x58 N l) l (fun s k => (s, (k : Int))) (fun s p => s ++ [p]) (fun s => s) (fun s k => s.length = k) (fun s k hk hs => by
    obtain ⟨a1, a2⟩ := at94 l hk
    have hb : decide ((s.length + 1) * 24 ≤ 140737488355328) = true := decide_eq_true (by omega)
    have hla : (s ++ [l[k]]).length = s.length + 1 := by simp
    have hsn : List.map n89 s ++ [AV.agg [AV.int .i64 l[k].1, AV.int .i64 l[k].2.1, AV.int .i64 l[k].2.2]] = List.map n89 (s ++ [l[k]]) := snoc89b s _ _ _
    refine ⟨?_, by rw [hla, hs]⟩
    simp only [R44x58, List.length_map, Int.toNat_natCast, a1, a2, lt_range hk, in_range hk, Bool.and_self, Bool.and_true, cond_true, decide_true, hb, hsn, fa89, md89, Option.bind_some, hla, w_succ (show k < 9223372036854775807 by omega)]) (fun s _ => by
    simp only [R44x58, List.length_map, ge_range, cond_false, fa89, md89, Bool.and_true, cond_true, Option.bind_some, decide_true]) N [] 0 (Nat.zero_le _) (by unfold Big at hN; omega) rfl
  have key' : loopR (R44x58 N l) N ([], 0) = _ := key
  have z : ((bif (allFit (Pat.fits p89) ([] : List AV) && true) then some ((List.map d89 ([] : List AV)), 0) else none : Option ((List (Int × Int × Int)) × Int)).bind fun w16 => bif (decide (0 = (List.map n89 w16.1).length) && true) then some w16 else none) = some ([], 0) := rfl
  rw [z, Option.bind_some, key', List.drop_zero, foldl_snoc, List.nil_append, Option.bind_some, fa89, md89]
  rfl
end
end Go.Proofs.YtfiopgedfcaodaaGreatDoor
