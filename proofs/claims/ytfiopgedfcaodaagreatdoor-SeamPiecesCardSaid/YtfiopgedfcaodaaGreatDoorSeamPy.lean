/- Plain laws: pieces, their seams, loose and common knots. -/
import Derived.Test.YtfiopgedfcaodaaGreatDoorSeamPx
import Derived.Test.YtfiopgedfcaodaaGreatDoorSeamPs
set_option linter.all false
namespace Go.Proofs.YtfiopgedfcaodaaGreatDoor
open Go Go.Am Go.Sort
set_option maxRecDepth 100000
theorem one_flat {α : Type} (L : List α) (a : Nat) : ∀ n, (List.range n).flatMap (fun i => if i = a then L else []) = if a < n then L else []
  | 0 => rfl
  | n + 1 => by
    rw [List.range_succ, List.flatMap_append, one_flat L a n]
    simp only [List.flatMap_cons, List.flatMap_nil, List.append_nil]
    by_cases h : n = a
    · subst h
      rw [if_neg (Nat.lt_irrefl _), if_pos rfl, if_pos (Nat.lt_succ_self _)]; rfl
    · rw [if_neg h, List.append_nil]
      by_cases h2 : a < n
      · rw [if_pos h2, if_pos (by omega)]
      · rw [if_neg h2, if_neg (by omega)]
def comF (C : List (List P3)) (a b : Nat) : List Six := ((knotsL (C.getD a [])).filter fun k => decide (k ∈ knotsL (C.getD b []))).map fun k => ((a : Int), k.1, k.2, (b : Int), k.1, k.2)
theorem com_eq (C : List (List P3)) (a b : Nat) (ha : a < C.length) (hb : b < C.length) : ((plcs C).filter (comm (plcs C) (a : Int) (b : Int))).map (fun p => (p.1, p.2.1, p.2.2, (b : Int), p.2.1, p.2.2)) = comF C a b := by
  have h0 : ∀ g : P3 → Bool, (plcs C).filter g = (List.range C.length).flatMap (fun i => (plc C i).filter g) := fun g => by
    unfold plcs
    exact List.filter_flatMap
  have hf : ∀ i, (plc C i).filter (comm (plcs C) (a : Int) (b : Int)) = if i = a then ((knotsL (C.getD a [])).filter (fun k => decide (k ∈ knotsL (C.getD b [])))).map (fun k => ((a : Int), k.1, k.2)) else [] := by
    intro i
    by_cases h : i = a
    · subst h
      rw [if_pos rfl]
      unfold plc
      rw [List.filter_map]
      congr 1
      apply List.filter_congr
      intro k _
      unfold comm
      simp only [Function.comp_apply, beq_self_eq_true, Bool.and_true, decide_eq_decide]
      rw [mem_plcs]
      constructor
      · rintro ⟨j, hj, h2, h3⟩
        have : j = b := by simp only at h2; omega
        subst this
        exact h3
      · intro h3
        exact ⟨b, hb, rfl, h3⟩
    · rw [if_neg h, List.filter_eq_nil_iff]
      intro p hp
      unfold plc at hp
      obtain ⟨k, _, rfl⟩ := List.mem_map.1 hp
      unfold comm
      have : ((i : Int) == (a : Int)) = false := beq_false_of_ne (by omega)
      rw [this, Bool.and_false]
      simp
  rw [h0, funext hf, one_flat, if_pos ha, List.map_map]
  rfl
def comR (C : List (List P3)) (a1 a2 : Int) : List Six × Int :=
  if a1 < 0 ∨ a1 ≥ (C.length : Int) ∨ a2 < 0 ∨ a2 ≥ (C.length : Int) then ([], 10) else if a1 = a2 then ([], 9) else (comF C a1.toNat a2.toNat, 0)
theorem out4 (a1 a2 n : Int) : ((bif decide (a1 < 0) then some true else bif decide (a1 ≥ n) then some true else bif decide (a2 < 0) then some true else some (decide (a2 ≥ n))) : Option Bool) = some (decide (a1 < 0 ∨ a1 ≥ n ∨ a2 < 0 ∨ a2 ≥ n)) := by
  by_cases h1 : a1 < 0
  · simp [h1]
  · by_cases h2 : a1 ≥ n
    · simp [h1, h2]
    · by_cases h3 : a2 < 0
      · simp [h1, h2, h3]
      · by_cases h4 : a2 ≥ n <;> simp [h1, h2, h3, h4]
theorem w24c (x y z : Int) : ((bif allFit (Pat.fits p24) [AV.int .i64 x, AV.int .i64 y, AV.int .i64 z] then some (List.map d24 [AV.int .i64 x, AV.int .i64 y, AV.int .i64 z]) else none : Option (List Int))) = some [x, y, z] := rfl
section
variable {N : Nat} (hN : Big N)
include hN
theorem R36_in (K : List (Int × Int)) (e : Int) (s : List P3) (i : Int) (hK : K.length ≤ 8192) : loopR (R36x164x58 N (K, e)) N ([], 0, s, i) = some (K.map fun k => (i, k.1, k.2), s, i) := by
  have key := loopR_foldl (rd := R36x164x58 N (K, e)) K (fun acc k => (acc, (k : Int), s, i)) (fun acc k => acc ++ [(i, k.1, k.2)]) (fun acc => (acc, s, i)) (fun acc k => acc.length = k) (fun acc k hk hs => by
    obtain ⟨a1, a2⟩ := at87k K hk
    have hb : decide ((acc.length + 1) * 24 ≤ 140737488355328) = true := decide_eq_true (by omega)
    have hl : (acc ++ [(i, K[k].1, K[k].2)]).length = acc.length + 1 := by simp
    refine ⟨?_, by rw [hl, hs]⟩
    simp only [R36x164x58, List.length_map, Int.toNat_natCast, a1, a2, lt_range hk, in_range hk, Bool.and_self, Bool.and_true, cond_true, decide_true, hb, snoc94, fa94, md94, Option.bind_some, hl, w_succ (show k < 9223372036854775807 by omega)]) (fun acc _ => by
    simp only [R36x164x58, List.length_map, ge_range, cond_false, fa94, md94, Bool.and_self, Bool.and_true, cond_true, Option.bind_some, decide_true]) N [] 0 (Nat.zero_le _) (by unfold Big at hN; omega) rfl
  have key' : loopR (R36x164x58 N (K, e)) N ([], 0, s, i) = _ := key
  rw [key', List.drop_zero, foldl_snocg, List.nil_append]
theorem R36_places (C : List (List P3)) (hC : ∀ l ∈ C, chkN l = 0) (hl : C.length ≤ 16) : loopR (R36x109x58 N C) N ((), 0, []) = some ((), plcs C) := by
  have key := loopR_foldl (rd := R36x109x58 N C) (List.range C.length) (fun s k => ((), (k : Int), s)) (fun s i => s ++ plc C i) (fun s => ((), s)) (fun s k => s.length ≤ 8192 * k) (fun s k hk hs => by
    have hk : k < C.length := by simpa using hk
    rw [List.getElem_range]
    obtain ⟨a1, a2⟩ := at115 C hk
    have hn := hC _ (List.getElem_mem hk)
    have e : C.getD k [] = C[k] := by simp [hk]
    have hkl := knots_len hn
    have q := T163_knots hN C[k]
    rw [if_pos hn] at q
    have hpl := plc_len hC k
    have hb : decide ((s.length + (plc C k).length) * 24 ≤ 140737488355328) = true := decide_eq_true (by omega)
    have hi := R36_in hN (knotsL C[k]) 0 s (k : Int) hkl
    have he : (knotsL C[k]).map (fun x => ((k : Int), x.1, x.2)) = plc C k := by unfold plc; rw [e]
    rw [he] at hi
    have z : ∀ a b : List P3, List.map n94 a ++ List.map n94 b = List.map n94 (a ++ b) := fun a b => by rw [List.map_append]
    have zn : allFit (Pat.fits p94) ([] : List AV) = true := rfl
    have hla : (s ++ plc C k).length = s.length + (plc C k).length := List.length_append
    refine ⟨?_, by rw [hla]; omega⟩
    simp only [R36x109x58, List.length_map, Int.toNat_natCast, a1, a2, lt_range hk, in_range hk, Bool.and_self, Bool.and_true, cond_true, fa120, md120, q, Option.bind_some, zn, fa94, md94, List.map_nil, List.length_nil, decide_true, hi, hb, z, hla, Nat.beq_refl, w_succ (show k < 9223372036854775807 by omega)]) (fun s _ => by
    rw [List.length_range]
    simp only [R36x109x58, List.length_map, ge_range, cond_false, Nat.beq_refl, fa94, md94, Bool.and_self, Bool.and_true, cond_true, Option.bind_some]) N [] 0 (Nat.zero_le _) (by unfold Big at hN; simp; omega) (Nat.zero_le _)
  have key' : loopR (R36x109x58 N C) N ((), 0, []) = _ := key
  rw [key', List.drop_zero, flatMap_foldl, List.nil_append]
  rfl
theorem T36_com (C : List (List P3)) (a1 a2 : Int) : T36 N (C, a1, a2) = some (if chkP C = 0 then comR C a1 a2 else ([], chkP C)) := by
  rw [T36_eq]
  have q3 : ∀ x y z : Int, T90 N [x, y, z] = some (firstNZ [x, y, z]) := fun x y z => T90_first hN _ (by simp)
  simp only [List.length_map, out4, fa115, md115, Bool.and_true, cond_true, Option.bind_some, T41_chk hN C, T91_when, w24c, q3, firstNZ]
  by_cases h0 : chkP C = 0
  · obtain ⟨c1, c2⟩ := chkP_ok h0
    rw [if_pos h0, if_pos h0]
    unfold comR
    by_cases h1 : a1 < 0 ∨ a1 ≥ (C.length : Int) ∨ a2 < 0 ∨ a2 ≥ (C.length : Int)
    · rw [decide_eq_true h1, if_pos h1]; rfl
    · rw [decide_eq_false h1, if_neg h1]
      by_cases h2 : a1 = a2
      · have hb : (a1 == a2) = true := beq_iff_eq.2 h2
        rw [hb, if_pos h2]; rfl
      · have hb : (a1 == a2) = false := beq_false_of_ne h2
        rw [hb, if_neg h2]
        have hpl := plcs_len c2 c1
        obtain ⟨a, rfl⟩ : ∃ a : Nat, a1 = (a : Int) := ⟨a1.toNat, by omega⟩
        obtain ⟨b, rfl⟩ : ∃ b : Nat, a2 = (b : Int) := ⟨a2.toNat, by omega⟩
        have hall := R36_all hN (plcs C) hpl (plcs_sorted C) (a : Int) (b : Int)
        rw [com_eq C a b (by omega) (by omega)] at hall
        have nb : Nat.beq 0 0 = true := rfl
        have f1 : allFit (Pat.fits p94) [] = true := rfl
        have f2 : allFit (Pat.fits p127) [] = true := rfl
        simp only [Bool.false_eq_true, if_false, if_true, bne_self_eq_false, cond_false, nb, f1, f2, List.map_nil, List.length_nil, Bool.and_self, cond_true, Option.bind_some, R36_places hN C c2 c1, fa94, md94, decide_true, hall, fa127, md127, Int.toNat_natCast]
  · have hb : (chkP C != 0) = true := bne_iff_ne.2 h0
    rw [if_neg h0, if_neg h0, hb]
    rfl
theorem T40_com (C : List (List P3)) (a1 a2 : Int) (h0 : chkP C = 0) : T40 N (C, a1, a2) = some (comR C a1 a2) := by
  obtain ⟨c1, c2⟩ := chkP_ok h0
  rw [T40_eq]
  simp only [List.length_map, out4, Option.bind_some]
  unfold comR
  by_cases h1 : a1 < 0 ∨ a1 ≥ (C.length : Int) ∨ a2 < 0 ∨ a2 ≥ (C.length : Int)
  · rw [decide_eq_true h1, if_pos h1]; rfl
  · rw [decide_eq_false h1, if_neg h1]
    by_cases h2 : a1 = a2
    · have hb : (a1 == a2) = true := beq_iff_eq.2 h2
      rw [hb, if_pos h2]; rfl
    · have hb : (a1 == a2) = false := beq_false_of_ne h2
      rw [hb, if_neg h2]
      obtain ⟨a, rfl⟩ : ∃ a : Nat, a1 = (a : Int) := ⟨a1.toNat, by omega⟩
      obtain ⟨b, rfl⟩ : ∃ b : Nat, a2 = (b : Int) := ⟨a2.toNat, by omega⟩
      have ha : a < C.length := by omega
      have hb' : b < C.length := by omega
      obtain ⟨a1', a2'⟩ := at115 C ha
      obtain ⟨b1', b2'⟩ := at115 C hb'
      have na := c2 _ (List.getElem_mem ha)
      have nb := c2 _ (List.getElem_mem hb')
      have la := chkN_ok na
      have lb := chkN_ok nb
      have ka := knots_len na
      have kb := knots_len nb
      have ea : C.getD a [] = C[a] := by simp [ha]
      have eb : C.getD b [] = C[b] := by simp [hb']
      have qa := T66_knots hN C[a] (by omega)
      have qb := T66_knots hN C[b] (by omega)
      have hsame : ∀ l : List P3, sameL (List.map n120 l) (List.map n120 l) = true := fun l => by
        induction l with
        | nil => rfl
        | cons x l ih =>
          rw [List.map_cons]
          have hx : sameA (n120 x) (n120 x) = true := by
            show (sameA (.int .i64 x.1) (.int .i64 x.1) && (sameA (.int .i64 x.2.1) (.int .i64 x.2.1) && (sameA (.int .i64 x.2.2) (.int .i64 x.2.2) && true))) = true
            have hi : ∀ n : Int, sameA (.int .i64 n) (.int .i64 n) = true := fun n => by
              show same0 (.int .i64 n) (.int .i64 n) = true
              simp [same0]
            rw [hi, hi, hi]; rfl
          show (sameA (n120 x) (n120 x) && sameL (List.map n120 l) (List.map n120 l)) = true
          rw [ih, hx]; rfl
      have key := loopR_foldl (rd := R40x506 N (a : Int) (b : Int) (knotsL C[a]) (knotsL C[b])) (knotsL C[a]) (fun s k => (s, (k : Int))) (fun s k => if decide (k ∈ knotsL C[b]) then s ++ [((a : Int), k.1, k.2, (b : Int), k.1, k.2)] else s) (fun s => s) (fun s k => s.length ≤ k) (fun s k hk hs => by
        obtain ⟨x1, x2⟩ := at87k (knotsL C[a]) hk
        have q := T115_has hN (knotsL C[b]) (knotsL C[a])[k] (by omega)
        rw [hasK_mem] at q
        have q' : T115 N (knotsL C[b], (knotsL C[a])[k].1, (knotsL C[a])[k].2) = _ := q
        have hbb : decide ((s.length + 1) * 48 ≤ 140737488355328) = true := decide_eq_true (by omega)
        have hla : (s ++ [((a : Int), (knotsL C[a])[k].1, (knotsL C[a])[k].2, (b : Int), (knotsL C[a])[k].1, (knotsL C[a])[k].2)]).length = s.length + 1 := by simp
        have hsn : List.map n129 s ++ [AV.agg [AV.int .i64 (a : Int), AV.int .i64 (knotsL C[a])[k].1, AV.int .i64 (knotsL C[a])[k].2, AV.int .i64 (b : Int), AV.int .i64 (knotsL C[a])[k].1, AV.int .i64 (knotsL C[a])[k].2]] = List.map n129 (s ++ [((a : Int), (knotsL C[a])[k].1, (knotsL C[a])[k].2, (b : Int), (knotsL C[a])[k].1, (knotsL C[a])[k].2)]) := by rw [List.map_append]; rfl
        refine ⟨?_, by split <;> (try rw [hla]) <;> omega⟩
        simp only [R40x506, List.length_map, Int.toNat_natCast, x1, x2, lt_range hk, in_range hk, Bool.and_self, Bool.and_true, cond_true, fa87, md87, q', Option.bind_some]
        by_cases hm : (knotsL C[a])[k] ∈ knotsL C[b]
        · simp only [hm, decide_true, cond_true, hbb, Bool.and_self, hsn, fa129, md129, Option.bind_some, hla, if_true, w_succ (show k < 9223372036854775807 by omega)]
        · simp only [hm, decide_false, cond_true, cond_false, fa129, md129, Option.bind_some, decide_true, Bool.false_eq_true, if_false, w_succ (show k < 9223372036854775807 by omega)]) (fun s _ => by
        simp only [R40x506, List.length_map, ge_range, cond_false, fa129, md129, Bool.and_true, cond_true, Option.bind_some, decide_true]) N [] 0 (Nat.zero_le _) (by unfold Big at hN; omega) (Nat.zero_le _)
      have key' : loopR (R40x506 N (a : Int) (b : Int) (knotsL C[a]) (knotsL C[b])) N ([], 0) = _ := key
      have f2 : allFit (Pat.fits p129) [] = true := rfl
      simp only [cond_false, Int.toNat_natCast, in_range ha, in_range hb', a1', a2', b1', b2', Bool.and_self, Bool.and_true, cond_true, fa120, md120, qa, qb, hsame, Option.bind_some, f2, List.map_nil, List.length_nil, decide_true, key', List.drop_zero, fa129, md129]
      unfold comF
      rw [ea, eb]
      have gen : ∀ (l : List (Int × Int)) (s : List Six), l.foldl (fun s k => if decide (k ∈ knotsL C[b]) = true then s ++ [((a : Int), k.1, k.2, (b : Int), k.1, k.2)] else s) s = s ++ (l.filter (fun k => decide (k ∈ knotsL C[b]))).map (fun k => ((a : Int), k.1, k.2, (b : Int), k.1, k.2)) := by
        intro l
        induction l with
        | nil => intro s; simp
        | cons p l ih =>
          intro s
          rw [List.foldl_cons, ih, List.filter_cons]
          by_cases hp : p ∈ knotsL C[b] <;> simp [hp]
      rw [gen, List.nil_append]
end
end Go.Proofs.YtfiopgedfcaodaaGreatDoor
