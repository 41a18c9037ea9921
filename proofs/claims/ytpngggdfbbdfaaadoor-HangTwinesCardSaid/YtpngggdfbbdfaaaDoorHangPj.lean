/- Plain laws: the nearest twine. -/
import Derived.Test.YtpngggdfbbdfaaaDoorHangPi
set_option linter.all false
namespace Go.Proofs.YtpngggdfbbdfaaaDoor
open Go Go.Am
set_option maxRecDepth 100000

def farI (x a : Int) : Int := if a - x > x - a then a - x else x - a
def choice (l : List Tw) (a : Int) (i : Nat) : Int × Int × Int := match l[i]? with
  | some t => (farI t.2.1 a, t.2.1, (i : Int))
  | none => (0, 0, 0)
def betterC (x y : Int × Int × Int) : Bool := decide (x.1 < y.1) || (x.1 == y.1 && decide (x.2.1 < y.2.1))
/-- The nearest one among the first. -/
def bst (l : List Tw) (a : Int) : Nat → Nat
  | 0 => 0
  | n + 1 => if betterC (choice l a (n + 1)) (choice l a (bst l a n)) then n + 1 else bst l a n
theorem bst_le (l : List Tw) (a : Int) : ∀ n, bst l a n ≤ n
  | 0 => Nat.le_refl _
  | n + 1 => by
    unfold bst
    split
    · exact Nat.le_refl _
    · exact Nat.le_succ_of_le (bst_le l a n)

def allC (l : List Tw) (a : Int) : List (Int × Int × Int) := (List.range l.length).map (choice l a)
theorem allC_len (l : List Tw) (a : Int) : (allC l a).length = l.length := by simp [allC]
theorem allC_at (l : List Tw) (a : Int) {k : Nat} (h : k < l.length) : (allC l a)[k]'(by rw [allC_len]; exact h) = choice l a k := by simp [allC]
theorem choice_at (l : List Tw) (a : Int) {k : Nat} (h : k < l.length) : choice l a k = (farI l[k].2.1 a, l[k].2.1, (k : Int)) := by
  unfold choice
  rw [List.getElem?_eq_getElem h]

section near
variable {N : Nat} (hN : Big N) {l : List Tw} {a : Int} (ha : 1 ≤ a ∧ a ≤ 100000) (hl : l.length ≤ 32) (hs : ∀ t ∈ l, 1 ≤ t.2.1 ∧ t.2.1 ≤ 100000 ∧ 1 ≤ t.2.2 ∧ t.2.2 ≤ 100)
include hN

theorem T109_first (l : List Int) (hl : l.length ≤ 1000) : T109 N l = some (firstNZ l) := by
  rw [T109_eq]
  have key := loopR_fold (rd := R109x58 N l) (S := Unit) (Y := Int) l (fun _ k => (k : Int)) (fun _ x => if x = 0 then .inl () else .inr x) (fun _ => .inr ()) (fun y => .inl y) (fun _ _ => True)
    (fun s k hk _ => by
      refine ⟨?_, fun _ _ => trivial⟩
      unfold R109x58
      simp only [List.length_map, Int.toNat_natCast, lt_range hk, in_range hk, nthD_map n3 l k hk, fn3, dn3, Bool.and_self, cond_true, w_succ (by omega : k < 9223372036854775807)]
      by_cases h : l[k] = 0
      · simp [h]
      · rw [bne0 h, if_neg h]; rfl)
    (fun s _ => by
      unfold R109x58
      simp only [List.length_map, ge_range, cond_false]) N () 0 (Nat.zero_le _) (by unfold Big at hN; omega) trivial
  have key' : loopR (V := Int) (X := Int ⊕ Unit) (R109x58 N l) N 0 = _ := key
  rw [key']
  simp only [Option.bind_some, List.drop_zero]
  clear key key' hl
  induction l with
  | nil => rfl
  | cons x l ih =>
    simp only [foldI, firstNZ]
    by_cases h : x = 0
    · simp only [h, if_true, Sum.elim_inl]; exact ih
    · simp [h]

theorem T86_val (x y : Int × Int × Int) : T86 N (x, y) = some (firstNZ [cmpI x.1 y.1, cmpI x.2.1 y.2.1, cmpI x.2.2 y.2.2]) := by
  rw [T86_eq]
  have e : ∀ x y z : Int, ((bif (allFit (Pat.fits p3) [(AV.int .i64 x), (AV.int .i64 y), (AV.int .i64 z)]) then some (List.map d3 [(AV.int .i64 x), (AV.int .i64 y), (AV.int .i64 z)]) else none : Option ((List Int)))) = some [x, y, z] := fun _ _ _ => rfl
  simp only [T105_cmp, Option.bind_some, beq_self_eq_true, Bool.and_self, cond_true, Bool.and_true, e]
  rw [T109_first hN _ (by simp)]
  rfl

omit hN in
theorem cmp_better {x y : Int × Int × Int} (h : y.2.2 < x.2.2) : decide (firstNZ [cmpI x.1 y.1, cmpI x.2.1 y.2.1, cmpI x.2.2 y.2.2] < 0) = betterC x y := by
  unfold betterC cmpI
  have h3 : ¬ x.2.2 < y.2.2 := by omega
  have h4 : x.2.2 > y.2.2 := h
  simp only [h3, h4, if_false, if_true]
  by_cases a1 : x.1 < y.1
  · simp [a1, firstNZ]
  · by_cases a2 : x.1 > y.1
    · have : ¬ x.1 = y.1 := by omega
      simp [a1, a2, firstNZ, this]
    · have : x.1 = y.1 := by omega
      by_cases b1 : x.2.1 < y.2.1
      · simp [this, b1, firstNZ]
      · by_cases b2 : x.2.1 > y.2.1
        · simp [this, b1, b2, firstNZ]
        · simp [this, b1, b2, firstNZ]

include ha hl hs

theorem near_all : loopR (V := (List (Int × Int × Int)) × Int) (X := ((List (Int × Int × Int)))) (R50x122 N l a) N ([], 0) = some (allC l a) := by
  have key := loopR_foldl (rd := R50x122 N l a) (S := Nat) l (fun j k => ((List.range j).map (choice l a), (k : Int))) (fun j _ => j + 1) (fun j => (List.range j).map (choice l a)) (fun j k => j = k)
    (fun k k' hk hs' => by
      subst hs'
      refine ⟨?_, rfl⟩
      have hx := hs l[k] (List.getElem_mem hk)
      unfold R50x122
      have w1 : IntKind.wrap .i64 (a - l[k].2.1) = a - l[k].2.1 := w64 (by omega)
      have w2 : IntKind.wrap .i64 (l[k].2.1 - a) = l[k].2.1 - a := w64 (by omega)
      have e1 : (List.map n144 ((List.range k).map (choice l a)) ++ [(AV.agg [(AV.int .i64 (if a - l[k].2.1 > l[k].2.1 - a then a - l[k].2.1 else l[k].2.1 - a)), (AV.int .i64 l[k].2.1), (AV.int .i64 (k : Int))])]) = List.map n144 ((List.range (k + 1)).map (choice l a)) := by
        rw [List.range_succ, List.map_append, List.map_append]
        congr 1
        simp only [List.map_cons, List.map_nil, choice_at l a hk]
        rfl
      have e2 : decide ((k + 1) * 24 ≤ 140737488355328) = true := by simp; omega
      simp only [List.length_map, List.length_range, Int.toNat_natCast, lt_range hk, in_range hk, nthD_map n132 l k hk, fn132, dn132, Bool.and_self, cond_true, w_succ (by omega : k < 9223372036854775807), w1, w2, e1, e2, decide_true, fa144, md144, Bool.and_true, Option.bind_some])
    (fun j hj => by
      subst hj
      unfold R50x122
      simp only [List.length_map, List.length_range, ge_range, cond_false, fa144, md144, Bool.and_true, cond_true, Option.bind_some, decide_true]) N 0 0 (Nat.zero_le _) (by unfold Big at hN; omega) rfl
  have e : ∀ (l' : List Tw) (j : Nat), l'.foldl (fun j _ => j + 1) j = j + l'.length := by
    intro l'
    induction l' with
    | nil => intro j; rfl
    | cons x l' ih => intro j; rw [List.foldl_cons, ih]; simp; omega
  simp only [List.drop_zero, e, Nat.zero_add] at key
  exact key

theorem near_min (h1 : 1 ≤ l.length) : loopR (V := (List (Int × Int × Int)) × Int × Int × Int × Int) (X := ((List (Int × Int × Int)) × Int × Int × Int)) (R50x85x122 N) N (allC l a, 1, choice l a 0) = some (allC l a, choice l a (bst l a (l.length - 1))) := by
  obtain ⟨x, h2, h3⟩ := loopR_inv (rd := R50x85x122 N) (Inv := fun v => ∃ k : Nat, k < l.length ∧ v = (allC l a, ((k + 1 : Nat) : Int), choice l a (bst l a k))) (m := fun v => ((l.length : Int) - v.2.1).toNat) (Post := fun x => x = (allC l a, choice l a (bst l a (l.length - 1))))
    (fun v ⟨k, hk, hv⟩ => by
      subst hv
      unfold R50x85x122
      have hb := bst_le l a k
      by_cases hlt : k + 1 < l.length
      · left
        have hlt' : k + 1 < (allC l a).length := by rw [allC_len]; exact hlt
        have c1 : (allC l a)[k + 1] = choice l a (k + 1) := allC_at l a hlt
        have c2 : (choice l a (bst l a k)).2.2 < (choice l a (k + 1)).2.2 := by
          rw [choice_at l a hlt, choice_at l a (by omega : bst l a k < l.length)]
          simp only
          omega
        have c3 : ∀ c : Int × Int × Int, (c.1, c.2.1, c.2.2) = c := fun _ => rfl
        refine ⟨(allC l a, ((k + 1 + 1 : Nat) : Int), choice l a (bst l a (k + 1))), ?_, ⟨k + 1, hlt, rfl⟩, by simp only; omega⟩
        simp only [List.length_map, Int.toNat_natCast, lt_range hlt', in_range hlt', nthD_map n144 (allC l a) (k + 1) hlt', fn144, dn144, Bool.and_self, cond_true, w_succ (by omega : k + 1 < 9223372036854775807), c1, c3, T86_val hN, Option.bind_some, cmp_better c2]
        rw [show bst l a (k + 1) = if betterC (choice l a (k + 1)) (choice l a (bst l a k)) then k + 1 else bst l a k from rfl]
        cases betterC (choice l a (k + 1)) (choice l a (bst l a k)) with
        | true => simp only [cond_true, if_true, fa144, md144, Bool.and_true, Option.bind_some, decide_true]
        | false => simp only [cond_false, cond_true, Bool.false_eq_true, if_false, fa144, md144, Bool.and_true, Option.bind_some, decide_true]
      · right
        have : k = l.length - 1 := by omega
        have z : decide (((k + 1 : Nat) : Int) < ((l.length : Nat) : Int)) = false := by simp; omega
        refine ⟨(allC l a, choice l a (bst l a k)), ?_, by rw [this]⟩
        simp only [List.length_map, allC_len, z, cond_false, fa144, md144, Bool.and_true, cond_true, Option.bind_some, decide_true]) N (allC l a, 1, choice l a 0) ⟨0, h1, rfl⟩ (big_lt hN (by simp only; omega))
  rw [h2, h3]

theorem near_ref (h1 : 1 ≤ l.length) : loopR (V := Int × Int) (X := Int) (R53x122 N l a) N (0, 1) = some ((bst l a (l.length - 1) : Nat) : Int) := by
  obtain ⟨x, h2, h3⟩ := loopR_inv (rd := R53x122 N l a) (Inv := fun v => ∃ k : Nat, k < l.length ∧ v = (((bst l a k : Nat) : Int), ((k + 1 : Nat) : Int))) (m := fun v => ((l.length : Int) - v.2).toNat) (Post := fun x => x = ((bst l a (l.length - 1) : Nat) : Int))
    (fun v ⟨k, hk, hv⟩ => by
      subst hv
      unfold R53x122
      have hb := bst_le l a k
      by_cases hlt : k + 1 < l.length
      · left
        have hbl : bst l a k < l.length := by omega
        have far : ∀ t ∈ l, T89 N (t.2.1, a) = some (farI t.2.1 a) := by
          intro t ht
          have := hs t ht
          rw [T89_eq, w64 (by split <;> split <;> omega)]
          unfold farI
          split <;> split <;> (congr 1; split <;> omega)
        refine ⟨(((bst l a (k + 1) : Nat) : Int), ((k + 1 + 1 : Nat) : Int)), ?_, ⟨k + 1, hlt, rfl⟩, by simp only; omega⟩
        simp only [List.length_map, Int.toNat_natCast, lt_range hlt, in_range hlt, in_range hbl, nthD_map n121 l (k + 1) hlt, nthD_map n121 l _ hbl, fn121, dn121, Bool.and_self, cond_true, w_succ (by omega : k + 1 < 9223372036854775807), far _ (List.getElem_mem hlt), far _ (List.getElem_mem hbl), Option.bind_some, beq_self_eq_true]
        rw [show bst l a (k + 1) = if betterC (choice l a (k + 1)) (choice l a (bst l a k)) then k + 1 else bst l a k from rfl]
        unfold betterC
        rw [choice_at l a hlt, choice_at l a hbl]
        simp only
        by_cases b1 : farI l[k + 1].2.1 a < farI l[bst l a k].2.1 a
        · simp [b1]
        · by_cases b2 : farI l[k + 1].2.1 a = farI l[bst l a k].2.1 a
          · by_cases b3 : l[k + 1].2.1 < l[bst l a k].2.1
            · simp [b2, b3]
            · simp [b2, b3]
          · have b3 : (farI l[k + 1].2.1 a == farI l[bst l a k].2.1 a) = false := by simpa using b2
            simp [b1, b3]
      · right
        have : k = l.length - 1 := by omega
        have z : decide (((k + 1 : Nat) : Int) < ((l.length : Nat) : Int)) = false := by simp; omega
        refine ⟨((bst l a k : Nat) : Int), ?_, by rw [this]⟩
        simp only [List.length_map, z, cond_false]) N (0, 1) ⟨0, h1, rfl⟩ (big_lt hN (by simp only; omega))
  rw [h2, h3]
end near

def nearOf (l : List Tw) (a : Int) : Int × Int := if l.length = 0 then (0, 12) else ((bst l a (l.length - 1) : Nat), 0)

theorem T53_val {N : Nat} (hN : Big N) {l : List Tw} {a : Int} (ha : 1 ≤ a ∧ a ≤ 100000) (h : cTw l = 0) : T53 N (l, a) = some (nearOf l a) := by
  obtain ⟨h1, h2⟩ := cTw_ok h
  rw [T53_eq]
  unfold nearOf
  by_cases h0 : l.length = 0
  · simp [h0]
  · rw [List.length_map, beq0 (by omega), near_ref hN ha h1 h2 (by omega)]
    simp [h0]

theorem T50_val {N : Nat} (hN : Big N) {l : List Tw} {a : Int} (hl : l.length ≤ 9223372036854775807) :
    T50 N (l, a) = some (if firstNZ [cTw l, rng a 1 100000] = 0 then nearOf l a else (0, firstNZ [cTw l, rng a 1 100000])) := by
  rw [T50_eq]
  simp only [fa132, md132, Bool.and_true, cond_true, Option.bind_some, T54_val hN l hl, T73_rng, T74_when, three, List.length_map]
  rw [T72_first hN _ (by simp)]
  simp only [Option.bind_some]
  by_cases h : firstNZ [cTw l, rng a 1 100000] = 0
  · obtain ⟨c1, c2⟩ := firstNZ2z.1 h
    have ha := rng_zero.1 c2
    obtain ⟨h1, h2⟩ := cTw_ok c1
    rw [if_pos h]
    unfold nearOf
    by_cases h0 : l.length = 0
    · simp [h0, c1, c2, firstNZ]
    · have z : (((l.length : Nat) : Int) == 0) = false := beq0 (by omega)
      have e0 : firstNZ [cTw l, rng a 1 100000, if (((l.length : Nat) : Int) == 0) = true then 12 else 0] = 0 := by rw [z, c1, c2]; rfl
      have z2 : decide (((l.length : Nat) : Int) < 1) = false := by simp; omega
      have hpos : 0 < (allC l a).length := by rw [allC_len]; omega
      have z3 : decide ((0 : Int) ≤ 0 ∧ (0 : Int) < ((l.length : Nat) : Int)) = true := by simp; omega
      have z4 : nthD (List.map n144 (allC l a)) (Int.toNat 0) = n144 (choice l a 0) := by
        rw [show Int.toNat 0 = 0 from rfl, nthD_map n144 _ 0 hpos, allC_at l a (by omega)]
      rw [e0]
      simp only [bne_self_eq_false, cond_false, allFit_nil, List.map_nil, cond_true, Option.bind_some, List.length_nil, decide_true, near_all hN ha h1 h2, allC_len, z2, z3, z4, fn144, dn144, Bool.and_self, fa144, md144]
      have nm := near_min hN ha h1 h2 (by omega)
      rw [show (allC l a, 1, (choice l a 0).1, (choice l a 0).2.1, (choice l a 0).2.2) = (allC l a, (1 : Int), choice l a 0) from rfl, nm]
      have hb := bst_le l a (l.length - 1)
      simp only [Option.bind_some, h0, if_false]
      rw [choice_at l a (by omega : bst l a (l.length - 1) < l.length)]
  · rw [if_neg h]
    have e0 : firstNZ [cTw l, rng a 1 100000, if (((l.length : Nat) : Int) == 0) = true then 12 else 0] = firstNZ [cTw l, rng a 1 100000] := by
      simp only [firstNZ] at h ⊢
      by_cases c1 : cTw l = 0
      · simp only [c1, if_true] at h ⊢
        by_cases c2 : rng a 1 100000 = 0
        · simp [c2] at h
        · simp [c2]
      · simp [c1]
    rw [e0, bne0 h]
    rfl

theorem T7_true {N : Nat} (hN : Big N) (l : List Tw) (hl : l.length ≤ 9223372036854775807) (a : Int) : T7 N (l, a) = some true := by
  have h22 : T22 N () = some true := rfl
  have two3 : ∀ x y : Int, ((bif (allFit (Pat.fits p3) [(AV.int .i64 x), (AV.int .i64 y)]) then some (List.map d3 [(AV.int .i64 x), (AV.int .i64 y)]) else none : Option ((List Int)))) = some [x, y] := fun _ _ => rfl
  rw [T7_eq]
  simp only [fa121, md121, Bool.and_true, cond_true, Option.bind_some, T49_short hN l hl, h22]
  cases hsh : shortT l with
  | false => rfl
  | true =>
    have hl1 : l.length ≤ 1000000 := by
      unfold shortT at hsh
      rw [Bool.and_eq_true] at hsh
      have := of_decide_eq_true hsh.1
      omega
    simp only [Bool.not_true, cond_false, T51_id hN l hl1, Option.bind_some, fa132, md132, cond_true, T52_val hN l hl, T50_val hN hl, T54_val hN l hl, T27_rng, two3]
    rw [T26_first hN _ (by simp)]
    simp only [Option.bind_some, beq_self_eq_true, cond_true]
    by_cases h : firstNZ [cTw l, rng a 1 100000] = 0
    · obtain ⟨c1, c2⟩ := firstNZ2z.1 h
      simp only [h, beq_self_eq_true, cond_true, if_true, T53_val hN (rng_zero.1 c2) c1, Option.bind_some]
    · simp only [beq0 h, cond_false, h, if_false, Option.bind_some, beq_self_eq_true, cond_true]
end Go.Proofs.YtpngggdfbbdfaaaDoor
