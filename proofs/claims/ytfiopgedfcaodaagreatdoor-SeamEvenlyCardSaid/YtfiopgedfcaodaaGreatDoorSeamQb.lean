/- Plain laws: the law of even seams. -/
import Derived.Test.YtfiopgedfcaodaaGreatDoorSeamQa
import Derived.Test.YtfiopgedfcaodaaGreatDoorSeamPc
import Derived.Test.YtfiopgedfcaodaaGreatDoorSeamTd
set_option linter.all false
namespace Go.Proofs.YtfiopgedfcaodaaGreatDoor
open Go Go.Am
set_option maxRecDepth 100000

theorem T60_iff {N : Nat} (hN : Big N) (l r : List Int) (hl : l.length ≤ 1000000) : T60 N (l, r) = some (decide (l = r)) := by
  rw [T60_eq]
  simp only [List.length_map]
  by_cases h : l.length = r.length
  · have hb : ((l.length : Int) != (r.length : Int)) = false := by simp [h]
    have q := find_gen (rd := R60x58 N l r) l.length (fun k => (k : Int)) (fun k => !decide (l.getD k 0 = r.getD k 0)) (fun _ => .inl false) (.inr ()) (fun k hk => by
      obtain ⟨a1, a2⟩ := at3 l hk
      have hk2 : k < r.length := by omega
      obtain ⟨b1, b2⟩ := at3 r hk2
      have e1 : l.getD k 0 = l[k] := by simp [hk]
      have e2 : r.getD k 0 = r[k] := by simp [hk2]
      rw [e1, e2]
      simp only [R60x58, List.length_map, Int.toNat_natCast, a1, a2, b1, b2, lt_range hk, in_range hk, in_range hk2, Bool.and_self, cond_true, w_succ (show k < 9223372036854775807 by omega)]
      by_cases c : l[k] = r[k]
      · simp [c]
      · have hc : (l[k] != r[k]) = true := bne_iff_ne.2 c
        simp [c, hc]) (by simp only [R60x58, List.length_map, ge_range, cond_false]) N (by unfold Big at hN; omega)
    have q' : loopR (R60x58 N l r) N 0 = _ := q
    rw [hb, cond_false, q', Option.bind_some]
    cases hf : (List.range l.length).find? fun k => !decide (l.getD k 0 = r.getD k 0) with
    | none =>
      rw [List.find?_eq_none] at hf
      have e : l = r := List.ext_getElem h fun k h1 h2 => by
        have := hf k (List.mem_range.2 h1)
        simpa [h1, h2] using this
      simp [e]
    | some k =>
      have h2 := List.find?_some hf
      have e : ¬ l = r := by rintro rfl; simp at h2
      simp [e]
  · have hb : ((l.length : Int) != (r.length : Int)) = true := bne_iff_ne.2 (by omega)
    have e : ¬ l = r := by rintro rfl; exact h rfl
    rw [hb, cond_true]
    simp [e]

theorem T64_turn {N : Nat} (hN : Big N) (l r : List Int) (hlr : l.length = r.length) (hl : l.length ≤ 1000000) : T64 N (l, r) = some ((List.range l.length).find? fun k => decide (r.drop k ++ r.take k = l)).isSome := by
  rw [T64_eq]
  have q := find_gen (rd := R64x26 N l r) l.length (fun k => (k : Int)) (fun k => decide (r.drop k ++ r.take k = l)) (fun _ => .inl true) (.inr ()) (fun k hk => by
    have c1 : decide ((0 : Int) ≤ (k : Int) ∧ (k : Int) ≤ (r.length : Int)) = true := decide_eq_true (by omega)
    have ne : List.isEmpty (List.map n3 (r.drop k)) = false := by
      cases hd : r.drop k with
      | nil => have := congrArg List.length hd; simp at this; omega
      | cons x l => rfl
    have hb : decide ((r.length - k) * 8 ≤ 140737488355328) = true := decide_eq_true (by omega)
    have hb2 : decide (((r.length - k) + min k r.length) * 8 ≤ 140737488355328) = true := decide_eq_true (by omega)
    have hk0 : min k r.length = k := Nat.min_eq_left (by omega)
    have hT := T60_iff hN (r.drop k ++ r.take k) l (by simp; omega)
    simp only [R64x26, List.length_map, Int.toNat_natCast, lt_range hk, c1, Bool.and_self, Bool.and_true, cond_true, sub_map3, List.drop_zero, List.take_length, ne, cond_false, List.length_drop, List.length_take, List.nil_append, hb, Nat.zero_add, decide_true, ← List.map_append, fa3, md3, Option.bind_some, hT, w_succ (show k < 9223372036854775807 by omega)]
    simp only [hb2, cond_true]
    cases decide (r.drop k ++ r.take k = l) <;> simp) (by simp only [R64x26, List.length_map, ge_range, cond_false]) N (by unfold Big at hN; omega)
  have q' : loopR (R64x26 N l r) N 0 = _ := q
  rw [q', Option.bind_some]
  cases (List.range l.length).find? fun k => decide (r.drop k ++ r.take k = l) <;> rfl

theorem ME109 : MapEnc .int (fun k => AV.int .i64 k) (fun v => AV.int .i64 v) nM109 := ⟨fun a b => eqK_int .i64 a b, fun _ => rfl, fun _ => rfl⟩
theorem mk109 (k : Int) (m : List (Int × Int)) : mkeys .int (AV.int .i64 k) (entriesL (List.map nM109 m)) = true := ME109.keys k m
theorem mg109 (k : Int) (m : List (Int × Int)) : mgetD .int (AV.int .i64 k) (AV.int .i64 0) (entriesL (List.map nM109 m)) = n3 ((getM k m).getD 0) := ME109.getD k 0 m
theorem mp109 (k v : Int) (m : List (Int × Int)) : mputT .int (AV.int .i64 k) (AV.int .i64 v) (entriesL (List.map nM109 m)) = entriesL (List.map nM109 (putM k v m)) := ME109.put k v m
theorem mc109 (m : List (Int × Int)) : mcells (entriesL (List.map nM109 m)) = List.map nM109 m := ME109.cells m
theorem ax109 (m : List (Int × Int)) : allX (entriesL (List.map nM109 m)) = true := ME109.allX m
theorem ln109 (m : List (Int × Int)) : (entriesL (List.map nM109 m)).length = m.length := by rw [ME109.ent, List.length_map]

theorem evM_bound {x n : Nat} (k : Nat) (j : Nat) : 0 ≤ (getM (j : Int) (evM x n k)).getD 0 ∧ (getM (j : Int) (evM x n k)).getD 0 ≤ (k : Int) := by
  have hg : getM (j : Int) (evM x n k) = _ := getM_range (fun i => (evR x n k i : Int)) j (evN x n k)
  rw [hg]
  have : evR x n k j ≤ k := by unfold evR; omega
  split <;> simp <;> omega

section
variable {N : Nat} (hN : Big N) {a b : Nat} (ha : 1 ≤ a) (ha' : a ≤ 256) (hb : 1 ≤ b) (hb' : b ≤ 256)
include hN ha ha' hb hb'
theorem R8_maps : loopR (R8x506 N (jns (a : Int) (b : Int), 0)) N (0, [], []) = some (evM a (max a b) (max a b), evM b (max a b) (max a b)) := by
  have key := loopR_count (rd := R8x506 N (jns (a : Int) (b : Int), 0)) (max a b) (fun k => ((k : Int), evM a (max a b) k, evM b (max a b) k)) (evM a (max a b) (max a b), evM b (max a b) (max a b)) (fun k hk => by
    have hj : k < (jns (a : Int) (b : Int)).length := by rw [jns_len]; exact hk
    obtain ⟨a1, a2⟩ := at46 _ hj
    rw [jns_get a b hk] at a1
    have g1 := evM_step ha (Nat.le_max_left a b) k
    have g2 := evM_step hb (Nat.le_max_right a b) k
    have b1 := evM_bound (x := a) (n := max a b) k (evQ a (max a b) k)
    have b2 := evM_bound (x := b) (n := max a b) k (evQ b (max a b) k)
    have w1 : IntKind.wrap .i64 ((getM (evQ a (max a b) k : Int) (evM a (max a b) k)).getD 0 + 1) = (getM (evQ a (max a b) k : Int) (evM a (max a b) k)).getD 0 + 1 := w64 (by omega)
    have w2 : IntKind.wrap .i64 ((getM (evQ b (max a b) k : Int) (evM b (max a b) k)).getD 0 + 1) = (getM (evQ b (max a b) k : Int) (evM b (max a b) k)).getD 0 + 1 := w64 (by omega)
    simp only [R8x506, List.length_map, Int.toNat_natCast, a1, a2, lt_range hj, in_range hj, Bool.and_self, Bool.and_true, cond_true, mk109, mg109, fn3, dn3, w1, w2, mp109, g1, g2, mc109, ax109, faM109, mdM109, Option.bind_some, w_succ (show k < 9223372036854775807 by omega)]) (by
    have hj : (jns (a : Int) (b : Int)).length = max a b := jns_len a b
    simp only [R8x506, List.length_map, hj, ge_range, cond_false, mc109, ax109, faM109, mdM109, Option.bind_some, Bool.and_self, Bool.and_true, cond_true]) N 0 (Nat.zero_le _) (by unfold Big at hN; omega)
  exact key
theorem R8_cmp {a0 a1 : Int} (ea : IntKind.wrap .i64 (1 + Int.tmod (IntKind.wrap .i64 a0) 40) = (a : Int)) (eb : IntKind.wrap .i64 (1 + Int.tmod (IntKind.wrap .i64 a1) 40) = (b : Int)) :
    loopR (R8x16378 N a0 a1 (evRuns (min a b) (max a b) 0, 0)) N (0, 0, evM a (max a b) (max a b), evM b (max a b) (max a b)) = some (.inr ((max a b : Nat), evM a (max a b) (max a b), evM b (max a b) (max a b))) := by
  have hs : 1 ≤ min a b := by omega
  have hsL : min a b ≤ max a b := by omega
  have key := loopR_count (rd := R8x16378 N a0 a1 (evRuns (min a b) (max a b) 0, 0)) (min a b) (fun k => ((evC (min a b) (max a b) k : Int), (k : Int), evM a (max a b) (max a b), evM b (max a b) (max a b))) (.inr ((max a b : Nat), evM a (max a b) (max a b), evM b (max a b) (max a b))) (fun k hk => by
    have hj : k < (evRuns (min a b) (max a b) 0).length := by simp only [evRuns, List.length_map, List.length_range]; exact hk
    obtain ⟨a1, a2⟩ := at3 _ hj
    have hg : (evRuns (min a b) (max a b) 0)[k] = (evC (min a b) (max a b) (k + 1) : Int) - (evC (min a b) (max a b) k : Int) := by simp [evRuns]
    rw [hg] at a1
    have m1 := evC_mono hs (n := max a b) (show k + 1 ≤ min a b by omega)
    have m2 := evC_mono hs (n := max a b) (show k ≤ min a b by omega)
    rw [evC_all hs] at m1 m2
    have hw : IntKind.wrap .i64 ((evC (min a b) (max a b) k : Int) + ((evC (min a b) (max a b) (k + 1) : Int) - (evC (min a b) (max a b) k : Int))) = (evC (min a b) (max a b) (k + 1) : Int) := by rw [w64 (by omega)]; omega
    by_cases hab : (a : Int) > (b : Int)
    · have e : min a b = b := Nat.min_eq_right (by omega)
      obtain ⟨_, hq⟩ := evM_all hb (Nat.le_max_right a b)
      have hq : getM (k : Int) (evM b (max a b) (max a b)) = some ((evC (min a b) (max a b) (k + 1) : Int) - (evC (min a b) (max a b) k : Int)) := by rw [e]; exact hq k (by omega)
      simp only [R8x16378, ea, eb, List.length_map, Int.toNat_natCast, a1, a2, lt_range hj, in_range hj, hab, decide_true, Bool.and_self, Bool.and_true, cond_true, mc109, ax109, faM109, mdM109, Option.bind_some, mk109, mg109, fn3, dn3, hq, Option.getD_some, bne_self_eq_false, cond_false, hw, w_succ (show k < 9223372036854775807 by omega), show decide ((1 : Int) = 0) = false from rfl]
    · have e : min a b = a := Nat.min_eq_left (by omega)
      obtain ⟨_, hq⟩ := evM_all ha (Nat.le_max_left a b)
      have hq : getM (k : Int) (evM a (max a b) (max a b)) = some ((evC (min a b) (max a b) (k + 1) : Int) - (evC (min a b) (max a b) k : Int)) := by rw [e]; exact hq k (by omega)
      simp only [R8x16378, ea, eb, List.length_map, Int.toNat_natCast, a1, a2, lt_range hj, in_range hj, hab, decide_true, decide_false, Bool.and_self, Bool.and_true, cond_true, mc109, ax109, faM109, mdM109, Option.bind_some, mk109, mg109, fn3, dn3, hq, Option.getD_some, bne_self_eq_false, cond_false, hw, w_succ (show k < 9223372036854775807 by omega)]) (by
    have hl : (evRuns (min a b) (max a b) 0).length = min a b := by simp [evRuns]
    simp only [R8x16378, List.length_map, hl, ge_range, cond_false, mc109, ax109, faM109, mdM109, Option.bind_some, Bool.and_self, Bool.and_true, cond_true, evC_all hs]) N 0 (Nat.zero_le _) (by unfold Big at hN; omega)
  have key' : loopR (R8x16378 N a0 a1 (evRuns (min a b) (max a b) 0, 0)) N ((evC (min a b) (max a b) 0 : Int), 0, evM a (max a b) (max a b), evM b (max a b) (max a b)) = _ := key
  rw [evC_zero hs] at key'
  exact key'
end
theorem R8_sum {N : Nat} (hN : Big N) (l : List Int) (hl : l.length ≤ 256) (hx : ∀ x ∈ l, 1 ≤ x ∧ x ≤ 256) (m1 m2 : List (Int × Int)) : loopR (R8x1048570 N l) N (0, 0, m1, m2) = some (l.sum, m1, m2) := by
  have key := loopR_foldl (rd := R8x1048570 N l) l (fun s k => (s, (k : Int), m1, m2)) (fun s x => s + x) (fun s => (s, m1, m2)) (fun s k => 0 ≤ s ∧ s ≤ 256 * (k : Int)) (fun s k hk hs => by
    obtain ⟨a1, a2⟩ := at3 l hk
    have := hx _ (List.getElem_mem hk)
    have hw : IntKind.wrap .i64 (s + l[k]) = s + l[k] := w64 (by omega)
    refine ⟨?_, by omega⟩
    simp only [R8x1048570, List.length_map, Int.toNat_natCast, a1, a2, lt_range hk, in_range hk, Bool.and_self, Bool.and_true, cond_true, hw, mc109, ax109, faM109, mdM109, Option.bind_some, w_succ (show k < 9223372036854775807 by omega)]) (fun s _ => by
    simp only [R8x1048570, List.length_map, ge_range, cond_false, mc109, ax109, faM109, mdM109, Option.bind_some, Bool.and_self, Bool.and_true, cond_true]) N 0 0 (Nat.zero_le _) (by unfold Big at hN; omega) ⟨Int.le_refl _, by simp⟩
  have key' : loopR (R8x1048570 N l) N (0, 0, m1, m2) = _ := key
  rw [key', List.drop_zero, foldl_sum]
  simp
theorem len_sum : ∀ (l : List Int), (∀ x ∈ l, 1 ≤ x ∧ x ≤ 256) → (l.length : Int) ≤ l.sum
  | [], _ => by simp
  | x :: l, h => by
    have h1 := h x (by simp)
    have h2 := len_sum l fun y hy => h y (by simp [hy])
    rw [List.sum_cons, List.length_cons]; omega
theorem chkR_of {l : List Int} (h1 : 1 ≤ l.length) (h2 : l.length ≤ 256) (hx : ∀ x ∈ l, 1 ≤ x) (hs : l.sum ≤ 256) : chkR l = 0 := by
  have hx2 : ∀ x ∈ l, 1 ≤ x ∧ x ≤ 256 := by
    have gen : ∀ (l : List Int), (∀ x ∈ l, 1 ≤ x) → 0 ≤ l.sum ∧ ∀ x ∈ l, x ≤ l.sum := by
      intro l
      induction l with
      | nil => intro _; simp
      | cons y l ih =>
        intro h
        have h1 := h y (by simp)
        obtain ⟨h2, h3⟩ := ih fun z hz => h z (by simp [hz])
        rw [List.sum_cons]
        refine ⟨by omega, fun x hx => ?_⟩
        rcases List.mem_cons.1 hx with rfl | hx
        · omega
        · have := h3 x hx; omega
    intro x h
    have := (gen l hx).2 x h
    exact ⟨hx x h, by omega⟩
  have hf : ∀ (l : List Int) (s : Int), (∀ x ∈ l, 1 ≤ x ∧ x ≤ 256) → foldI stR s l = .inl (s + l.sum) := by
    intro l
    induction l with
    | nil => intro s _; simp [foldI]
    | cons y l ih =>
      intro s h
      have h1 := h y (by simp)
      have hr : rng y 1 256 = 0 := by unfold rng; rw [if_neg (by omega)]
      have hst : stR s y = .inl (s + y) := by unfold stR; rw [hr]; rfl
      simp only [foldI, hst, Sum.elim_inl]
      rw [ih _ fun z hz => h z (by simp [hz]), List.sum_cons]
      congr 1
      omega
  unfold chkR
  rw [if_neg (by omega), if_neg (by omega), hf l 0 hx2, Sum.elim_inl, if_neg (by omega)]

theorem a40 (x : Int) (h : 0 ≤ x ∧ x ≤ 255) : ∃ a : Nat, 1 ≤ a ∧ a ≤ 256 ∧ IntKind.wrap .i64 (1 + Int.tmod (IntKind.wrap .i64 x) 40) = (a : Int) := by
  refine ⟨(1 + Int.tmod x 40).toNat, ?_, ?_, ?_⟩
  · rw [Int.tmod_eq_emod_of_nonneg h.1]; omega
  · rw [Int.tmod_eq_emod_of_nonneg h.1]; omega
  · rw [w64 (x := x) (by omega), Int.tmod_eq_emod_of_nonneg h.1, w64 (by omega)]; omega

theorem turn_even {N : Nat} (l : List Int) (hl : 1 ≤ l.length) (hs : (l.length : Int) ≤ l.sum) (h : ((List.range l.length).find? fun k => decide ((evRuns (min l.length l.sum.toNat) (max l.length l.sum.toNat) 0).drop k ++ (evRuns (min l.length l.sum.toNat) (max l.length l.sum.toNat) 0).take k = l)).isSome = true) : evenR l = true := by
  rw [List.find?_isSome] at h
  obtain ⟨k, hk, he⟩ := h
  have hk := List.mem_range.1 hk
  have he := of_decide_eq_true he
  have e1 : min l.length l.sum.toNat = l.length := Nat.min_eq_left (by omega)
  have e2 : max l.length l.sum.toNat = l.sum.toNat := Nat.max_eq_right (by omega)
  rw [e1, e2, evRuns_turn hl (by omega) (by omega)] at he
  rw [← he]
  exact evRuns_even hl (by omega) k

theorem T8_true {N : Nat} (hN : Big N) (a0 a1 : Int) (h0 : 0 ≤ a0 ∧ a0 ≤ 255) (h1 : 0 ≤ a1 ∧ a1 ≤ 255) (l : List Int) : T8 N (a0, a1, l) = some true := by
  obtain ⟨a, ha, ha', ea⟩ := a40 a0 h0
  obtain ⟨b, hb, hb', eb⟩ := a40 a1 h1
  have hs : 1 ≤ min a b := by omega
  have hsL : min a b ≤ max a b := by omega
  have hL : max a b ≤ 256 := by omega
  have emax : (if (b : Int) > (a : Int) then (b : Int) else (a : Int)) = ((max a b : Nat) : Int) := by split <;> omega
  have emin : (if (b : Int) < (a : Int) then (b : Int) else (a : Int)) = ((min a b : Nat) : Int) := by split <;> omega
  have hjl : (jns (a : Int) (b : Int)).length ≤ 1000000 := by rw [jns_len]; omega
  have hrl : (evRuns (min a b) (max a b) 0).length = min a b := by simp [evRuns]
  have hrc : chkR (evRuns (min a b) (max a b) 0) = 0 := chkR_of (by omega) (by omega) (evRuns_in hs hsL 0) (by rw [evRuns_sum hs hsL]; omega)
  have z3 : ∀ (a : List Int), allFit (Pat.fits p3) ([] ++ List.map n3 a) = true := fun a => fa3 a
  have m3 : ∀ (a : List Int), List.map d3 ([] ++ List.map n3 a) = a := fun a => md3 a
  have n0 : mcells ([] : List (AV × AV)) = [] := rfl
  have x0 : allX ([] : List (AV × AV)) = true := rfl
  have f0 : allFit (Pat.fits pM109) [] = true := rfl
  have g0 : allFit (Pat.fits p3) [] = true := rfl
  have q61 := T61_runs hN (a : Int) (b : Int) (jns (a : Int) (b : Int)) hjl
  rw [chkJ_jns ha ha' hb hb', if_pos rfl, runs_jns ha ha' hb hb'] at q61
  have q62 := T62_even hN (evRuns (min a b) (max a b) 0) (by omega)
  rw [hrc, if_pos rfl, evRuns_even hs hsL] at q62
  have q19 : T19 N ((a : Int), (b : Int), jns (a : Int) (b : Int)) = some 0 := by rw [T19_chk hN _ hjl, chkJ_jns ha ha' hb hb']
  have ne : List.isEmpty (List.map n3 (evRuns (min a b) (max a b) 0)) = false := by
    cases hd : evRuns (min a b) (max a b) 0 with
    | nil => have := congrArg List.length hd; simp [hrl] at this; omega
    | cons x l => rfl
  have hb1 : decide ((0 + min a b) * 8 ≤ 140737488355328) = true := decide_eq_true (by omega)
  have T16_eq : ∀ u, T16 N u = some true := fun _ => rfl
  have la := (evM_all ha (Nat.le_max_left a b)).1
  have lb := (evM_all hb (Nat.le_max_right a b)).1
  have hne1 : ((0 : Int) != 0) = false := rfl
  have q17 : T17 N ((a : Int), (b : Int)) = some (jns (a : Int) (b : Int), 0) := T17_jns (by omega) (by omega) (by omega) (by omega) hN (chkM_nat ha ha' hb hb')
  rw [T8_eq]
  simp only [ea, eb, emax, emin, q17, Option.bind_some, hne1, cond_false, List.length_map, jns_len, bne_self_eq_false, fa46, md46, Bool.and_true, cond_true, T20_same N _ hjl, q19, n0, x0, f0, List.map_nil, Bool.and_self, R8_maps hN ha ha' hb hb', ln109, la, lb, mc109, ax109, faM109, mdM109, q61, hrl, R8_cmp hN ha ha' hb hb' ea eb, Sum.elim_inr, ne, hb1, z3, m3, q62, Bool.not_true]
  by_cases hl12 : (l.length : Int) > 12
  · simp only [hl12, decide_true, cond_true, Option.bind_some, T16_eq]
  · have hl : l.length ≤ 1000000 := by omega
    simp only [hl12, decide_false, cond_false, fa3, md3, cond_true, Option.bind_some, T63_chk hN l hl]
    by_cases hc : chkR l = 0
    · obtain ⟨c1, c2, c3, c4⟩ := chkR_ok hc
      have c5 := len_sum l c3
      have hsum : l.sum = ((l.sum.toNat : Nat) : Int) := by omega
      have k17 : T17 N ((l.length : Int), l.sum) = some (jns (l.length : Int) l.sum, 0) := by
        refine T17_jns (by omega) (by omega) (by omega) (by omega) hN ?_
        rw [hsum]
        exact chkM_nat (by omega) (by omega) (by omega) (by omega)
      have kmax : max l.length l.sum.toNat = l.sum.toNat := Nat.max_eq_right (by omega)
      have kmin : min l.length l.sum.toNat = l.length := Nat.min_eq_left (by omega)
      have klen : (jns (l.length : Int) l.sum).length = l.sum.toNat := by
        conv => lhs; rw [hsum]
        rw [jns_len, kmax]
      have k61 : T61 N ((l.length : Int), l.sum, jns (l.length : Int) l.sum) = some (evRuns (min l.length l.sum.toNat) (max l.length l.sum.toNat) 0, 0) := by
        generalize l.sum.toNat = S at *
        rw [hsum, T61_runs hN _ _ _ (by rw [jns_len]; omega), chkJ_jns (by omega) (by omega) (by omega) (by omega), if_pos rfl, runs_jns (by omega) (by omega) (by omega) (by omega)]
      have krl : (evRuns (min l.length l.sum.toNat) (max l.length l.sum.toNat) 0).length = l.length := by rw [kmin]; simp [evRuns]
      have k64 := T64_turn hN l (evRuns (min l.length l.sum.toNat) (max l.length l.sum.toNat) 0) krl.symm hl
      have kturn := turn_even (N := N) l c1 c5
      have k62 := T62_even hN l hl
      rw [hc, if_pos rfl] at k62
      have nel : List.isEmpty (List.map n3 l) = false := by
        cases hd : l with
        | nil => rw [hd] at c1; simp at c1
        | cons x l => rfl
      have hbl : decide ((0 + l.length) * 8 ≤ 140737488355328) = true := decide_eq_true (by omega)
      have hsb : ((l.sum.toNat : Int) != l.sum) = false := by rw [← hsum]; simp
      simp only [hc, hne1, nel, cond_false, hbl, cond_true, z3, m3, Option.bind_some, k62, R8_sum hN l c2 c3, k17, klen, hsb, fa46, md46, k61, krl, bne_self_eq_false, k64, T16_eq, mc109, ax109, faM109, mdM109, fa3, md3, Bool.and_self]
      cases hq : ((List.range l.length).find? fun k => decide ((evRuns (min l.length l.sum.toNat) (max l.length l.sum.toNat) 0).drop k ++ (evRuns (min l.length l.sum.toNat) (max l.length l.sum.toNat) 0).take k = l)).isSome with
      | false => rfl
      | true => rw [kturn hq]; rfl
    · have hcb : (chkR l != 0) = true := bne_iff_ne.2 hc
      simp only [hcb, cond_true, Option.bind_some, T16_eq, mc109, ax109, faM109, mdM109]
theorem u8b {x : Int} (h : Pat.wf (.int .u8) x) : 0 ≤ x ∧ x ≤ 255 := h
end Go.Proofs.YtfiopgedfcaodaaGreatDoor
