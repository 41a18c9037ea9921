/- Plain laws: ropes that are joined. -/
import Derived.Test.YtpngggdfbbdfaaaDoorHangPk
set_option linter.all false
namespace Go.Proofs.YtpngggdfbbdfaaaDoor
open Go Go.Am
set_option maxRecDepth 100000

theorem T67_sane (N : Nat) {r : Int × Int} (h1 : 0 ≤ r.1) (h2 : r.1 ≤ 999999999) (h3 : 0 < r.2) (h4 : r.2 ≤ 999999999) : T67 N r = some true := by
  rw [T67_eq]
  have e1 : decide (r.1 ≥ 0) = true := by simp; omega
  have e2 : decide (r.1 ≤ 999999999) = true := by simp; omega
  have e3 : decide (r.2 > 0) = true := by simp; omega
  have e4 : decide (r.2 ≤ 999999999) = true := by simp; omega
  simp only [e1, e2, e3, e4, cond_true, Option.bind_some]

theorem okM_bounds {x : Int} (h : okM x = true) : (lw x).1 ≤ 999999999 ∧ (lw x).2 ≤ 999999999 := by
  unfold okM bigR at h
  simp at h
  omega

theorem T67_lw (N : Nat) {x : Int} (hx : 0 ≤ x) (hx' : x ≤ 838472242608000000) (h : okM x = true) : T67 N (lw x) = some true := by
  obtain ⟨f1, f2, _⟩ := lw_facts hx hx'
  obtain ⟨g1, g2⟩ := okM_bounds h
  exact T67_sane N f1 g1 f2 g2

theorem T68_lw (N : Nat) {x y z : Int} (hx : 0 ≤ x) (hx' : x ≤ 838472242608000000) (hy : 0 ≤ y) (hy' : y ≤ 838472242608000000) (hz' : x + y ≤ 838472242608000000) (e : z = x + y) : T68 N (lw x, lw y, lw z) = some true := by
  subst e
  obtain ⟨a1, a2, a3, a4, a5, a6, a7, a8⟩ := lw_facts hx hx'
  obtain ⟨b1, b2, b3, b4, b5, b6, b7, b8⟩ := lw_facts hy hy'
  obtain ⟨c1, c2, c3, c4, c5, c6, c7, c8⟩ := lw_facts (x := x + y) (by omega) hz'
  rw [T68_eq]
  have za : decide ((lw x).2 = 0) = false := by simp; omega
  have zb : decide ((lw y).2 = 0) = false := by simp; omega
  have zc : decide ((lw (x + y)).2 = 0) = false := by simp; omega
  have wa : IntKind.wrap .i64 (2000000 * (lw x).2) = 2000000 * (lw x).2 := w64 (by omega)
  have wb : IntKind.wrap .i64 (2000000 * (lw y).2) = 2000000 * (lw y).2 := w64 (by omega)
  have wc : IntKind.wrap .i64 (2000000 * (lw (x + y)).2) = 2000000 * (lw (x + y)).2 := w64 (by omega)
  have da : decide ((lw x).1 > 2000000 * (lw x).2) = false := by simp; omega
  have db : decide ((lw y).1 > 2000000 * (lw y).2) = false := by simp; omega
  have dc : decide ((lw (x + y)).1 > 2000000 * (lw (x + y)).2) = false := by simp; omega
  have ta : IntKind.wrap .i64 (Int.tdiv 2329089562800 (lw x).2) = Int.tdiv 2329089562800 (lw x).2 := w64 (by omega)
  have tb : IntKind.wrap .i64 (Int.tdiv 2329089562800 (lw y).2) = Int.tdiv 2329089562800 (lw y).2 := w64 (by omega)
  have tc : IntKind.wrap .i64 (Int.tdiv 2329089562800 (lw (x + y)).2) = Int.tdiv 2329089562800 (lw (x + y)).2 := w64 (by omega)
  have pa : IntKind.wrap .i64 x = x := w64 (by omega)
  have pb : IntKind.wrap .i64 y = y := w64 (by omega)
  have pc : IntKind.wrap .i64 (x + y) = x + y := w64 (by omega)
  simp only [za, zb, zc, a4, b4, c4, Bool.not_false, cond_true, bne_self_eq_false, cond_false, Option.bind_some, wa, wb, wc, da, db, dc, ta, tb, tc, a5, b5, c5, pa, pb, pc, beq_self_eq_true]

theorem sub_map112 (l : List Sec) (k : Nat) : subA 0 k (List.map n112 l) = List.map n112 (l.take k) := by simp [subA, List.map_take]
theorem sub_map23 (l : List (Int × Int)) (k : Nat) : subA 0 k (List.map n23 l) = List.map n23 (l.take k) := by simp [subA, List.map_take]
theorem sl112 (l : List Sec) : sameL (List.map n112 l) (List.map n112 l) = true := by
  induction l with
  | nil => rfl
  | cons s l ih =>
    rw [List.map_cons, sameL, ih]
    rw [show sameA (n112 s) (n112 s) = ((true && s.1 == s.1) && ((true && s.2.1 == s.2.1) && ((true && s.2.2 == s.2.2) && true))) from rfl]
    simp

section join
variable {bar : Int} (hb : 1 ≤ bar ∧ bar ≤ 100) {l : List Sec} (hl : l.length ≤ 5) (hs : ∀ s ∈ l, OkS s)
include hb hs

theorem us_in : ∀ u ∈ us bar l, 0 ≤ u ∧ u ≤ 13974537376800000 := by
  induction l with
  | nil => intro u hu; simp [us] at hu
  | cons s l ih =>
    intro u hu
    simp only [us, List.mem_append, List.mem_replicate] at hu
    rcases hu with ⟨_, rfl⟩ | hu
    · obtain ⟨_, _, _, _, f5, f6, _⟩ := unit_facts hb (hs s (by simp))
      exact ⟨f5, f6⟩
    · exact ih (fun s hs' => hs s (by simp [hs'])) u hu

omit hb in
theorem us_len : (us bar l).length ≤ 12 * l.length := by
  induction l with
  | nil => simp [us]
  | cons s l ih =>
    have h1 := (hs s (by simp)).2.1
    have h2 := ih (fun s hs' => hs s (by simp [hs']))
    simp only [us, List.length_append, List.length_replicate, List.length_cons]
    omega

omit hb hs in
theorem sum_in {x : List Int} (h : ∀ u ∈ x, 0 ≤ u ∧ u ≤ 13974537376800000) : 0 ≤ x.sum ∧ x.sum ≤ x.length * 13974537376800000 := by
  induction x with
  | nil => simp
  | cons u x ih =>
    have h1 := h u (by simp)
    have h2 := ih fun u hu => h u (by simp [hu])
    simp only [List.sum_cons, List.length_cons]
    omega

include hl
theorem pre_in (j : Nat) : 0 ≤ ((us bar l).take j).sum ∧ ((us bar l).take j).sum ≤ 838472242608000000 := by
  have h1 := sum_in (x := (us bar l).take j) fun u hu => us_in hb hs u (List.mem_of_mem_take hu)
  have h2 : ((us bar l).take j).length ≤ 60 := by
    rw [List.length_take]
    have := us_len (bar := bar) hs
    omega
  omega
theorem all_in : 0 ≤ (us bar l).sum ∧ (us bar l).sum ≤ 838472242608000000 := by
  have := pre_in hb hl hs (us bar l).length
  rwa [List.take_length] at this

omit hb hl hs in
theorem ms_len : (msOf bar l).length = (us bar l).length + 1 := by simp [msOf, ps_len]
omit hb hl hs in
theorem ms_at {j : Nat} (hj : j ≤ (us bar l).length) : (msOf bar l)[j]'(by rw [ms_len]; omega) = lw ((us bar l).take j).sum := by
  have h := ps_get (us bar l) 0 j hj
  have h2 : (msOf bar l)[j]? = some (lw ((us bar l).take j).sum) := by
    unfold msOf
    rw [List.getElem?_map, h]
    simp
  exact (List.getElem?_eq_some_iff.1 h2).2

omit hb hl hs in
theorem ok_at (ha : allOk bar l = true) {j : Nat} (hj : j ≤ (us bar l).length) : okM ((us bar l).take j).sum = true := by
  cases j with
  | zero => simp only [List.take_zero, List.sum_nil]; rfl
  | succ j =>
    have h := ps_get (us bar l) 0 (j + 1) hj
    rw [List.getElem?_cons_succ, Int.zero_add] at h
    exact List.all_eq_true.1 ha _ (List.mem_of_getElem? h)

omit hb hl hs in
theorem us_step {i k : Nat} (hi : i < l.length) (hk : k < l[i].1.toNat) : (us bar (l.take i)).length + k < (us bar l).length ∧ ((us bar l).take ((us bar (l.take i)).length + k + 1)).sum = ((us bar l).take ((us bar (l.take i)).length + k)).sum + unit bar l[i] := by
  have e : us bar l = us bar (l.take i) ++ (List.replicate l[i].1.toNat (unit bar l[i]) ++ us bar (l.drop (i + 1))) := by
    have : l = l.take i ++ (l[i] :: l.drop (i + 1)) := by rw [List.getElem_cons_drop, List.take_append_drop]
    conv => lhs; rw [this]
    rw [us_append]
    rfl
  have hlt : (us bar (l.take i)).length + k < (us bar l).length := by
    rw [e, List.length_append, List.length_append, List.length_replicate]
    omega
  refine ⟨hlt, ?_⟩
  have hget : (us bar l)[(us bar (l.take i)).length + k] = unit bar l[i] := by
    have : (us bar l)[(us bar (l.take i)).length + k]? = some (unit bar l[i]) := by
      rw [e, List.getElem?_append_right (by omega), Nat.add_sub_cancel_left, List.getElem?_append_left (by rw [List.length_replicate]; exact hk), List.getElem?_replicate, if_pos hk]
    exact (List.getElem?_eq_some_iff.1 this).2
  rw [← List.take_append_getElem hlt, List.sum_append, hget]
  simp

variable {N : Nat} (hN : Big N)
include hN

theorem join_inner (ha : allOk bar l = true) (i : Nat) (hi : i < l.length) (e e' : Int) (x0 : Int) :
    loopR (V := Int × Int) (X := Bool ⊕ Int) (R11x8382878 N l (msOf bar l, e) (x0, (i : Int)) (lw (unit bar l[i]), e')) N (((us bar (l.take i)).length : Int), 0) = some (.inr (((us bar (l.take (i + 1))).length : Nat) : Int)) := by
  have ho := hs l[i] (List.getElem_mem hi)
  obtain ⟨f1, f2, f3, f4, f5, f6, f7, f8, f9, f10, f11, f12⟩ := unit_facts hb ho
  have hm : ((l[i].1.toNat : Nat) : Int) = l[i].1 := by have := ho.1; omega
  have hnext : (us bar (l.take (i + 1))).length = (us bar (l.take i)).length + l[i].1.toNat := by
    rw [← List.take_append_getElem hi, us_append]
    simp [us]
  have hul := us_len (bar := bar) hs
  obtain ⟨x, h1, h2⟩ := loopR_inv (rd := R11x8382878 N l (msOf bar l, e) (x0, (i : Int)) (lw (unit bar l[i]), e')) (Inv := fun v => ∃ k : Nat, k ≤ l[i].1.toNat ∧ v = ((((us bar (l.take i)).length + k : Nat) : Int), (k : Int))) (m := fun v => (l[i].1 - v.2).toNat) (Post := fun x => x = .inr (((us bar (l.take (i + 1))).length : Nat) : Int))
    (fun v ⟨k, hk, hv⟩ => by
      subst hv
      unfold R11x8382878
      simp only [Int.toNat_natCast, nthD_map n112 l i hi, dn112, List.length_map, ms_len]
      by_cases hlt : k < l[i].1.toNat
      · left
        obtain ⟨g1, g2⟩ := us_step (bar := bar) hi hlt
        have z0 : decide ((k : Int) < l[i].1) = true := by simp; omega
        have j1 : (us bar (l.take i)).length + k < (us bar l).length + 1 := by omega
        have j2 : (us bar (l.take i)).length + k + 1 < (us bar l).length + 1 := by omega
        have q1 : (us bar (l.take i)).length + k < (msOf bar l).length := by rw [ms_len]; exact j1
        have q2 : (us bar (l.take i)).length + k + 1 < (msOf bar l).length := by rw [ms_len]; exact j2
        have p1 := pre_in hb hl hs ((us bar (l.take i)).length + k)
        have p2 := pre_in hb hl hs ((us bar (l.take i)).length + k + 1)
        have m1 := ms_at (bar := bar) (l := l) (j := (us bar (l.take i)).length + k) (by omega)
        have m2 := ms_at (bar := bar) (l := l) (j := (us bar (l.take i)).length + k + 1) (by omega)
        have s1 := T67_lw N p1.1 p1.2 (ok_at ha (by omega))
        have s2 := T67_lw N p2.1 p2.2 (ok_at ha (j := (us bar (l.take i)).length + k + 1) (by omega))
        have s3 := T68_lw N p1.1 p1.2 f5 (by omega) (by omega) g2
        refine ⟨((((us bar (l.take i)).length + (k + 1) : Nat) : Int), ((k + 1 : Nat) : Int)), ?_, ⟨k + 1, by omega, rfl⟩, by simp only; omega⟩
        simp only [z0, cond_true, in_range j1, w_succ (by omega : (us bar (l.take i)).length + k < 9223372036854775807), in_range j2, Int.toNat_natCast, nthD_map n23 (msOf bar l) _ q1, nthD_map n23 (msOf bar l) _ q2, fn23, dn23, Bool.and_self, m1, m2, s1, s2, s3, Option.bind_some, Bool.not_true, cond_false, w_succ (by omega : k < 9223372036854775807)]
        rfl
      · right
        have : k = l[i].1.toNat := by omega
        subst this
        have z0 : decide (((l[i].1.toNat : Nat) : Int) < l[i].1) = false := by rw [hm]; simp
        refine ⟨_, ?_, rfl⟩
        simp only [z0, cond_false, hnext]) N (((us bar (l.take i)).length : Int), 0) ⟨0, by omega, rfl⟩ (big_lt hN (by have := ho.2.1; simp only; omega))
  rw [h1, h2]

theorem join_outer (ha : allOk bar l = true) (hc : ∀ s ∈ l, chk s.2.1 s.2.2 = 0) (e : Int) : loopR (V := Int × Int) (X := Bool ⊕ Unit) (R11x8186 N l bar (msOf bar l, e)) N (0, 0) = some (.inr ()) := by
  have key := loopR_foldl (rd := R11x8186 N l bar (msOf bar l, e)) (S := Nat) l (fun p k => ((p : Int), (k : Int))) (fun p s => p + s.1.toNat) (fun _ => .inr ()) (fun p k => p = (us bar (l.take k)).length)
    (fun p i hi hp => by
      subst hp
      have ho := hs l[i] (List.getElem_mem hi)
      have hnext : (us bar (l.take (i + 1))).length = (us bar (l.take i)).length + l[i].1.toNat := by
        rw [← List.take_append_getElem hi, us_append]
        simp [us]
      refine ⟨?_, hnext.symm⟩
      obtain ⟨o1, o2, o3, o4, o5⟩ := ho
      obtain ⟨w1, w2, w3, w4, w5⟩ := width_facts hb o3 o4 o5 (m := 1) (by omega)
      have se : sizeErr l[i].2.1 l[i].2.2 bar 1 = 0 := by
        unfold sizeErr
        rw [hc l[i] (List.getElem_mem hi), rng_zero.2 hb, rng_zero.2 (by omega : (1 : Int) ≤ 1 ∧ (1 : Int) ≤ 300)]
        rfl
      have wu : low (2 * bar * 1 * l[i].2.1) l[i].2.2 = lw (unit bar l[i]) := by
        rw [← w5]
        unfold unit
        rw [Int.mul_one]
      unfold R11x8186
      have s1 : T67 N (lw (unit bar l[i])) = some true := by
        rw [← wu]
        exact T67_sane N w1 (by omega) w3 (by omega)
      simp only [List.length_map, Int.toNat_natCast, lt_range hi, in_range hi, nthD_map n112 l i hi, fn112, dn112, Bool.and_self, cond_true, T24_val hN, se, if_true, wu, Option.bind_some, bne_self_eq_false, cond_false, s1, Bool.not_true, join_inner hb hl hs hN ha i hi e 0 ((us bar (l.take i)).length : Int), Sum.elim_inr, hnext, w_succ (by omega : i < 9223372036854775807)])
    (fun p _ => by
      unfold R11x8186
      simp only [List.length_map, ge_range, cond_false]) N 0 0 (Nat.zero_le _) (by unfold Big at hN; omega) (by simp [us])
  exact key
end join

theorem ropeOf_eq {bar : Int} {l : List Sec} (hs : ∀ s ∈ l, OkS s) : ropeOf bar l = if okM (us bar l).sum then (lw (us bar l).sum, 0) else ((0, 0), 4) := by
  have e : total bar l = (us bar l).sum := by
    unfold total
    rw [total_us bar l 0 (fun s h => by have := (hs s h).1; omega), Int.zero_add]
  unfold ropeOf okM
  rw [e]
  show (if bigR (lw _) = true then _ else (lw _, 0)) = _
  cases bigR (lw (us bar l).sum) <;> rfl

theorem csec_chk {l : List Sec} (h : csec l = 0) : ∀ s ∈ l, csec1 s = 0 ∧ chk s.2.1 s.2.2 = 0 := by
  intro s hs
  have hx : csec1 s = 0 := by
    unfold csec at h
    by_cases h0 : l.length = 0
    · rw [if_pos h0] at h; omega
    · rw [if_neg h0] at h
      by_cases h4 : l.length > 32
      · rw [if_pos h4] at h; omega
      · rw [if_neg h4] at h
        exact firstNZ_zero.1 h _ (List.mem_map_of_mem hs)
  exact ⟨hx, (firstNZ2z.1 hx).2⟩

theorem csec_sub {l l' : List Sec} (h : csec l = 0) (h1 : l'.length ≠ 0) (h2 : l'.length ≤ 32) (hsub : ∀ s ∈ l', s ∈ l) : csec l' = 0 := by
  unfold csec
  rw [if_neg h1, if_neg (by omega)]
  exact firstNZ_zero.2 fun x hx => by
    obtain ⟨s, hs, rfl⟩ := List.mem_map.1 hx
    exact (csec_chk h s (hsub s hs)).1

theorem count_loop {N : Nat} (hN : Big N) {bar : Int} {l : List Sec} (hl : l.length ≤ 5) (hs : ∀ s ∈ l, OkS s) : loopR (V := Int × Int) (X := Int) (R11x1018 N l) N (0, 0) = some (((us bar l).length : Nat) : Int) := by
  have key := loopR_foldl (rd := R11x1018 N l) (S := Nat) l (fun p k => ((p : Int), (k : Int))) (fun p s => p + s.1.toNat) (fun p => (p : Int)) (fun p k => p ≤ 12 * k)
    (fun p i hi hp => by
      have ho := hs l[i] (List.getElem_mem hi)
      obtain ⟨o1, o2, _⟩ := ho
      refine ⟨?_, by omega⟩
      unfold R11x1018
      have w : IntKind.wrap .i64 ((p : Int) + l[i].1) = ((p + l[i].1.toNat : Nat) : Int) := by rw [w64 (by omega)]; omega
      simp only [List.length_map, Int.toNat_natCast, lt_range hi, in_range hi, nthD_map n112 l i hi, fn112, dn112, Bool.and_self, cond_true, w, w_succ (by omega : i < 9223372036854775807)])
    (fun p _ => by
      unfold R11x1018
      simp only [List.length_map, ge_range, cond_false]) N 0 0 (Nat.zero_le _) (by unfold Big at hN; omega) (by omega)
  have e : ∀ (l : List Sec) (p : Nat), l.foldl (fun p s => p + s.1.toNat) p = p + (us bar l).length := by
    intro l
    induction l with
    | nil => intro p; simp [us]
    | cons s l ih => intro p; rw [List.foldl_cons, ih]; simp [us]; omega
  rw [List.drop_zero, e, Nat.zero_add] at key
  exact key

theorem ok_split {bar : Int} {a b : List Sec} (h : allOk bar (a ++ b) = true) : allOk bar a = true := by
  unfold allOk at *
  rw [us_append, ps_append, List.all_append, Bool.and_eq_true] at h
  exact h.1
theorem ms_split (bar : Int) (a b : List Sec) : (msOf bar (a ++ b)).take (msOf bar a).length = msOf bar a := by
  unfold msOf
  rw [us_append, ps_append, ← List.cons_append, List.map_append, List.take_left']
  rfl

theorem T11_true {N : Nat} (hN : Big N) (l : List Sec) (hl : l.length ≤ 9223372036854775807) (bar : Int) (c : Int) (hc : 0 ≤ c ∧ c ≤ 255) : T11 N (l, bar, c) = some true := by
  have h22 : T22 N () = some true := rfl
  rw [T11_eq]
  simp only [fa112, md112, Bool.and_true, cond_true, Option.bind_some, T38_short hN l hl, h22, T43_val hN l hl, T27_rng]
  cases hsh : shortS l with
  | false => rfl
  | true =>
  by_cases h1 : ¬ csec l = 0
  · simp only [Bool.not_true, cond_false, bne0 h1, cond_true, Option.bind_some]
  have h1 := Decidable.not_not.1 h1
  by_cases h2 : ¬ rng bar 1 100 = 0
  · simp only [Bool.not_true, cond_false, h1, bne_self_eq_false, bne0 h2, Option.bind_some, cond_true]
  have h2 := Decidable.not_not.1 h2
  have hb := rng_zero.1 h2
  obtain ⟨o1, o2, o3⟩ := short_ok hsh h1
  simp only [Bool.not_true, cond_false, h1, h2, bne_self_eq_false, Option.bind_some, T40_id hN l (by omega), fa131, md131, cond_true, T41_val hN hb o2 o3 h1, T39_val hN hb o2 o3 h1, marksOf_eq, ropeOf_eq o3]
  cases ha : allOk bar l with
  | false =>
    cases okM (us bar l).sum <;> rfl
  | true =>
  have hul := us_len (bar := bar) o3
  have hok : okM (us bar l).sum = true := by
    have := ok_at (bar := bar) (l := l) ha (j := (us bar l).length) (Nat.le_refl _)
    rwa [List.take_length] at this
  have hlast := ms_at (bar := bar) (l := l) (j := (us bar l).length) (Nat.le_refl _)
  rw [List.take_length] at hlast
  have hfirst := ms_at (bar := bar) (l := l) (j := 0) (Nat.zero_le _)
  rw [List.take_zero, List.sum_nil, lw0] at hfirst
  have z1 : IntKind.wrap .i64 ((((us bar l).length : Nat) : Int) + 1) = (((us bar l).length + 1 : Nat) : Int) := w_succ (by omega)
  have q0 : 0 < (msOf bar l).length := by rw [ms_len]; omega
  have qn : (us bar l).length < (msOf bar l).length := by rw [ms_len]; omega
  have z2 : decide ((0 : Int) ≤ 0 ∧ (0 : Int) < (((us bar l).length + 1 : Nat) : Int)) = true := decide_eq_true (by omega)
  have z3 : nthD (List.map n23 (msOf bar l)) (Int.toNat 0) = n23 (0, 1) := by
    rw [show Int.toNat 0 = 0 from rfl, nthD_map n23 _ 0 q0, hfirst]
  have z4 : decide (((l.length : Nat) : Int) = 0) = false := decide_eq_false (by omega)
  have wc : IntKind.wrap .i64 c = c := w64 (by omega)
  have tc : c.tmod ((l.length : Nat) : Int) = c % ((l.length : Nat) : Int) := Int.tmod_eq_emod_of_nonneg (by omega)
  obtain ⟨k, hk⟩ : ∃ k : Nat, c % ((l.length : Nat) : Int) = (k : Int) := ⟨(c % ((l.length : Nat) : Int)).toNat, by have := Int.emod_nonneg c (by omega : ((l.length : Nat) : Int) ≠ 0); omega⟩
  have hkl : k < l.length := by have := Int.emod_lt_of_pos c (by omega : (0 : Int) < ((l.length : Nat) : Int)); omega
  simp only [hok, if_true, bne_self_eq_false, cond_false, Option.bind_some, count_loop hN (bar := bar) o2 o3, List.length_map, ms_len, z1, z2, z3, fn23, dn23, Bool.and_self, cond_true, beq_self_eq_true, Bool.not_true, in_range (by omega : (us bar l).length < (us bar l).length + 1), Int.toNat_natCast, nthD_map n23 (msOf bar l) _ qn, hlast, join_outer hb o2 o3 hN ha (fun s hs => (csec_chk h1 s hs).2), Sum.elim_inr, z4, Bool.not_false, wc, tc, hk]
  cases k with
  | zero =>
    have hs0 := o3 l[0] (List.getElem_mem hkl)
    have hc0 := csec_chk h1 l[0] (List.getElem_mem hkl)
    obtain ⟨p1, p2, p3, p4, p5⟩ := hs0
    obtain ⟨w1, w2, w3, w4, w5⟩ := width_facts hb p3 p4 p5 (m := l[0].1) ⟨p1, p2⟩
    have se : sizeErr l[0].2.1 l[0].2.2 bar l[0].1 = 0 := by
      unfold sizeErr
      rw [hc0.2, h2, rng_zero.2 (by omega : (1 : Int) ≤ l[0].1 ∧ l[0].1 ≤ 300)]
      rfl
    have t0 : l.take 1 = [l[0]] := by
      match l, hkl with
      | s :: l', _ => rfl
    have z5 : decide ((0 : Int) ≤ 0 ∧ (0 : Int) < ((l.length : Nat) : Int)) = true := decide_eq_true (by omega)
    have z6 : decide ((0 : Int) ≤ 1 ∧ (1 : Int) ≤ ((l.length : Nat) : Int)) = true := decide_eq_true (by omega)
    have z7 : nthD (List.map n112 l) (Int.toNat 0) = n112 l[0] := by rw [show Int.toNat 0 = 0 from rfl, nthD_map n112 _ 0 hkl]
    have hs1 : ∀ s ∈ [l[0]], OkS s := fun s hs => by rw [List.mem_singleton] at hs; subst hs; exact o3 _ (List.getElem_mem hkl)
    have hc1 : csec [l[0]] = 0 := csec_sub h1 (by simp) (by simp) (fun s hs => by rw [List.mem_singleton] at hs; subst hs; exact List.getElem_mem hkl)
    have rep : ∀ (n : Nat) (u : Int), (List.replicate n u).sum = n * u := by
      intro n u
      induction n with
      | zero => simp
      | succ n ih => rw [List.replicate_succ, List.sum_cons, ih, show (((n + 1 : Nat) : Int)) = (n : Int) + 1 by simp, Int.add_mul]; omega
    have hm : ((l[0].1.toNat : Nat) : Int) = l[0].1 := by omega
    have su : (us bar [l[0]]).sum = (2 : Int) * bar * l[0].1 * l[0].2.1 * ((2329089562800 : Int) / l[0].2.2) := by
      simp only [us, List.append_nil, rep, hm]
      unfold unit
      rw [Int.mul_right_comm ((2 : Int) * bar) l[0].1 l[0].2.1, Int.mul_comm ((2 : Int) * bar * l[0].2.1) l[0].1, Int.mul_assoc l[0].1]
    have ok1 : okM (us bar [l[0]]).sum = true := by
      unfold okM bigR
      rw [su, w5]
      have e1 : decide ((low ((2 : Int) * bar * l[0].1 * l[0].2.1) l[0].2.2).1 > 999999999) = false := decide_eq_false (by omega)
      have e2 : decide ((low ((2 : Int) * bar * l[0].1 * l[0].2.1) l[0].2.2).2 > 999999999) = false := decide_eq_false (by omega)
      rw [e1, e2]
      rfl
    have r1 : T39 N ([l[0]], bar) = some (low ((2 : Int) * bar * l[0].1 * l[0].2.1) l[0].2.2, 0) := by
      rw [T39_val hN hb (by simp) hs1 hc1, ropeOf_eq hs1, ok1, su, w5]
      rfl
    simp only [Int.natCast_zero, beq_self_eq_true, cond_true, z5, z6, z7, fn112, dn112, Bool.and_self, T24_val hN, se, if_true, Option.bind_some, sl112, eqC_self, show Int.toNat 1 = 1 from rfl, sub_map112, fa112, md112, t0, T40_id hN [l[0]] (by simp), fa131, md131, r1, h22]
  | succ k =>
    have e0 : (((k + 1 : Nat) : Int) == 0) = false := beq0 (by omega)
    have z5 : decide ((0 : Int) ≤ ((k + 1 : Nat) : Int) ∧ ((k + 1 : Nat) : Int) ≤ ((l.length : Nat) : Int)) = true := decide_eq_true (by omega)
    have split : l = l.take (k + 1) ++ l.drop (k + 1) := (List.take_append_drop _ _).symm
    have hsA : ∀ s ∈ l.take (k + 1), OkS s := fun s hs => o3 s (List.mem_of_mem_take hs)
    have hsB : ∀ s ∈ l.drop (k + 1), OkS s := fun s hs => o3 s (List.mem_of_mem_drop hs)
    have lA : (l.take (k + 1)).length = k + 1 := by rw [List.length_take]; omega
    have lB : (l.drop (k + 1)).length = l.length - (k + 1) := by rw [List.length_drop]
    have cA : csec (l.take (k + 1)) = 0 := csec_sub h1 (by omega) (by omega) fun s hs => List.mem_of_mem_take hs
    have cB : csec (l.drop (k + 1)) = 0 := csec_sub h1 (by omega) (by omega) fun s hs => List.mem_of_mem_drop hs
    have okA : allOk bar (l.take (k + 1)) = true := ok_split (b := l.drop (k + 1)) (by rw [← split]; exact ha)
    have usAB : us bar l = us bar (l.take (k + 1)) ++ us bar (l.drop (k + 1)) := by
      conv => lhs; rw [split]
      exact us_append bar _ _
    have lenAB : (us bar l).length = (us bar (l.take (k + 1))).length + (us bar (l.drop (k + 1))).length := by rw [usAB, List.length_append]
    have sumAB : (us bar l).sum = (us bar (l.take (k + 1))).sum + (us bar (l.drop (k + 1))).sum := by rw [usAB, List.sum_append]
    have msA : (msOf bar l).take ((us bar (l.take (k + 1))).length + 1) = msOf bar (l.take (k + 1)) := by
      have gen : ∀ (a b : List Sec), (msOf bar (a ++ b)).take ((us bar a).length + 1) = msOf bar a := fun a b => by rw [← ms_len]; exact ms_split bar a b
      have := gen (l.take (k + 1)) (l.drop (k + 1))
      rwa [List.take_append_drop] at this
    have dz : decide ((((us bar (l.take (k + 1))).length + 1 : Nat) : Int) > (((us bar l).length + 1 : Nat) : Int)) = false := decide_eq_false (by omega)
    have z6 : decide ((0 : Int) ≤ (((us bar (l.take (k + 1))).length + 1 : Nat) : Int) ∧ (((us bar (l.take (k + 1))).length + 1 : Nat) : Int) ≤ (((us bar l).length + 1 : Nat) : Int)) = true := decide_eq_true (by omega)
    have w1 : IntKind.wrap .i64 ((((us bar (l.take (k + 1))).length + 1 : Nat) : Int) - 1) = (((us bar (l.take (k + 1))).length : Nat) : Int) := by rw [w64 (by omega)]; omega
    have subB : subA (k + 1) l.length (List.map n112 l) = List.map n112 (l.drop (k + 1)) := by
      unfold subA
      rw [List.take_of_length_le (by rw [List.length_map]; exact Nat.le_refl _), List.map_drop]
    have aIn := all_in hb (l := l.take (k + 1)) (by omega) hsA
    have bIn := all_in hb (l := l.drop (k + 1)) (by omega) hsB
    have lIn := all_in hb (l := l) o2 o3
    have qA : (us bar (l.take (k + 1))).length < (msOf bar (l.take (k + 1))).length := by rw [ms_len]; omega
    have lastA := ms_at (bar := bar) (l := l.take (k + 1)) (j := (us bar (l.take (k + 1))).length) (Nat.le_refl _)
    rw [List.take_length] at lastA
    simp only [e0, cond_false, z5, cond_true, Int.toNat_natCast, sub_map112, fa112, md112, Option.bind_some, T40_id hN _ (by omega : (l.take (k + 1)).length ≤ 1000000), fa131, md131, T41_val hN hb (by omega : (l.take (k + 1)).length ≤ 5) hsA cA, marksOf_eq, okA, if_true, subB, T40_id hN _ (by omega : (l.drop (k + 1)).length ≤ 1000000), T39_val hN hb (by omega : (l.drop (k + 1)).length ≤ 5) hsB cB, ropeOf_eq hsB, bne_self_eq_false, List.length_map, ms_len, dz]
    cases okB : okM (us bar (l.drop (k + 1))).sum with
    | false => simp [h22]
    | true =>
      have t47 := T47_same hN (msOf bar (l.take (k + 1))) (by rw [ms_len]; omega)
      have s67 := T67_lw N bIn.1 bIn.2 okB
      have s68 := T68_lw N aIn.1 aIn.2 bIn.1 bIn.2 (by omega) sumAB
      simp only [if_true, bne_self_eq_false, cond_false, z6, cond_true, fa23, md23, sub_map23, msA, Bool.and_self, Option.bind_some, t47, s67, w1, in_range (by omega : (us bar (l.take (k + 1))).length < (us bar (l.take (k + 1))).length + 1), Int.toNat_natCast, nthD_map n23 _ _ qA, fn23, dn23, lastA, s68, h22]
end Go.Proofs.YtpngggdfbbdfaaaDoor
