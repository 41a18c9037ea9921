/- Plain laws: even runs. -/
import Derived.Test.YtfiopgedfcaodaaGreatDoorSeamPr
set_option linter.all false
namespace Go.Proofs.YtfiopgedfcaodaaGreatDoor
open Go Go.Am
set_option maxRecDepth 100000

def psum (l : List Int) (k : Nat) : Int := (l.take k).sum
def win (l : List Int) (w j : Nat) : Int := psum l (j + w) - psum l j
def mmS (l : List Int) (w : Nat) (s : Int × Int) (j : Nat) : Int × Int := (if win l w j < s.1 then win l w j else s.1, if win l w j > s.2 then win l w j else s.2)
def mm (l : List Int) (w : Nat) : Int × Int := (List.range (l.length + 1 - w)).foldl (mmS l w) (psum l w, psum l w)
def badW (l : List Int) (i : Nat) : Bool := decide ((mm l (i + 1)).2 - (mm l (i + 1)).1 > 1)
/-- Whether runs are even. -/
def evenR (l : List Int) : Bool := !(List.range l.length).any (badW l)

theorem sum_nonneg : ∀ (l : List Int), (∀ x ∈ l, 1 ≤ x ∧ x ≤ 256) → 0 ≤ l.sum
  | [], _ => by simp
  | x :: l, h => by
    have h1 := h x (by simp)
    have h2 := sum_nonneg l fun y hy => h y (by simp [hy])
    rw [List.sum_cons]; omega
theorem psum_in (l : List Int) (hx : ∀ x ∈ l, 1 ≤ x ∧ x ≤ 256) (hs : l.sum ≤ 256) (k : Nat) : 0 ≤ psum l k ∧ psum l k ≤ 256 := by
  have h1 := sum_nonneg (l.take k) fun x h => hx x (List.mem_of_mem_take h)
  have h2 := sum_nonneg (l.drop k) fun x h => hx x (List.mem_of_mem_drop h)
  have h3 : l.sum = (l.take k).sum + (l.drop k).sum := by rw [← List.sum_append, List.take_append_drop]
  unfold psum
  omega
theorem psum_succ (l : List Int) {k : Nat} (hk : k < l.length) : psum l (k + 1) = psum l k + l[k] := by
  unfold psum
  rw [List.take_succ, List.sum_append, List.getElem?_eq_getElem hk]
  simp
/-- The sums of the beginnings. -/
def PS (l : List Int) (k : Nat) : List Int := (List.range (k + 1)).map (psum l)
theorem PS_len (l : List Int) (k : Nat) : (PS l k).length = k + 1 := by simp [PS]
theorem PS_get (l : List Int) (k : Nat) {j : Nat} (hj : j < (PS l k).length) : (PS l k)[j] = psum l j := by simp [PS]
theorem PS_succ (l : List Int) (k : Nat) : PS l k ++ [psum l (k + 1)] = PS l (k + 1) := by
  unfold PS
  rw [List.range_succ (n := k + 1), List.map_append]
  rfl

section
variable {N : Nat} (hN : Big N) (l : List Int) (hl : l.length ≤ 256) (hx : ∀ x ∈ l, 1 ≤ x ∧ x ≤ 256) (hs : l.sum ≤ 256)
include hN hl hx hs
theorem R62_sums : loopR (R62x122 N l) N ([0], 0) = some (PS l l.length) := by
  have key := loopR_count (rd := R62x122 N l) l.length (fun k => (PS l k, (k : Int))) (PS l l.length) (fun k hk => by
    obtain ⟨a1, a2⟩ := at3 l hk
    have hkp : k < (PS l k).length := by rw [PS_len]; omega
    obtain ⟨b1, b2⟩ := at3 (PS l k) hkp
    rw [PS_get] at b1
    have p1 := psum_in l hx hs k
    have p2 := psum_in l hx hs (k + 1)
    have e := psum_succ l hk
    have hw : IntKind.wrap .i64 (psum l k + l[k]) = psum l (k + 1) := by rw [e]; exact w64 (by omega)
    have hb : (k + 1 + 1) * 8 ≤ 140737488355328 := by omega
    have hik : decide ((0 : Int) ≤ (k : Int) ∧ (k : Int) < ((k + 1 : Nat) : Int)) = true := in_range (by omega)
    simp only [R62x122, List.length_map, Int.toNat_natCast, a1, a2, b1, b2, lt_range hk, in_range hk, PS_len, hik, Bool.and_self, cond_true, hw, snoc3, PS_succ, fa3, md3, hb, decide_true, Bool.and_true, Option.bind_some, w_succ (show k < 9223372036854775807 by omega)]) (by
    simp only [R62x122, List.length_map, ge_range, cond_false, fa3, md3, decide_true, Bool.and_true, cond_true, Option.bind_some]) N 0 (Nat.zero_le _) (by unfold Big at hN; omega)
  exact key

theorem mm_in (w k : Nat) (js : List Nat) (s : Int × Int) (h : -256 ≤ s.1 ∧ s.1 ≤ 256 ∧ -256 ≤ s.2 ∧ s.2 ≤ 256) : -256 ≤ (js.foldl (mmS l w) s).1 ∧ (js.foldl (mmS l w) s).1 ≤ 256 ∧ -256 ≤ (js.foldl (mmS l w) s).2 ∧ (js.foldl (mmS l w) s).2 ≤ 256 := by
  induction js generalizing s with
  | nil => exact h
  | cons j js ih =>
    rw [List.foldl_cons]
    apply ih
    have p1 := psum_in l hx hs j
    have p2 := psum_in l hx hs (j + w)
    have : -256 ≤ win l w j ∧ win l w j ≤ 256 := by unfold win; omega
    unfold mmS
    refine ⟨?_, ?_, ?_, ?_⟩ <;> simp only [] <;> split <;> omega

theorem R62_in (i : Nat) (hi : i < l.length) (lo hi' : Int) : loopR (R62x256410 N l (PS l l.length, (i : Int))) N (PS l l.length, lo, hi', 0) = some (PS l l.length, (List.range (l.length - i)).foldl (mmS l (i + 1)) (lo, hi')) := by
  have hni : IntKind.wrap .i64 ((l.length : Int) - (i : Int)) = ((l.length - i : Nat) : Int) := by rw [w64 (by omega)]; omega
  have key := loopR_foldl (rd := R62x256410 N l (PS l l.length, (i : Int))) (List.range (l.length - i)) (fun (s : Int × Int) k => (PS l l.length, s.1, s.2, (k : Int))) (mmS l (i + 1)) (fun s => (PS l l.length, s)) (fun _ _ => True) (fun s k hk _ => by
    have hk : k < l.length - i := by simpa using hk
    rw [List.getElem_range]
    have j1 : k + (i + 1) < (PS l l.length).length := by rw [PS_len]; omega
    have j2 : k < (PS l l.length).length := by rw [PS_len]; omega
    obtain ⟨a1, a2⟩ := at3 (PS l l.length) j1
    obtain ⟨b1, b2⟩ := at3 (PS l l.length) j2
    rw [PS_get] at a1 b1
    have p1 := psum_in l hx hs (k + (i + 1))
    have p2 := psum_in l hx hs k
    have e1 : IntKind.wrap .i64 ((k : Int) + (i : Int)) = ((k + i : Nat) : Int) := by rw [w64 (by omega)]; omega
    have e2 : IntKind.wrap .i64 (((k + i : Nat) : Int) + 1) = ((k + (i + 1) : Nat) : Int) := by rw [w64 (by omega)]; omega
    have hw : IntKind.wrap .i64 (psum l (k + (i + 1)) - psum l k) = win l (i + 1) k := w64 (by omega)
    refine ⟨?_, trivial⟩
    simp only [R62x256410, List.length_map, hni, lt_range hk, e1, e2, Int.toNat_natCast, a1, a2, b1, b2, in_range j1, in_range j2, hw, Bool.and_self, cond_true, fa3, md3, Bool.and_true, Option.bind_some, decide_true, w_succ (show k < 9223372036854775807 by omega)]
    rfl) (fun s _ => by
    rw [List.length_range]
    simp only [R62x256410, List.length_map, hni, ge_range, cond_false, fa3, md3, decide_true, Bool.and_true, cond_true, Option.bind_some]) N (lo, hi') 0 (Nat.zero_le _) (by unfold Big at hN; simp; omega) trivial
  rw [List.drop_zero] at key
  exact key

theorem R62_out : ∃ o, loopR (R62x250 N l) N (PS l l.length, 0) = some o ∧ Sum.elim (fun o29 => some ((o29.1 : Bool), (o29.2.1 : Int))) (fun _ => some (true, 0)) o = some (evenR l, 0) := by
  have key := loopR_fold (rd := R62x250 N l) (S := Unit) (Y := Unit) (List.range l.length) (fun _ k => (PS l l.length, (k : Int))) (fun _ i => if badW l i then .inr () else .inl ()) (fun _ => .inr (PS l l.length)) (fun _ => .inl (false, 0, PS l l.length)) (fun _ _ => True) (fun s k hk _ => by
    have hk : k < l.length := by simpa using hk
    rw [List.getElem_range]
    have j1 : k + 1 < (PS l l.length).length := by rw [PS_len]; omega
    obtain ⟨a1, a2⟩ := at3 (PS l l.length) j1
    rw [PS_get] at a1
    have p1 := psum_in l hx hs (k + 1)
    have hm : (List.range (l.length - k)).foldl (mmS l (k + 1)) (psum l (k + 1), psum l (k + 1)) = mm l (k + 1) := by unfold mm; rw [show l.length + 1 - (k + 1) = l.length - k from by omega]
    have hb := mm_in hN l hl hx hs (k + 1) k (List.range (l.length - k)) (psum l (k + 1), psum l (k + 1)) ⟨by omega, by omega, by omega, by omega⟩
    rw [hm] at hb
    have hw : IntKind.wrap .i64 ((mm l (k + 1)).2 - (mm l (k + 1)).1) = (mm l (k + 1)).2 - (mm l (k + 1)).1 := w64 (by omega)
    refine ⟨?_, fun _ _ => trivial⟩
    simp only [R62x250, List.length_map, lt_range hk, w_succ (show k < 9223372036854775807 by omega), Int.toNat_natCast, a1, a2, in_range j1, Bool.and_self, cond_true, fa3, md3, Bool.and_true, Option.bind_some, decide_true, R62_in hN l hl hx hs k hk, hm, hw]
    unfold badW
    by_cases h : (mm l (k + 1)).2 - (mm l (k + 1)).1 > 1
    · simp only [h, decide_true, cond_true, if_true, Sum.map_inr]
    · simp only [h, decide_false, cond_false, Bool.false_eq_true, if_false, Sum.map_inl]) (fun s _ => by
    rw [List.length_range]
    simp only [R62x250, List.length_map, ge_range, cond_false, fa3, md3, decide_true, Bool.and_true, cond_true, Option.bind_some]) N () 0 (Nat.zero_le _) (by unfold Big at hN; simp; omega) trivial
  refine ⟨_, key, ?_⟩
  rw [List.drop_zero]
  have gen : ∀ m : List Nat, foldI (S := Unit) (Y := Unit) (fun _ i => if badW l i then .inr () else .inl ()) () m = if m.any (badW l) then .inr () else .inl () := fun m => by
    induction m with
    | nil => rfl
    | cons i m ih =>
      unfold foldI
      rw [List.any_cons]
      cases badW l i <;> simp [ih]
  rw [gen]
  unfold evenR
  cases (List.range l.length).any (badW l) <;> rfl
end

theorem foldl_sum : ∀ (l : List Int) (s : Int), l.foldl (fun s x => s + x) s = s + l.sum
  | [], s => by simp
  | x :: l, s => by rw [List.foldl_cons, foldl_sum l, List.sum_cons]; omega
theorem sub_map3 (l : List Int) (a b : Nat) : subA a b (List.map n3 l) = List.map n3 ((l.take b).drop a) := by simp [subA, List.map_take, List.map_drop]

section
variable {N : Nat} (hN : Big N) (l : List Int) (hl : l.length ≤ 256) (hx : ∀ x ∈ l, 1 ≤ x ∧ x ≤ 256) (hs : l.sum ≤ 256)
include hN hl hx hs
end

/-- What the program says of even runs. -/
theorem T62_even {N : Nat} (hN : Big N) (l : List Int) (hl : l.length ≤ 1000000) : T62 N l = some (if chkR l = 0 then (evenR l, 0) else (false, chkR l)) := by
  rw [T62_eq]
  simp only [fa3, md3, Bool.and_true, cond_true, Option.bind_some, T136_chk hN l hl]
  by_cases h : chkR l = 0
  · obtain ⟨_, h2, h3, h4⟩ := chkR_ok h
    obtain ⟨o, r1, r2⟩ := R62_out hN l h2 h3 h4
    have z : ((bif (allFit (Pat.fits p3) [(AV.int .i64 0)]) then some ((List.map d3 [(AV.int .i64 0)]), 0) else none : Option ((List Int) × Int))) = some ([0], 0) := rfl
    rw [h, z]
    simp only [bne_self_eq_false, cond_false, Option.bind_some]
    rw [show decide (1 = (List.map n3 [(0 : Int)]).length) = true from rfl, cond_true, Option.bind_some, R62_sums hN l h2 h3 h4]
    simp only [Option.bind_some, fa3, md3, cond_true, decide_true, r1, if_true]
    exact r2
  · have hb : (chkR l != 0) = true := bne_iff_ne.2 h
    rw [hb, if_neg h]
    rfl
theorem chkJ_ok {m n : Int} {l : List (Int × Int)} (h : chkJ m n l = 0) : chkM m n = 0 ∧ ∀ p ∈ l, (0 ≤ p.1 ∧ p.1 < m) ∧ (0 ≤ p.2 ∧ p.2 < n) := by
  unfold chkJ at h
  split at h
  · rename_i h0; exact absurd h h0
  · rename_i h0
    have h0 : chkM m n = 0 := Decidable.not_not.1 h0
    refine ⟨h0, ?_⟩
    split at h
    · cases h
    · split at h
      · rename_i h2; exact absurd h h2
      · rename_i h2
        have h2 : firstNZ ((List.range l.length).map (errJ m n l)) = 0 := Decidable.not_not.1 h2
        intro p hp
        obtain ⟨k, hk, rfl⟩ := List.getElem_of_mem hp
        have e := firstNZ_zero.1 h2 (errJ m n l k) (List.mem_map.2 ⟨k, List.mem_range.2 hk, rfl⟩)
        have eg : l.getD k (0, 0) = l[k] := by simp [hk]
        unfold errJ at e
        simp only [eg] at e
        split at e
        · cases e
        · omega

theorem T61_runs {N : Nat} (hN : Big N) (m n : Int) (l : List (Int × Int)) (hl : l.length ≤ 1000000) : T61 N (m, n, l) = some (if chkJ m n l = 0 then (runsF m n l, 0) else ([], chkJ m n l)) := by
  rw [T61_eq]
  simp only [fa46, md46, Bool.and_true, cond_true, Option.bind_some, T19_chk hN l hl]
  by_cases h : chkJ m n l = 0
  · obtain ⟨h0, hx⟩ := chkJ_ok h
    obtain ⟨hm, hm', hn, hn'⟩ := chkM_ok h0
    simp only [h, bne_self_eq_false, cond_false, T135_runs hN m n l hl hm hm' hn hn' hx, Option.bind_some, fa3, md3, cond_true, if_true]
  · have hb : (chkJ m n l != 0) = true := bne_iff_ne.2 h
    rw [hb, if_neg h]
    rfl
end Go.Proofs.YtfiopgedfcaodaaGreatDoor
