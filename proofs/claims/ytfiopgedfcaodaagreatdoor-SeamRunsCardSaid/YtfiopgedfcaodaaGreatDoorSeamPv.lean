/- Plain laws: even runs. -/
import Derived.Test.YtfiopgedfcaodaaGreatDoorSeamPr
set_option linter.all false
namespace Go.Proofs.YtfiopgedfcaodaaGreatDoor
open Go Go.Am
set_option maxRecDepth 100000

def psum (l : List Int) (k : Nat) : Int := (l.take k).sum
def win (l : List Int) (w j : Nat) : Int := psum l (j + w) - psum l j
def mmS (l : List Int) (w : Nat) (s : Int × Int) (j : Nat) : Int × Int := (if win l w j < s.1 then win l w j else s.1, if win l w j > s.2 then win l w j else s.2)
def mm (l : List Int) (w : Nat) : Int × Int := (List.range (l.length + 1 - w)).foldl (mmS l w) (psum l w, psum l w)
def badW (l : List Int) (i : Nat) : Bool := decide ((mm l (i + 1)).2 - (mm l (i + 1)).1 > 1)
/-- Whether runs are even. -/
def evenR (l : List Int) : Bool := !(List.range l.length).any (badW l)

theorem sum_nonneg : ∀ (l : List Int), (∀ x ∈ l, 1 ≤ x ∧ x ≤ 256) → 0 ≤ l.sum
  | [], _ => by simp
  | x :: l, h => by
    have h1 := h x (by simp)
    have h2 := sum_nonneg l fun y hy => h y (by simp [hy])
    rw [List.sum_cons]; omega
theorem psum_in (l : List Int) (hx : ∀ x ∈ l, 1 ≤ x ∧ x ≤ 256) (hs : l.sum ≤ 256) (k : Nat) : 0 ≤ psum l k ∧ psum l k ≤ 256 := by
  have h1 := sum_nonneg (l.take k) fun x h => hx x (List.mem_of_mem_take h)
  have h2 := sum_nonneg (l.drop k) fun x h => hx x (List.mem_of_mem_drop h)
  have h3 : l.sum = (l.take k).sum + (l.drop k).sum := by rw [← List.sum_append, List.take_append_drop]
  unfold psum
  omega
theorem psum_succ (l : List Int) {k : Nat} (hk : k < l.length) : psum l (k + 1) = psum l k + l[k] := by
  unfold psum
  rw [List.take_succ, List.sum_append, List.getElem?_eq_getElem hk]
  simp
theorem win_sum (l : List Int) (w j : Nat) : ((l.drop j).take w).sum = win l w j := by
  unfold win psum
  rw [List.take_add, List.sum_append]
  omega
/-- The sums of the beginnings. -/
def PS (l : List Int) (k : Nat) : List Int := (List.range (k + 1)).map (psum l)
theorem PS_len (l : List Int) (k : Nat) : (PS l k).length = k + 1 := by simp [PS]
theorem PS_get (l : List Int) (k : Nat) {j : Nat} (hj : j < (PS l k).length) : (PS l k)[j] = psum l j := by simp [PS]
theorem PS_succ (l : List Int) (k : Nat) : PS l k ++ [psum l (k + 1)] = PS l (k + 1) := by
  unfold PS
  rw [List.range_succ (n := k + 1), List.map_append]
  rfl

section
variable {N : Nat} (hN : Big N) (l : List Int) (hl : l.length ≤ 256) (hx : ∀ x ∈ l, 1 ≤ x ∧ x ≤ 256) (hs : l.sum ≤ 256)
include hN hl hx hs
theorem R62_sums : loopR (R62x122 N l) N ([0], 0) = some (PS l l.length) := by
  have key := loopR_count (rd := R62x122 N l) l.length (fun k => (PS l k, (k : Int))) (PS l l.length) (fun k hk => by
    obtain ⟨a1, a2⟩ := at3 l hk
    have hkp : k < (PS l k).length := by rw [PS_len]; omega
    obtain ⟨b1, b2⟩ := at3 (PS l k) hkp
    rw [PS_get] at b1
    have p1 := psum_in l hx hs k
    have p2 := psum_in l hx hs (k + 1)
    have e := psum_succ l hk
    have hw : IntKind.wrap .i64 (psum l k + l[k]) = psum l (k + 1) := by rw [e]; exact w64 (by omega)
    have hb : (k + 1 + 1) * 8 ≤ 140737488355328 := by omega
    have hik : decide ((0 : Int) ≤ (k : Int) ∧ (k : Int) < ((k + 1 : Nat) : Int)) = true := in_range (by omega)
    simp only [R62x122, List.length_map, Int.toNat_natCast, a1, a2, b1, b2, lt_range hk, in_range hk, PS_len, hik, Bool.and_self, cond_true, hw, snoc3, PS_succ, fa3, md3, hb, decide_true, Bool.and_true, Option.bind_some, w_succ (show k < 9223372036854775807 by omega)]) (by
    simp only [R62x122, List.length_map, ge_range, cond_false, fa3, md3, decide_true, Bool.and_true, cond_true, Option.bind_some]) N 0 (Nat.zero_le _) (by unfold Big at hN; omega)
  exact key

theorem mm_in (w k : Nat) (js : List Nat) (s : Int × Int) (h : -256 ≤ s.1 ∧ s.1 ≤ 256 ∧ -256 ≤ s.2 ∧ s.2 ≤ 256) : -256 ≤ (js.foldl (mmS l w) s).1 ∧ (js.foldl (mmS l w) s).1 ≤ 256 ∧ -256 ≤ (js.foldl (mmS l w) s).2 ∧ (js.foldl (mmS l w) s).2 ≤ 256 := by
  induction js generalizing s with
  | nil => exact h
  | cons j js ih =>
    rw [List.foldl_cons]
    apply ih
    have p1 := psum_in l hx hs j
    have p2 := psum_in l hx hs (j + w)
    have : -256 ≤ win l w j ∧ win l w j ≤ 256 := by unfold win; omega
    unfold mmS
    refine ⟨?_, ?_, ?_, ?_⟩ <;> simp only [] <;> split <;> omega

theorem R62_in (i : Nat) (hi : i < l.length) (lo hi' : Int) : loopR (R62x256410 N l (PS l l.length, (i : Int))) N (PS l l.length, lo, hi', 0) = some (PS l l.length, (List.range (l.length - i)).foldl (mmS l (i + 1)) (lo, hi')) := by
  have hni : IntKind.wrap .i64 ((l.length : Int) - (i : Int)) = ((l.length - i : Nat) : Int) := by rw [w64 (by omega)]; omega
  have key := loopR_foldl (rd := R62x256410 N l (PS l l.length, (i : Int))) (List.range (l.length - i)) (fun (s : Int × Int) k => (PS l l.length, s.1, s.2, (k : Int))) (mmS l (i + 1)) (fun s => (PS l l.length, s)) (fun _ _ => True) (fun s k hk _ => by
    have hk : k < l.length - i := by simpa using hk
    rw [List.getElem_range]
    have j1 : k + (i + 1) < (PS l l.length).length := by rw [PS_len]; omega
    have j2 : k < (PS l l.length).length := by rw [PS_len]; omega
    obtain ⟨a1, a2⟩ := at3 (PS l l.length) j1
    obtain ⟨b1, b2⟩ := at3 (PS l l.length) j2
    rw [PS_get] at a1 b1
    have p1 := psum_in l hx hs (k + (i + 1))
    have p2 := psum_in l hx hs k
    have e1 : IntKind.wrap .i64 ((k : Int) + (i : Int)) = ((k + i : Nat) : Int) := by rw [w64 (by omega)]; omega
    have e2 : IntKind.wrap .i64 (((k + i : Nat) : Int) + 1) = ((k + (i + 1) : Nat) : Int) := by rw [w64 (by omega)]; omega
    have hw : IntKind.wrap .i64 (psum l (k + (i + 1)) - psum l k) = win l (i + 1) k := w64 (by omega)
    refine ⟨?_, trivial⟩
    simp only [R62x256410, List.length_map, hni, lt_range hk, e1, e2, Int.toNat_natCast, a1, a2, b1, b2, in_range j1, in_range j2, hw, Bool.and_self, cond_true, fa3, md3, Bool.and_true, Option.bind_some, decide_true, w_succ (show k < 9223372036854775807 by omega)]
    rfl) (fun s _ => by
    rw [List.length_range]
    simp only [R62x256410, List.length_map, hni, ge_range, cond_false, fa3, md3, decide_true, Bool.and_true, cond_true, Option.bind_some]) N (lo, hi') 0 (Nat.zero_le _) (by unfold Big at hN; simp; omega) trivial
  rw [List.drop_zero] at key
  exact key

theorem R62_out : ∃ o, loopR (R62x250 N l) N (PS l l.length, 0) = some o ∧ Sum.elim (fun o29 => some ((o29.1 : Bool), (o29.2.1 : Int))) (fun _ => some (true, 0)) o = some (evenR l, 0) := by
  have key := loopR_fold (rd := R62x250 N l) (S := Unit) (Y := Unit) (List.range l.length) (fun _ k => (PS l l.length, (k : Int))) (fun _ i => if badW l i then .inr () else .inl ()) (fun _ => .inr (PS l l.length)) (fun _ => .inl (false, 0, PS l l.length)) (fun _ _ => True) (fun s k hk _ => by
    have hk : k < l.length := by simpa using hk
    rw [List.getElem_range]
    have j1 : k + 1 < (PS l l.length).length := by rw [PS_len]; omega
    obtain ⟨a1, a2⟩ := at3 (PS l l.length) j1
    rw [PS_get] at a1
    have p1 := psum_in l hx hs (k + 1)
    have hm : (List.range (l.length - k)).foldl (mmS l (k + 1)) (psum l (k + 1), psum l (k + 1)) = mm l (k + 1) := by unfold mm; rw [show l.length + 1 - (k + 1) = l.length - k from by omega]
    have hb := mm_in hN l hl hx hs (k + 1) k (List.range (l.length - k)) (psum l (k + 1), psum l (k + 1)) ⟨by omega, by omega, by omega, by omega⟩
    rw [hm] at hb
    have hw : IntKind.wrap .i64 ((mm l (k + 1)).2 - (mm l (k + 1)).1) = (mm l (k + 1)).2 - (mm l (k + 1)).1 := w64 (by omega)
    refine ⟨?_, fun _ _ => trivial⟩
    simp only [R62x250, List.length_map, lt_range hk, w_succ (show k < 9223372036854775807 by omega), Int.toNat_natCast, a1, a2, in_range j1, Bool.and_self, cond_true, fa3, md3, Bool.and_true, Option.bind_some, decide_true, R62_in hN l hl hx hs k hk, hm, hw]
    unfold badW
    by_cases h : (mm l (k + 1)).2 - (mm l (k + 1)).1 > 1
    · simp only [h, decide_true, cond_true, if_true, Sum.map_inr]
    · simp only [h, decide_false, cond_false, Bool.false_eq_true, if_false, Sum.map_inl]) (fun s _ => by
    rw [List.length_range]
    simp only [R62x250, List.length_map, ge_range, cond_false, fa3, md3, decide_true, Bool.and_true, cond_true, Option.bind_some]) N () 0 (Nat.zero_le _) (by unfold Big at hN; simp; omega) trivial
  refine ⟨_, key, ?_⟩
  rw [List.drop_zero]
  have gen : ∀ m : List Nat, foldI (S := Unit) (Y := Unit) (fun _ i => if badW l i then .inr () else .inl ()) () m = if m.any (badW l) then .inr () else .inl () := fun m => by
    induction m with
    | nil => rfl
    | cons i m ih =>
      unfold foldI
      rw [List.any_cons]
      cases badW l i <;> simp [ih]
  rw [gen]
  unfold evenR
  cases (List.range l.length).any (badW l) <;> rfl
end

theorem foldl_sum : ∀ (l : List Int) (s : Int), l.foldl (fun s x => s + x) s = s + l.sum
  | [], s => by simp
  | x :: l, s => by rw [List.foldl_cons, foldl_sum l, List.sum_cons]; omega
theorem T148_sum {N : Nat} (hN : Big N) (l : List Int) (hl : l.length ≤ 256) (hx : ∀ x ∈ l, 1 ≤ x ∧ x ≤ 256) : T148 N l = some l.sum := by
  rw [T148_eq]
  have key := loopR_foldl (rd := R148x58 N l) l (fun s k => (s, (k : Int))) (fun s x => s + x) (fun s => s) (fun s k => 0 ≤ s ∧ s ≤ 256 * (k : Int)) (fun s k hk hs => by
    obtain ⟨a1, a2⟩ := at3 l hk
    have := hx _ (List.getElem_mem hk)
    have hw : IntKind.wrap .i64 (s + l[k]) = s + l[k] := w64 (by omega)
    refine ⟨?_, by omega⟩
    simp only [R148x58, List.length_map, Int.toNat_natCast, a1, a2, lt_range hk, in_range hk, Bool.and_self, cond_true, hw, w_succ (show k < 9223372036854775807 by omega)]) (fun s _ => by
    simp only [R148x58, List.length_map, ge_range, cond_false]) N 0 0 (Nat.zero_le _) (by unfold Big at hN; omega) ⟨Int.le_refl _, by simp⟩
  have key' : loopR (R148x58 N l) N (0, 0) = _ := key
  rw [key', List.drop_zero, foldl_sum]
  simp
theorem sub_map3 (l : List Int) (a b : Nat) : subA a b (List.map n3 l) = List.map n3 ((l.take b).drop a) := by simp [subA, List.map_take, List.map_drop]

section
variable {N : Nat} (hN : Big N) (l : List Int) (hl : l.length ≤ 256) (hx : ∀ x ∈ l, 1 ≤ x ∧ x ≤ 256) (hs : l.sum ≤ 256)
include hN hl hx hs
theorem T62_in : loopR (R62x122 N l) N ([0], 0) = some (PS l l.length) := R62_sums hN l hl hx hs

theorem R78_in (i : Nat) (hi : i < l.length) (s0 : Int × Int) (hs0 : -256 ≤ s0.1 ∧ s0.1 ≤ 256 ∧ -256 ≤ s0.2 ∧ s0.2 ≤ 256) : loopR (R78x6730 N l ((i + 1 : Nat) : Int)) N (s0.1, s0.2, 0) = some ((List.range (l.length - i)).foldl (mmS l (i + 1)) s0) := by
  have key := loopR_foldl (rd := R78x6730 N l ((i + 1 : Nat) : Int)) (List.range (l.length - i)) (fun (s : Int × Int) k => (s.1, s.2, (k : Int))) (mmS l (i + 1)) (fun s => (s.1, s.2)) (fun _ _ => True) (fun s k hk _ => by
    have hk : k < l.length - i := by simpa using hk
    rw [List.getElem_range]
    have e1 : IntKind.wrap .i64 ((k : Int) + ((i + 1 : Nat) : Int)) = ((k + (i + 1) : Nat) : Int) := by rw [w64 (by omega)]; omega
    have c1 : decide (((k + (i + 1) : Nat) : Int) ≤ (l.length : Int)) = true := decide_eq_true (by omega)
    have c2 : decide ((0 : Int) ≤ ((k + (i + 1) : Nat) : Int) ∧ ((k + (i + 1) : Nat) : Int) ≤ (l.length : Int)) = true := decide_eq_true (by omega)
    have c3 : decide ((0 : Int) ≤ (k : Int) ∧ (k : Int) ≤ ((k + (i + 1) : Nat) : Int)) = true := decide_eq_true (by omega)
    have es : (l.take (k + (i + 1))).drop k = (l.drop k).take (i + 1) := by rw [List.drop_take]; congr 1; omega
    have t1 := T148_sum hN ((l.drop k).take (i + 1)) (by simp; omega) (fun x h => hx x (List.mem_of_mem_drop (List.mem_of_mem_take h)))
    rw [win_sum] at t1
    refine ⟨?_, trivial⟩
    simp only [R78x6730, List.length_map, e1, c1, c2, c3, Int.toNat_natCast, Bool.and_self, cond_true, sub_map3, es, fa3, md3, Bool.and_true, Option.bind_some, t1, beq_self_eq_true, w_succ (show k < 9223372036854775807 by omega)]
    rfl) (fun s _ => by
    rw [List.length_range]
    have e1 : IntKind.wrap .i64 (((l.length - i : Nat) : Int) + ((i + 1 : Nat) : Int)) = (((l.length + 1 : Nat)) : Int) := by rw [w64 (by omega)]; omega
    have c1 : decide (((l.length + 1 : Nat) : Int) ≤ (l.length : Int)) = false := decide_eq_false (by omega)
    simp only [R78x6730, List.length_map, e1, c1, cond_false]) N s0 0 (Nat.zero_le _) (by unfold Big at hN; simp; omega) trivial
  rw [List.drop_zero] at key
  exact key

theorem T78_even : T78 N l = some (evenR l) := by
  rw [T78_eq]
  have key := loopR_fold (rd := R78x26 N l) (S := Unit) (Y := Unit) (List.range l.length) (fun _ k => ((k + 1 : Nat) : Int)) (fun _ i => if badW l i then .inr () else .inl ()) (fun _ => .inr ()) (fun _ => .inl false) (fun _ _ => True) (fun s k hk _ => by
    have hk : k < l.length := by simpa using hk
    rw [List.getElem_range]
    have p1 := psum_in l hx hs (k + 1)
    have hm : (List.range (l.length - k)).foldl (mmS l (k + 1)) (psum l (k + 1), psum l (k + 1)) = mm l (k + 1) := by unfold mm; rw [show l.length + 1 - (k + 1) = l.length - k from by omega]
    have hb0 : -256 ≤ psum l (k + 1) ∧ psum l (k + 1) ≤ 256 ∧ -256 ≤ psum l (k + 1) ∧ psum l (k + 1) ≤ 256 := ⟨by omega, by omega, by omega, by omega⟩
    have hb := mm_in hN l hl hx hs (k + 1) k (List.range (l.length - k)) (psum l (k + 1), psum l (k + 1)) hb0
    have r1 := R78_in hN l hl hx hs k hk (psum l (k + 1), psum l (k + 1)) hb0
    rw [hm] at hb r1
    have hw : IntKind.wrap .i64 ((mm l (k + 1)).2 - (mm l (k + 1)).1) = (mm l (k + 1)).2 - (mm l (k + 1)).1 := w64 (by omega)
    have c1 : decide (((k + 1 : Nat) : Int) ≤ (l.length : Int)) = true := decide_eq_true (by omega)
    have c2 : decide ((0 : Int) ≤ ((k + 1 : Nat) : Int) ∧ ((k + 1 : Nat) : Int) ≤ (l.length : Int)) = true := decide_eq_true (by omega)
    have t1 : T148 N (l.take (k + 1)) = some (psum l (k + 1)) := T148_sum hN (l.take (k + 1)) (by simp; omega) (fun x h => hx x (List.mem_of_mem_take h))
    have hws : IntKind.wrap .i64 (((k + 1 : Nat) : Int) + 1) = ((k + 1 + 1 : Nat) : Int) := w_succ (by omega)
    refine ⟨?_, fun _ _ => trivial⟩
    simp only [R78x26, List.length_map, c1, c2, Int.toNat_natCast, Bool.and_self, Bool.and_true, cond_true, sub_map3, List.drop_zero, fa3, md3, Option.bind_some, t1, r1, hw, hws]
    unfold badW
    by_cases h : (mm l (k + 1)).2 - (mm l (k + 1)).1 > 1
    · simp only [h, decide_true, cond_true, if_true, Sum.map_inr]
    · simp only [h, decide_false, cond_false, Bool.false_eq_true, if_false, Sum.map_inl]) (fun s _ => by
    rw [List.length_range]
    have c1 : decide (((l.length + 1 : Nat) : Int) ≤ (l.length : Int)) = false := decide_eq_false (by omega)
    simp only [R78x26, List.length_map, c1, cond_false]) N () 0 (Nat.zero_le _) (by unfold Big at hN; simp; omega) trivial
  have key' : loopR (R78x26 N l) N 1 = _ := key
  rw [key', List.drop_zero]
  have gen : ∀ m : List Nat, foldI (S := Unit) (Y := Unit) (fun _ i => if badW l i then .inr () else .inl ()) () m = if m.any (badW l) then .inr () else .inl () := fun m => by
    induction m with
    | nil => rfl
    | cons i m ih =>
      unfold foldI
      rw [List.any_cons]
      cases badW l i <;> simp [ih]
  rw [gen]
  unfold evenR
  cases (List.range l.length).any (badW l) <;> rfl
end

/-- What the program says of even runs. -/
theorem T62_even {N : Nat} (hN : Big N) (l : List Int) (hl : l.length ≤ 1000000) : T62 N l = some (if chkR l = 0 then (evenR l, 0) else (false, chkR l)) := by
  rw [T62_eq]
  simp only [fa3, md3, Bool.and_true, cond_true, Option.bind_some, T136_chk hN l hl]
  by_cases h : chkR l = 0
  · obtain ⟨_, h2, h3, h4⟩ := chkR_ok h
    obtain ⟨o, r1, r2⟩ := R62_out hN l h2 h3 h4
    have z : ((bif (allFit (Pat.fits p3) [(AV.int .i64 0)]) then some ((List.map d3 [(AV.int .i64 0)]), 0) else none : Option ((List Int) × Int))) = some ([0], 0) := rfl
    rw [h, z]
    simp only [bne_self_eq_false, cond_false, Option.bind_some]
    rw [show decide (1 = (List.map n3 [(0 : Int)]).length) = true from rfl, cond_true, Option.bind_some, R62_sums hN l h2 h3 h4]
    simp only [Option.bind_some, fa3, md3, cond_true, decide_true, r1, if_true]
    exact r2
  · have hb : (chkR l != 0) = true := bne_iff_ne.2 h
    rw [hb, if_neg h]
    rfl
theorem T75_from {N : Nat} (hN : Big N) (l : List Int) (hl : l.length ≤ 1000000) : T75 N l = some (if chkR l = 0 then (fromR l, 0) else ([], chkR l)) := by
  rw [T75_eq]
  simp only [fa3, md3, Bool.and_true, cond_true, Option.bind_some, T136_chk hN l hl]
  by_cases h : chkR l = 0
  · obtain ⟨_, h2, h3, h4⟩ := chkR_ok h
    have z : ((bif (allFit (Pat.fits p46) ([] : List AV)) then some ((List.map d46 ([] : List AV)), 0) else none : Option ((List (Int × Int)) × Int))) = some ([], 0) := rfl
    rw [h, z]
    simp only [bne_self_eq_false, cond_false, Option.bind_some, List.map_nil, List.length_nil, decide_true, cond_true, R75_out hN l h2 h3, fa46, md46, if_true]
  · have hb : (chkR l != 0) = true := bne_iff_ne.2 h
    rw [hb, if_neg h]
    rfl
theorem T77_from {N : Nat} (hN : Big N) (l : List Int) (h : chkR l = 0) : T77 N l = some (fromR l) := by
  rw [T77_eq]
  obtain ⟨_, h2, h3, h4⟩ := chkR_ok h
  have z : ((bif (allFit (Pat.fits p46) ([] : List AV) && true) then some ((List.map d46 ([] : List AV)), 0) else none : Option ((List (Int × Int)) × Int))) = some ([], 0) := rfl
  rw [z]
  simp only [Option.bind_some, List.map_nil, List.length_nil, decide_true, Bool.and_self, cond_true, R77_out hN l h2 h3, fa46, md46]

theorem chkJ_ok {m n : Int} {l : List (Int × Int)} (h : chkJ m n l = 0) : chkM m n = 0 ∧ ∀ p ∈ l, (0 ≤ p.1 ∧ p.1 < m) ∧ (0 ≤ p.2 ∧ p.2 < n) := by
  unfold chkJ at h
  split at h
  · rename_i h0; exact absurd h h0
  · rename_i h0
    have h0 : chkM m n = 0 := Decidable.not_not.1 h0
    refine ⟨h0, ?_⟩
    split at h
    · cases h
    · split at h
      · rename_i h2; exact absurd h h2
      · rename_i h2
        have h2 : firstNZ ((List.range l.length).map (errJ m n l)) = 0 := Decidable.not_not.1 h2
        intro p hp
        obtain ⟨k, hk, rfl⟩ := List.getElem_of_mem hp
        have e := firstNZ_zero.1 h2 (errJ m n l k) (List.mem_map.2 ⟨k, List.mem_range.2 hk, rfl⟩)
        have eg : l.getD k (0, 0) = l[k] := by simp [hk]
        unfold errJ at e
        simp only [eg] at e
        split at e
        · cases e
        · omega

theorem T61_runs {N : Nat} (hN : Big N) (m n : Int) (l : List (Int × Int)) (hl : l.length ≤ 1000000) : T61 N (m, n, l) = some (if chkJ m n l = 0 then (runsF m n l, 0) else ([], chkJ m n l)) := by
  rw [T61_eq]
  simp only [fa46, md46, Bool.and_true, cond_true, Option.bind_some, T19_chk hN l hl]
  by_cases h : chkJ m n l = 0
  · obtain ⟨h0, hx⟩ := chkJ_ok h
    obtain ⟨hm, hm', hn, hn'⟩ := chkM_ok h0
    simp only [h, bne_self_eq_false, cond_false, T135_runs hN m n l hl hm hm' hn hn' hx, Option.bind_some, fa3, md3, cond_true, if_true]
  · have hb : (chkJ m n l != 0) = true := bne_iff_ne.2 h
    rw [hb, if_neg h]
    rfl
theorem fromR_len (l : List Int) (hx : ∀ x ∈ l, 1 ≤ x ∧ x ≤ 256) (h : l.length ≤ 256) : (fromR l).length ≤ 1000000 := by
  have gen : ∀ (js : List Nat) (acc : List (Int × Int)), (js.foldl (fun acc i => addJ i acc (l.getD i 0).toNat) acc).length ≤ acc.length + 256 * js.length := fun js => by
    induction js with
    | nil => intro acc; simp
    | cons j js ih =>
      intro acc
      rw [List.foldl_cons]
      have h1 := ih (addJ j acc (l.getD j 0).toNat)
      have h2 : (l.getD j 0).toNat ≤ 256 := by
        by_cases hj : j < l.length
        · have := hx _ (List.getElem_mem hj)
          rw [show l.getD j 0 = l[j] from by simp [hj]]; omega
        · rw [show l.getD j 0 = 0 from by simp [hj]]; decide
      rw [addJ_len] at h1
      rw [List.length_cons]
      omega
  have := gen (List.range l.length) []
  unfold fromR
  simp at this ⊢
  omega

theorem app3 (N : Nat) {α : Type} (l : List Int) (hl : l.length ≤ 1000000) (f : List Int → Option α) :
    ((bif List.isEmpty (List.map n3 l) then f [] else bif decide ((0 + List.length (List.map n3 l)) * 8 ≤ 140737488355328) then f l else none) : Option α) = f l := by
  cases l with
  | nil => rfl
  | cons x l =>
    have h1 : List.isEmpty (List.map n3 (x :: l)) = false := rfl
    have h2 : decide ((0 + List.length (List.map n3 (x :: l))) * 8 ≤ 140737488355328) = true := by rw [List.length_map]; exact decide_eq_true (by omega)
    rw [h1, h2]; rfl

theorem sel3 {β : Type} (r : List Int) (hr : r.length ≤ 1000000) (f : List Int → Option β) (v : β) (h : f r = some v) :
    (bif (List.map n3 r).isEmpty then (bif allFit (Pat.fits p3) [] then some (List.map d3 []) else none : Option (List Int)).bind f else bif decide ((0 + r.length) * 8 ≤ 140737488355328) then some v else none) = some v := by
  cases r with
  | nil => exact h
  | cons x r =>
    have h1 : List.isEmpty (List.map n3 (x :: r)) = false := rfl
    have h2 : decide ((0 + (x :: r).length) * 8 ≤ 140737488355328) = true := decide_eq_true (by omega)
    rw [h1, h2]; rfl

theorem T12_true {N : Nat} (hN : Big N) (m n : Int) (l : List (Int × Int)) (r : List Int) : T12 N ((m, n, l), r) = some true := by
  rw [T12_eq]
  by_cases hw : (l.length : Int) > 20 ∨ ((r.length : Int) > 20 ∧ (r.length : Int) ≠ 257)
  · have h1 : ((bif (decide ((l.length : Int) > 20)) then (some true) else (bif (decide ((r.length : Int) > 20)) then (some ((r.length : Int) != 257)) else (some false))) : Option Bool) = some true := by
      rcases hw with h | ⟨h, h'⟩
      · simp only [h, decide_true, cond_true]
      · have h2 : ((r.length : Int) != 257) = true := bne_iff_ne.2 h'
        simp only [h, h2, decide_true, cond_true]
        cases decide ((l.length : Int) > 20) <;> rfl
    simp only [List.length_map, h1, cond_true, Option.bind_some]
    rfl
  · have h1 : ((bif (decide ((l.length : Int) > 20)) then (some true) else (bif (decide ((r.length : Int) > 20)) then (some ((r.length : Int) != 257)) else (some false))) : Option Bool) = some false := by
      have c1 : ¬ (l.length : Int) > 20 := by omega
      by_cases q : (r.length : Int) > 20
      · have q2 : (r.length : Int) = 257 := by omega
        simp [c1, q2]
      · simp only [c1, q, decide_false, cond_false]
    have hl : l.length ≤ 1000000 := by omega
    have hr : r.length ≤ 1000000 := by omega
    have z3 : ∀ (a : List Int), allFit (Pat.fits p3) ([] ++ List.map n3 a) = true := fun a => fa3 a
    have m3 : ∀ (a : List Int), List.map d3 ([] ++ List.map n3 a) = a := fun a => md3 a
    simp only [List.length_map, h1, Option.bind_some, cond_false, fa46, md46, fa3, md3, z3, m3, Bool.and_true, cond_true, T20_same N l hl, T61_runs hN m n l hl, T25_chk hN l hl, T63_chk hN r hr, T75_from hN r hr, T62_even hN r hr]
    have hA := sel3 r hr (fun x8 => (T75 N x8).bind fun y7 => some (y7.fst, y7.snd)) ((if chkR r = 0 then (fromR r, 0) else ([], chkR r)).fst, (if chkR r = 0 then (fromR r, 0) else ([], chkR r)).snd) (by rw [T75_from hN r hr]; rfl)
    have hB := sel3 r hr (fun x15 => (T62 N x15).bind fun y14 => some (y14.fst, y14.snd)) ((if chkR r = 0 then (evenR r, 0) else (false, chkR r)).fst, (if chkR r = 0 then (evenR r, 0) else (false, chkR r)).snd) (by rw [T62_even hN r hr]; rfl)
    rw [hA, hB]
    simp only [Option.bind_some]
    have hJ : ∃ u, ((bif chkJ m n l == 0 then (T76 N (m, n, l)).bind fun w25 => some w25 else (bif allFit (Pat.fits p3) [] then some (List.map d3 []) else none : Option (List Int)).bind fun w25 => some w25)) = some u ∧ (if chkJ m n l = 0 then (runsF m n l, (0 : Int)) else ([], chkJ m n l)) = (u, chkJ m n l) ∧ u.length ≤ 1000000 := by
      by_cases h : chkJ m n l = 0
      · obtain ⟨h0, hx⟩ := chkJ_ok h
        obtain ⟨hm, hm', hn, hn'⟩ := chkM_ok h0
        refine ⟨runsF m n l, ?_, by rw [if_pos h, h], ?_⟩
        · rw [h, T76_T135, T135_runs hN m n l hl hm hm' hn hn' hx]; rfl
        · unfold runsF
          rw [runs_len hN l hl, List.length_replicate]
          unfold shN; split <;> omega
      · refine ⟨[], ?_, by rw [if_neg h], by simp⟩
        rw [show (chkJ m n l == 0) = false from beq_false_of_ne h]; rfl
    have hR : ∃ u b, ((bif chkR r == 0 then (T77 N r).bind fun y28 => (T78 N r).bind fun y30 => some (y28, y30) else (bif allFit (Pat.fits p46) [] then some (List.map d46 [], false) else none : Option (List (Int × Int) × Bool)).bind fun w32 => some w32)) = some (u, b) ∧ (if chkR r = 0 then (fromR r, (0 : Int)) else ([], chkR r)) = (u, chkR r) ∧ (if chkR r = 0 then (evenR r, (0 : Int)) else (false, chkR r)) = (b, chkR r) ∧ u.length ≤ 1000000 := by
      by_cases h : chkR r = 0
      · obtain ⟨_, h2, h3, h4⟩ := chkR_ok h
        refine ⟨fromR r, evenR r, ?_, by rw [if_pos h, h], by rw [if_pos h, h], fromR_len r h3 h2⟩
        rw [T77_from hN r h, T78_even hN r h2 h3 h4, h]; rfl
      · refine ⟨[], false, ?_, by rw [if_neg h], by rw [if_neg h], by simp⟩
        rw [show (chkR r == 0) = false from beq_false_of_ne h]; rfl
    obtain ⟨u, j1, j2, j3⟩ := hJ
    obtain ⟨w, b, r1, r2, r3, r4⟩ := hR
    rw [j1, r1, j2, r2, r3]
    simp only [Option.bind_some, T60_same hN u j3, T24_same hN w r4, beq_self_eq_true, cond_true]
    rfl
end Go.Proofs.YtfiopgedfcaodaaGreatDoor
