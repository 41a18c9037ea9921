/- Plain laws: edges that return; TaperReturns. -/
import Derived.Test.YtbfappllfpngdaaGreatDoorTapPh
import Derived.Test.YtbfappllfpngdaaGreatDoorTapPj
set_option linter.all false
namespace Go.Proofs.YtbfappllfpngdaaGreatDoor
open Go Go.Am
set_option maxRecDepth 100000

/-! ### Vectors -/

theorem vec_rot (w : List UInt8) (k : Nat) : vec (rot w k) = vec w := by
  have h1 := vec_append (w.take k) (w.drop k)
  rw [List.take_append_drop] at h1
  unfold rot
  rw [vec_append, h1]
  unfold addP
  refine Prod.ext ?_ ?_ <;> simp only <;> omega
theorem vec_rep (w : List UInt8) : ∀ n : Nat, vec (repT w n) = ((n : Int) * (vec w).1, (n : Int) * (vec w).2)
  | 0 => by simp [repT, vec]
  | n + 1 => by
    show vec (w ++ repT w n) = _
    rw [vec_append, vec_rep w n]
    unfold addP
    refine Prod.ext ?_ ?_ <;> simp only [Int.natCast_add, Int.add_mul] <;> simp <;> omega

theorem lastK_vec (out : Bool) : ∀ (l : List UInt8) (p : Int × Int), lastK out p l = (p.1 + (if out then (vec l).1 else -(vec l).1), p.2 + (vec l).2)
  | [], p => by cases out <;> simp [lastK, vec]
  | c :: l, p => by
    have ih := lastK_vec out l (mv out p c)
    have h2 := foldl_addV l (addV (0, 0) c)
    show lastK out (mv out p c) l = _
    rw [ih]
    have hv : vec (c :: l) = addP (addV (0, 0) c) (vec l) := h2
    rw [hv]
    unfold addP addV mv
    cases out <;> (refine Prod.ext ?_ ?_ <;> simp only [Bool.false_eq_true, if_false, if_true] <;> omega)

theorem rot_mem {w : List UInt8} {k : Nat} {c : UInt8} (h : c ∈ rot w k) : c ∈ w := by
  rcases List.mem_append.1 h with h | h
  · exact List.mem_of_mem_drop h
  · exact List.mem_of_mem_take h
theorem wordErr_rot {w : List UInt8} (h : wordErr w = 0) {k : Nat} (hk : k ≤ w.length) : wordErr (rot w k) = 0 := by
  obtain ⟨h1, h2, h3⟩ := wordErr_ok h
  have hl := rot_length w hk
  have hne : rot w k ≠ [] := by
    intro e
    rw [e] at hl
    simp at hl
    exact h1 (List.eq_nil_of_length_eq_zero hl.symm)
  unfold wordErr
  rw [if_neg hne, if_neg (by omega), if_pos (List.all_eq_true.2 fun x hx => List.all_eq_true.1 h3 x (rot_mem hx))]

/-! ### Walks near the middle stay within the places -/

theorem near_steps (out : Bool) (p0 : Int × Int) : ∀ (l : List UInt8) (p : Int × Int) (m : Nat), Near p0 p m → ∀ s ∈ stepsL out p l, ∃ j, j ≤ m + l.length ∧ Near p0 (toK s) j
  | [], p, m, _, s, hs => by simp [stepsL] at hs
  | c :: l, p, m, hn, s, hs => by
    simp only [stepsL, List.mem_cons] at hs
    rcases hs with rfl | hs
    · exact ⟨m + 1, by simp, hn.mv out c⟩
    · obtain ⟨j, h1, h2⟩ := near_steps out p0 l (mv out p c) (m + 1) (hn.mv out c) s hs
      exact ⟨j, by simp only [List.length_cons]; omega, h2⟩

theorem walk_small {at0 : Int × Int} {w : List UInt8} {times : Int} (out : Bool) (h : edgeErr at0 w times = 0) (h1 : -5000 ≤ at0.1) (h2 : at0.1 ≤ 5000) (h3 : at0.2 ≤ 5000) : walkErr at0 w times out = 0 := by
  have ok := edgeErr_ok h
  have hl := ok.hl
  unfold walkErr
  rw [if_pos h]
  have hb : (knotsL out at0 (repT w times.toNat)).any badK = false := by
    rw [List.any_eq_false]
    intro q hq
    have hn : ∃ j, j ≤ 256 ∧ Near at0 q j := by
      rcases List.mem_cons.1 (show q ∈ at0 :: (stepsL out at0 (repT w times.toNat)).map toK from hq) with rfl | hq
      · exact ⟨0, by omega, Near.zero _⟩
      · obtain ⟨s, hs, rfl⟩ := List.mem_map.1 hq
        obtain ⟨j, j1, j2⟩ := near_steps out at0 _ at0 0 (Near.zero at0) s hs
        rw [repT_length, Nat.mul_comm] at j1
        exact ⟨j, by omega, j2⟩
    obtain ⟨j, j1, j2, j3, j4, j5⟩ := hn
    unfold badK
    have b1 : ¬ q.1 < -100000 := by omega
    have b2 : ¬ q.1 > 100000 := by omega
    have b3 : ¬ q.2 > 100000 := by omega
    simp [b1, b2, b3]
  rw [hb]
  rfl

/-! ### Knots by their places -/

theorem steps_at (out : Bool) : ∀ (l : List UInt8) (p : Int × Int) (k : Nat) (hk : k < l.length), (stepsL out p l)[k]'(by rw [stepsL_length]; exact hk) = st5 out ((knotsL out p l)[k]'(by rw [knotsL_length]; omega)) l[k]
  | [], _, k, hk => by simp at hk
  | c :: l, p, 0, _ => rfl
  | c :: l, p, k + 1, hk => steps_at out l (mv out p c) k (by simpa using hk)

theorem knots_last (out : Bool) : ∀ (l : List UInt8) (p : Int × Int), (knotsL out p l)[l.length]'(by rw [knotsL_length]; omega) = lastK out p l
  | [], p => rfl
  | c :: l, p => knots_last out l (mv out p c)

/-- The mirror image. -/
theorem mirror (a : Int) : ∀ (l : List UInt8) (p q : Int × Int), q.1 = 2 * a - p.1 → q.2 = p.2 → (knotsL false q l) = (knotsL true p l).map fun x => (2 * a - x.1, x.2)
  | [], p, q, h1, h2 => by
    have : q = (2 * a - p.1, p.2) := Prod.ext h1 h2
    subst this
    rfl
  | c :: l, p, q, h1, h2 => by
    have ih := mirror a l (mv true p c) (mv false q c) (by simp only [mv, if_true, Bool.false_eq_true, if_false]; omega) (by simp only [mv]; omega)
    have e : q = (2 * a - p.1, p.2) := Prod.ext h1 h2
    show q :: knotsL false (mv false q c) l = (p :: knotsL true (mv true p c) l).map _
    rw [ih, List.map_cons, ← e]

theorem rep_at (w : List UInt8) : ∀ (n i : Nat), i < (repT w n).length → (repT w n).getD i 0 = w.getD (i % w.length) 0
  | 0, i, h => by simp [repT] at h
  | n + 1, i, h => by
    have e : repT w (n + 1) = w ++ repT w n := rfl
    rw [e] at h ⊢
    rw [List.getD_eq_getElem?_getD, List.getD_eq_getElem?_getD]
    by_cases hi : i < w.length
    · rw [List.getElem?_append_left hi, Nat.mod_eq_of_lt hi]
    · rw [List.length_append] at h
      have ih := rep_at w n (i - w.length) (by omega)
      rw [List.getD_eq_getElem?_getD, List.getD_eq_getElem?_getD] at ih
      rw [List.getElem?_append_right (by omega), ih, show i % w.length = (i - w.length) % w.length from Nat.mod_eq_sub_mod (by omega)]

/-! ### Bars and meshes by their places -/

def barG (s : St5) : List (Int × Int × Int) := if s.1 = 66 then [(s.2.1, s.2.2.1, s.2.2.2.1 - s.2.1)] else []
def meshG (s : St5) : List (Int × Int) := if s.1 = 66 then [] else [((s.2.1 + s.2.2.2.1).tdiv 2, (s.2.2.1 + s.2.2.2.2).tdiv 2)]
theorem foldl_flat {α β : Type} {f : List β → α → List β} {g : α → List β} (h : ∀ a s, f a s = a ++ g s) : ∀ (l : List α) (a : List β), l.foldl f a = a ++ l.flatMap g
  | [], a => by simp
  | s :: l, a => by rw [List.foldl_cons, foldl_flat h l, h, List.flatMap_cons, List.append_assoc]
theorem bars_flat (l : List St5) : barsL l = l.flatMap barG := by
  unfold barsL
  rw [foldl_flat (g := barG) (fun a s => by unfold barF barG; split <;> simp)]
  rfl
theorem meshes_flat (l : List St5) : meshesL l = l.flatMap meshG := by
  unfold meshesL
  rw [foldl_flat (g := meshG) (fun a s => by unfold meshF meshG; split <;> simp)]
  rfl
theorem both_length (l : List St5) : (barsL l).length + (meshesL l).length = l.length := by
  rw [bars_flat, meshes_flat]
  induction l with
  | nil => rfl
  | cons s l ih =>
    rw [List.flatMap_cons, List.flatMap_cons, List.length_append, List.length_append, List.length_cons]
    have h : (barG s).length + (meshG s).length = 1 := by unfold barG meshG; split <;> rfl
    omega

theorem split_at {α : Type} (l : List α) (i : Nat) (h : i < l.length) : l = l.take i ++ l[i] :: l.drop (i + 1) := by
  rw [← List.drop_eq_getElem_cons h, List.take_append_drop]
theorem take_next {α : Type} (l : List α) (i : Nat) (h : i < l.length) : l.take (i + 1) = l.take i ++ [l[i]] := by
  rw [List.take_succ_eq_append_getElem h]

theorem nthD_mid {α : Type} (g : α → AV) (X : List α) (x : α) (R : List α) : nthD (List.map g (X ++ x :: R)) X.length = g x := by
  rw [nthD_map g _ X.length (by simp)]
  congr 1
  simp

section
variable {N : Nat} (hN : Big N)
include hN

theorem R9_loop (at0 : Int × Int) (w : List UInt8) (t : Nat) (o : Bool) (q5 q6 q7 q8 : Int) (ok : EdgeOk at0 w (t : Int)) (hw : w.length ≤ 10) (ht : t ≤ 6) (h1 : -1000 ≤ at0.1) (h2 : at0.1 ≤ 1000) (h3 : at0.2 ≤ 1000) :
    loopR (V := Int × Int × Int) (X := Bool ⊕ Unit) (R9x16378 N at0 (w, (t : Int), o) (knotsL true at0 (repT w t), q5) (knotsL false at0 (repT w t), q6) (barsL (stepsL true at0 (repT w t)), q7) (meshesL (stepsL true at0 (repT w t)), q8)) N (0, 0, 0) = some (.inr ()) := by
  have hk := ok.hk
  have hL : (repT w t).length = w.length * t := by rw [repT_length, Nat.mul_comm]
  have hLle : w.length * t ≤ 60 := Nat.le_trans (Nat.mul_le_mul_left _ ht) (by omega)
  have hwt : IntKind.wrap .i64 (((w.length : Nat) : Int) * (t : Int)) = ((w.length * t : Nat) : Int) := by rw [w64 (by rw [← Int.natCast_mul]; omega), Int.natCast_mul]
  have hg := good_walk hN at0 w t true ok
  rw [Int.toNat_natCast] at hg
  have hLl : ∀ c ∈ repT w t, isL c = true := fun c hc => List.all_eq_true.1 ok.hw.2.2 c (repT_mem hc)
  have hmir := mirror at0.1 (repT w t) at0 at0 (by omega) rfl
  have hrep := rep_at w t
  have hpos : 0 < w.length := by have := ok.hw.1; cases w; exact absurd rfl this; simp
  generalize hLd : repT w t = L at *
  have hS : (stepsL true at0 L).length = w.length * t := by rw [stepsL_length, hL]
  have hK : (knotsL true at0 L).length = w.length * t + 1 := by rw [knotsL_length, hL]
  have hM : (knotsL false at0 L).length = w.length * t + 1 := by rw [knotsL_length, hL]
  have key := loopR_count (rd := R9x16378 N at0 (w, (t : Int), o) (knotsL true at0 L, q5) (knotsL false at0 L, q6) (barsL (stepsL true at0 L), q7) (meshesL (stepsL true at0 L), q8)) (w.length * t)
    (fun i => (((barsL ((stepsL true at0 L).take i)).length : Int), ((meshesL ((stepsL true at0 L).take i)).length : Int), (i : Int))) (.inr ())
    (fun i hi => by
      have hiL : i < L.length := by omega
      have hiS : i < (stepsL true at0 L).length := by omega
      have k1 : i < (knotsL true at0 L).length := by omega
      have k2 : i + 1 < (knotsL true at0 L).length := by omega
      have k3 : i + 1 < (knotsL false at0 L).length := by omega
      have ea : (stepsL true at0 L)[i] = st5 true ((knotsL true at0 L)[i]) L[i] := steps_at true L at0 i hiL
      have en : (knotsL true at0 L)[i + 1] = toK (stepsL true at0 L)[i] := knots_next true L at0 i hiS
      have em : (knotsL false at0 L)[i + 1] = (2 * at0.1 - ((knotsL true at0 L)[i + 1]).1, ((knotsL true at0 L)[i + 1]).2) := by
        have : (knotsL false at0 L)[i + 1]? = ((knotsL true at0 L).map fun x => (2 * at0.1 - x.1, x.2))[i + 1]? := by rw [← hmir]
        rw [List.getElem?_map, List.getElem?_eq_getElem k2, List.getElem?_eq_getElem k3] at this
        exact Option.some.inj this
      have hc : isL L[i] = true := hLl _ (List.getElem_mem hiL)
      have hb := split_at (stepsL true at0 L) i hiS
      have hn := take_next (stepsL true at0 L) i hiS
      have hgood := (hg _ (List.getElem_mem hiS)).nums
      have hwi : w.getD (i % w.length) 0 = L[i] := by
        rw [← hrep i hiL, getD_at hiL]
      have n1 := nthD_map n54 (knotsL true at0 L) i k1
      have n2 := nthD_map n54 (knotsL true at0 L) (i + 1) k2
      have n3 := nthD_map n54 (knotsL false at0 L) (i + 1) k3
      rw [em] at n3
      rw [en, ea] at n2 n3
      have hble : (barsL ((stepsL true at0 L).take i)).length ≤ 60 := by have := both_length ((stepsL true at0 L).take i); rw [List.length_take] at this; omega
      have hmle : (meshesL ((stepsL true at0 L).take i)).length ≤ 60 := by have := both_length ((stepsL true at0 L).take i); rw [List.length_take] at this; omega
      have eB : barsL (stepsL true at0 L) = barsL ((stepsL true at0 L).take i) ++ (barG (stepsL true at0 L)[i] ++ ((stepsL true at0 L).drop (i + 1)).flatMap barG) := by
        rw [bars_flat, bars_flat]
        conv => lhs; rw [hb]
        rw [List.flatMap_append, List.flatMap_cons]
      have eM : meshesL (stepsL true at0 L) = meshesL ((stepsL true at0 L).take i) ++ (meshG (stepsL true at0 L)[i] ++ ((stepsL true at0 L).drop (i + 1)).flatMap meshG) := by
        rw [meshes_flat, meshes_flat]
        conv => lhs; rw [hb]
        rw [List.flatMap_append, List.flatMap_cons]
      have eB2 : barsL ((stepsL true at0 L).take (i + 1)) = barsL ((stepsL true at0 L).take i) ++ barG (stepsL true at0 L)[i] := by
        rw [hn, bars_flat, bars_flat, List.flatMap_append, List.flatMap_cons, List.flatMap_nil, List.append_nil]
      have eM2 : meshesL ((stepsL true at0 L).take (i + 1)) = meshesL ((stepsL true at0 L).take i) ++ meshG (stepsL true at0 L)[i] := by
        rw [hn, meshes_flat, meshes_flat, List.flatMap_append, List.flatMap_cons, List.flatMap_nil, List.append_nil]
      rw [eB2, eM2]
      rw [ea] at eB eM hgood ⊢
      generalize hBt : barsL ((stepsL true at0 L).take i) = Bt at *
      generalize hMt : meshesL ((stepsL true at0 L).take i) = Mt at *
      generalize hq : (knotsL true at0 L)[i] = q at *
      have hz : ¬ ((w.length : Nat) : Int) = 0 := by omega
      have him : decide ((0 : Int) ≤ ((i % w.length : Nat) : Int) ∧ ((i % w.length : Nat) : Int) < ((w.length : Nat) : Int)) = true := in_range (Nat.mod_lt _ hpos)
      obtain ⟨g1, g2, g3, g4, g5, g6, g7, g8, g9, g10⟩ := hgood
      have k4 : decide (((i + 1 : Nat) : Int) < ((knotsL true at0 L).length : Int)) = true := lt_range k2
      have x1 : (toK (st5 true q L[i])) = mv true q L[i] := rfl
      rw [x1] at n2 n3
      simp only [st5] at g2 g3 g4 g5 g6 g7 g8 g9
      have c1 : IntKind.wrap .i64 ((2 * at0.1 - (mv true q L[i]).1) - at0.1) = at0.1 - (mv true q L[i]).1 := by rw [w64 (by omega)]; omega
      have c2 : IntKind.wrap .i64 (at0.1 - (mv true q L[i]).1) = at0.1 - (mv true q L[i]).1 := w64 (by omega)
      simp only [R9x16378, hwt, lt_range hi, List.length_map, w_succ (show i < 9223372036854775807 by omega), in_range k1, in_range k2, in_range k3, Int.toNat_natCast, n1, n2, n3, fn54, dn54, Bool.and_self, cond_true, c1, c2, bne_self_eq_false, cond_false, Option.bind_some, hz, decide_false, Bool.not_false, tmod_nat, him, hwi]
      by_cases h66 : L[i] = 66
      · have e66 : ((L[i].toNat : Nat) : Int) = 66 := by rw [h66]; rfl
        have hst : stepI L[i] = (1, 1) := by rw [h66]; rfl
        have hbg : barG (st5 true q L[i]) = [(q.1, q.2, 1)] := by
          unfold barG
          rw [if_pos (show (st5 true q L[i]).1 = 66 from e66)]
          simp only [st5, mv, hst, if_true]
          congr 3
          omega
        have hmg : meshG (st5 true q L[i]) = [] := by
          unfold meshG
          rw [if_pos (show (st5 true q L[i]).1 = 66 from e66)]
        rw [hbg] at eB
        rw [hbg, hmg, eB]
        have hm1 : (mv true q L[i]).1 = q.1 + 1 := by simp only [mv, hst, if_true]
        have hm2 : (mv true q L[i]).2 = q.2 + 1 := by simp only [mv, hst]
        have hlt : Bt.length < (Bt ++ ([(q.1, q.2, (1 : Int))] ++ ((stepsL true at0 L).drop (i + 1)).flatMap barG)).length := by simp
        have hge : decide ((Bt.length : Int) ≥ ((Bt ++ ([(q.1, q.2, (1 : Int))] ++ ((stepsL true at0 L).drop (i + 1)).flatMap barG)).length : Int)) = false := by
          rw [decide_eq_false_iff_not]; omega
        have hmid := nthD_mid n83 Bt (q.1, q.2, (1 : Int)) (((stepsL true at0 L).drop (i + 1)).flatMap barG)
        have hmid' : nthD (List.map n83 (Bt ++ ([(q.1, q.2, (1 : Int))] ++ ((stepsL true at0 L).drop (i + 1)).flatMap barG))) Bt.length = n83 (q.1, q.2, (1 : Int)) := hmid
        have w1 : IntKind.wrap .i64 (q.1 + 1) = q.1 + 1 := w64 (by omega)
        have w2 : IntKind.wrap .i64 (q.2 + 1) = q.2 + 1 := w64 (by omega)
        simp only [e66, beq_self_eq_true, cond_true, hge, cond_false, in_range hlt, Int.toNat_natCast, hmid', fn83, dn83, Bool.and_self, Bool.not_true, hm1, hm2, w1, w2, Option.bind_some, Sum.elim_inl, w_succ (show Bt.length < 9223372036854775807 by omega)]
        simp only [List.length_append, List.length_cons, List.length_nil, Nat.add_zero, Nat.zero_add]
      · have e66 : ((L[i].toNat : Nat) : Int) ≠ 66 := fun e => h66 (UInt8.toNat_inj.1 (by have : (66 : UInt8).toNat = 66 := rfl; omega))
        have e66b : (((L[i].toNat : Nat) : Int) == 66) = false := by simpa using e66
        have hbg : barG (st5 true q L[i]) = [] := by
          unfold barG
          rw [if_neg (show ¬ (st5 true q L[i]).1 = 66 from e66)]
        obtain ⟨⟨d, hd⟩, ⟨e, he⟩⟩ := g10 e66
        simp only [st5] at hd he
        have hmg : meshG (st5 true q L[i]) = [(q.1 + d, q.2 + e)] := by
          unfold meshG
          rw [if_neg (show ¬ (st5 true q L[i]).1 = 66 from e66)]
          simp only [st5]
          rw [hd, he, show q.1 + (q.1 + 2 * d) = 2 * (q.1 + d) by omega, show q.2 + (q.2 + 2 * e) = 2 * (q.2 + e) by omega, Int.mul_tdiv_cancel_left _ (by omega), Int.mul_tdiv_cancel_left _ (by omega)]
        rw [hmg] at eM
        rw [hbg, hmg, eM]
        have hlt : Mt.length < (Mt ++ ([(q.1 + d, q.2 + e)] ++ ((stepsL true at0 L).drop (i + 1)).flatMap meshG)).length := by simp
        have hge : decide ((Mt.length : Int) ≥ ((Mt ++ ([(q.1 + d, q.2 + e)] ++ ((stepsL true at0 L).drop (i + 1)).flatMap meshG)).length : Int)) = false := by
          rw [decide_eq_false_iff_not]; omega
        have hmid : nthD (List.map n79 (Mt ++ ([(q.1 + d, q.2 + e)] ++ ((stepsL true at0 L).drop (i + 1)).flatMap meshG))) Mt.length = n79 (q.1 + d, q.2 + e) := nthD_mid n79 Mt (q.1 + d, q.2 + e) (((stepsL true at0 L).drop (i + 1)).flatMap meshG)
        have w1 : IntKind.wrap .i64 (2 * (q.1 + d)) = 2 * (q.1 + d) := w64 (by omega)
        have w2 : IntKind.wrap .i64 (2 * (q.2 + e)) = 2 * (q.2 + e) := w64 (by omega)
        have w3 : IntKind.wrap .i64 (q.1 + (mv true q L[i]).1) = 2 * (q.1 + d) := by rw [hd, w64 (by omega)]; omega
        have w4 : IntKind.wrap .i64 (q.2 + (mv true q L[i]).2) = 2 * (q.2 + e) := by rw [he, w64 (by omega)]; omega
        simp only [e66b, cond_false, hge, in_range hlt, Int.toNat_natCast, hmid, fn79, dn79, Bool.and_self, cond_true, w1, w2, w3, w4, bne_self_eq_false, Option.bind_some, Sum.elim_inl, w_succ (show Mt.length < 9223372036854775807 by omega)]
        simp only [List.length_append, List.length_cons, List.length_nil, Nat.add_zero, Nat.zero_add])
    (by
      have e1 : decide (((w.length * t : Nat) : Int) < ((w.length * t : Nat) : Int)) = false := by simp
      simp only [R9x16378, hwt, e1, cond_false]) N 0 (Nat.zero_le _) (by unfold Big at hN; omega)
  exact key
end
end Go.Proofs.YtbfappllfpngdaaGreatDoor
