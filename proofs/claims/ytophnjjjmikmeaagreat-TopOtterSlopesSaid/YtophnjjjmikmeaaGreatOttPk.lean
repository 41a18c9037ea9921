/- Plain laws: bars and nets are checked. -/
import Derived.Test.YtophnjjjmikmeaaGreatOttU
import Derived.Test.YtophnjjjmikmeaaGreatOttPh
set_option linter.all false
namespace Go.Proofs.YtophnjjjmikmeaaGreat
open Go Go.Am
set_option maxRecDepth 100000
abbrev vh := Int × Int × Int
theorem vd (N : Nat) (b : Bool) (e : Int) : HP N (b, e) = some (if b then e else 0) := by rw [yp]; cases b <;> rfl
theorem Hp (x y : Int) : ((bif allFit (aB.fits uQ) [AV.int .i64 x, AV.int .i64 y] && true then some (List.map d30 [AV.int .i64 x, AV.int .i64 y]) else none : Option (List Int))) = some [x, y] := rfl
def Av (b : vh) : Int × Int := (IntKind.wrap .i64 (b.1 + b.2.2), IntKind.wrap .i64 (b.2.1 + 1))
def vi (b : vh) : Int × Int := (b.1, b.2.1)
theorem Hq (N : Nat) (b : vh) : Rt N b = some (b.1, b.2.1, Av b) := by rw [Nr]; rfl
theorem NH (N : Nat) (b : vh) : Qa N b = some (vi b) := by rw [MN]; rfl
theorem NI (N : Nat) (b : vh) : Qb N b = some (Av b) := by rw [MP]; rfl
def pE (b : vh) : Int := if aV (vi b) ≠ 0 then aV (vi b) else if b.2.2 ≠ -1 ∧ b.2.2 ≠ 1 then 13 else aV (Av b)
theorem Ey {N : Nat} (hN : kp N) (p : Int × Int) : Ou N p = some (aP [pt p.1 (-100000) 100000, pt p.2 (-100000) 100000]) := by
  rw [GU]
  simp only [Dd, Option.bind_some, beq_self_eq_true, Bool.and_self, cond_true]
  rw [Hp]
  simp only [Option.bind_some]
  rw [fH hN _ (by simp)]
  rfl
theorem Hr (b : vh) (h0 : aV (vi b) = 0) (h1 : b.2.2 = -1 ∨ b.2.2 = 1) : aP [pt (Av b).1 (-100000) 100000, pt (Av b).2 (-100000) 100000] = aV (Av b) := by
  unfold aV vi at h0
  simp only at h0
  split at h0
  · cases h0
  · rename_i hr
    split at h0
    · rename_i hp
      have e1 : (Av b).1 = b.1 + b.2.2 := mm (by omega)
      have e2 : (Av b).2 = b.2.1 + 1 := mm (by omega)
      unfold aV
      rw [e1, e2]
      have W3 : (b.1 + b.2.2 + (b.2.1 + 1)) % 2 = 0 := by omega
      rw [if_pos W3]
      unfold pt
      simp only [aP]
      by_cases c1 : b.1 + b.2.2 < -100000 ∨ b.1 + b.2.2 > 100000
      · have c : b.1 + b.2.2 < -100000 ∨ b.1 + b.2.2 > 100000 ∨ b.2.1 + 1 < -100000 ∨ b.2.1 + 1 > 100000 := by omega
        rw [if_pos c, if_pos c1]; rfl
      · rw [if_neg c1]
        by_cases c2 : b.2.1 + 1 < -100000 ∨ b.2.1 + 1 > 100000
        · have c : b.1 + b.2.2 < -100000 ∨ b.1 + b.2.2 > 100000 ∨ b.2.1 + 1 < -100000 ∨ b.2.1 + 1 > 100000 := by omega
          rw [if_pos c, if_pos c2]; rfl
        · have c : ¬ (b.1 + b.2.2 < -100000 ∨ b.1 + b.2.2 > 100000 ∨ b.2.1 + 1 < -100000 ∨ b.2.1 + 1 > 100000) := by omega
          rw [if_neg c, if_neg c2]; rfl
    · cases h0
theorem JJ {N : Nat} (hN : kp N) (b : vh) : Qr N b = some (pE b) := by
  rw [Nt]
  have q1 : Mu N (b.1, b.2.1) = some (aV (vi b)) := uZ hN _
  simp only [q1, vd, Option.bind_some, beq_self_eq_true, Bool.and_self, cond_true, Hq]
  have q2 : ∀ s t : Bool, ((bif s then ((bif allFit (aB.fits uQ) [AV.int .i64 (aV (vi b)), AV.int .i64 (if t = true then 13 else 0)] && true then some (List.map d30 [AV.int .i64 (aV (vi b)), AV.int .i64 (if t = true then 13 else 0)]) else none : Option (List Int)).bind fun x => (EM N x).bind fun y => some y) else ((bif allFit (aB.fits uQ) [AV.int .i64 (aV (vi b)), AV.int .i64 (if false = true then 13 else 0)] && true then some (List.map d30 [AV.int .i64 (aV (vi b)), AV.int .i64 (if false = true then 13 else 0)]) else none : Option (List Int)).bind fun x => (EM N x).bind fun y => some y)) : Option Int) = some (aP [aV (vi b), if s && t then 13 else 0]) := fun s t => by
    rw [Hp, Hp]
    simp only [Option.bind_some]
    rw [fH hN _ (by simp), fH hN _ (by simp)]
    cases s <;> cases t <;> rfl
  rw [q2, Option.bind_some]
  have q3 : Ou N ((Av b).1, (Av b).2) = _ := Ey hN (Av b)
  unfold pE
  simp only [aP]
  by_cases h0 : aV (vi b) = 0
  · by_cases h1 : b.2.2 = -1 ∨ b.2.2 = 1
    · have hb : (b.2.2 != -1 && b.2.2 != 1) = false := by rcases h1 with h | h <;> rw [h] <;> rfl
      rw [hb]
      have hn : ¬ (b.2.2 ≠ -1 ∧ b.2.2 ≠ 1) := by omega
      rw [if_pos h0, if_neg (show ¬ aV (vi b) ≠ 0 from fun c => c h0), if_neg hn, ← Hr b h0 h1]
      simp only [Bool.false_eq_true, if_false, if_true, bne_self_eq_false, cond_false, q3, Option.bind_some]
    · have hb : (b.2.2 != -1 && b.2.2 != 1) = true := by
        rw [Bool.and_eq_true]; exact ⟨bne_iff_ne.2 (by omega), bne_iff_ne.2 (by omega)⟩
      have hn : b.2.2 ≠ -1 ∧ b.2.2 ≠ 1 := by omega
      rw [hb, if_pos h0, if_neg (show ¬ aV (vi b) ≠ 0 from fun c => c h0), if_pos hn]
      rfl
  · have hb : (aV (vi b) != 0) = true := bne_iff_ne.2 h0
    rw [if_neg h0, if_pos h0, hb]
    rfl
theorem JK (N : Nat) (b : vh) : Qd N b = some (pE b) := by
  rw [MR]
  have q1 : MJ N ((vi b).1, (vi b).2) = _ := Aj N (vi b)
  have q2 : MJ N ((Av b).1, (Av b).2) = _ := Aj N (Av b)
  have q0 : Qa N (b.1, b.2.1, b.2.2) = _ := NH N b
  have q3 : Qb N (b.1, b.2.1, b.2.2) = _ := NI N b
  simp only [q0, q1, q3, q2, Option.bind_some]
  unfold pE
  by_cases h0 : aV (vi b) = 0
  · rw [h0]
    by_cases h1 : b.2.2 = 1
    · rw [h1]; rfl
    · have hb : (b.2.2 != 1) = true := bne_iff_ne.2 h1
      by_cases h2 : b.2.2 = -1
      · rw [h2]; rfl
      · have Bv : (b.2.2 != -1) = true := bne_iff_ne.2 h2
        rw [hb, Bv, if_neg (show ¬ (0 : Int) ≠ 0 from fun c => c rfl), if_pos ⟨h2, h1⟩]
        rfl
  · have hb : (aV (vi b) == 0) = false := beq_false_of_ne h0
    rw [if_pos h0, hb]
    simp only [cond_false, Option.bind_some, hb]
def less (a b : vh) : Bool := if a.2.1 ≠ b.2.1 then decide (a.2.1 < b.2.1) else if a.1 ≠ b.1 then decide (a.1 < b.1) else decide (a.2.2 < b.2.2)
theorem Hs (N : Nat) (a b : vh) : Qe N (a, b) = some (less a b) := by
  rw [MT]
  unfold less
  by_cases h1 : a.2.1 = b.2.1
  · by_cases h2 : a.1 = b.1
    · simp [h1, h2]
    · have hb : (a.1 != b.1) = true := bne_iff_ne.2 h2
      simp [h1, h2, hb]
  · have hb : (a.2.1 != b.2.1) = true := bne_iff_ne.2 h1
    simp [h1, hb]
def Ez (a b : Int) : Int := if a < b then -1 else if a > b then 1 else 0
theorem NJ (N : Nat) (a b : Int) : Oy N (a, b) = some (Ez a b) := by
  rw [Nv]
  simp only [Jz, bne_self_eq_false, Option.bind_some, cond_false]
  unfold Ez
  by_cases h1 : a < b
  · simp [h1]
  · by_cases h2 : a > b <;> simp [h1, h2]
theorem EA {N : Nat} (hN : kp N) (l : List Int) (hl : l.length ≤ 9223372036854775806) : Ru N l = some (aP l) := by
  obtain ⟨o, h1, h2⟩ := nS (rd := yu N l) l (fun k hk => by
    have hd := jf n3 l k hk
    have e1 : d3 (aY (List.map n3 l) k) = l[k] := by rw [hd]; rfl
    have e2 : aB.fits p3 (aY (List.map n3 l) k) = true := by rw [hd]; rfl
    simp only [yu, List.length_map, Int.toNat_natCast, e1, e2, jh (show k < 9223372036854775807 by omega), fh hk, dP hk, Bool.and_self, cond_true]
    by_cases hz : l[k] = 0
    · simp [hz]
    · simp [hz, Bool.cond_eq_ite]) (by simp only [yu, List.length_map, fX, cond_false]) N (by unfold kp at hN; omega)
  rw [Nx, h1, Option.bind_some]
  rcases o with o | o
  · simpa using h2
  · simpa using h2
def NK (a b : vh) : Int := aP [Ez a.2.1 b.2.1, Ez a.1 b.1, Ez a.2.2 b.2.2]
theorem JL {N : Nat} (hN : kp N) (a b : vh) : Qt N (a, b) = some (NK a b) := by
  rw [Nz]
  simp only [NJ, Option.bind_some, beq_self_eq_true, Bool.and_self, cond_true]
  have h3 : ∀ x y z : Int, ((bif allFit (aB.fits p3) [AV.int .i64 x, AV.int .i64 y, AV.int .i64 z] && true then some (List.map d3 [AV.int .i64 x, AV.int .i64 y, AV.int .i64 z]) else none : Option (List Int))) = some [x, y, z] := fun x y z => rfl
  rw [h3]
  simp only [Option.bind_some]
  rw [EA hN _ (by simp)]
  rfl
theorem EB (a b : vh) : decide (NK a b ≥ 0) = !less a b := by
  unfold NK less Ez
  simp only [aP]
  by_cases h1 : a.2.1 < b.2.1
  · have : a.2.1 ≠ b.2.1 := by omega
    simp [h1, this]
  · by_cases h2 : a.2.1 > b.2.1
    · have : a.2.1 ≠ b.2.1 := by omega
      simp [h1, h2, this]
    · have : a.2.1 = b.2.1 := by omega
      simp only [h1, h2, this, if_false, if_true, ne_eq, not_true_eq_false]
      by_cases h3 : a.1 < b.1
      · have : a.1 ≠ b.1 := by omega
        simp [h3, this]
      · by_cases h4 : a.1 > b.1
        · have : a.1 ≠ b.1 := by omega
          simp [h3, h4, this]
        · have : a.1 = b.1 := by omega
          simp only [this, if_false, if_true, not_true_eq_false, Int.lt_irrefl, gt_iff_lt]
          by_cases h5 : a.2.2 < b.2.2
          · simp [h5]
          · by_cases h6 : b.2.2 < a.2.2 <;> simp [h5, h6]
def EC (l : List vh) (k : Nat) : Int := if pE (l.getD k (0, 0, 0)) ≠ 0 then pE (l.getD k (0, 0, 0)) else if 0 < k ∧ less (l.getD (k - 1) (0, 0, 0)) (l.getD k (0, 0, 0)) = false then 11 else 0
def Ck (l : List vh) : Int := if l.length > 4096 then 5 else aP ((List.range l.length).map (EC l))
theorem JM (C : List vh) {k : Nat} (hk : k < C.length) : d59 (aY (List.map eW C) k) = C[k] ∧ aB.fits uR (aY (List.map eW C) k) = true := by
  rw [jf eW C k hk, Tj, Ti]; exact ⟨rfl, rfl⟩
theorem NL {N : Nat} (hN : kp N) (l : List vh) : T9 N l = some (Ck l) := by
  rw [Qg]
  simp only [List.length_map]
  unfold Ck
  by_cases h : l.length > 4096
  · have h' : (l.length : Int) > 4096 := by omega
    simp [h, h']
  · have h' : ¬ (l.length : Int) > 4096 := by omega
    have key := rF (rd := C6 N l) ((List.range l.length).map (EC l)) (fun k hk => by
      have hk : k < l.length := by simpa using hk
      obtain ⟨a1, a2⟩ := JM l hk
      rw [List.getElem_map, List.getElem_range]
      have e1 : l.getD k (0, 0, 0) = l[k] := by simp [hk]
      unfold EC
      rw [e1]
      have q1 : Qd N (l[k].1, l[k].2.1, l[k].2.2) = _ := JK N l[k]
      simp only [C6, List.length_map, Int.toNat_natCast, a1, a2, fh hk, dP hk, Bool.and_self, cond_true, q1, Option.bind_some, jh (show k < 9223372036854775807 by omega)]
      by_cases h0 : pE l[k] = 0
      · rw [h0]
        by_cases yD : k = 0
        · subst yD; rfl
        · have NM : k - 1 < l.length := by omega
          obtain ⟨b1, b2⟩ := JM l NM
          have e2 : l.getD (k - 1) (0, 0, 0) = l[k - 1] := by simp [NM]
          rw [e2]
          have ew : IntKind.wrap .i64 ((k : Int) - 1) = ((k - 1 : Nat) : Int) := by rw [mm (by omega)]; omega
          have hp : decide ((k : Int) > 0) = true := decide_eq_true (by omega)
          have q2 : Qe N ((l[k - 1].1, l[k - 1].2.1, l[k - 1].2.2), (l[k].1, l[k].2.1, l[k].2.2)) = _ := Hs N l[k - 1] l[k]
          simp only [hp, ew, Int.toNat_natCast, b1, b2, dP NM, Bool.and_self, cond_true, q2, Option.bind_some, bne_self_eq_false, cond_false]
          cases less l[k - 1] l[k] with
          | true => simp
          | false => simp [show 0 < k by omega]
      · have hb : (pE l[k] != 0) = true := bne_iff_ne.2 h0
        simp [hb, h0]) (by
      rw [List.length_map, List.length_range]
      simp only [C6, List.length_map, fX, cond_false]) N (by unfold kp at hN; rw [List.length_map, List.length_range]; omega)
    rw [if_neg h]
    simp only [h', decide_false, cond_false, key, Option.bind_some]
    split <;> simp_all
theorem JN {N : Nat} (hN : kp N) (l : List vh) : Rv N l = some (Ck l) := by
  rw [NB]
  simp only [List.length_map]
  unfold Ck
  by_cases h : l.length > 4096
  · have h' : (l.length : Int) > 4096 := by omega
    simp [h, h']
  · have h' : ¬ (l.length : Int) > 4096 := by omega
    have key := rF (rd := uV N l) ((List.range l.length).map (EC l)) (fun k hk => by
      have hk : k < l.length := by simpa using hk
      obtain ⟨a1, a2⟩ := JM l hk
      rw [List.getElem_map, List.getElem_range]
      have e1 : l.getD k (0, 0, 0) = l[k] := by simp [hk]
      unfold EC
      rw [e1]
      have q1 : Qr N (l[k].1, l[k].2.1, l[k].2.2) = _ := JJ hN l[k]
      have two : ∀ x y : Int, ((bif allFit (aB.fits uQ) [AV.int .i64 x, AV.int .i64 y] && true then some (List.map d30 [AV.int .i64 x, AV.int .i64 y]) else none : Option (List Int))) = some [x, y] := fun x y => rfl
      have q5 : ∀ x y : Int, EM N [x, y] = some (aP [x, y]) := fun x y => fH hN _ (by simp)
      by_cases yD : k = 0
      · subst yD
        simp only [uV, List.length_map, Int.toNat_natCast, a1, a2, fh hk, dP hk, Bool.and_self, cond_true, q1, Option.bind_some, two, q5, vd, jh (show 0 < 9223372036854775807 by omega), show decide (((0 : Nat) : Int) > 0) = false from rfl, cond_false]
        by_cases h0 : pE l[0] = 0
        · simp [h0, aP]
        · have hb : (pE l[0] != 0) = true := bne_iff_ne.2 h0
          simp [h0, hb, aP]
      · have NM : k - 1 < l.length := by omega
        obtain ⟨b1, b2⟩ := JM l NM
        have e2 : l.getD (k - 1) (0, 0, 0) = l[k - 1] := by simp [NM]
        rw [e2]
        have ew : IntKind.wrap .i64 ((k : Int) - 1) = ((k - 1 : Nat) : Int) := by rw [mm (by omega)]; omega
        have em : (if ((k - 1 : Nat) : Int) > 0 then ((k - 1 : Nat) : Int) else 0) = ((k - 1 : Nat) : Int) := by split <;> omega
        have hp : decide ((k : Int) > 0) = true := decide_eq_true (by omega)
        have q2 : Qt N ((l[k - 1].1, l[k - 1].2.1, l[k - 1].2.2), (l[k].1, l[k].2.1, l[k].2.2)) = _ := JL hN l[k - 1] l[k]
        simp only [uV, List.length_map, Int.toNat_natCast, a1, a2, fh hk, dP hk, Bool.and_self, cond_true, q1, Option.bind_some, hp, ew, em, b1, b2, dP NM, q2, vd, EB, two, q5, jh (show k < 9223372036854775807 by omega)]
        by_cases h0 : pE l[k] = 0
        · cases less l[k - 1] l[k] with
          | true => simp [h0, aP]
          | false => simp [h0, aP, show 0 < k by omega]
        · have hb : (pE l[k] != 0) = true := bne_iff_ne.2 h0
          simp [h0, hb, aP]) (by
      rw [List.length_map, List.length_range]
      simp only [uV, List.length_map, fX, cond_false]) N (by unfold kp at hN; rw [List.length_map, List.length_range]; omega)
    rw [if_neg h]
    simp only [h', decide_false, cond_false, key, Option.bind_some]
    split <;> simp_all
end Go.Proofs.YtophnjjjmikmeaaGreat
