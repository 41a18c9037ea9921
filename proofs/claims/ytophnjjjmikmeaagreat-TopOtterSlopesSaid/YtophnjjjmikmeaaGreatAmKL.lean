/- The abstract machine: states that are brought to a form. -/
import Derived.Test.YtophnjjjmikmeaaGreatAmKK
import Derived.RangeFuncIn
import Derived.RangeFuncRecord
import Derived.RangeFuncNested
set_option linter.all false
namespace Go.Am
open Go
inductive As
  | open_
  | busy
  | ret
  | ex (i : Nat)
def As.is : As → Bool → Option Code → Bool → Bool
  | .open_, false, none, false => true
  | .busy, true, none, false => true
  | .ret, false, some .ret, true => true
  | .ex i, false, some (.exit j), true => Nat.beq i j
  | _, _, _, _ => false
def As.b : As → Bool
  | .busy => true
  | _ => false
def As.p : As → Option Code
  | .ret => some .ret
  | .ex i => some (.exit i)
  | _ => none
def As.d : As → Bool
  | .ret => true
  | .ex _ => true
  | _ => false
theorem As.CT {k : As} {b : Bool} {p : Option Code} {d : Bool} (h : k.is b p d = true) : b = k.b ∧ p = k.p ∧ d = k.d := by
  unfold As.is at h
  split at h <;> first | exact ⟨rfl, rfl, rfl⟩ | (cases h; done) | skip
  rw [Nat.eq_of_beq_eq_true h]
  exact ⟨rfl, rfl, rfl⟩
inductive GL
  | row (n : Nat)
  | tok (loc sz : Nat) (e : TypeId)
  | dead
  | lp (k : As)
  | bL
  | map
  | xM
  | cW (sz : Nat) (e : TypeId)
  | aG (sz : Nat) (e : TypeId)
  | oX
  | ls (eC : Nat)
  | fI (sz : Nat) (e : TypeId)
def BM (fs : List Nat) : List AV := fs.map fun n : Nat => .int .i64 n
def xN (l : List AV) : List Nat := l.map fun a => a.np.toNat
theorem rk (fs : List Nat) : xN (BM fs) = fs := by
  induction fs with
  | nil => rfl
  | cons n fs ih =>
    show (AV.int .i64 n).np.toNat :: xN (BM fs) = n :: fs
    rw [ih]
    simp [AV.np]
theorem uc (fs : List Nat) : dU (BM fs) = true := by
  induction fs with
  | nil => rfl
  | cons n fs ih => exact ih
def Eb (sz : Nat) (rows : List (List AV)) : List AV := rows.map fun r => .list .fY sz r
def uf (l : List AV) : List (List AV) := l.map AV.bV
theorem zO (sz : Nat) (rows : List (List AV)) : uf (Eb sz rows) = rows := by
  induction rows with
  | nil => rfl
  | cons r rows ih =>
    show r :: uf (Eb sz rows) = r :: rows
    rw [ih]
def zP : List (List AV) → Bool
  | [] => true
  | r :: l => dU r && zP l
theorem ug (sz : Nat) : ∀ rows : List (List AV), zP rows = true → tW (Eb sz rows) = true
  | [], _ => rfl
  | r :: rows, h => by
    simp only [zP, Bool.and_eq_true] at h
    show (dU r && tW (Eb sz rows)) = true
    rw [h.1, ug sz rows h.2]
    rfl
def Lz (k : As) : GO → GO → Bool
  | .loop _ _ _ _ _ _ _ _ _ _, .loop b p _ _ _ _ _ _ _ d => k.is b p d
  | _, _ => false
def Kd (k : As) : GO → GO
  | .loop _ _ fn sl n ps nI bd d _ => .loop k.b k.p fn sl n ps nI bd d k.d
  | _ => .dead
def mT (es : List (AV × AV)) : Bool := dU (bp es)
def xO : GO → GO → Bool
  | .tok f sz e, .tok f' aQ e' => decide (f' = f) && (Nat.beq aQ sz && Nat.beq e' e)
  | .defers a, .defers b => match a, b with
    | true, true => true
    | false, false => true
    | _, _ => false
  | .dead, _ => true
  | _, _ => false
structure bw where
  ps : aF
  sl : List Tmp
  W : List Tmp
  bx : List (Nat × Nat)
  g : List GL
  Oi : List (Tmp × Nat × Nat)
def uh (ae : aT) : List Tmp → Option (List AV)
  | [] => some []
  | t :: l => match lk ae t with
    | .v a => match uh ae l with
      | some r => some (a :: r)
      | none => none
    | _ => none
def ui (bx : bU) : List (Nat × Nat) → Option (List AV)
  | [] => some []
  | (k, n) :: l => match cF bx k with
    | some cs => match ui bx l with
      | some r => bif Nat.beq cs.length n then some (cs ++ r) else none
      | none => none
    | none => none
def gN : List GL → List GO → Option (List AV)
  | [], _ => some []
  | .row n :: l, .row cs _ :: G => match gN l G with
    | some r => bif Nat.beq cs.length n then some (cs ++ r) else none
    | none => none
  | .tok _ sz e :: l, .tok _ aQ e' :: G => bif Nat.beq sz aQ && Nat.beq e e' then gN l G else none
  | .dead :: l, _ :: G => gN l G
  | .lp _ :: l, _ :: G => gN l G
  | .bL :: l, _ :: G => gN l G
  | .map :: l, .map es :: G => match gN l G with
    | some r => some (.list .fY 2 (bp es) :: r)
    | none => none
  | .xM :: l, .eR s pos :: G => match gN l G with
    | some r => some (.str s :: .int .i64 pos :: r)
    | none => none
  | .cW sz e :: l, .cW es aQ e' :: G => match gN l G with
    | some r => bif Nat.beq sz aQ && Nat.beq e e' then some (.list .fY aQ es :: r) else none
    | none => none
  | .aG sz e :: l, .aG fs aQ e' :: G => match gN l G with
    | some r => bif Nat.beq sz aQ && Nat.beq e e' then some (.list .fY 1 (BM fs) :: r) else none
    | none => none
  | .fI sz e :: l, .fI rows aQ e' :: G => match gN l G with
    | some r => bif Nat.beq sz aQ && Nat.beq e e' then some (.list .fY 1 (Eb aQ rows) :: r) else none
    | none => none
  | .oX :: l, .map es :: G => match gN l G with
    | some r => some (.list .fY 2 (bp es) :: r)
    | none => none
  | .ls eC :: l, .ls mid' n left _ _ :: G => match gN l G with
    | some r => bif Nat.beq eC mid' then some (.int .i64 n :: .list .fY 1 (BM left) :: r) else none
    | none => none
  | _, _ => none
def FW (vs : List AV) (loc : Nat) : Nat := match nth vs loc with
  | some (.list _ _ es) => es.length
  | _ => 0
def Ke : GO → GO → Bool
  | .row _ e, .row _ e' => Nat.beq e e'
  | _, _ => false
def Kf : GO → GO → Bool
  | .ls _ _ _ _ t, .ls _ _ _ _ t' => Nat.beq t t'
  | _, _ => false
def Pu : GO → TypeId
  | .ls _ _ _ _ t => t
  | _ => 0
def Pv : GO → TypeId
  | .row _ e => e
  | _ => 0
def cC (vs : List AV) : List GL → List GO → List GO → Bool
  | [], _, _ => true
  | .tok loc _ _ :: l, _ :: B, .tok f _ _ :: G => decide (f = FW vs loc) && cC vs l B G
  | .tok _ _ _ :: _, _, _ => false
  | .lp k :: l, o :: B, o' :: G => Lz k o o' && cC vs l B G
  | .bL :: l, o :: B, o' :: G => xO o o' && cC vs l B G
  | .row _ :: l, b :: B, g :: G => Ke b g && cC vs l B G
  | .map :: l, _ :: B, .map es :: G => mT es && cC vs l B G
  | .map :: _, _, _ => false
  | .xM :: l, _ :: B, _ :: G => cC vs l B G
  | .cW _ _ :: l, _ :: B, _ :: G => cC vs l B G
  | .aG _ _ :: l, _ :: B, _ :: G => cC vs l B G
  | .fI _ _ :: l, _ :: B, .fI rows _ _ :: G => zP rows && cC vs l B G
  | .fI _ _ :: _, _, _ => false
  | .oX :: l, _ :: B, _ :: G => cC vs l B G
  | .ls _ :: l, b :: B, g :: G => Kf b g && cC vs l B G
  | .dead :: l, _ :: B, _ :: G => cC vs l B G
  | _, _, _ => false
def lZ : List Tmp → List AV → aT → aT
  | t :: ts, a :: l, r => .put t (.v a) :: lZ ts l r
  | _, _, r => r
def ma : List (Tmp × Nat × Nat) → aT → aT
  | (t, k, o) :: l, r => .put t (.lp k o) :: ma l r
  | [], r => r
def CU (ae : aT) : List (Tmp × Nat × Nat) → Bool
  | [] => true
  | (t, k, o) :: l => (match lk ae t with
    | .lp k' o' => Nat.beq k' k && Nat.beq o' o
    | _ => false) && CU ae l
def uj : List Tmp → aT → aT
  | t :: ts, r => .put t .none :: uj ts r
  | [], r => r
def rn : List (Nat × Nat) → List AV → bU → bU
  | (k, n) :: r, l, b => (k, l.take n) :: rn r (l.drop n) b
  | [], _, b => b
def cB (vs : List AV) : List GL → List GO → List AV → List GO
  | .row n :: r, B, l => .row (l.take n) (Pv (B.headD .dead)) :: cB vs r B.tail (l.drop n)
  | .tok loc sz e :: r, B, l => .tok (FW vs loc) sz e :: cB vs r B.tail l
  | .dead :: r, B, l => .dead :: cB vs r B.tail l
  | .lp k :: r, B, l => Kd k (B.headD .dead) :: cB vs r B.tail l
  | .bL :: r, B, l => B.headD .dead :: cB vs r B.tail l
  | .map :: r, B, l => .map (AV.entries (cX l)) :: cB vs r B.tail l.tail
  | .xM :: r, B, l => .eR (AV.KD (cX l)) (AV.np (cX l.tail)).toNat :: cB vs r B.tail l.tail.tail
  | .cW sz e :: r, B, l => .cW (AV.bV (cX l)) sz e :: cB vs r B.tail l.tail
  | .aG sz e :: r, B, l => .aG (xN (AV.bV (cX l))) sz e :: cB vs r B.tail l.tail
  | .fI sz e :: r, B, l => .fI (uf (AV.bV (cX l))) sz e :: cB vs r B.tail l.tail
  | .oX :: r, B, l => .map (AV.entries (cX l)) :: cB vs r B.tail l.tail
  | .ls eC :: r, B, l => .ls eC (AV.np (cX l)).toNat (xN (AV.bV (cX l.tail))) none (Pu (B.headD .dead)) :: cB vs r B.tail l.tail.tail
  | [], _, _ => []
def xP : List (Nat × Nat) → Nat
  | [] => 0
  | (_, n) :: l => n + xP l
def ic : List GL → List AV → Nat → Nat
  | [], _, _ => 0
  | .cW _ _ :: r, l, i => match i with
    | 0 => (AV.bV (cX l)).length
    | i + 1 => ic r l.tail i
  | .row n :: r, l, i => match i with
    | 0 => 0
    | i + 1 => ic r (l.drop n) i
  | .map :: r, l, i => match i with
    | 0 => 0
    | i + 1 => ic r l.tail i
  | .xM :: r, l, i => match i with
    | 0 => 0
    | i + 1 => ic r l.tail.tail i
  | .aG _ _ :: r, l, i => match i with
    | 0 => 0
    | i + 1 => ic r l.tail i
  | .fI _ _ :: r, l, i => match i with
    | 0 => 0
    | i + 1 => ic r l.tail i
  | .oX :: r, l, i => match i with
    | 0 => 0
    | i + 1 => ic r l.tail i
  | .ls _ :: r, l, i => match i with
    | 0 => 0
    | i + 1 => ic r l.tail.tail i
  | _ :: r, l, i => match i with
    | 0 => 0
    | i + 1 => ic r l i
def bw.mU (t : bw) (v : t.ps.T) : List AV := t.ps.iX (ic t.g (((t.ps.iX (fun _ => 0) v).drop t.sl.length).drop (xP t.bx))) v
def bw.st (t : bw) (s : St) (v : t.ps.T) : St :=
  ⟨ma t.Oi (lZ t.sl (t.mU v) (uj t.W s.ae)), rn t.bx ((t.mU v).drop t.sl.length) s.boxes, cB (t.mU v) t.g s.G (((t.mU v).drop t.sl.length).drop (xP t.bx)), s.marks, s.ro, s.n⟩
def HM : List Nat → Nat → Bool
  | [], _ => false
  | a :: l, n => Nat.beq a n || HM l n
def Oj (l : List Tmp) (W : List Tmp) (n : Nat) : Bool := HM l n || HM W n
def vC (d : Nat) (l W : List Tmp) : aT → Bool
  | [] => true
  | .put t (.lp k _) :: r => (!(Nat.beq k d) || Oj l W t) && vC d l W r
  | _ :: r => vC d l W r
def qp (l W : List Tmp) (base : aT) : aT → Bool
  | [] => true
  | .put d _ :: r => Oj l W d && qp l W base r
  | .kill d :: r => vC d l W base && qp l W base r
def qC : List (Nat × Nat) → Nat → Bool
  | [], _ => false
  | (a, _) :: l, n => Nat.beq a n || qC l n
def si (l : List (Nat × Nat)) (base : bU) : bU → Bool
  | [] => true
  | (k, _) :: r => (qC l k || (cF base k).isNone) && si l base r
def Ix : List Nat → List Nat → Bool
  | [], [] => true
  | a :: l, b :: r => Nat.beq a b && Ix l r
  | _, _ => false
def aB.Ue (n : Nat) : aB → Bool
  | .list _ p => p.under n
  | _ => false
def aF.flags (n : Nat) : aF → List Bool
  | .nil => []
  | .cons p ps => p.Ue n :: ps.flags n
def hY : List GL → List Bool → Bool
  | [], _ => true
  | .cW _ _ :: r, f :: l => f && hY r l
  | .cW _ _ :: _, [] => false
  | .row n :: r, l => hY r (dF n l)
  | .map :: r, l => hY r (dF 1 l)
  | .xM :: r, l => hY r (dF 2 l)
  | .aG _ _ :: r, l => hY r (dF 1 l)
  | .fI _ _ :: r, l => hY r (dF 1 l)
  | .oX :: r, f :: l => f && hY r l
  | .oX :: _, [] => false
  | .ls _ :: r, l => hY r (dF 2 l)
  | _ :: r, l => hY r l
def FX (n : Nat) : List GL → Bool
  | [] => true
  | .ls eC :: r => Nat.blt eC n && FX n r
  | _ :: r => FX n r
def bw.ok (t : bw) (s s' : St) : Bool :=
  qp t.sl t.W s.ae (s'.ae.take (s'.ae.length - s.ae.length)) && si t.bx s.boxes (s'.boxes.take (s'.boxes.length - s.boxes.length)) &&
    Ix s'.marks s.marks && Nat.beq t.g.length s.G.length && (t.ps.under s.G.length && (hY t.g (dF (xP t.bx) (dF t.sl.length (t.ps.flags s.G.length))) && FX s.G.length t.g)) && CU s'.ae t.Oi
def bw.dec (t : bw) (s s' : St) : Option t.ps.T :=
  bif t.ok s s' then
    match uh s'.ae t.sl, ui s'.boxes t.bx, gN t.g s'.G with
    | some a, some b, some c => (t.ps.D9 (ic t.g c) (a ++ (b ++ c))).bind fun v => bif cC (t.mU v) t.g s.G s'.G then some v else none
    | _, _, _ => none
  else none
theorem xQ {l : List Nat} {n : Nat} : HM l n = true ↔ n ∈ l := by
  induction l with
  | nil => simp [HM]
  | cons a l ih =>
    simp only [HM, Bool.or_eq_true, Nat.beq_eq, ih, List.mem_cons]
    constructor
    · rintro (h | h)
      · exact .inl h.symm
      · exact .inr h
    · rintro (h | h)
      · exact .inl h.symm
      · exact .inr h
theorem CV : ∀ {a b : List Nat}, Ix a b = true → a = b
  | [], [], _ => rfl
  | a :: l, b :: r, h => by
    simp only [Ix, Bool.and_eq_true, Nat.beq_eq] at h
    rw [h.1, CV h.2]
  | [], _ :: _, h => by cases h
  | _ :: _, [], h => by cases h
theorem xR {d : Nat} {l W : List Tmp} {t off : Nat} : ∀ {base : aT}, vC d l W base = true → lk base t = .lp d off → Oj l W t = true
  | [], _, h => by simp [lk] at h
  | .put t' x :: r, hn, h => by
    by_cases e : t' = t
    · subst e
      rw [ar] at h
      subst h
      simp only [vC, Nat.beq_refl, Bool.not_true, Bool.false_or, Bool.and_eq_true] at hn
      exact hn.1
    · rw [aC e] at h
      refine xR (base := r) ?_ h
      cases x <;> simp only [vC, Bool.and_eq_true] at hn
      · exact hn
      · exact hn
      · exact hn.2
  | .kill d' :: r, hn, h => by
    rcases Co (l := r) (d := d') (t := t) with ⟨h1, _⟩ | h1
    · rw [h1] at h
      exact xR (base := r) hn h
    · rw [h1] at h
      cases h
theorem xS {l W : List Tmp} {base : aT} {t : Nat} (ht : Oj l W t = false) : ∀ {pre : aT}, qp l W base pre = true → lk (pre ++ base) t = lk base t
  | [], _ => rfl
  | .put d x :: r, h => by
    simp only [qp, Bool.and_eq_true] at h
    have bS : d ≠ t := fun e => by rw [e, ht] at h; exact absurd h.1 (by simp)
    rw [List.cons_append, aC bS]
    exact xS ht h.2
  | .kill d :: r, h => by
    simp only [qp, Bool.and_eq_true] at h
    have ih := xS ht h.2
    simp only [List.cons_append, lk, ih]
    cases hb : lk base t with
    | lp k off =>
      by_cases e : k = d
      · subst e
        have := xR h.1 hb
        rw [ht] at this
        cases this
      · simp [ky e]
    | _ => rfl
theorem zQ {l : List (Nat × Nat)} {base : bU} {k : Nat} {cs : List AV} (hk : qC l k = false) (hb : cF base k = some cs) : ∀ {pre : bU}, si l base pre = true → cF (pre ++ base) k = some cs
  | [], _ => hb
  | (d, x) :: r, h => by
    simp only [si, Bool.and_eq_true] at h
    have bS : d ≠ k := fun e => by
      rw [e, hk, hb] at h
      exact absurd h.1 (by simp)
    rw [List.cons_append, cF, ky bS]
    exact zQ hk hb h.2
theorem zR {α : Type} (pre base : List α) : (pre ++ base).take ((pre ++ base).length - base.length) = pre := by
  rw [List.length_append, Nat.add_sub_cancel, List.take_left]
def af.cut (R : af) (n : Nat) : af := ⟨R.I, R.obj.take n⟩
theorem fU {R : af} {n id : Nat} {ro : RO} : nth (R.cut n).obj id = some ro ↔ id < n ∧ nth R.obj id = some ro := by
  simp only [af.cut, aD, List.getElem?_take]
  split
  · simp_all
  · simp_all
    omega
theorem kS (R : af) (n : Nat) : Mv R (R.cut n) n := ⟨fun _ _ h => h, fun _ _ hl h => fU.2 ⟨hl, h⟩⟩
section yF
variable {E : Env} {R R' : af} {w w' : World} {β β' : Nat → Nat} {s s' : St} {a a' : Act}
def uk (R : af) (w : World) (β : Nat → Nat) (K : Nat → Prop) (ae : aT) (tmps : Array Value) : Prop :=
  ∀ i, ¬ K i → lk ae i ≠ .none → ∃ c, tmps[i]? = some c ∧ lj R w β (lk ae i) c
theorem ul {tmps : Array Value} {base : aT} : ∀ {W : List Tmp} {K : Nat → Prop}, uk R w β (fun i => i ∈ W ∨ K i) base tmps → uk R w β K (uj W base) tmps
  | [], K, h => fun i hi hn => h i (by simpa using hi) hn
  | t :: W, K, h => fun i hi hn => by
    have ih : uk R w β (fun i => i = t ∨ K i) (uj W base) tmps := ul (W := W) (fun j hj => h j (fun hc => hj (by
      rcases hc with hc | hc
      · rcases List.mem_cons.1 hc with hc | hc
        · exact .inr (.inl hc)
        · exact .inl hc
      · exact .inr (.inr hc))))
    simp only [uj] at hn ⊢
    by_cases e : t = i
    · subst e
      rw [ar] at hn
      exact absurd rfl hn
    · rw [aC e] at hn ⊢
      exact ih i (by simp; exact ⟨fun e' => e e'.symm, hi⟩) hn
theorem rq {n : Nat} (m : Mv R' R n) {tmps : Array Value} {ae : aT} (hT : lA R' w β ae tmps) {base : aT} : ∀ {ts : List Tmp} {K : Nat → Prop} {l l' r r' : List AV}, uh ae ts = some l → bZ (l ++ r) (l' ++ r') → l.length = l'.length → aA n l' = true →
    uk R w β (fun i => i ∈ ts ∨ K i) base tmps → uk R w β K (lZ ts (l' ++ r') base) tmps
  | [], K, l, l', r, r', _, _, _, _, h => fun i hi hn => by
    have e : lZ [] (l' ++ r') base = base := rfl
    rw [e] at hn ⊢
    exact h i (by simpa using hi) hn
  | t :: ts, K, l, l', r, r', hg, hw, hl, hu, h => by
    unfold uh at hg
    split at hg
    · rename_i a ha
      split at hg
      · rename_i l0 sa
        cases hg
        cases l' with
        | nil => simp at hl
        | cons b l' =>
          simp only [List.cons_append, bZ] at hw
          simp only [aA, Bool.and_eq_true] at hu
          have ih : uk R w β (fun i => i = t ∨ K i) (lZ ts (l' ++ r') base) tmps := rq m hT sa hw.2 (by simpa using hl) hu.2 (fun j hj => h j (fun hc => hj (by
            rcases hc with hc | hc
            · rcases List.mem_cons.1 hc with hc | hc
              · exact .inr (.inl hc)
              · exact .inl hc
            · exact .inr (.inr hc))))
          intro i hi hn
          simp only [lZ, List.cons_append] at hn ⊢
          by_cases e : t = i
          · subst e
            rw [ar] at hn ⊢
            obtain ⟨c, h1, h2⟩ := hT t (by rw [ha]; simp)
            rw [ha] at h2
            exact ⟨c, h1, Rel.move m hu.1 (hw.1 _ _ _ h2)⟩
          · rw [aC e] at hn ⊢
            exact ih i (by simp; exact ⟨fun e' => e e'.symm, hi⟩) hn
      · cases hg
    · cases hg
def um (R : af) (w : World) (β : Nat → Nat) (k : Nat) (cs : List AV) : Prop :=
  (∃ vs el, w.heap[β k]? = some (.cells ⟨vs⟩ el (0, 0)) ∧ ay R w cs vs ∧ (∀ v ∈ vs, v.oneCell' = true)) ∧ (∀ o, ¬ R.I (β k) o) ∧ ¬ Live R (β k)
theorem mb {R : af} {n b : Nat} (h : Live (R.cut n) b) : Live R b := by
  obtain ⟨id, ro, h1, h2⟩ := h
  exact ⟨id, ro, (fU.1 h1).2, h2⟩
theorem um.cut {n k : Nat} {cs di : List AV} (h : um R w β k cs) (hw : bZ cs di) (hu : aA n di = true) : um (R.cut n) w β k di := by
  obtain ⟨⟨vs, el, h1, h2, h3⟩, h4, h5⟩ := h
  exact ⟨⟨vs, el, h1, (hw.rel h2).move (kS R n) hu, h3⟩, h4, fun hl => h5 (mb hl)⟩
theorem dq {n : Nat} : ∀ {l r : List AV}, aA n (l ++ r) = (aA n l && aA n r)
  | [], r => by simp [aA]
  | a :: l, r => by simp [aA, dq (l := l), Bool.and_assoc]
theorem bZ.split : ∀ {l r l' : List AV}, bZ (l ++ r) l' → ∃ a b, l' = a ++ b ∧ bZ l a ∧ bZ r b ∧ a.length = l.length
  | [], r, l', h => ⟨[], l', rfl, trivial, h, rfl⟩
  | x :: l, r, [], h => h.elim
  | x :: l, r, y :: l', h => by
    obtain ⟨a, b, rfl, h2, h3, h4⟩ := bZ.split (l := l) (r := r) (l' := l') h.2
    exact ⟨y :: a, b, rfl, ⟨h.1, h2⟩, h3, by simp [h4]⟩
theorem zS {n : Nat} {Q1 : bU} (hb : ∀ k cs, cF Q1 k = some cs → um R w β k cs) {base : bU} : ∀ {bx : List (Nat × Nat)} {K : Nat → Prop} {l l' r : List AV}, ui Q1 bx = some l → bZ l l' → aA n l' = true →
    (∀ k cs, ¬ K k → qC bx k = false → cF base k = some cs → cF Q1 k = some cs ∧ aA n cs = true) →
    ∀ k cs, ¬ K k → cF (rn bx (l' ++ r) base) k = some cs → um (R.cut n) w β k cs ∧ ∃ di, cF Q1 k = some di
  | [], K, l, l', r, _, _, _, h, k, cs, hK, hk => by
    obtain ⟨h1, h2⟩ := h k cs hK rfl hk
    exact ⟨(hb k cs h1).cut (bZ.refl _) h2, cs, h1⟩
  | (d, m) :: bx, K, l, l', r, hg, hw, hu, h, k, cs, hK, hk => by
    unfold ui at hg
    split at hg
    · rename_i Pg hd
      split at hg
      · rename_i l0 sa
        cases hm : Nat.beq Pg.length m with
        | false => rw [hm] at hg; cases hg
        | true =>
          rw [hm] at hg
          cases hg
          have hm := Nat.eq_of_beq_eq_true hm
          obtain ⟨x, y, rfl, k1, k2, k3⟩ := hw.split
          rw [dq, Bool.and_eq_true] at hu
          have e1 : ((x ++ y) ++ r).take m = x := by rw [List.append_assoc, ← hm, ← k3, List.take_left]
          have e2 : ((x ++ y) ++ r).drop m = y ++ r := by rw [List.append_assoc, ← hm, ← k3, List.drop_left]
          simp only [rn, e1, e2] at hk
          rcases dz hk with ⟨rfl, rfl⟩ | ⟨bS, hk⟩
          · exact ⟨(hb d Pg hd).cut k1 hu.1, Pg, hd⟩
          · refine zS hb (K := fun k => k = d ∨ K k) (r := r) sa k2 hu.2 (fun k' di Uf h1 h2 => ?_) k cs (fun hc => ?_) hk
            · exact h k' di (fun hc => Uf (.inr hc)) (by simp only [qC, h1, Bool.or_false]; exact ky (fun e => Uf (.inl e.symm))) h2
            · rcases hc with hc | hc
              · exact bS hc.symm
              · exact hK hc
      · cases hg
    · cases hg
def rX (n : Nat) : List GL → List AV → Prop
  | [], _ => True
  | .cW _ _ :: r, l => aA n (AV.bV (cX l)) = true ∧ rX n r l.tail
  | .row m :: r, l => rX n r (l.drop m)
  | .map :: r, l => rX n r l.tail
  | .xM :: r, l => rX n r l.tail.tail
  | .aG _ _ :: r, l => rX n r l.tail
  | .fI _ _ :: r, l => rX n r l.tail
  | .oX :: r, l => aA n (AV.bV (cX l)) = true ∧ rX n r l.tail
  | .ls _ :: r, l => rX n r l.tail.tail
  | _ :: r, l => rX n r l
def mc (n : Nat) : List Bool → List AV → Prop
  | [], _ => True
  | _ :: _, [] => True
  | f :: fl, a :: l => (f = true → aA n a.bV = true) ∧ mc n fl l
theorem mc.drop {m : Nat} : ∀ {fl : List Bool} {l : List AV} (n : Nat), mc m fl l → mc m (dF n fl) (l.drop n)
  | _, _, 0, h => by simpa [dF] using h
  | [], _, _ + 1, _ => by simp [dF, mc]
  | _ :: fl, [], n + 1, _ => by
    rw [List.drop_nil]
    cases dF (n + 1) (_ :: fl) <;> trivial
  | _ :: fl, _ :: l, n + 1, h => by simpa [dF] using mc.drop n h.2
theorem dK {m : Nat} : ∀ (g : List GL) {fl : List Bool} {l : List AV}, hY g fl = true → mc m fl l → rX m g l
  | [], _, _, _, _ => trivial
  | .cW _ _ :: g, [], _, h, _ => by cases h
  | .cW _ _ :: g, f :: fl, [], h, _ => by
    simp only [hY, Bool.and_eq_true] at h
    refine ⟨rfl, dK g (fl := fl) h.2 ?_⟩
    cases fl <;> trivial
  | .cW _ _ :: g, f :: fl, a :: l, h, k => by
    simp only [hY, Bool.and_eq_true] at h
    exact ⟨k.1 h.1, dK g h.2 k.2⟩
  | .row n :: g, fl, l, h, k => dK g (show hY g (dF n fl) = true from h) (k.drop n)
  | .map :: g, fl, l, h, k => by
    have := dK g (show hY g (dF 1 fl) = true from h) (k.drop 1)
    rw [List.drop_one] at this
    exact this
  | .xM :: g, fl, l, h, k => by
    have := dK g (show hY g (dF 2 fl) = true from h) (k.drop 2)
    have e : l.drop 2 = l.tail.tail := by cases l with
      | nil => rfl
      | cons a l => cases l <;> rfl
    rw [e] at this
    exact this
  | .aG _ _ :: g, fl, l, h, k => by
    have := dK g (show hY g (dF 1 fl) = true from h) (k.drop 1)
    rw [List.drop_one] at this
    exact this
  | .fI _ _ :: g, fl, l, h, k => by
    have := dK g (show hY g (dF 1 fl) = true from h) (k.drop 1)
    rw [List.drop_one] at this
    exact this
  | .ls _ :: g, fl, l, h, k => by
    have := dK g (show hY g (dF 2 fl) = true from h) (k.drop 2)
    have e : l.drop 2 = l.tail.tail := by cases l with
      | nil => rfl
      | cons a l => cases l <;> rfl
    rw [e] at this
    exact this
  | .oX :: g, [], _, h, _ => by cases h
  | .oX :: g, f :: fl, [], h, _ => by
    simp only [hY, Bool.and_eq_true] at h
    refine ⟨rfl, dK g (fl := fl) h.2 ?_⟩
    cases fl <;> trivial
  | .oX :: g, f :: fl, a :: l, h, k => by
    simp only [hY, Bool.and_eq_true] at h
    exact ⟨k.1 h.1, dK g h.2 k.2⟩
  | .tok _ _ _ :: g, fl, l, h, k => dK g (show hY g fl = true from h) k
  | .dead :: g, fl, l, h, k => dK g (show hY g fl = true from h) k
  | .lp _ :: g, fl, l, h, k => dK g (show hY g fl = true from h) k
  | .bL :: g, fl, l, h, k => dK g (show hY g fl = true from h) k
theorem uo {n : Nat} {α : Type} {g : α → AV} (hg : ∀ x, (g x).under n = true) : ∀ xs : List α, aA n (xs.map g) = true
  | [] => rfl
  | x :: xs => by simp only [List.map_cons, aA, hg x, uo hg xs, Bool.and_self]
theorem aF.zT (n : Nat) (L : Nat → Nat) : ∀ (ps : aF) (x : ps.T), mc n (ps.flags n) (ps.iX L x)
  | .nil, _ => trivial
  | .cons p .nil, x => ⟨fun h => Kg L p x h, trivial⟩
  | .cons p (.cons q ps), x => ⟨fun h => Kg L p x.1 h, (aF.cons q ps).zT n L x.2⟩
where
  Kg (L : Nat → Nat) : ∀ (p : aB) (x : p.T), p.Ue n = true → aA n (p.iX L x).bV = true
    | .list _ p, x, h => uo (fun y => p.cM y h) _
    | .int _, _, h => by cases h
    | .bool, _, h => by cases h
    | .str, _, h => by cases h
    | .agg _, _, h => by cases h
    | .bC _, _, h => by cases h
    | .own _ _ _, _, h => by cases h
    | .aG _ _ _, _, h => by cases h
    | .eT _ _, _, h => by cases h
    | .qB _, _, h => by cases h
    | .two _ _, _, h => by cases h
def Sr (n : Nat) : GO → GO → Prop
  | .row cs el, .row di QJ => QJ = el ∧ bZ cs di ∧ aA n di = true
  | .tok f sz e, .tok f' aQ e' => f = f' ∧ sz = aQ ∧ e = e'
  | .defers a, .defers b => a = b
  | .map es, .map es' => (es' = es ∧ mT es = true) ∨ ∃ l, es' = ax l ∧ hX (bp es) l ∧ aA n l = true
  | .aG fs sz e, .aG wX aQ e' => fs = wX ∧ sz = aQ ∧ e = e'
  | .fI rows sz e, .fI rows' aQ e' => rows = rows' ∧ sz = aQ ∧ e = e'
  | .ls eC m left _ t, .ls mid' m' wh cur t' => eC = mid' ∧ m = m' ∧ left = wh ∧ t = t' ∧ eC < n ∧ cur = none
  | .eR l p, .eR l' p' => l' = l ∧ p' = p
  | .cW es sz e, .cW es' aQ e' => aQ = sz ∧ e' = e ∧ hX es es' ∧ aA n es' = true
  | _, .dead => True
  | _, _ => False
def Ss : GO → GO → GO → Prop
  | .loop _ _ fn sl n ps nI bd d _, .loop b p _ _ _ _ _ _ _ dn, go => go = .loop b p fn sl n ps nI bd d dn
  | _, _, _ => False
theorem Ec {n : Nat} {o o' : GO} (h : xO o o' = true) : Sr n o' o := by
  cases o with
  | tok f sz e =>
    cases o' with
    | tok f' aQ e' =>
      simp only [xO, Bool.and_eq_true] at h
      exact ⟨of_decide_eq_true h.1, Nat.eq_of_beq_eq_true h.2.1, Nat.eq_of_beq_eq_true h.2.2⟩
    | _ => cases h
  | defers a =>
    cases o' with
    | defers b => cases a <;> cases b <;> first | rfl | cases h
    | _ => cases h
  | dead => cases o' <;> trivial
  | _ => cases h
theorem Iy {k : As} {o o' : GO} (h : Lz k o o' = true) : Ss o o' (Kd k o) := by
  cases o with
  | loop b p fn sl n ps nI bd d dn =>
    cases o' with
    | loop b' p' Su Oh n' Pw Iz Ok d' dn' =>
      obtain ⟨rfl, rfl, rfl⟩ := As.CT (show k.is b' p' dn' = true from h)
      rfl
    | _ => cases h
  | _ => cases h
theorem ng (a : AV) : a.entries = ax a.bV := by cases a <;> rfl
theorem eP {n : Nat} {vs : List AV} : ∀ {g : List GL} {B G : List GO} {l l' : List AV}, gN g G = some l → bZ l l' → EJ l l' → rX n g l' ∧ FX n g = true → aA n l' = true → cC vs g B G = true →
    ∀ id go, nth (cB vs g B l') id = some go → ∃ go', nth G id = some go' ∧ (Sr n go' go ∨ ∃ EH, nth B id = some EH ∧ Ss EH go' go)
  | [], B, G, l, l', _, _, _, _, _, _, id, go, h => by simp [cB, nth] at h
  | x :: g, [], G, l, l', _, _, _, _, _, ht, _, _, _ => by cases x <;> cases G <;> cases ht
  | x :: g, _ :: _, [], l, l', _, _, _, _, _, ht, _, _, _ => by cases x <;> cases ht
  | .row m :: g, b :: B, o :: G, l, l', hg, hw, hx, nX, hu, ht, id, go, h => by
      obtain ⟨CH, oB⟩ : Ke b o = true ∧ cC vs g B G = true := by
        rw [← Bool.and_eq_true]
        cases o <;> exact ht
      cases o with
      | row cs el =>
        have iI : Pv b = el := by
          cases b <;> first | (cases CH; done) | exact Nat.eq_of_beq_eq_true CH
        change (match gN g G with
          | some r => bif Nat.beq cs.length m then some (cs ++ r) else none
          | none => none) = some l at hg
        split at hg
        · rename_i r hr
          cases hm : Nat.beq cs.length m with
          | false => rw [hm] at hg; cases hg
          | true =>
            rw [hm] at hg
            cases hg
            have hm := Nat.eq_of_beq_eq_true hm
            obtain ⟨x, y, rfl, k1, k2, k3⟩ := hw.split
            rw [dq, Bool.and_eq_true] at hu
            have e1 : (x ++ y).take m = x := by rw [← hm, ← k3, List.take_left]
            have e2 : (x ++ y).drop m = y := by rw [← hm, ← k3, List.drop_left]
            simp only [cB, e1, e2] at h
            cases id with
            | zero => simp only [nth] at h; cases h; exact ⟨.row cs el, rfl, .inl ⟨iI, k1, hu.1⟩⟩
            | succ id => exact eP hr k2 (by obtain ⟨x', y', T2, Xl, HK, V1⟩ := hx.split; have := List.append_inj T2 (by rw [k3, V1]); rw [this.2]; exact HK) (by rw [← e2]; exact nX) hu.2 oB id go h
        · cases hg
      | _ => cases hg
  | .tok loc sz e :: g, b :: B, o :: G, l, l', hg, hw, hx, nX, hu, ht, id, go, h => by
      cases o with
      | tok f aQ e' =>
        change (bif Nat.beq sz aQ && Nat.beq e e' then gN g G else none) = some l at hg
        change (decide (f = FW vs loc) && cC vs g B G) = true at ht
        rw [Bool.and_eq_true] at ht
        cases hm : (Nat.beq sz aQ && Nat.beq e e') with
        | false => rw [hm] at hg; cases hg
        | true =>
          rw [hm] at hg
          rw [Bool.and_eq_true] at hm
          have q1 := Nat.eq_of_beq_eq_true hm.1
          have q2 := Nat.eq_of_beq_eq_true hm.2
          simp only [cB] at h
          cases id with
          | zero =>
            simp only [nth] at h
            cases h
            exact ⟨.tok f aQ e', rfl, .inl ⟨of_decide_eq_true ht.1, q1.symm, q2.symm⟩⟩
          | succ id => exact eP hg hw hx nX hu ht.2 id go h
      | _ => cases hg
  | .dead :: g, b :: B, o :: G, l, l', hg, hw, hx, nX, hu, ht, id, go, h => by
      simp only [cB] at h
      have vS : gN g G = some l := by cases o <;> exact hg
      have oB : cC vs g B G = true := by cases o <;> exact ht
      cases id with
      | zero =>
        simp only [nth] at h
        cases h
        exact ⟨o, rfl, .inl (by cases o <;> trivial)⟩
      | succ id => exact eP vS hw hx nX hu oB id go h
  | .lp k :: g, b :: B, o :: G, l, l', hg, hw, hx, nX, hu, ht, id, go, h => by
      simp only [cB] at h
      have vS : gN g G = some l := by cases o <;> exact hg
      change (Lz k b o && cC vs g B G) = true at ht
      rw [Bool.and_eq_true] at ht
      cases id with
      | zero =>
        simp only [nth] at h
        cases h
        exact ⟨o, rfl, .inr ⟨b, rfl, Iy ht.1⟩⟩
      | succ id => exact eP vS hw hx nX hu ht.2 id go h
  | .bL :: g, b :: B, o :: G, l, l', hg, hw, hx, nX, hu, ht, id, go, h => by
      simp only [cB] at h
      have vS : gN g G = some l := by cases o <;> exact hg
      change (xO b o && cC vs g B G) = true at ht
      rw [Bool.and_eq_true] at ht
      cases id with
      | zero =>
        simp only [nth] at h
        cases h
        exact ⟨o, rfl, .inl (Ec ht.1)⟩
      | succ id => exact eP vS hw hx nX hu ht.2 id go h
  | .map :: g, b :: B, o :: G, l, l', hg, hw, hx, nX, hu, ht, id, go, h => by
      cases o with
      | map es =>
        change (match gN g G with
          | some r => some (AV.list .fY 2 (bp es) :: r)
          | none => none) = some l at hg
        change (mT es && cC vs g B G) = true at ht
        rw [Bool.and_eq_true] at ht
        split at hg
        · rename_i r hr
          cases hg
          cases l' with
          | nil => exact hw.elim
          | cons a l' =>
            simp only [aA, Bool.and_eq_true] at hu
            simp only [cB, cX, List.tail_cons] at h
            cases id with
            | zero =>
              simp only [nth] at h
              cases h
              refine ⟨.map es, rfl, .inl (.inl ⟨?_, ht.1⟩)⟩
              rw [ng, hx.2.1.1 ht.1]
              exact lg es
            | succ id => exact eP hr hw.2 hx.2.2.2 nX hu.2 ht.2 id go h
        · cases hg
      | _ => cases hg
  | .xM :: g, b :: B, o :: G, l, l', hg, hw, hx, nX, hu, ht, id, go, h => by
      have oB : cC vs g B G = true := by cases o <;> exact ht
      cases o with
      | eR s pos =>
        change (match gN g G with
          | some r => some (AV.str s :: AV.int .i64 pos :: r)
          | none => none) = some l at hg
        split at hg
        · rename_i r hr
          cases hg
          match l', hw, hx, hu, h with
          | [], hw, _, _, _ => exact hw.elim
          | [_], hw, _, _, _ => exact hw.2.elim
          | a :: a' :: l', hw, hx, hu, h =>
            simp only [aA, Bool.and_eq_true] at hu
            simp only [cB, cX, List.tail_cons] at h
            have e1 := hx.1 (by simp [AV.exact])
            have e2 := hx.2.2.2.1 (by simp [AV.exact])
            subst e1 e2
            cases id with
            | zero =>
              simp only [nth] at h
              cases h
              exact ⟨.eR s pos, rfl, .inl ⟨rfl, by simp [AV.np]⟩⟩
            | succ id => exact eP hr hw.2.2 hx.2.2.2.2.2.2 nX hu.2.2 oB id go h
        · cases hg
      | _ => cases hg
  | .cW sz e :: g, b :: B, o :: G, l, l', hg, hw, hx, nX, hu, ht, id, go, h => by
      have oB : cC vs g B G = true := by cases o <;> exact ht
      cases o with
      | cW es aQ e' =>
        change (match gN g G with
          | some r => bif Nat.beq sz aQ && Nat.beq e e' then some (AV.list .fY aQ es :: r) else none
          | none => none) = some l at hg
        split at hg
        · rename_i r hr
          cases hm : (Nat.beq sz aQ && Nat.beq e e') with
          | false => rw [hm] at hg; cases hg
          | true =>
          rw [hm] at hg
          rw [Bool.and_eq_true] at hm
          have q1 := Nat.eq_of_beq_eq_true hm.1
          have q2 := Nat.eq_of_beq_eq_true hm.2
          cases hg
          cases l' with
          | nil => exact hw.elim
          | cons a l' =>
            simp only [aA, Bool.and_eq_true] at hu
            simp only [cB, cX, List.tail_cons] at h
            cases id with
            | zero =>
              simp only [nth] at h
              cases h
              exact ⟨.cW es aQ e', rfl, .inl ⟨q1, q2, hx.2.2.1, nX.1.1⟩⟩
            | succ id => exact eP hr hw.2 hx.2.2.2 ⟨nX.1.2, nX.2⟩ hu.2 oB id go h
        · cases hg
      | _ => cases hg
  | .aG sz e :: g, b :: B, o :: G, l, l', hg, hw, hx, nX, hu, ht, id, go, h => by
      have oB : cC vs g B G = true := by cases o <;> exact ht
      cases o with
      | aG fs aQ e' =>
        change (match gN g G with
          | some r => bif Nat.beq sz aQ && Nat.beq e e' then some (AV.list .fY 1 (BM fs) :: r) else none
          | none => none) = some l at hg
        split at hg
        · rename_i r hr
          cases hm : (Nat.beq sz aQ && Nat.beq e e') with
          | false => rw [hm] at hg; cases hg
          | true =>
          rw [hm] at hg
          rw [Bool.and_eq_true] at hm
          have q1 := Nat.eq_of_beq_eq_true hm.1
          have q2 := Nat.eq_of_beq_eq_true hm.2
          cases hg
          cases l' with
          | nil => exact hw.elim
          | cons a l' =>
            simp only [aA, Bool.and_eq_true] at hu
            simp only [cB, cX, List.tail_cons] at h
            cases id with
            | zero =>
              simp only [nth] at h
              cases h
              refine ⟨.aG fs aQ e', rfl, .inl ⟨?_, q1.symm, q2.symm⟩⟩
              rw [hx.2.1.1 (uc fs)]
              exact (rk fs).symm
            | succ id => exact eP hr hw.2 hx.2.2.2 nX hu.2 oB id go h
        · cases hg
      | _ => cases hg
  | .fI sz e :: g, b :: B, o :: G, l, l', hg, hw, hx, nX, hu, ht, id, go, h => by
      cases o with
      | fI rows aQ e' =>
        change (match gN g G with
          | some r => bif Nat.beq sz aQ && Nat.beq e e' then some (AV.list .fY 1 (Eb aQ rows) :: r) else none
          | none => none) = some l at hg
        change (zP rows && cC vs g B G) = true at ht
        rw [Bool.and_eq_true] at ht
        split at hg
        · rename_i r hr
          cases hm : (Nat.beq sz aQ && Nat.beq e e') with
          | false => rw [hm] at hg; cases hg
          | true =>
          rw [hm] at hg
          rw [Bool.and_eq_true] at hm
          have q1 := Nat.eq_of_beq_eq_true hm.1
          have q2 := Nat.eq_of_beq_eq_true hm.2
          cases hg
          cases l' with
          | nil => exact hw.elim
          | cons a l' =>
            simp only [aA, Bool.and_eq_true] at hu
            simp only [cB, cX, List.tail_cons] at h
            cases id with
            | zero =>
              simp only [nth] at h
              cases h
              refine ⟨.fI rows aQ e', rfl, .inl ⟨?_, q1.symm, q2.symm⟩⟩
              show rows = uf a.bV
              unfold uf
              rw [hx.2.1.2 (ug _ _ ht.1)]
              exact (zO _ rows).symm
            | succ id => exact eP hr hw.2 hx.2.2.2 nX hu.2 ht.2 id go h
        · cases hg
      | _ => cases hg
  | .oX :: g, b :: B, o :: G, l, l', hg, hw, hx, nX, hu, ht, id, go, h => by
      have oB : cC vs g B G = true := by cases o <;> exact ht
      cases o with
      | map es =>
        change (match gN g G with
          | some r => some (AV.list .fY 2 (bp es) :: r)
          | none => none) = some l at hg
        split at hg
        · rename_i r hr
          cases hg
          cases l' with
          | nil => exact hw.elim
          | cons a l' =>
            simp only [aA, Bool.and_eq_true] at hu
            simp only [cB, cX, List.tail_cons] at h
            cases id with
            | zero =>
              simp only [nth] at h
              cases h
              exact ⟨.map es, rfl, .inl (.inr ⟨a.bV, ng a, hx.2.2.1, nX.1.1⟩)⟩
            | succ id => exact eP hr hw.2 hx.2.2.2 ⟨nX.1.2, nX.2⟩ hu.2 oB id go h
        · cases hg
      | _ => cases hg
  | .ls eC :: g, b :: B, o :: G, l, l', hg, hw, hx, nX, hu, ht, id, go, h => by
      obtain ⟨CH, oB⟩ : Kf b o = true ∧ cC vs g B G = true := by
        rw [← Bool.and_eq_true]
        cases o <;> exact ht
      cases o with
      | ls mid' k left cur t =>
        have iI : Pu b = t := by
          cases b <;> first | (cases CH; done) | exact Nat.eq_of_beq_eq_true CH
        change (match gN g G with
          | some r => bif Nat.beq eC mid' then some (AV.int .i64 k :: AV.list .fY 1 (BM left) :: r) else none
          | none => none) = some l at hg
        split at hg
        · rename_i r hr
          cases hm : Nat.beq eC mid' with
          | false => rw [hm] at hg; cases hg
          | true =>
          rw [hm] at hg
          have q1 := Nat.eq_of_beq_eq_true hm
          subst q1
          cases hg
          have Sv := nX.2
          simp only [FX, Bool.and_eq_true] at Sv
          match l', hw, hx, hu, h with
          | [], hw, _, _, _ => exact hw.elim
          | [_], hw, _, _, _ => exact hw.2.elim
          | a :: a' :: l', hw, hx, hu, h =>
            simp only [aA, Bool.and_eq_true] at hu
            simp only [cB, cX, List.tail_cons] at h
            have e1 := hx.1 (by simp [AV.exact])
            have e2 := hx.2.2.2.2.1.1 (uc left)
            subst e1
            cases id with
            | zero =>
              simp only [nth] at h
              cases h
              refine ⟨.ls eC k left cur t, rfl, .inl ⟨rfl, by simp [AV.np], ?_, iI.symm, fu Sv.1, rfl⟩⟩
              rw [e2]
              exact (rk left).symm
            | succ id => exact eP hr hw.2.2 hx.2.2.2.2.2.2 ⟨nX.1, Sv.2⟩ hu.2.2 oB id go h
        · cases hg
      | _ => cases hg
theorem b7 {vs : List AV} : ∀ {g : List GL} {B : List GO} {l : List AV}, (cB vs g B l).length = g.length
  | [], _, _ => rfl
  | .row m :: g, B, l => by simp [cB, b7 (g := g)]
  | .tok _ _ _ :: g, B, l => by simp [cB, b7 (g := g)]
  | .dead :: g, B, l => by simp [cB, b7 (g := g)]
  | .lp _ :: g, B, l => by simp [cB, b7 (g := g)]
  | .bL :: g, B, l => by simp [cB, b7 (g := g)]
  | .map :: g, B, l => by simp [cB, b7 (g := g)]
  | .cW _ _ :: g, B, l => by simp [cB, b7 (g := g)]
  | .xM :: g, B, l => by simp [cB, b7 (g := g)]
  | .aG _ _ :: g, B, l => by simp [cB, b7 (g := g)]
  | .fI _ _ :: g, B, l => by simp [cB, b7 (g := g)]
  | .oX :: g, B, l => by simp [cB, b7 (g := g)]
  | .ls _ :: g, B, l => by simp [cB, b7 (g := g)]
theorem eH.V2 {R0 : af} {w0 : World} {Kh : RO} {EH go' go : GO} {ro : RO} (e : Ext R0 w0 R w) (h0 : eH R0 w0 EH Kh) (hle : bF Kh ro) (h : eH R' w go' ro) (k : Ss EH go' go) : eH R w go ro := by
  cases EH with
  | loop b p fn sl n ps nI bd d dn =>
    cases go' with
    | loop b' p' Su Oh n' Pw Iz Ok d' dn' =>
      change go = _ at k
      subst k
      cases Kh with
      | bh bb =>
        simp only [bF] at hle
        subst hle
        obtain ⟨⟨r0, Sw, l1, l2, l3, l4, l5, l6, l7, l8, l9, Ug⟩, l11⟩ := h0
        obtain ⟨⟨r, db, m1, m2, m3, m4, m5, m6, m7, m8, m9, Uh⟩, m11⟩ := h
        obtain ⟨r1, q1, q2, q3, q4, q5, q6⟩ := e.lp bb r0 l1
        have hr : r1 = r := by
          have := q1.symm.trans m1
          injection this with this
          injection this with this
        subst hr
        exact ⟨⟨r1, Sw, q1, m2, m3, by rw [q2]; exact lA.mono e l4, by rw [q2]; exact l5, by rw [q3]; exact l6, by rw [q4]; exact l7, by rw [q5]; exact l8, by rw [q6]; exact l9, e.bh Ug⟩, l11⟩
      | none => exact h0.elim
      | aK => exact h0.elim
      | tok _ _ _ => exact h0.elim
      | aG _ => exact h0.elim
    | _ => exact k.elim
  | _ => exact k.elim
theorem cJ.cut {n : Nat} : ∀ {es : List (AV × AV)} {av : List MapEntry}, dU (bp es) = true → cJ R w es av → cJ (R.cut n) w es av
  | [], [], _, _ => trivial
  | [], _ :: _, _, h => h.elim
  | _ :: _, [], _, h => h.elim
  | (k, v) :: es, en :: av, he, h => by
    simp only [bp, dU, AV.exact, Bool.and_true, Bool.and_eq_true] at he
    exact ⟨h.1.move (kS R n) (eO n (kR he.1.1)), h.2.1.move (kS R n) (eO n (kR he.1.2)), cJ.cut he.2 h.2.2⟩
theorem zU {n : Nat} {v : AV} (h : v.under n = true) (k : v.aH = true) : aA n v.cells = true := by
  cases v <;> first | exact h | (simp [AV.aH] at k; done) | (simp only [AV.cells, aA, Bool.and_true]; exact h)
theorem uq {n sz : Nat} : ∀ {es es' : List AV}, hX es es' → cK sz es → aA n es' = true → cK sz es' ∧ bZ (ap es) (ap es') ∧ aA n (ap es') = true
  | [], [], _, _, _ => ⟨(fun e he => by simp at he), trivial, rfl⟩
  | e :: es, e' :: es', h, k, kX => by
    obtain ⟨h1, h2⟩ := h
    simp only [aA, Bool.and_eq_true] at kX
    obtain ⟨q1, q2⟩ := k e (by simp)
    obtain ⟨i1, i2, i3⟩ := uq h2 (fun x hx => k x (by simp [hx])) kX.2
    have hc := h1.cells q2
    have ht : e'.aH = true := by rw [h1.bC, q2]
    refine ⟨fun x hx => ?_, hc.append i2, by show aA n (e'.cells ++ ap es') = true; rw [dq, zU kX.1 ht, i3]; rfl⟩
    rcases List.mem_cons.1 hx with rfl | hx
    · exact ⟨by rw [← hc.length, q1], ht⟩
    · exact i1 x hx
  | [], _ :: _, h, _, _ => h.elim
  | _ :: _, [], h, _, _ => h.elim
theorem lq.head {l r : List AV} (h : lq l r) : (AV.bV (cX l)).length = (AV.bV (cX r)).length := by
  cases l <;> cases r <;> first | rfl | exact h.1 | exact h.elim
theorem lq.tail {l r : List AV} (h : lq l r) : lq l.tail r.tail := by
  cases l <;> cases r <;> first | exact h | exact h.2 | exact h.elim
theorem b8 : ∀ (g : List GL) {l r : List AV} (i : Nat), lq l r → ic g l i = ic g r i
  | [], _, _, _, _ => rfl
  | .cW _ _ :: g, l, r, 0, h => h.head
  | .cW _ _ :: g, l, r, i + 1, h => b8 g i h.tail
  | .row _ :: g, l, r, 0, h => rfl
  | .row n :: g, l, r, i + 1, h => b8 g i (h.drop n)
  | .map :: g, l, r, 0, h => rfl
  | .map :: g, l, r, i + 1, h => b8 g i h.tail
  | .xM :: g, l, r, 0, h => rfl
  | .xM :: g, l, r, i + 1, h => b8 g i h.tail.tail
  | .aG _ _ :: g, l, r, 0, h => rfl
  | .aG _ _ :: g, l, r, i + 1, h => b8 g i h.tail
  | .fI _ _ :: g, l, r, 0, h => rfl
  | .fI _ _ :: g, l, r, i + 1, h => b8 g i h.tail
  | .oX :: g, l, r, 0, h => rfl
  | .oX :: g, l, r, i + 1, h => b8 g i h.tail
  | .ls _ :: g, l, r, 0, h => rfl
  | .ls _ :: g, l, r, i + 1, h => b8 g i h.tail.tail
  | .tok _ _ _ :: g, l, r, 0, h => rfl
  | .tok _ _ _ :: g, l, r, i + 1, h => b8 g i h
  | .dead :: g, l, r, 0, h => rfl
  | .dead :: g, l, r, i + 1, h => b8 g i h
  | .lp _ :: g, l, r, 0, h => rfl
  | .lp _ :: g, l, r, i + 1, h => b8 g i h
  | .bL :: g, l, r, 0, h => rfl
  | .bL :: g, l, r, i + 1, h => b8 g i h
theorem cJ.Px {n : Nat} : ∀ {es : List (AV × AV)} {l : List AV} {av : List MapEntry}, hX (bp es) l → aA n l = true → cJ R w es av → cJ (R.cut n) w (ax l) av
  | [], [], [], _, _, _ => trivial
  | [], [], _ :: _, _, _, h => h.elim
  | [], _ :: _, _, h, _, _ => h.elim
  | (_, _) :: _, [], _, h, _, _ => h.elim
  | (_, _) :: _, _ :: _, [], _, _, h => h.elim
  | (k, v) :: es, a :: l, en :: av, hd, hu, h => by
    obtain ⟨d1, d2⟩ := hd
    simp only [aA, Bool.and_eq_true] at hu
    have hc := d1.cells rfl
    have hl : [k, v].length = a.cells.length := hc.length
    cases a with
    | agg cs =>
      match cs, hc, hl with
      | [k', v'], hc, _ =>
        have LA : aA n [k', v'] = true := hu.1
        simp only [aA, Bool.and_true, Bool.and_eq_true] at LA
        exact ⟨(hc.1 _ _ _ h.1).move (kS R n) LA.1, (hc.2.1 _ _ _ h.2.1).move (kS R n) LA.2, cJ.Px d2 hu.2 h.2.2⟩
      | [], _, hl => simp [AV.cells] at hl
      | [_], _, hl => simp [AV.cells] at hl
      | _ :: _ :: _ :: _, _, hl => simp [AV.cells] at hl
    | _ => simp [AV.cells] at hl
theorem ur {n sz : Nat} : ∀ {es : List AV}, dZ sz es → aA n (ap es) = true
  | [], _ => rfl
  | e :: es, h => by
    have h1 := h e List.mem_cons_self
    have h2 := ur (n := n) (sz := sz) (es := es) fun x hx => h x (List.mem_cons_of_mem _ hx)
    simp only [ap, dq, h2, Bool.and_true]
    have hk := h1.2.2
    cases e with
    | agg cs => exact bY n (show aN cs = true by simpa [AV.closed] using hk)
    | bC cs => cases h1.2.1
    | _ => simp only [AV.cells, aA, Bool.and_true]; exact eO n hk
theorem eH.V3 {n : Nat} {go go' : GO} {ro : RO} (h : eH R w go' ro) (k : Sr n go' go) : eH (R.cut n) w go ro := by
  cases go with
  | dead =>
    cases ro with
    | none => trivial
    | aK => trivial
    | bh b => exact h.lt rfl
    | tok f b c => exact h.lt rfl
    | aG ts => exact fun j f b c hj => h.lt ⟨j, f, c, hj⟩
  | row cs el =>
    cases go' with
    | row di QJ =>
      cases ro with
      | bh b =>
        obtain ⟨vs, h1, h2, h3, h4⟩ := h
        obtain ⟨rfl, k⟩ := k
        exact ⟨vs, h1, (k.1.rel h2).move (kS R n) k.2, h3, h4⟩
      | none => exact h.elim
      | aK => exact h.elim
      | tok _ _ _ => exact h.elim
      | aG _ => exact h.elim
    | _ => exact k.elim
  | tok f sz e =>
    cases go' with
    | tok f' aQ e' =>
      obtain ⟨rfl, rfl, rfl⟩ := k
      cases ro with
      | bh b => exact h.elim
      | none => exact h.elim
      | aK => exact h
      | tok _ _ _ => exact h
      | aG _ => exact h.elim
    | _ => exact k.elim
  | defers a =>
    cases go' with
    | defers b =>
      change b = a at k
      subst k
      cases ro <;> exact h
    | _ => exact k.elim
  | map es =>
    cases go' with
    | map es' =>
      cases ro with
      | bh b =>
        obtain ⟨av, clock, h1, h2, h3⟩ := h
        rcases k with ⟨rfl, k2⟩ | ⟨l, rfl, k2, k3⟩
        · exact ⟨av, clock, h1, cJ.cut k2 h2, h3⟩
        · exact ⟨av, clock, h1, cJ.Px k2 k3 h2, h3⟩
      | none => exact h.elim
      | aK => exact h.elim
      | tok _ _ _ => exact h.elim
      | aG _ => exact h.elim
    | _ => exact k.elim
  | aG fs sz e =>
    cases go' with
    | aG wX aQ e' =>
      obtain ⟨rfl, rfl, rfl⟩ := k
      cases ro <;> exact h
    | _ => exact k.elim
  | fI rows sz e =>
    cases go' with
    | fI rows' aQ e' =>
      obtain ⟨rfl, rfl, rfl⟩ := k
      cases ro with
      | none => exact h.elim
      | aK => exact h.elim
      | bh _ => exact h.elim
      | tok _ _ _ _ => exact h.elim
      | aG ts =>
        obtain ⟨h1, h2, h3⟩ := h
        refine ⟨h1, h2, fun j row t hj ht => ?_⟩
        have h4 := h3 j row t hj ht
        cases t with
        | aK => exact h4
        | full _ => exact h4
        | tok f b c =>
          obtain ⟨h5, iI, cur, vs, k1, k2, k3, k4, k5, k6, k7, k8⟩ := h4
          exact ⟨h5, iI, cur, vs, k1, k2, k3, k4, k5, k6.move (kS R n) (ur iI), k7, k8⟩
    | _ => exact k.elim
  | ls eC m left cur t =>
    cases go' with
    | ls mid' m' wh nz t' =>
      obtain ⟨rfl, rfl, rfl, rfl, k, rfl⟩ := k
      cases ro with
      | bh b => obtain ⟨bm, seen, c0, h1, h2, h3, h4, h5, h6, _⟩ := h; exact ⟨bm, seen, c0, fU.2 ⟨k, h1⟩, h2, h3, h4, h5, h6, fun i hi => by cases hi⟩
      | none => exact h.elim
      | aK => exact h.elim
      | tok _ _ _ => exact h.elim
      | aG _ => exact h.elim
    | _ => exact k.elim
  | eR l p =>
    cases go' with
    | eR l' p' =>
      obtain ⟨rfl, rfl⟩ := k
      cases ro <;> exact h
    | _ => exact k.elim
  | cW es sz e =>
    cases go' with
    | cW es' aQ e' =>
      obtain ⟨rfl, rfl, k, kc⟩ := k
      cases ro with
      | bh b => exact h.elim
      | none => exact h.elim
      | aG _ => exact h.elim
      | aK =>
        have he : es' = [] := h
        subst he
        exact List.eq_nil_of_length_eq_zero k.length.symm
      | tok f b c =>
        obtain ⟨yD, h0, h1, cur, vs, h2, h3, h4, h5, h6, h7, h8, h9⟩ := h
        obtain ⟨k1, k2, k3⟩ := uq k h1 kc
        exact ⟨yD, h0.trans k.length, k1, cur, vs, h2, h3, h4, h5, h6, (k2.rel h7).move (kS R n) k3, h8, h9⟩
    | _ => exact k.elim
  | _ => cases go' <;> exact k.elim
theorem mR.ids : ∀ {l : List Nat} {ds : List Deferred}, mR R l ds → ∀ id ∈ l, id < R.obj.length
  | [], [], _, id, hi => by simp at hi
  | x :: l, d :: ds, h, id, hi => by
    obtain ⟨⟨b, h1, _⟩, h2⟩ := h
    rcases List.mem_cons.1 hi with rfl | hi
    · exact aM h1
    · exact mR.ids h2 id hi
  | [], _ :: _, h, _, _ => h.elim
  | _ :: _, [], h, _, _ => h.elim
theorem mR.cut {n : Nat} : ∀ {l : List Nat} {ds : List Deferred}, mR R l ds → (∀ id ∈ l, id < n) → mR (R.cut n) l ds
  | [], [], _, _ => trivial
  | x :: l, d :: ds, h, hi => by
    obtain ⟨⟨b, h1, h3⟩, h2⟩ := h
    exact ⟨⟨b, fU.2 ⟨hi x (by simp), h1⟩, h3⟩, mR.cut h2 fun id hm => hi id (by simp [hm])⟩
  | [], _ :: _, h, _ => h.elim
  | _ :: _, [], h, _ => h.elim
theorem rr {n : Nat} {tmps : Array Value} {ae base : aT} (hT : lA R w β ae tmps) : ∀ {l : List (Tmp × Nat × Nat)}, CU ae l = true → lA (R.cut n) w β base tmps → lA (R.cut n) w β (ma l base) tmps
  | [], _, h => h
  | (t, k, o) :: l, hl, h => fun i hi => by
    simp only [CU, Bool.and_eq_true] at hl
    simp only [ma] at hi ⊢
    by_cases e : t = i
    · subst e
      rw [ar]
      have h1 := hl.1
      split at h1
      · rename_i k' o' hk
        rw [Bool.and_eq_true] at h1
        have e1 := Nat.eq_of_beq_eq_true h1.1
        have e2 := Nat.eq_of_beq_eq_true h1.2
        subst e1 e2
        obtain ⟨c, q1, q2⟩ := hT t (by rw [hk]; simp)
        rw [hk] at q2
        exact ⟨c, q1, q2⟩
      · cases h1
    · rw [aC e] at hi ⊢
      exact rr hT hl.2 h i hi
theorem bw.LB {t : bw} {v : t.ps.T} (hs : aw s s') (h0 : aJ E R w β s a) (h : aJ E R' w' β' s' a') (st : Ext R w R' w') (hd : t.dec s s' = some v) :
    aJ E (R'.cut s.G.length) w' β' (t.st s v) a' ∧ Ext R w (R'.cut s.G.length) w' ∧ ∀ k cs, cF (t.st s v).boxes k = some cs → ∃ di, cF s'.boxes k = some di := by
  have hlen := h0.g.len
  unfold bw.dec at hd
  cases cD : t.ok s s' with
  | false => rw [cD] at hd; cases hd
  | true =>
  rw [cD] at hd
  simp only [cond_true] at hd
  unfold bw.ok at cD
  simp only [Bool.and_eq_true] at cD
  obtain ⟨⟨⟨⟨⟨k1, k2⟩, k3⟩, k4⟩, k5, k7, k8⟩, k6⟩ := cD
  obtain ⟨pre, zE⟩ := hs.sl
  obtain ⟨preB, Ki⟩ := hs.bx
  rw [zE, zR] at k1
  rw [Ki, zR] at k2
  have k3 := CV k3
  have k4 := Nat.eq_of_beq_eq_true k4
  split at hd
  · rename_i la lb lc g1 g2 g3
    cases hv : t.ps.D9 (ic t.g lc) (la ++ (lb ++ lc)) with
    | none => rw [hv] at hd; cases hd
    | some v' =>
    rw [hv] at hd
    simp only [Option.bind_some] at hd
    cases EI : cC (t.mU v') t.g s.G s'.G with
    | false => rw [EI] at hd; cases hd
    | true =>
    rw [EI] at hd
    cases hd
    have Sx : ∀ {ts : List Tmp} {l : List AV}, uh s'.ae ts = some l → l.length = ts.length := by
      intro ts
      induction ts with
      | nil => intro l hl; simp only [uh] at hl; cases hl; rfl
      | cons t ts ih =>
        intro l hl
        unfold uh at hl
        split at hl
        · split at hl
          · rename_i hr
            cases hl
            simp [ih hr]
          · cases hl
        · cases hl
    have Sy : ∀ {bx : List (Nat × Nat)} {l : List AV}, ui s'.boxes bx = some l → l.length = xP bx := by
      intro bx
      induction bx with
      | nil => intro l hl; simp only [ui] at hl; cases hl; rfl
      | cons x bx ih =>
        obtain ⟨k, m⟩ := x
        intro l hl
        unfold ui at hl
        split at hl
        · split at hl
          · rename_i cs _ _ r hr
            cases hm : Nat.beq cs.length m with
            | false => rw [hm] at hl; cases hl
            | true =>
              rw [hm] at hl
              cases hl
              simp only [xP, List.length_append, ih hr, Nat.eq_of_beq_eq_true hm]
          · cases hl
        · cases hl
    obtain ⟨hw, hex⟩ := t.ps.Iw _ hv
    have Kj : t.mU v = t.ps.iX (ic t.g lc) v := by
      unfold bw.mU
      congr 1
      funext i
      have hl := hex.Pt.trans (t.ps.lY (ic t.g lc) (fun _ => 0) v)
      have Ll := (hl.drop t.sl.length).drop (xP t.bx)
      rw [← Sx g1, List.drop_left, ← Sy g2, List.drop_left, Sx g1, Sy g2] at Ll
      exact (b8 t.g i Ll).symm
    have hu : aA s.G.length (t.mU v) = true := by
      rw [Kj, t.ps.Ea _ hv]
      exact t.ps.BL _ k5 _
    rw [← Kj] at hw hex
    have Sz : ∃ xa xb xc, t.mU v = xa ++ (xb ++ xc) ∧ bZ la xa ∧ bZ lb xb ∧ bZ lc xc ∧ xa.length = la.length ∧ xb.length = lb.length ∧ EJ lc xc := by
      obtain ⟨xa, r, h1, h2, h3, h4⟩ := hw.split
      obtain ⟨xb, xc, rfl, h6, h7, h8⟩ := h3.split
      rw [h1] at hex
      obtain ⟨ya, yr, g1, _, g3, g4⟩ := hex.split
      obtain ⟨_, rfl⟩ := List.append_inj g1 (by rw [h4, g4])
      obtain ⟨yb, yc, k1, _, k3, k4⟩ := g3.split
      obtain ⟨_, rfl⟩ := List.append_inj k1 (by rw [h8, k4])
      exact ⟨xa, xb, xc, h1, h2, h6, h7, h4, h8, k3⟩
    obtain ⟨xa, xb, xc, hx, wa, wb, wc, Ui, V4, V5⟩ := Sz
    have SA : aA s.G.length xa = true ∧ aA s.G.length xb = true ∧ aA s.G.length xc = true := by
      rw [hx, dq, dq] at hu
      simp only [Bool.and_eq_true] at hu
      exact ⟨hu.1, hu.2.1, hu.2.2⟩
    have e1 : (t.mU v).drop t.sl.length = xb ++ xc := by rw [hx, ← Sx g1, ← Ui, List.drop_left]
    have e2 : (xb ++ xc).drop (xP t.bx) = xc := by rw [← Sy g2, ← V4, List.drop_left]
    have nX : rX s.G.length t.g xc := by
      have hf := ((aF.zT s.G.length _ t.ps v).drop t.sl.length).drop (xP t.bx) (l := (t.mU v).drop t.sl.length)
      rw [e1, e2] at hf
      exact dK t.g k7 hf
    have old : ∀ {l : List AV} {cs : List Value}, ay R w l cs → aA s.G.length l = true := fun hr => hr.under (by omega)
    have mv := kS R' s.G.length
    have QK : ∀ k cs, cF s'.boxes k = some cs → um R' w' β' k cs := fun k cs hk => h.b.box k cs hk
    have Q2 : ∀ k cs, cF (rn t.bx (xb ++ xc) s.boxes) k = some cs → um (R'.cut s.G.length) w' β' k cs ∧ ∃ di, cF s'.boxes k = some di := fun k cs hk => by
      refine zS (K := fun _ => False) QK g2 wb SA.2.1 (fun k cs _ h1 h2 => ?_) k cs (fun h => h) hk
      refine ⟨by rw [Ki]; exact zQ h1 h2 k2, ?_⟩
      obtain ⟨⟨vs, el, _, h4, _⟩, _⟩ := h0.b.box k cs h2
      exact old h4
    have Uj : (t.st s v).G = cB (t.mU v) t.g s.G xc := by simp only [bw.st, e1, e2]
    have Uk : (t.st s v).boxes = rn t.bx (xb ++ xc) s.boxes := by simp only [bw.st, e1]
    have V6 : (t.st s v).ae = ma t.Oi (lZ t.sl (xa ++ (xb ++ xc)) (uj t.W s.ae)) := by simp only [bw.st, hx]
    have ext : Ext R w (R'.cut s.G.length) w' := ⟨st.I, st.cell, fun id ro hi => by
      obtain ⟨gU, h1, h2⟩ := st.obj id ro hi
      exact ⟨gU, fU.2 ⟨by have := aM hi; omega, h1⟩, h2⟩, st.lp⟩
    refine ⟨⟨⟨?_, fun id go ro h1 h2 => ?_, fun i j ri rj b h1 h2 => h.g.inj i j ri rj b (fU.1 h1).2 (fU.1 h2).2, h.g.wf, fun g cs hg => (h.g.cw g cs hg).move mv (bY _ (E.wT g cs hg)), h.g.lo⟩, ?_, ?_, ?_, ?_⟩, ext, fun k cs hk => ?_⟩
    · rw [Uj, b7, k4]
      have := h.g.len
      have h3 : s.G.length ≤ R'.obj.length := by
        rcases Nat.lt_or_ge R'.obj.length s.G.length with bR | vN
        · exfalso
          have hx : R'.obj.length < R.obj.length := by omega
          obtain ⟨gU, h1, _⟩ := st.obj R'.obj.length R.obj[R'.obj.length] (by rw [aD]; exact List.getElem?_eq_getElem hx)
          have := aM h1
          omega
        · exact vN
      simp [af.cut]
      omega
    · rw [Uj] at h1
      obtain ⟨go', h3, h4⟩ := eP g3 wc V5 ⟨nX, k8⟩ SA.2.2 EI id go h1
      rcases h4 with h4 | ⟨EH, h5, h4⟩
      · exact (h.g.obj id go' ro h3 (fU.1 h2).2).V3 h4
      · have bR := aM h5
        rw [← hlen] at bR
        obtain ⟨Kh, h6⟩ : ∃ Kh, nth R.obj id = some Kh := ⟨R.obj[id], by rw [aD]; exact List.getElem?_eq_getElem bR⟩
        obtain ⟨gU, h7, h8⟩ := ext.obj id Kh h6
        have : gU = ro := Option.some.inj (h7.symm.trans h2)
        subst this
        exact eH.V2 ext (h0.g.obj id EH Kh h5 h6) h8 (h.g.obj id go' gU h3 (fU.1 h2).2) h4
    · rw [Uk]
      refine ⟨fun k cs hk => (Q2 k cs hk).1, fun k k' cs di hk eD he => ?_⟩
      obtain ⟨_, c1, K8⟩ := Q2 k cs hk
      obtain ⟨_, c2, D0⟩ := Q2 k' di eD
      exact h.b.inj k k' c1 c2 K8 D0 he
    · rw [V6]
      have hT : uk (R'.cut s.G.length) w' β' (fun _ => False) (lZ t.sl (xa ++ (xb ++ xc)) (uj t.W s.ae)) a'.tmps := by
        refine rq mv h.t g1 (l' := xa) (r := lb ++ lc) (r' := xb ++ xc) (wa.append (wb.append wc)) Ui.symm SA.1 (ul fun i hi hn => ?_)
        have V7 : Oj t.sl t.W i = false := by
          simp only [Oj, Bool.or_eq_false_iff]
          refine ⟨?_, ?_⟩
          · cases hc : HM t.sl i with
            | false => rfl
            | true => exact absurd (.inr (.inl (xQ.1 hc))) hi
          · cases hc : HM t.W i with
            | false => rfl
            | true => exact absurd (.inl (xQ.1 hc)) hi
        have hk := xS V7 k1
        rw [← zE] at hk
        obtain ⟨c, h1, h2⟩ := h.t i (by rw [hk]; exact hn)
        rw [hk] at h2
        refine ⟨c, h1, ?_⟩
        obtain ⟨c0, _, h4⟩ := h0.t i hn
        revert h2 h4
        cases lk s.ae i with
        | none => exact fun _ _ => trivial
        | lp k off => exact fun h2 _ => h2
        | v x => exact fun h2 h4 => Rel.move mv (Rel.under (by omega) h4) h2
      exact rr h.t k6 (fun i hi => hT i (fun h => h) hi)
    · show a'.tmps.size = s.n
      rw [h.n, hs.n]
    · show mR _ s.marks a'.defers
      have := h.d
      rw [k3] at this
      exact this.cut fun id aR => by have := h0.d.ids id aR; omega
    · rw [Uk] at hk
      exact (Q2 k cs hk).2
  · cases hd
theorem bw.yF {t : bw} {v : t.ps.T} (hs : aw s s') (h0 : aJ E R w β s a) (h : aJ E R' w' β' s' a') (st : Step R w β s.boxes R' w' β' s'.boxes) (hd : t.dec s s' = some v) :
    aJ E (R'.cut s.G.length) w' β' (t.st s v) a' ∧ Step R w β s.boxes (R'.cut s.G.length) w' β' (t.st s v).boxes := by
  obtain ⟨h1, h2, h3⟩ := bw.LB hs h0 h st.ext hd
  refine ⟨h1, h2, st.os, st.tape, st.output, st.size, st.bL, fun b hb ho => st.own b hb ?_, st.im⟩
  rcases ho with ho | ⟨k, cs, hk, rfl⟩
  · exact .inl (mb ho)
  · obtain ⟨c1, K8⟩ := h3 k cs hk
    exact .inr ⟨k, c1, K8, rfl⟩
end yF
end Go.Am
namespace Go.Am
open Go
def dL : aT → aT
  | [] => []
  | .put d (.lp _ _) :: l => .put d .none :: dL l
  | .put d x :: l => .put d x :: dL l
  | .kill _ :: l => dL l
def SV.vC : SV → SV
  | .lp _ _ => .none
  | x => x
theorem mK (t : Nat) : ∀ l : aT, lk (dL l) t = (lk l t).vC
  | [] => rfl
  | .put d x :: l => by
    cases x <;> simp only [dL] <;> by_cases e : d = t <;> first | (subst e; rw [ar, ar]; rfl) | (rw [aC e, aC e]; exact mK t l)
  | .kill d :: l => by
    simp only [dL, lk]
    rw [mK t l]
    cases lk l t with
    | lp k off =>
      by_cases e : k = d
      · subst e; simp [SV.vC]
      · simp [ky e, SV.vC]
    | _ => rfl
theorem iu : ∀ l : aT, Cm (dL l) = true
  | [] => rfl
  | .put d x :: l => by
    cases x <;> simp only [dL, Cm] <;> exact iu l
  | .kill d :: l => by simp only [dL]; exact iu l
def SB (E : Env) (Q : Exit → St → Prop) (s : St) (G' : List GO) : Prop :=
  match nth G' (s.G.length + 1) with
  | some (.loop busy pending _ _ _ _ _ _ _ done) => (busy = false ∨ done = true) ∧
    match pending with
    | none => Q .normal ⟨s.ae, s.boxes, aq G' (s.G.length + 1) .dead, s.G.length :: s.marks, s.ro, s.n⟩
    | some c => dE E c Q ⟨s.ae, s.boxes, aq G' (s.G.length + 1) .dead, s.G.length :: s.marks, s.ro, s.n⟩
  | _ => False
theorem uu {busy done : Bool} (h : busy = false ∨ done = true) : (if done = true then LoopState.done else if busy = true then LoopState.busy else LoopState.ready) ≠ LoopState.busy := by
  rcases h with rfl | rfl
  · cases done <;> simp
  · simp
theorem dE.rangeFunc {E : Env} {Q : Exit → St → Prop} {s : St} (fp : Nat) {g : Operand} {ps : Array Tmp} {assign body : Code} (aO : s.ro = none) {f : FuncId} {first cap : List AV} (hg : ba E s.ae g = .v (.fn f first cap))
    (h : cq E f (first ++ [.yield (s.G.length + 1)] ++ cap) (s.G ++ [.defers true] ++ [.loop false none fp (dL s.ae) s.n ps.toList assign body s.G.length false]) (fun _ G' => SB E Q s G')) :
    dE E (.rangeFunc g ps assign body) Q s := fun R w β a F hr hf => by
  rw [aO] at hf
  have Pb : F = Fence.wide := hf
  subst Pb
  refine wpIn_rangeFunc fun fn _ => ?_
  have rg := aE hr g
  rw [hg] at rg
  have Py : Rel R w (.fn f first cap) (a.eval g) := rg
  -- the block for the deferred calls
  have Ph : eH (R.add (.bh w.heap.size)) (w.alloc (.deferred (some []))) (.defers true) (.bh w.heap.size) := heap_alloc_new w _
  have h1 := hr.iJ (.deferred (some [])) (.defers true) (.bh w.heap.size) (by exact fun _ h => h) Ph
  have s1 := cp hr (.deferred (some [])) (.bh w.heap.size) (by exact fun _ h => h)
  have cU : (w.alloc (.deferred (some []))).heap.size = w.heap.size + 1 := by simp
  generalize RZ : w.alloc (.deferred (some [])) = w1 at *
  generalize V8 : R.add (.bh w.heap.size) = R1 at *
  -- the loop's record
  let hZ : Loop := { state := .ready, pending := none, fn := fn, tmps := a.tmps, params := ps, assign := assign, body := body, defers := w.heap.size }
  have yU : nth R1.obj s.G.length = some (.bh w.heap.size) := by rw [← V8]; exact eL hr _
  have e2 : Ext R1 w1 (R1.add (.bh w1.heap.size)) (w1.alloc (.loop hZ)) := eK h1.g.wf _ _
  have Lc : eH (R1.add (.bh w1.heap.size)) (w1.alloc (.loop hZ)) (.loop false none fp (dL s.ae) s.n ps.toList assign body s.G.length false) (.bh w1.heap.size) := by
    refine ⟨⟨hZ, w.heap.size, heap_alloc_new w1 _, rfl, rfl, fun i hi => ?_, hr.n, by simp [hZ], rfl, rfl, rfl, e2.bh yU⟩, iu _⟩
    rw [mK] at hi ⊢
    have bS : lk s.ae i ≠ .none := fun e => hi (by rw [e]; rfl)
    obtain ⟨c, k1, k2⟩ := hr.t i bS
    refine ⟨c, k1, ?_⟩
    cases hx : lk s.ae i with
    | none => exact absurd hx bS
    | lp k off => rw [hx] at hi; exact absurd rfl hi
    | v x =>
      rw [hx] at k2
      exact Rel.mono (s1.ext.trans e2) (show Rel R w x c from k2)
  have h2 := h1.iJ (.loop hZ) (.loop false none fp (dL s.ae) s.n ps.toList assign body s.G.length false) (.bh w1.heap.size) (by exact fun _ h => h) Lc
  have s2 := cp h1 (.loop hZ) (.bh w1.heap.size) (by exact fun _ h => h)
  have FY : nth (R1.add (.bh w1.heap.size)).obj (s.G.length + 1) = some (.bh w1.heap.size) := by
    have := eL h1 (.bh w1.heap.size)
    simpa [St.cI] using this
  have st := s1.trans s2
  generalize Ul : R1.add (.bh w1.heap.size) = R2 at *
  generalize Lj : a.eval g = fv at Py
  cases Py with
  | @fn _ _ _ vs us q1 q2 =>
  refine ⟨w.heap.size + 1, [{ target := .collected w.heap.size, args := #[] }], w1.alloc (.loop hZ), { target := .fn (.func f) ⟨us⟩, args := ⟨vs⟩ ++ #[.func (.yield (w.heap.size + 1)) #[] #[]] }, w1.alloc (.loop hZ), f,
    ⟨vs ++ [.func (.yield (w.heap.size + 1)) #[] #[]] ++ us⟩, w1.alloc (.loop hZ), ?_, ?_, ?_, ?_, ?_, ?_⟩
  · have : Fence.wide.round = none := rfl
    rw [this, run_enterLoop_outer, RZ]
  · simp only [resolve, Lj, Deferred.ofValue, Sem.run_pure]
    simp [Act.eval]
  · intro f' _
    exact trivial
  · have := kJ (P := E.P) h.1 (⟨vs ++ [.func (.yield (w.heap.size + 1)) #[] #[]] ++ us⟩) (w1.alloc (.loop hZ))
    simpa [invoke] using this
  · intro hc; cases hc
  · have hG : (s.cI (.defers true)).cI (.loop false none fp (dL s.ae) s.n ps.toList assign body s.G.length false) = s.aX (s.G ++ [.defers true] ++ [.loop false none fp (dL s.ae) s.n ps.toList assign body s.G.length false]) := rfl
    have SC : Rel R2 (w1.alloc (.loop hZ)) (.yield (s.G.length + 1)) (.func (.yield (w.heap.size + 1)) #[] #[]) := by
      rw [← cU]
      exact .yield FY
    refine (h.2 R2 (w1.alloc (.loop hZ)) _ h2.g ((((q1.mono st.ext).append (.one SC)).append (q2.mono st.ext)))).mono ?_
    intro e w3 he
    cases e with
    | panicked c => exact he.elim
    | outgrown => exact he.elim
    | returned c =>
      obtain ⟨r, G', R3, hQ, cZ, SD, IA⟩ := he
      obtain ⟨p1, p2⟩ := h2.mC SD IA
      unfold SB at hQ
      split at hQ
      · rename_i busy pending ff sl nn pp nI bd dd done BN
        obtain ⟨SE, hQ⟩ := hQ
        have FZ : nth R3.obj (s.G.length + 1) = some (.bh w1.heap.size) := IA.ext.bh FY
        obtain ⟨⟨r3, db, l1, l2, l3, _, _, _, _, _, _, _⟩, _⟩ := p1.g.obj _ _ _ BN FZ
        have BO : r3.state ≠ .busy := by rw [l2]; exact uu SE
        have V9 : w3.heap[w.heap.size + 1]? = some (.loop r3) := by rw [← cU]; exact l1
        refine ⟨r3.pending, _, run_endLoop V9 BO, ?_⟩
        rw [l3]
        -- the record is dead
        have Pz : nth R3.obj s.G.length = some (.bh w.heap.size) := IA.ext.bh (by rw [← Ul] at e2 ⊢; exact e2.bh yU)
        have key : ∀ x : Obj, kF x → (∀ r, Obj.loop r3 = .loop r → ∃ r', x = .loop r' ∧ ly r r') → aJ E R3 (World.put w3 w1.heap.size x) β ⟨s.ae, s.boxes, aq G' (s.G.length + 1) .dead, s.G.length :: s.marks, s.ro, s.n⟩ { a with defers := [{ target := .collected w.heap.size, args := #[] }] ++ a.defers } ∧ Step R w β s.boxes R3 (World.put w3 w1.heap.size x) β s.boxes := fun x hx SF => by
          obtain ⟨z1, z2⟩ := p1.setObj (x' := x) (go' := .dead) FZ l1 trivial hx SF (show w1.heap.size < _ by simp [World.put]; exact a7 l1)
          exact ⟨⟨z1.g, z1.b, z1.t, z1.n, ⟨⟨w.heap.size, Pz, rfl⟩, z1.d⟩⟩, (st.trans p2).trans z2⟩
        obtain ⟨z1, z2⟩ := key (.loop { r3 with state := .exhausted, pending := pending }) trivial (fun r e => ⟨_, rfl, by cases e; exact ⟨rfl, rfl, rfl, rfl, rfl⟩⟩)
        rw [cU] at z1 z2
        cases pending with
        | none => exact ⟨_, R3, β, hQ, z1, z2, rfl⟩
        | some c =>
          refine wpIn_mono (hQ R3 _ β _ Fence.wide z1 (by show bz R3 s.ro Fence.wide; rw [aO]; rfl)) ?_
          rintro e Sf HV ⟨xp, EU, J8, FB, tx, na, qV⟩
          exact ⟨xp, EU, J8, FB, tx, z2.trans na, qV⟩
      · exact hQ.elim
def LC (E : Env) (Q : Exit → St → Prop) (s : St) (G' : List GO) : Prop :=
  match nth G' s.G.length with
  | some (.loop busy pending _ _ _ _ _ _ _ done) => (busy = false ∨ done = true) ∧
    match pending with
    | none => Q .normal ⟨s.ae, s.boxes, aq G' s.G.length .dead, s.marks, s.ro, s.n⟩
    | some c => dE E c Q ⟨s.ae, s.boxes, aq G' s.G.length .dead, s.marks, s.ro, s.n⟩
  | _ => False
theorem dE.BP {E : Env} {Q : Exit → St → Prop} {s : St} (fp : Nat) {g : Operand} {ps : Array Tmp} {assign body : Code} {id : Nat} (aO : s.ro = some id)
    {Um : Bool} {p0 : Option Code} {Un : FuncId} {Uo : aT} {n0 : Nat} {Up : List Tmp} {Uq Ur : Code} {d0 : Nat} {Us : Bool} (aR : nth s.G id = some (.loop Um p0 Un Uo n0 Up Uq Ur d0 Us))
    {f : FuncId} {first cap : List AV} (hg : ba E s.ae g = .v (.fn f first cap))
    (h : cq E f (first ++ [.yield s.G.length] ++ cap) (s.G ++ [.loop false none fp (dL s.ae) s.n ps.toList assign body d0 false]) (fun _ G' => LC E Q s G')) :
    dE E (.rangeFunc g ps assign body) Q s := fun R w β a F hr hf => by
  rw [aO] at hf
  obtain ⟨b0, Ut, hF⟩ := hf
  subst hF
  obtain ⟨⟨r0, Sw, x1, x2, x3, x4, x5, x6, x7, x8, x9, Wa⟩, Uu⟩ := hr.g.obj _ _ _ aR Ut
  refine wpIn_rangeFunc fun fn _ => ?_
  have rg := aE hr g
  rw [hg] at rg
  have Py : Rel R w (.fn f first cap) (a.eval g) := rg
  -- the loop's record
  let hZ : Loop := { state := .ready, pending := none, fn := fn, tmps := a.tmps, params := ps, assign := assign, body := body, defers := r0.defers }
  have e2 : Ext R w (R.add (.bh w.heap.size)) (w.alloc (.loop hZ)) := eK hr.g.wf _ _
  have Lc : eH (R.add (.bh w.heap.size)) (w.alloc (.loop hZ)) (.loop false none fp (dL s.ae) s.n ps.toList assign body d0 false) (.bh w.heap.size) := by
    refine ⟨⟨hZ, Sw, heap_alloc_new w _, rfl, rfl, fun i hi => ?_, hr.n, by simp [hZ], rfl, rfl, x9, e2.bh Wa⟩, iu _⟩
    rw [mK] at hi ⊢
    have bS : lk s.ae i ≠ .none := fun e => hi (by rw [e]; rfl)
    obtain ⟨c, k1, k2⟩ := hr.t i bS
    refine ⟨c, k1, ?_⟩
    cases hx : lk s.ae i with
    | none => exact absurd hx bS
    | lp k off => rw [hx] at hi; exact absurd rfl hi
    | v x =>
      rw [hx] at k2
      exact Rel.mono e2 (show Rel R w x c from k2)
  have h2 := hr.iJ (.loop hZ) (.loop false none fp (dL s.ae) s.n ps.toList assign body d0 false) (.bh w.heap.size) (by exact fun _ h => h) Lc
  have st := cp hr (.loop hZ) (.bh w.heap.size) (by exact fun _ h => h)
  have FY : nth (R.add (.bh w.heap.size)).obj s.G.length = some (.bh w.heap.size) := eL hr _
  generalize Ul : R.add (.bh w.heap.size) = R2 at *
  generalize Lj : a.eval g = fv at Py
  cases Py with
  | @fn _ _ _ vs us q1 q2 =>
  refine ⟨w.heap.size, [], w.alloc (.loop hZ), { target := .fn (.func f) ⟨us⟩, args := ⟨vs⟩ ++ #[.func (.yield w.heap.size) #[] #[]] }, w.alloc (.loop hZ), f,
    ⟨vs ++ [.func (.yield w.heap.size) #[] #[]] ++ us⟩, w.alloc (.loop hZ), ?_, ?_, ?_, ?_, ?_, ?_⟩
  · have : (Fence.wide.inRound b0).round = some b0 := rfl
    rw [this]
    exact run_enterLoop_inner x1 _ _ _ _ _
  · simp only [resolve, Lj, Deferred.ofValue, Sem.run_pure]
    simp [Act.eval]
  · intro f' _
    exact trivial
  · have := kJ (P := E.P) h.1 (⟨vs ++ [.func (.yield w.heap.size) #[] #[]] ++ us⟩) (w.alloc (.loop hZ))
    simpa [invoke] using this
  · intro hc; cases hc
  · have SC : Rel R2 (w.alloc (.loop hZ)) (.yield s.G.length) (.func (.yield w.heap.size) #[] #[]) := .yield FY
    have wF := (h.2 R2 (w.alloc (.loop hZ)) _ h2.g ((((q1.mono st.ext).append (.one SC)).append (q2.mono st.ext))))
    refine CallsIn.mono (F := Fence.wide.inRound b0) wF ?_
    intro e w3 he
    cases e with
    | panicked c => exact he.elim
    | outgrown => exact he.elim
    | returned c =>
      obtain ⟨r, G', R3, hQ, cZ, SD, IA⟩ := he
      obtain ⟨p1, p2⟩ := h2.mC SD IA
      unfold LC at hQ
      split at hQ
      · rename_i busy pending ff sl nn pp nI bd dd done BN
        obtain ⟨SE, hQ⟩ := hQ
        have FZ : nth R3.obj s.G.length = some (.bh w.heap.size) := IA.ext.bh FY
        obtain ⟨⟨r3, db, l1, l2, l3, _, _, _, _, _, _, _⟩, _⟩ := p1.g.obj _ _ _ BN FZ
        have BO : r3.state ≠ .busy := by rw [l2]; exact uu SE
        refine ⟨r3.pending, _, run_endLoop l1 BO, ?_⟩
        rw [l3]
        have key : ∀ x : Obj, kF x → (∀ r, Obj.loop r3 = .loop r → ∃ r', x = .loop r' ∧ ly r r') → aJ E R3 (World.put w3 w.heap.size x) β ⟨s.ae, s.boxes, aq G' s.G.length .dead, s.marks, s.ro, s.n⟩ { a with defers := [] ++ a.defers } ∧ Step R w β s.boxes R3 (World.put w3 w.heap.size x) β s.boxes := fun x hx SF => by
          obtain ⟨z1, z2⟩ := p1.setObj (x' := x) (go' := .dead) FZ l1 trivial hx SF (show w.heap.size < _ by simp [World.put]; exact a7 l1)
          exact ⟨⟨z1.g, z1.b, z1.t, z1.n, z1.d⟩, (st.trans p2).trans z2⟩
        obtain ⟨z1, z2⟩ := key (.loop { r3 with state := .exhausted, pending := pending }) trivial (fun r e => ⟨_, rfl, by cases e; exact ⟨rfl, rfl, rfl, rfl, rfl⟩⟩)
        cases pending with
        | none => exact ⟨_, R3, β, hQ, z1, z2, rfl⟩
        | some c =>
          refine wpIn_mono (hQ R3 _ β _ (Fence.wide.inRound b0) z1 (by show bz R3 s.ro _; rw [aO]; exact ⟨b0, IA.ext.bh (e2.bh Ut), rfl⟩)) ?_
          rintro e Sf HV ⟨xp, EU, J8, FB, tx, na, qV⟩
          exact ⟨xp, EU, J8, FB, tx, z2.trans na, qV⟩
      · exact hQ.elim
def BQ (id : Nat) (Q : Bool → List GO → Prop) : Exit → St → Prop := fun e s => match nth s.G id with
  | some (.loop _ _ fn sl n ps nI bd d _) => match e with
    | .normal => Q true (aq s.G id (.loop false none fn sl n ps nI bd d false))
    | .ret => Q false (aq s.G id (.loop false (some .ret) fn sl n ps nI bd d true))
    | .exit i => Q false (aq s.G id (.loop false (some (.exit i)) fn sl n ps nI bd d true))
    | _ => False
  | _ => False
def xT (E : Env) (id : Nat) (body : Code) (Q : Bool → List GO → Prop) : Exit → St → Prop := fun e s => match e with
  | .normal => match nth s.G id with
    | some (.loop false p fn sl n ps nI bd d false) => dE E body (BQ id Q) (s.aX (aq s.G id (.loop true p fn sl n ps nI bd d false)))
    | _ => False
  | _ => False
def uw : List Tmp → List AV → aT → aT
  | t :: ts, a :: l, r => uw ts l (.put t (.v a) :: r)
  | _, _, r => r
def St.round (id : Nat) (ae : aT) (n : Nat) (G : List GO) : St := ⟨ae, [], G, [], some id, n⟩
theorem ux {R : af} {w : World} {β : Nat → Nat} : ∀ {ts : List Tmp} {l : List AV} {cs : List Value} {r : aT} {tmps : Array Value}, lA R w β r tmps → ay R w l cs → l.length = ts.length → (∀ t ∈ ts, t < tmps.size) →
    lA R w β (uw ts l r) ((ts.zip cs).foldl (fun tmps (t, a) => tmps.setIfInBounds t a) tmps)
  | [], [], _, _, _, h, .nil, _, _ => h
  | t :: ts, a :: l, c :: cs, r, tmps, h, .cons hx hl, hlen, ht => by
    have cU : t < tmps.size := ht t (by simp)
    simp only [uw, List.zip_cons_cons, List.foldl_cons]
    refine ux ?_ hl (by simpa using hlen) (fun t' h' => by simpa using ht t' (by simp [h']))
    have := lA.put (a := { tmps := tmps, defers := [] }) h (d := t) (x := .v a) (c := c) cU hx
    simpa [Act.put] using this
  | [], _ :: _, _, _, _, _, _, hlen, _ => by simp at hlen
  | _ :: _, [], _, _, _, _, _, hlen, _ => by simp at hlen
theorem BR (l : List (Tmp × Value)) : ∀ tmps : Array Value, (l.foldl (fun (tmps : Array Value) (x : Tmp × Value) => tmps.setIfInBounds x.1 x.2) tmps).size = tmps.size := by
  induction l with
  | nil => intro _; rfl
  | cons x l ih => intro tmps; rw [List.foldl_cons, ih]; simp
theorem iS.intro {E : Env} {id : Nat} {args : List AV} {G : List GO} {Q : Bool → List GO → Prop} {fn : FuncId} {ae : aT} {n : Nat} {ps : List Tmp} {assign body : Code} {d : Nat} {p : Option Code}
    (hG : nth G id = some (.loop false p fn ae n ps assign body d false)) (hl : args.length = ps.length) (EF : ∀ t ∈ ps, t < n)
    (h : dE E assign (xT E id body Q) (St.round id (uw ps args ae) n G)) : iS E id args G Q := fun R w cs b hg hr hb => by
  obtain ⟨⟨r, db, l1, l2, l3, l4, l5, l6, l7, l8, l9, Ug⟩, l11⟩ := hg.obj id _ _ hG hb
  have hlen := hr.length
  refine ⟨r, l1, by rw [l6]; simp; omega, ?_⟩
  have SG : Step R w (fun _ => 0) fR R w (fun _ => 0) fR := Step.refl _ _ _ _
  have SH : aJ E R w (fun _ => 0) (St.round id (uw ps args ae) n G) { tmps := (r.params.zip ⟨cs⟩).foldl (fun tmps (t, a) => tmps.setIfInBounds t a) r.tmps, defers := [] } := by
    have PA : (r.params.zip ⟨cs⟩).foldl (fun (tmps : Array Value) (x : Tmp × Value) => tmps.setIfInBounds x.1 x.2) r.tmps = (ps.zip cs).foldl (fun (tmps : Array Value) (x : Tmp × Value) => tmps.setIfInBounds x.1 x.2) r.tmps := by
      rw [← Array.foldl_toList]
      simp [l6]
    refine ⟨hg, ⟨fun k cs hk => ?_, fun k k' c c' hk => ?_⟩, ?_, ?_, trivial⟩
    · simp [St.round, cF] at hk
    · simp [St.round, cF] at hk
    · show lA _ _ _ _ _
      have := ux (ts := ps) (l := args) (cs := cs) l4 hr hl (fun t ht => by rw [l5]; exact EF t ht)
      rw [← PA] at this
      exact this
    · show _ = n
      have := BR (ps.zip cs) r.tmps
      rw [← PA] at this
      exact this.trans l5
  have K9 : ∀ (k : Nat) (cs : List AV), cF (St.round id (uw ps args ae) n G).boxes k ≠ some cs := fun k cs hk => by simp [St.round, cF] at hk
  rw [l7, l8]
  refine roundIn_of_wpIn trivial (wpIn_mono (h R w (fun _ => 0) _ (Fence.wide.inRound b) SH ⟨b, hb, rfl⟩) ?_)
  rintro e a1 w1 ⟨s1, R1, β1, hq, Ar, Uv, SI⟩
  unfold xT at hq
  cases e with
  | normal =>
    simp only at hq
    split at hq
    · rename_i p' Su Oh n' Pw Iz Ok d' SJ
      have Lm : nth R1.obj id = some (.bh b) := Uv.ext.bh hb
      obtain ⟨⟨r1, Wb, m1, m2, m3, m4, m5, m6, m7, m8, m9, Uh⟩, m11⟩ := Ar.g.obj id _ _ SJ Lm
      refine ⟨_, run_beginRound m1 m2, ?_⟩
      obtain ⟨z1, z2⟩ := Ar.setObj (x' := .loop { r1 with state := .busy }) (go' := .loop true p' Su Oh n' Pw Iz Ok d' false) Lm m1 trivial trivial (fun r e => ⟨_, rfl, by cases e; exact ⟨rfl, rfl, rfl, rfl, rfl⟩⟩)
        ⟨⟨{ r1 with state := .busy }, Wb, fc _ _ _ (a7 m1), rfl, m3, m4.mono (kG (x' := .loop { r1 with state := .busy }) m1 trivial trivial (fun r e => ⟨_, rfl, by cases e; exact ⟨rfl, rfl, rfl, rfl, rfl⟩⟩)), m5, m6, m7, m8, m9, Uh⟩, m11⟩
      refine wpIn_mono (hq R1 _ β1 a1 (Fence.wide.inRound b) z1 (by show bz R1 s1.ro _; rw [SI]; exact ⟨b, Lm, rfl⟩)) ?_
      rintro e2 a2 w2 ⟨s2, R2, β2, ll, te, ru, xU⟩
      unfold BQ at ll
      split at ll
      · rename_i Xm p2 SK SL n2 SM SN SO d2 Xn Pn
        have PB := (Uv.trans z2).trans ru
        have Bv : nth R2.obj id = some (.bh b) := PB.ext.bh hb
        obtain ⟨⟨r2, Wc, o1, o2, o3, o4, o5, o6, o7, o8, o9, LD⟩, Kk⟩ := te.g.obj id _ _ Pn Bv
        have fin : ∀ (j : Option Code), xB E R w (fun b' G' => G' = aq s2.G id (.loop false j SK SL n2 SM SN SO d2 (!j.isNone)) ∧ b' = j.isNone) (.returned (.bool j.isNone)) (w2.putObj b (.loop { r2 with state := if j.isNone then .ready else .done, pending := j })) := fun j => by
          obtain ⟨y1, y2⟩ := te.setObj (x' := .loop { r2 with state := if j.isNone then .ready else .done, pending := j }) (go' := .loop false j SK SL n2 SM SN SO d2 (!j.isNone)) Bv o1 trivial trivial (fun r e => ⟨_, rfl, by cases e; exact ⟨rfl, rfl, rfl, rfl, rfl⟩⟩)
            ⟨⟨{ r2 with state := if j.isNone then .ready else .done, pending := j }, Wc, fc _ _ _ (a7 o1), by cases j <;> rfl, rfl, o4.mono (kG (x' := .loop { r2 with state := if j.isNone then .ready else .done, pending := j }) o1 trivial trivial (fun r e => ⟨_, rfl, by cases e; exact ⟨rfl, rfl, rfl, rfl, rfl⟩⟩)), o5, o6, o7, o8, o9, LD⟩, Kk⟩
          exact ⟨_, _, R2, ⟨rfl, rfl⟩, rfl, y1.g, tC (PB.trans y2) K9⟩
        have mk : ∀ (j : Option Code), Q j.isNone (aq s2.G id (.loop false j SK SL n2 SM SN SO d2 (!j.isNone))) → ∃ v w', (Instr.endRound b j).run E.P w2 = .ok v w' ∧ xB E R w Q (.returned v) w' := fun j hQ => by
          refine ⟨_, _, run_endRound j o1, ?_⟩
          obtain ⟨r', G', R', ⟨h1, h2⟩, h3⟩ := fin j
          subst h1; subst h2
          exact ⟨_, _, R', hQ, h3⟩
        cases e2 with
        | normal => exact mk none ll
        | ret => exact mk (some .ret) ll
        | exit i => exact mk (some (.exit i)) ll
        | _ => exact ll.elim
      · exact ll.elim
    · exact hq.elim
  | _ => exact hq.elim
end Go.Am
namespace Go.Am
open Go
section
variable {E : Env} {R R' : af} {w w' : World} {β β' : Nat → Nat} {s s' : St} {a a' : Act}
def bK (E : Env) (g : FuncId) (args : List AV) (Q : AV → Prop) : Prop := ∀ G, cq E g args G (fun r G' => G' = G ∧ Q r)
theorem bK.mono {g : FuncId} {args : List AV} {Q Q' : AV → Prop} (h : bK E g args Q) (hq : ∀ r, Q r → Q' r) : bK E g args Q' :=
  fun G => (h G).mono fun r _ hh => ⟨hh.1, hq r hh.2⟩
theorem bK.of {g : FuncId} {args : List AV} {p : aB} {Q : p.T → Prop} (hc : aA 0 args = true) (hp : p.under 0 = true)
    (h : cq E g args [] (fun r _ => ∃ y, p.dec r = some y ∧ Q y)) : bK E g args (fun r => ∃ y, r = p.enc y ∧ Q y) := fun G => by
  refine ⟨h.1, fun R w cs hg hl => ?_⟩
  let R0 : af := ⟨R.I, []⟩
  have m0 : Mv R R0 0 := ⟨fun _ _ h => h, fun _ _ h => absurd h (Nat.not_lt_zero _)⟩
  have Od : dv E R0 w [] := ⟨rfl, fun id go ro h1 _ => by simp [nth] at h1, fun i j ri rj b h1 => by simp [R0, nth] at h1, hg.wf, fun g cs rO => (hg.cw g cs rO).move m0 (bY _ (E.wT g cs rO)), hg.lo⟩
  have sa : ay R0 w args cs := hl.move m0 hc
  refine (h.2 R0 w cs Od sa).mono fun e w' he => ?_
  cases e with
  | panicked c => exact he.elim
  | outgrown => exact he.elim
  | returned c =>
    obtain ⟨r, G', R1, ⟨y, hy, hQ⟩, cZ, LF, st⟩ := he
    have iM : ∀ b, ¬ Own R0 (fun _ => 0) fR b := fun b ho => by
      obtain ⟨id, ro, h1, _⟩ := dQ ho
      simp [R0, nth] at h1
    let R2 : af := ⟨R1.I, R.obj⟩
    have e : Ext R w R2 w' := ⟨st.ext.I, st.ext.cell, fun id ro h => ⟨ro, h, bF.refl ro⟩, st.ext.lp⟩
    have bL : ∀ b, b < w.heap.size → w'.heap[b]? = w.heap[b]? := fun b hb => st.bL b hb (iM b)
    have im : ∀ b o, b < w.heap.size → R1.I b o → R.I b o := fun b o hb hi => st.im b o hi hb (iM b)
    have hd := p.ny hy
    have m : Mv R1 R2 0 := ⟨fun _ _ h => h, fun _ _ h => absurd h (Nat.not_lt_zero _)⟩
    refine ⟨p.enc y, G, R2, ⟨rfl, y, rfl, hQ⟩, Rel.move m (p.cM y hp) (hd.eX _ _ _ cZ), ⟨hg.len, fun id go ro h1 h2 => ?_, hg.inj, LF.wf, fun g cs rO => (hg.cw g cs rO).mono e, LF.lo⟩, ⟨e, st.os, st.tape, st.output, st.size, fun b hb _ => bL b hb, fun b _ ho => ?_, fun b o hi hb _ => im b o hb hi⟩⟩
    · refine (hg.obj id go ro h1 h2).mono e (fun b hb => bL b ?_) (fun b o hb hi => im b o ?_ hi)
      · exact (hg.obj id go ro h1 h2).lt hb
      · exact (hg.obj id go ro h1 h2).lt hb
    · exact ho
theorem dE.SP {c : Code} {Q Q' : Exit → St → Prop} (h : dE E c (fun e s' => aw s s' ∧ Q' e s') s)
    (hq : ∀ e s', Q' e s' → ∃ (t : bw) (v : t.ps.T), t.dec s s' = some v ∧ Q e (t.st s v)) : dE E c Q s := fun R w β a F hr hf => by
  refine wpIn_mono (h R w β a F hr hf) ?_
  rintro e a' w' ⟨s', R', β', ⟨hx, Sd⟩, gk, fb, aO⟩
  obtain ⟨t, v, hd, hQ⟩ := hq e s' Sd
  obtain ⟨h1, h2⟩ := bw.yF hx hr gk fb hd
  exact ⟨_, _, β', hQ, h1, h2, rfl⟩
theorem dE.er {c : Code} {Q : Exit → St → Prop} {l : List (Loc × Nat × TypeId)} (hs : Am.er l s = some s') (h : dE E c Q s') : dE E c Q s := fun R w β a F hr hf => by
  obtain ⟨R1, k1, k2, k3, _⟩ := gr hr hs
  refine wpIn_mono (h R1 w β a F k1 (by rw [k3]; exact hf.mono k2.ext)) ?_
  rintro e a' w' ⟨s2, R2, β2, hq, te, ru, xU⟩
  exact ⟨s2, R2, β2, hq, te, k2.trans ru, xU.trans k3⟩
end
end Go.Am
