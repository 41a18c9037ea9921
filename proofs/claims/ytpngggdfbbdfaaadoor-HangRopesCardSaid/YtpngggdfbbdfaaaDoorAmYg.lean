/- The abstract machine: a slice that a function has made and returns becomes a list. -/
import Derived.Test.YtpngggdfbbdfaaaDoorAmYf
set_option linter.all false
namespace Go.Am
open Go

mutual
theorem under0_closed : ∀ {a : AV}, a.under 0 = true → a.closed = true := fun {a} h => by
  cases a with
  | agg cs => simp only [AV.closed, AV.under] at *; exact under0_closedL h
  | tup cs => simp only [AV.closed, AV.under] at *; exact under0_closedL h
  | ep cs => simp only [AV.closed, AV.under] at *; exact under0_closedL h
  | list k sz es => cases k <;> first | rfl | (simp [AV.under] at h)
  | fn f x y =>
    simp only [AV.closed, AV.under, Bool.and_eq_true] at *
    exact ⟨under0_closedL h.1, under0_closedL h.2⟩
  | iface t v => simp only [AV.closed, AV.under] at *; exact under0_closed h
  | ptr id off => simp only [AV.under] at h; exact absurd (blt_lt h) (Nat.not_lt_zero _)
  | msl id off sz len cap => simp only [AV.under] at h; exact absurd (blt_lt h) (Nat.not_lt_zero _)
  | map id => simp only [AV.under] at h; exact absurd (blt_lt h) (Nat.not_lt_zero _)
  | yield id => simp only [AV.under] at h; exact absurd (blt_lt h) (Nat.not_lt_zero _)
  | _ => rfl
theorem under0_closedL : ∀ {l : List AV}, underL 0 l = true → closedL l = true
  | [], _ => rfl
  | a :: l, h => by
    simp only [underL, closedL, Bool.and_eq_true] at *
    exact ⟨under0_closed h.1, under0_closedL h.2⟩
end

def mkD (agg : Bool) (l : List AV) : AV := match agg with
  | true => .agg l
  | false => headA l
/-- So many elements of a row of cells. -/
def elemsT (agg : Bool) (sz : Nat) : Nat → List AV → List AV
  | 0, _ => []
  | n + 1, cs => mkD agg (cs.take sz) :: elemsT agg sz n (cs.drop sz)

/-- A slice that was made here, as a list: it is not written to any more. -/
def frz1 (E : Env) (t : TypeId) (r : AV) (G : List GO) : Option (Bool × AV × List GO) := match r with
  | .msl id 0 sz len _ => match nth G id, E.ti t, E.elp t with
    | some (.row cs), some i, some p => match i.k with
      | .sl _ esz agg _ _ => if Nat.beq esz sz && Nat.ble 1 sz && (agg || Nat.beq sz 1) && p.under 0 then
          some (Nat.beq cs.length (len * sz) && allFit (fun e => p.fits e && e.notTup && (agg || e.one)) (elemsT agg sz len cs), .list .opn sz ((elemsT agg sz len cs).map fun e => p.enc (p.decD e)), setN G id .dead)
        else none
      | _ => none
    | _, _, _ => none
  | _ => none

def frzL (E : Env) : List TypeId → List AV → List GO → Bool × List AV × List GO
  | t :: ts, r :: rs, G => match frz1 E t r G with
    | some (c, r', G') => match frzL E ts rs G' with
      | (c', rs', G'') => (c && c', r' :: rs', G'')
    | none => match frzL E ts rs G with
      | (c', rs', G'') => (c', r :: rs', G'')
  | _, rs, G => (true, rs, G)

def frzK {X : Type} (E : Env) (ts : List TypeId) (K : AV → List GO → Option X) (r : AV) (G : List GO) : Option X := match r with
  | .tup rs => match frzL E ts rs G with
    | (c, rs', G') => bif c then K (.tup rs') G' else none
  | r => match frzL E ts [r] G with
    | (c, [r'], G') => bif c then K r' G' else none
    | _ => none

section
variable {E : Env} {R : Realm} {w : World}

def Realm.all (R : Realm) (b : Nat) : Realm := ⟨fun b' o => R.I b' o ∨ b' = b, R.obj⟩

theorem ext_all (R : Realm) (w : World) (b : Nat) : Ext R w (R.all b) w := ⟨fun _ _ h => .inl h, fun _ _ _ => rfl, fun _ ro h => ⟨ro, h, RoLe.refl ro⟩, KeepLp.refl w⟩

theorem relC_cells {R : Realm} {b : Nat} (hI : ∀ o, R.I b o) : ∀ {cs : List AV} {vs : List Value} {o : Nat}, RelL R w cs vs → (∀ v ∈ vs, v.oneCell' = true) → (∀ (j : Nat) (v : Value), vs[j]? = some v → w.cell? ⟨b, o + j, none⟩ = some v) → RelC R w b o cs
  | [], _, o, _, _, _ => .nil
  | a :: cs, _, o, .cons h t, h1, hc => .cons (hc 0 _ rfl) (h1 _ (by simp)) (hI o) h (relC_cells hI t (fun v hv => h1 v (by simp [hv])) fun j v hj => by
      have := hc (j + 1) v (by simpa using hj)
      rwa [show o + (j + 1) = o + 1 + j by omega] at this)

theorem relE_elems {R : Realm} {b : Nat} {p : Pat} {agg : Bool} {sz : Nat} (hI : ∀ o, R.I b o) (hp : p.under 0 = true) (hsz : (agg || Nat.beq sz 1) = true) (h1sz : 1 ≤ sz) : ∀ (n : Nat) {cs : List AV} {vs : List Value} {o : Nat}, RelL R w cs vs → (∀ v ∈ vs, v.oneCell' = true) → cs.length = n * sz →
    (∀ (j : Nat) (v : Value), vs[j]? = some v → w.cell? ⟨b, o + j, none⟩ = some v) → allFit (fun e => p.fits e && e.notTup && (agg || e.one)) (elemsT agg sz n cs) = true → RelE R w b o sz ((elemsT agg sz n cs).map fun e => p.enc (p.decD e))
  | 0, _, _, _, _, _, _, _, _ => .nil
  | n + 1, cs, vs, o, h, h1, hl, hc, hf => by
    simp only [elemsT, allFit, Bool.and_eq_true] at hf
    obtain ⟨⟨⟨hf1, hf2⟩, hf4⟩, hf3⟩ := hf
    have hlen := h.length
    have hle : sz ≤ cs.length := by rw [hl, Nat.succ_mul]; omega
    have dk := p.fits_ok hf1
    have hcells : (mkD agg (cs.take sz)).cells = cs.take sz := by
      cases agg with
      | true => rfl
      | false =>
        have hs1 : sz = 1 := by simpa using hsz
        subst hs1
        match cs, hle with
        | a :: cs, _ =>
          show AV.cells a = [a]
          have ho : a.one = true := by simpa [mkD, headA] using hf4
          cases a <;> first | rfl | simp [AV.one] at ho
    have hw := dk.cells hf2
    rw [hcells] at hw
    have hA : RelC R w b o (cs.take sz) := relC_cells hI (h.take sz) (fun v hv => h1 v (List.mem_of_mem_take hv)) fun j v hj => hc j v (by
      rw [List.getElem?_take] at hj
      split at hj
      · exact hj
      · cases hj)
    refine .cons (by rw [← hw.length, List.length_take, Nat.min_eq_left hle]) (by rw [dk.tup]; exact hf2) (under0_closed (p.enc_under _ hp)) (hw.relC hA) ?_
    exact relE_elems hI hp hsz h1sz n (h.drop sz) (fun v hv => h1 v (List.mem_of_mem_drop hv)) (by rw [List.length_drop, hl, Nat.succ_mul]; omega) (fun j v hj => by
      rw [List.getElem?_drop] at hj
      have := hc _ _ hj
      rwa [show o + (sz + j) = o + sz + j by omega] at this) hf3

theorem frz1_ok {t : TypeId} {r r' : AV} {G G' : List GO} {c : Value} (hg : RepG E R w G) (hr : Rel R w r c) (h : frz1 E t r G = some (true, r', G')) :
    ∃ R', RepG E R' w G' ∧ Rel R' w r' c ∧ Ext R w R' w ∧ R'.obj = R.obj ∧ ∀ b o, R'.I b o → R.I b o ∨ Live R b := by
  unfold frz1 at h
  split at h
  · rename_i id sz len cap
    split at h
    · rename_i cs i p hid hi hp
      split at h
      · rename_i el esz agg eb z hk
        split at h
        · rename_i hc
          simp only [Bool.and_eq_true] at hc
          injection h with h
          injection h with h1 h
          injection h with h2 h3
          subst h2 h3
          rw [Bool.and_eq_true] at h1
          cases hr with
          | @msl _ _ _ _ _ b hb hcap =>
          obtain ⟨vs, elem, k1, k2, k3, k4⟩ := hg.obj id _ _ hid hb
          have hlive : Live R b := ⟨id, _, hb, rfl⟩
          have e := ext_all R w b
          have hlt := block_lt k1
          refine ⟨R.all b, ⟨by show R.obj.length = _; rw [length_setN]; exact hg.len, fun id' go ro q1 q2 => ?_, hg.inj, fun b' o ho => ?_, fun g cs hgl => (hg.glob g cs hgl).mono e⟩, ?_, e, rfl, fun b' o ho => ?_⟩
          · rcases nth_setN q1 with ⟨rfl, rfl, _⟩ | ⟨hne, q1⟩
            · have : ro = .blk b := Option.some.inj (q2.symm.trans hb)
              subst this
              exact hlt
            · refine (hg.obj id' go ro q1 q2).mono e (fun _ _ => rfl) (fun b' o hb' ho => ?_)
              rcases ho with ho | ho
              · exact ho
              · subst ho
                exact absurd (hg.inj id id' _ _ b' hb q2 rfl hb') hne
          · rcases ho with ho | ho
            · exact hg.wf b' o ho
            · subst ho; exact hlt
          · refine Rel.list (relE_elems (R := R.all b) (fun o => Or.inr rfl) hc.2 hc.1.2 (Nat.le_of_ble_eq_true hc.1.1.2) len (k2.mono e) k3 (Nat.eq_of_beq_eq_true h1.1) (fun j v hj => ?_) h1.2) ?_ hcap trivial
            · simp only [World.cell?, k1]
              simpa using hj
            · rw [List.length_map]
              have : ∀ (n : Nat) (l : List AV), (elemsT agg sz n l).length = n := by
                intro n
                induction n with
                | zero => intro l; rfl
                | succ n ih => intro l; simp [elemsT, ih]
              rw [this]
          · rcases ho with ho | ho
            · exact .inl ho
            · subst ho; exact .inr hlive
        · cases h
      · cases h
    · cases h
  · cases h

theorem frzL_ok : ∀ {ts : List TypeId} {rs rs' : List AV} {G G' : List GO} {cs : List Value} {R : Realm}, RepG E R w G → RelL R w rs cs → frzL E ts rs G = (true, rs', G') →
    ∃ R', RepG E R' w G' ∧ RelL R' w rs' cs ∧ Ext R w R' w ∧ R'.obj = R.obj ∧ ∀ b o, R'.I b o → R.I b o ∨ Live R b
  | [], rs, rs', G, G', cs, R, hg, hr, h => by
    cases rs <;> (simp only [frzL] at h; cases h; exact ⟨R, hg, hr, Ext.refl R w, rfl, fun _ _ h => .inl h⟩)
  | _ :: _, [], rs', G, G', cs, R, hg, hr, h => by
    simp only [frzL] at h; cases h; exact ⟨R, hg, hr, Ext.refl R w, rfl, fun _ _ h => .inl h⟩
  | t :: ts, r :: rs, rs', G, G', cs, R, hg, hr, h => by
    cases hr with
    | cons h0 hr =>
    unfold frzL at h
    split at h
    · rename_i c r' G1 h1
      cases h2 : frzL E ts rs G1 with
      | mk c' q =>
      obtain ⟨rs2, G2⟩ := q
      rw [h2] at h
      simp only [Prod.mk.injEq, Bool.and_eq_true] at h
      obtain ⟨⟨rfl, rfl⟩, rfl, rfl⟩ := h
      obtain ⟨R1, a1, a2, a3, a4, a5⟩ := frz1_ok hg h0 h1
      obtain ⟨R2, b1, b2, b3, b4, b5⟩ := frzL_ok a1 (hr.mono a3) h2
      refine ⟨R2, b1, .cons (a2.mono b3) b2, a3.trans b3, b4.trans a4, fun b o ho => ?_⟩
      rcases b5 b o ho with ho | ho
      · exact a5 b o ho
      · obtain ⟨id, ro, q1, q2⟩ := ho
        rw [a4] at q1
        exact .inr ⟨id, ro, q1, q2⟩
    · cases h2 : frzL E ts rs G with
      | mk c' q =>
      obtain ⟨rs2, G2⟩ := q
      rw [h2] at h
      simp only [Prod.mk.injEq] at h
      obtain ⟨rfl, rfl, rfl⟩ := h
      obtain ⟨R2, b1, b2, b3, b4, b5⟩ := frzL_ok hg hr h2
      exact ⟨R2, b1, .cons (h0.mono b3) b2, b3, b4, b5⟩

theorem ACalls.frz {g : FuncId} {args : List AV} {G : List GO} {X : Type} {ts : List TypeId} {K : AV → List GO → Option X} {x : X} (h : ACalls E g args G (fun r G' => frzK E ts K r G' = some x)) : ACalls E g args G (fun r G' => K r G' = some x) :=
  ⟨h.1, fun R w cs hg hl => (h.2 R w cs hg hl).mono fun e w' he => by
    cases e with
    | panicked c => exact he.elim
    | outgrown => exact he.elim
    | returned c =>
      obtain ⟨r, G', R1, hq, hrel, hg1, st⟩ := he
      have fin : ∀ (r' : AV) (G2 : List GO) (R2 : Realm), K r' G2 = some x → RepG E R2 w' G2 → Rel R2 w' r' c → Ext R1 w' R2 w' → R2.obj = R1.obj → (∀ b o, R2.I b o → R1.I b o ∨ Live R1 b) → RetOk E R w (fun r G' => K r G' = some x) (.returned c) w' := by
        intro r' G2 R2 k1 k2 k3 k4 k5 k6
        have live : ∀ b, Live R2 b → Live R1 b := fun b ⟨id, ro, q1, q2⟩ => ⟨id, ro, by rw [← k5]; exact q1, q2⟩
        refine ⟨r', G2, R2, k1, k3, k2, ⟨st.ext.trans k4, st.os, st.tape, st.output, st.size, st.keep, fun b hb ho => ?_, fun b o hi hb hn => ?_⟩⟩
        · rcases ho with ho | ⟨k, cs, hk, rfl⟩
          · exact st.own b hb (.inl (live b ho))
          · simp [noBox, lkB] at hk
        · rcases k6 b o hi with hi | hi
          · exact st.im b o hi hb hn
          · exact absurd (st.own b hb (.inl hi)) hn
      unfold frzK at hq
      split at hq
      · rename_i rs
        cases hrel with
        | tup hrel =>
        cases h2 : frzL E ts rs G' with
        | mk c' q =>
        obtain ⟨rs2, G2⟩ := q
        rw [h2] at hq
        cases c' with
        | false => cases hq
        | true =>
          obtain ⟨R2, b1, b2, b3, b4, b5⟩ := frzL_ok hg1 hrel h2
          exact fin (.tup rs2) G2 R2 hq b1 (.tup b2) b3 b4 b5
      · split at hq
        · rename_i c' r' G2 h2
          cases c' with
          | false => cases hq
          | true =>
            obtain ⟨R2, b1, b2, b3, b4, b5⟩ := frzL_ok hg1 (.cons hrel .nil) h2
            cases b2 with
            | cons b2 _ => exact fin r' G2 R2 hq b1 b2 b3 b4 b5
        · cases hq⟩
end

end Go.Am
