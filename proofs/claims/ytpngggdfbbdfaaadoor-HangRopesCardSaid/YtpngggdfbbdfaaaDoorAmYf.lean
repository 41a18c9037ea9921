/- The abstract machine: maps and ranges over strings on values with leaves. -/
import Derived.Test.YtpngggdfbbdfaaaDoorAmYe
set_option linter.all false
namespace Go.Am
open Go

/-- A range over a string goes on, or has ended. -/
def nextB (s : St) (dst : Option Tmp) (x : SV) : Option (Bool × St × St) := match x with
  | .v (.ptr id 0) => match nth s.G id with
    | some (.siter l pos) => some (Nat.blt pos l.length, (s.inG (setN s.G id (.siter l (pos + (decodeA l pos).2)))).put dst (.v (.tup [.bool true, .int .i64 pos, .int .i32 (decodeA l pos).1])), s.put dst (.v (.tup [.bool false])))
    | _ => none
  | _ => none

theorem nextB_spec {s : St} {dst : Option Tmp} {x : SV} {b : Bool} {s1 s2 : St} (h : nextB s dst x = some (b, s1, s2)) : nextA s dst x = some (bif b then s1 else s2) := by
  unfold nextB at h
  split at h
  · split at h
    · rename_i l pos hg
      cases h
      simp only [nextA, hg]
      cases Nat.blt pos l.length <;> rfl
    · cases h
  · cases h

def eqT (e : EK) (k k' : AV) : Bool := match eqA e k k' with
  | some b => b
  | none => false
def mkeys (e : EK) (k : AV) : List (AV × AV) → Bool
  | [] => true
  | (k', _) :: l => (eqA e k k').isSome && mkeys e k l
def mgetT (e : EK) (k : AV) : List (AV × AV) → Option AV
  | [] => none
  | (k', v) :: l => bif eqT e k k' then some v else mgetT e k l
def mputT (e : EK) (k v : AV) : List (AV × AV) → List (AV × AV)
  | [] => [(k, v)]
  | (k', v') :: l => bif eqT e k k' then (k, v) :: l else (k', v') :: mputT e k v l
def mgetD (e : EK) (k z : AV) (es : List (AV × AV)) : AV := (mgetT e k es).getD z

theorem mfind_T {e : EK} {k : AV} : ∀ {es : List (AV × AV)}, mkeys e k es = true → mfind e k es = some (mgetT e k es)
  | [], _ => rfl
  | (k', v) :: l, h => by
    simp only [mkeys, Bool.and_eq_true] at h
    obtain ⟨b, hb⟩ := Option.isSome_iff_exists.1 h.1
    simp only [mfind, mgetT, eqT, hb]
    cases b
    · simp only [cond_false]; exact mfind_T h.2
    · rfl
theorem mput_T {e : EK} {k v : AV} : ∀ {es : List (AV × AV)}, mkeys e k es = true → mput e k v es = some (mputT e k v es)
  | [], _ => rfl
  | (k', v') :: l, h => by
    simp only [mkeys, Bool.and_eq_true] at h
    obtain ⟨b, hb⟩ := Option.isSome_iff_exists.1 h.1
    simp only [mput, mputT, eqT, hb]
    cases b
    · simp only [cond_false, mput_T h.2]
    · rfl

def Pat.scalar : Pat → Bool
  | .int _ => true
  | .bool => true
  | .str => true
  | _ => false
theorem Pat.scalar_enc {p : Pat} (hp : p.scalar = true) {a : AV} (h : p.fits a = true) : p.enc (p.decD a) = a := by
  cases p <;> first | (cases hp; done) | (cases a <;> first | (cases h; done) | skip)
  · have hk : kEq _ _ = true := h
    rw [kEq_eq hk]; rfl
  · rfl
  · rfl

/-- m[k], if the elements of these maps have a form. -/
def lookupB (E : Env) (s : St) (t : TypeId) (m k : SV) : Option (Bool × AV × Bool) := match E.elp t, E.ti t, mapOf s m, k with
  | some p, some i, some es, .v k => match i.k with
    | .map kt _ (some z) => match E.ti kt with
      | some j => if j.ek.plain && keyFits j.ek k && p.scalar then
          some (mkeys j.ek k es && p.fits (mgetD j.ek k z es), p.enc (p.decD (mgetD j.ek k z es)), (mgetT j.ek k es).isSome)
        else none
      | none => none
    | _ => none
  | _, _, _, _ => none

theorem lookupB_spec {E : Env} {s : St} {t : TypeId} {m k : SV} {v : AV} {b : Bool} (h : lookupB E s t m k = some (true, v, b)) : lookupA E s t m k = some (v, b) := by
  unfold lookupB at h
  split at h
  · rename_i p i es k h1 h2 h3
    split at h
    · rename_i kt et z hk
      split at h
      · rename_i j hj
        split at h
        · rename_i hc
          simp only [Bool.and_eq_true] at hc
          injection h with h
          injection h with h4 h
          injection h with h5 h6
          rw [Bool.and_eq_true] at h4
          rw [Pat.scalar_enc hc.2 h4.2] at h5
          have e : mfind j.ek k es = some (mgetT j.ek k es) := mfind_T h4.1
          have hc' : (j.ek.plain && keyFits j.ek k) = true := by rw [hc.1.1, hc.1.2]; rfl
          simp only [lookupA, h2, h3, hk, hj, hc', if_true, e]
          unfold mgetD at h5
          cases hg : mgetT j.ek k es with
          | none => rw [hg] at h5 h6; simp_all
          | some v' => rw [hg] at h5 h6; simp_all
        · cases h
      · cases h
    · cases h
  · cases h

/-- m[k] = x. -/
def updateB (E : Env) (s : St) (t : TypeId) (m k x : SV) : Option (Bool × St) := match E.ti t, m, k, x with
  | some i, .v (.map id), .v k, .v x => match i.k, nth s.G id with
    | .map kt _ _, some (.map es) => match E.ti kt with
      | some j => if j.ek.plain && keyFits j.ek k then some (mkeys j.ek k es, s.inG (setN s.G id (.map (mputT j.ek k x es)))) else none
      | none => none
    | _, _ => none
  | _, _, _, _ => none

theorem updateB_spec {E : Env} {s s' : St} {t : TypeId} {m k x : SV} (h : updateB E s t m k x = some (true, s')) : updateA E s t m k x = some s' := by
  unfold updateB at h
  split at h
  · rename_i i id k x h1
    split at h
    · rename_i kt _ _ es hk hg
      split at h
      · rename_i j hj
        split at h
        · rename_i hc
          injection h with h
          injection h with h4 h5
          simp only [updateA, h1, hk, hg, hj, hc, if_true, mput_T h4, h5]
        · cases h
      · cases h
    · cases h
  · cases h

/-- copy of a list into a slice that was made here. -/
def copyB (E : Env) (s : St) (dst : Option Tmp) (l : List AV) (tys : List TypeId) : Option (Bool × St) := match l, tys with
  | [.msl id off sz len _, .list _ sz' es], t :: _ => match E.ti t, nth s.G id with
    | some i, some (.row cs) => match i.k with
      | .sl _ esz _ _ _ => if Nat.beq sz esz && Nat.beq sz' esz then
          some (Nat.ble (off + (cellsL (es.take (Nat.min es.length len))).length) cs.length,
            (s.inG (setN s.G id (.row (splice cs off (cellsL (es.take (Nat.min es.length len))))))).put dst (.v (.int .i64 (Nat.min es.length len))))
        else none
      | _ => none
    | _, _ => none
  | _, _ => none

theorem copyB_spec {E : Env} {s s' : St} {dst : Option Tmp} {l : List AV} {tys : List TypeId} (h : copyB E s dst l tys = some (true, s')) : builtinA E s dst .copy l tys = some (true, s') := by
  unfold copyB at h
  split at h
  · rename_i id off sz len cap k sz' es t ts
    split at h
    · rename_i i cs hi hid
      split at h
      · rename_i a1 esz a2 a3 a4 hk
        split at h
        · rename_i hc
          rw [Bool.and_eq_true] at hc
          injection h with h
          injection h with h1 h2
          have e2 : (Nat.beq sz' esz || es.isEmpty) = true := by rw [hc.2]; rfl
          simp only [builtinA, hi, hk, copyA, hid, hc.1, if_true, e2, h1, h2]
        · cases h
      · cases h
    · cases h
  · cases h

/-- append of a list: what if it is empty; and if not, whether it goes well, and what then. -/
def appendB (E : Env) (s : St) (dst : Option Tmp) (l : List AV) (tys : List TypeId) : Option (Bool × St × Bool × St) := match l, tys with
  | [.list k sz es, .list _ sz' ys], [t, u] => match E.ti t with
    | some i => match i.k with
      | .sl elem esz _ ebytes (some z) =>
        if Nat.beq sz' esz && Nat.beq t u && Nat.ble 1 esz && Nat.ble 1 ebytes && Nat.beq z.cells.length esz && z.notTup then
          match k with
          | .nil => some (ys.isEmpty, s.put dst (.v (.list .nil sz es)), decide ((es.length + ys.length) * ebytes ≤ 140737488355328),
              (s.inG (s.G ++ [.tok (es.length + ys.length) esz elem])).put dst (.v (.list (.own s.G.length) esz (es ++ ys))))
          | .full => if Nat.beq sz esz then some (ys.isEmpty, s.put dst (.v (.list .full sz es)), decide ((es.length + ys.length) * ebytes ≤ 140737488355328),
              (s.inG (s.G ++ [.tok (es.length + ys.length) esz elem])).put dst (.v (.list (.own s.G.length) esz (es ++ ys)))) else none
          | _ => none
        else none
      | _ => none
    | none => none
  | _, _ => none

theorem St.inG_self (s : St) : s.inG s.G = s := rfl

theorem appendB_spec {E : Env} {s s1 s2 : St} {dst : Option Tmp} {l : List AV} {tys : List TypeId} {b c : Bool} (h : appendB E s dst l tys = some (b, s1, c, s2)) : builtinA E s dst .append l tys = some (if b then (true, s1) else (c, s2)) := by
  unfold appendB at h
  split at h
  · rename_i k sz es k' sz' ys t u
    split at h
    · rename_i i hi
      split at h
      · rename_i elem esz a1 ebytes z hk
        split at h
        · rename_i hc
          have hc' : ((Nat.beq sz' esz || ys.isEmpty) && Nat.beq t u && Nat.ble 1 esz && Nat.ble 1 ebytes && Nat.beq z.cells.length esz && z.notTup) = true := by
            simp only [Bool.and_eq_true] at hc ⊢
            obtain ⟨⟨⟨⟨⟨c1, c2⟩, c3⟩, c4⟩, c5⟩, c6⟩ := hc
            exact ⟨⟨⟨⟨⟨by rw [c1]; rfl, c2⟩, c3⟩, c4⟩, c5⟩, c6⟩
          simp only [builtinA, hi, hk, hc', if_true]
          cases k with
          | nil =>
            cases h
            cases ys with
            | nil => simp [appendA, St.inG_self]
            | cons y ys => simp [appendA]
          | full =>
            simp only at h
            cases hs : Nat.beq sz esz with
            | false => rw [hs] at h; cases h
            | true =>
              rw [hs] at h
              cases h
              cases ys with
              | nil => simp [appendA, St.inG_self]
              | cons y ys => simp [appendA, hs]
          | _ => cases h
        · cases h
      · cases h
    · cases h
  · cases h

end Go.Am
