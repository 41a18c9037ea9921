/- Plain laws: bills. -/
import Derived.Test.YtpngggdfbbdfaaaDoorHangPi
set_option linter.all false
namespace Go.Proofs.YtpngggdfbbdfaaaDoor
open Go Go.Am
set_option maxRecDepth 100000

/-! ### Maps from strings to numbers -/

abbrev SM := List (List UInt8 × Int)
def getM (k : List UInt8) : SM → Int
  | [] => 0
  | (k', v) :: m => if k == k' then v else getM k m
def putM (k : List UInt8) (v : Int) : SM → SM
  | [] => [(k, v)]
  | (k', v') :: m => if k == k' then (k, v) :: m else (k', v') :: putM k v m
theorem getM_put (k k' : List UInt8) (v : Int) : ∀ m : SM, getM k' (putM k v m) = if k' == k then v else getM k' m
  | [] => rfl
  | (k1, v1) :: m => by
    unfold putM
    by_cases h : (k == k1) = true
    · have e : k = k1 := by simpa using h
      subst e
      simp only [h, if_true, getM]
      by_cases h2 : (k' == k) = true
      · simp [h2]
      · simp [h2]
    · simp only [h, Bool.false_eq_true, if_false, getM]
      by_cases h2 : (k' == k1) = true
      · have e : k' = k1 := by simpa using h2
        subst e
        have h3 : ¬ (k' == k) = true := fun h3 => h (by have : k' = k := by simpa using h3
                                                        simp [this])
        simp [h3]
      · simp only [h2, Bool.false_eq_true, if_false]
        exact getM_put k k' v m

theorem ent_cons (x : List UInt8 × Int) (m : SM) : entriesL (List.map nM156 (x :: m)) = (AV.str x.1, AV.int .i64 x.2) :: entriesL (List.map nM156 m) := rfl
theorem mkeys_ok (k : List UInt8) : ∀ m : SM, mkeys .str (AV.str k) (entriesL (List.map nM156 m)) = true
  | [] => rfl
  | x :: m => by rw [ent_cons, mkeys, mkeys_ok k m]; rfl
theorem mget_ok (k : List UInt8) : ∀ m : SM, mgetD .str (AV.str k) (AV.int .i64 0) (entriesL (List.map nM156 m)) = n3 (getM k m)
  | [] => rfl
  | x :: m => by
    have ih := mget_ok k m
    unfold mgetD at *
    rw [ent_cons, mgetT, getM]
    have e : eqT .str (AV.str k) (AV.str x.1) = (k == x.1) := rfl
    rw [e]
    cases k == x.1
    · simpa using ih
    · rfl
theorem mput_ok (k : List UInt8) (v : Int) : ∀ m : SM, mputT .str (AV.str k) (AV.int .i64 v) (entriesL (List.map nM156 m)) = entriesL (List.map nM156 (putM k v m))
  | [] => rfl
  | x :: m => by
    have ih := mput_ok k v m
    rw [ent_cons, mputT, putM]
    have e : eqT .str (AV.str k) (AV.str x.1) = (k == x.1) := rfl
    rw [e]
    cases k == x.1
    · simp only [cond_false, Bool.false_eq_true, if_false, ent_cons, ih]
    · rfl
theorem mcells_ok : ∀ m : SM, mcells (entriesL (List.map nM156 m)) = List.map nM156 m
  | [] => rfl
  | x :: m => by rw [ent_cons, mcells, mcells_ok m]; rfl
theorem allX_ok (m : SM) : allX (entriesL (List.map nM156 m)) = true := by
  unfold allX
  rw [mcells_ok]
  induction m with
  | nil => rfl
  | cons x m ih => rw [List.map_cons, exactL, ih]; rfl

/-! ### Lines -/

abbrev Ln := Int × Int × Int × List UInt8
def lnErr (table : List Tw) (y : Ln) : Int := firstNZ [lineErr y.1 y.2.1 y.2.2.1, if idxFrom y.2.2.2 0 table ≥ 0 then 0 else 10]
def cLn (table : List Tw) (l : List Ln) : Int := if l.length > 64 then 5 else firstNZ (l.map (lnErr table))
def shortL (l : List Ln) : Bool := decide (l.length ≤ 8 ∨ l.length = 65) && l.all fun t => !decide (t.2.2.2.length > 40)
/-- What a line needs. -/
def rawL (a : Int) (y : Ln) : Int := IntKind.wrap .i64 (IntKind.wrap .i64 (y.1 * y.2.2.1) + IntKind.wrap .i64 (y.2.1 * a))
def addL (a : Int) (name : List UInt8) (acc : Int) (y : Ln) : Int := if y.2.2.2 == name then IntKind.wrap .i64 (acc + rawL a y) else acc
def putL (a : Int) (m : SM) (y : Ln) : SM := putM y.2.2.2 (IntKind.wrap .i64 (getM y.2.2.2 m + rawL a y)) m
def lenOf (a : Int) (l : List Ln) (name : List UInt8) : Int := l.foldl (addL a name) 0
def sumsOf (n : Int) (t : Tw) : Int × Int × Int := (n, IntKind.wrap .i64 (Int.tdiv (IntKind.wrap .i64 (n * t.2.1)) 1000), IntKind.wrap .i64 (n * t.2.2))
def big3 (s : Int × Int × Int) : Bool := decide (s.1 > 999999999) || (decide (s.2.1 > 999999999) || decide (s.2.2 > 999999999))
def smOf (a : Int) (l : List Ln) (t : Tw) : Int × Int × Int := sumsOf (lenOf a l t.1) t
def billOf (a : Int) (table : List Tw) (l : List Ln) : List (Int × Int × Int) × Int := if table.any (fun t => big3 (smOf a l t)) then ([], 4) else (table.map (smOf a l), 0)

theorem map_fold (a : Int) (name : List UInt8) : ∀ (l : List Ln) (m : SM), getM name (l.foldl (putL a) m) = l.foldl (addL a name) (getM name m)
  | [], _ => rfl
  | y :: l, m => by
    rw [List.foldl_cons, List.foldl_cons, map_fold a name l]
    congr 1
    unfold putL addL
    rw [getM_put]
    by_cases h : (name == y.2.2.2) = true
    · have e : name = y.2.2.2 := by simpa using h
      rw [e]
    · have h2 : ¬ (y.2.2.2 == name) = true := fun h2 => h (by rw [show y.2.2.2 = name by simpa using h2]; simp)
      rw [if_neg h, if_neg h2]

theorem any_fold (f : Tw → Int × Int × Int) : ∀ (l : List Tw) (out : List (Int × Int × Int)), foldI (fun out t => if big3 (f t) then (.inr () : List (Int × Int × Int) ⊕ Unit) else .inl (out ++ [f t])) out l = if l.any (fun t => big3 (f t)) then .inr () else .inl (out ++ l.map f)
  | [], out => by simp [foldI]
  | t :: l, out => by
    simp only [foldI, List.any_cons]
    by_cases h : big3 (f t) = true
    · simp [h]
    · have h' : big3 (f t) = false := by simpa using h
      simp only [h', Bool.false_eq_true, if_false, Sum.elim_inl, Bool.false_or, any_fold f l]
      by_cases h2 : (l.any fun t => big3 (f t)) = true
      · simp [h2]
      · simp [h2]

section bill
variable {N : Nat} (hN : Big N)
include hN

theorem T60_short (l : List Ln) (hl : l.length ≤ 9223372036854775807) : T60 N (l, 8) = some (shortL l) := by
  rw [T60_eq]
  have e1 : (((bif (decide (((((List.map n119 l)).length : Nat) : Int) > 8)) then (some (((((List.map n119 l)).length : Nat) : Int) != 65)) else (some false)) : Option Bool)) = some (!decide (l.length ≤ 8 ∨ l.length = 65)) := by
    rw [List.length_map]
    by_cases h1 : l.length ≤ 8
    · have : decide (((l.length : Nat) : Int) > 8) = false := by simp; omega
      rw [this]; simp [h1]
    · have : decide (((l.length : Nat) : Int) > 8) = true := by simp; omega
      rw [this]
      by_cases h2 : l.length = 65
      · simp [h2]
      · have : (((l.length : Nat) : Int) != 65) = true := by simp; omega
        simp [h1, h2, this]
  have key := loopR_fold (rd := R60x58 N l) (S := Unit) (Y := Unit) l (fun _ k => (k : Int)) (fun _ t => if t.2.2.2.length > 40 then .inr () else .inl ()) (fun _ => .inr ()) (fun _ => .inl false) (fun _ _ => True)
    (fun s k hk _ => by
      refine ⟨?_, fun _ _ => trivial⟩
      unfold R60x58
      simp only [List.length_map, Int.toNat_natCast, lt_range hk, in_range hk, nthD_map n119 l k hk, fn119, dn119, Bool.and_self, cond_true, w_succ (by omega : k < 9223372036854775807)]
      by_cases h1 : l[k].2.2.2.length > 40
      · have : decide (((l[k].2.2.2.length : Nat) : Int) > 40) = true := by simp; omega
        simp [this, h1]
      · have : decide (((l[k].2.2.2.length : Nat) : Int) > 40) = false := by simp; omega
        simp [this, h1])
    (fun s _ => by
      unfold R60x58
      simp only [List.length_map, ge_range, cond_false]) N () 0 (Nat.zero_le _) (by unfold Big at hN; omega) trivial
  have key' : loopR (V := Int) (X := Bool ⊕ Unit) (R60x58 N l) N 0 = _ := key
  rw [e1]
  simp only [Option.bind_some, key', List.drop_zero]
  unfold shortL
  by_cases h1 : l.length ≤ 8 ∨ l.length = 65
  · simp only [h1, decide_true, Bool.not_true, cond_false, Bool.true_and]
    clear key key' e1 h1 hl
    induction l with
    | nil => rfl
    | cons s l ih =>
      simp only [foldI, List.all_cons]
      by_cases h2 : s.2.2.2.length > 40
      · simp [h2]
      · have : (!decide (s.2.2.2.length > 40)) = true := by simp; omega
        rw [if_neg h2, this, Bool.true_and]
        exact ih
  · simp only [h1, decide_false, Bool.not_false, cond_true, Bool.false_and]

theorem T62_id (l : List Ln) (hl : l.length ≤ 1000000) : T62 N l = some l := by
  rw [T62_eq]
  have key := loopR_foldl (rd := R62x58 N l) l (fun (s : List Ln) k => (s, (k : Int))) (fun s x => s ++ [x]) (fun s => s) (fun s k => s.length = k)
    (fun s k hk hs => by
      subst hs
      refine ⟨?_, by simp⟩
      unfold R62x58
      have e1 : (List.map n133 s ++ [(AV.agg [(AV.int .i64 l[s.length].1), (AV.int .i64 l[s.length].2.1), (AV.int .i64 l[s.length].2.2.1), (AV.str l[s.length].2.2.2)])]) = List.map n133 (s ++ [l[s.length]]) := by rw [List.map_append]; rfl
      have e2 : decide ((s.length + 1) * 40 ≤ 140737488355328) = true := by simp; omega
      simp only [List.length_map, Int.toNat_natCast, lt_range hk, in_range hk, nthD_map n119 l s.length hk, fn119, dn119, Bool.and_self, cond_true, w_succ (by omega : s.length < 9223372036854775807), decide_true, e1, e2, fa133, md133, Bool.and_true, Option.bind_some, List.length_append, List.length_cons, List.length_nil, Nat.zero_add])
    (fun s hs => by
      unfold R62x58
      simp only [List.length_map, ge_range, cond_false, fa133, md133, Bool.and_true, cond_true, Option.bind_some, decide_true]) N [] 0 (Nat.zero_le _) (by unfold Big at hN; omega) rfl
  have key' : loopR (V := (List (Int × Int × Int × (List UInt8))) × Int) (X := ((List (Int × Int × Int × (List UInt8))))) (R62x58 N l) N ([], 0) = _ := key
  simp only [allFit_nil, List.map_nil, Bool.and_true, cond_true, Option.bind_some, List.length_nil, decide_true, key', List.drop_zero, fa133, md133]
  rw [foldl_snoc]
  rfl

theorem T63_val (table : List Tw) (l : List Ln) (ht : table.length ≤ 9223372036854775807) (hl : l.length ≤ 9223372036854775807) : T63 N (table, l) = some (cLn table l) := by
  rw [T63_eq]
  simp only [List.length_map]
  unfold cLn
  by_cases h1 : l.length > 64
  · have e : decide (((l.length : Nat) : Int) > 64) = true := by simp; omega
    simp [h1, e]
  · have e : decide (((l.length : Nat) : Int) > 64) = false := by simp; omega
    have key := loopR_fold (rd := R63x58 N table l) (S := Unit) (Y := Int) l (fun _ k => (k : Int)) (fun _ y => if lnErr table y = 0 then .inl () else .inr (lnErr table y)) (fun _ => .inr ()) (fun y => .inl y) (fun _ _ => True)
      (fun s k hk _ => by
        refine ⟨?_, fun _ _ => trivial⟩
        have t3 : ∀ x y z : Int, ((bif (allFit (Pat.fits p3) [(AV.int .i64 x), (AV.int .i64 y), (AV.int .i64 z)]) then some (List.map d3 [(AV.int .i64 x), (AV.int .i64 y), (AV.int .i64 z)]) else none : Option ((List Int)))) = some [x, y, z] := fun _ _ _ => rfl
        unfold R63x58
        simp only [List.length_map, Int.toNat_natCast, lt_range hk, in_range hk, nthD_map n119 l k hk, fn119, dn119, Bool.and_self, cond_true, w_succ (by omega : k < 9223372036854775807), Option.bind_some, beq_self_eq_true, T27_rng, Bool.and_true, t3, fa121, md121, T88_idx hN _ _ ht]
        rw [T26_first hN _ (by simp)]
        simp only [Option.bind_some]
        have e5 : firstNZ [rng l[k].1 0 100000, rng l[k].2.1 0 100000, rng l[k].2.2.1 1 100] = lineErr l[k].1 l[k].2.1 l[k].2.2.1 := rfl
        rw [e5]
        have e6 : lnErr table l[k] = if lineErr l[k].1 l[k].2.1 l[k].2.2.1 = 0 then (if idxFrom l[k].2.2.2 0 table ≥ 0 then 0 else 10) else lineErr l[k].1 l[k].2.1 l[k].2.2.1 := by unfold lnErr; rw [firstNZ2]
        by_cases hz : lineErr l[k].1 l[k].2.1 l[k].2.2.1 = 0
        · by_cases hi : idxFrom l[k].2.2.2 0 table ≥ 0
          · have : decide (idxFrom l[k].2.2.2 0 table < 0) = false := by simp; omega
            simp [e6, hz, hi, this]
          · have : decide (idxFrom l[k].2.2.2 0 table < 0) = true := by simp; omega
            simp [e6, hz, hi, this]
        · simp only [e6, hz, if_false, beq0 hz, cond_false, Option.bind_some, bne0 hz, cond_true, Sum.map_inr])
      (fun s _ => by
        unfold R63x58
        simp only [List.length_map, ge_range, cond_false]) N () 0 (Nat.zero_le _) (by unfold Big at hN; omega) trivial
    have key' : loopR (V := Int) (X := Int ⊕ Unit) (R63x58 N table l) N 0 = _ := key
    simp only [e, cond_false, key', Option.bind_some, List.drop_zero, h1, if_false]
    clear key key' e h1 hl
    induction l with
    | nil => rfl
    | cons s l ih =>
      simp only [foldI, List.map_cons, firstNZ]
      by_cases h2 : lnErr table s = 0
      · simp only [h2, if_true, Sum.elim_inl]; exact ih
      · simp [h2]

theorem T65_same (l : List (Int × Int × Int)) (hl : l.length ≤ 9223372036854775807) : T65 N (l, l) = some true := by
  rw [T65_eq]
  have key := loopR_foldl (rd := R65x58 N l l) l (fun (_ : Unit) k => (k : Int)) (fun _ _ => ()) (fun _ => .inr ()) (fun _ _ => True)
    (fun s k hk _ => by
      refine ⟨?_, trivial⟩
      unfold R65x58
      simp only [List.length_map, Int.toNat_natCast, lt_range hk, in_range hk, nthD_map n107 l k hk, fn107, dn107, Bool.and_self, cond_true, beq_self_eq_true, Bool.not_true, cond_false, w_succ (by omega : k < 9223372036854775807)])
    (fun s _ => by
      unfold R65x58
      simp only [List.length_map, ge_range, cond_false]) N () 0 (Nat.zero_le _) (by unfold Big at hN; omega) trivial
  have key' : loopR (V := Int) (X := Bool ⊕ Unit) (R65x58 N l l) N 0 = some (.inr ()) := key
  simp only [bne_self_eq_false, cond_false, key', Option.bind_some, Sum.elim_inr]
end bill
end Go.Proofs.YtpngggdfbbdfaaaDoor
