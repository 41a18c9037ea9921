/- Plain laws: the bill of the program and that of the reference. -/
import Derived.Test.YtpngggdfbbdfaaaDoorHangPm
set_option linter.all false
namespace Go.Proofs.YtpngggdfbbdfaaaDoor
open Go Go.Am
set_option maxRecDepth 100000

section bill
variable {N : Nat} (hN : Big N)
include hN

theorem known_inner (table : List Tw) (ht : table.length ≤ 9223372036854775807) (out : List Int) (i : Int) (u : Unit) (b k m : Int) (name : List UInt8) : ∃ o, loopR (V := Int × (List ((List UInt8) × Int × Int)) × Unit × Int × Int × Int × (List UInt8)) (X := (Int × (List ((List UInt8) × Int × Int)) × Unit × Int × Int × Int × (List UInt8)) ⊕ ((List ((List UInt8) × Int × Int)) × Unit × Int × Int × Int × (List UInt8))) (R61x110x26 N (out, i, table, u)) N (0, table, (), b, k, m, name) = some o ∧
    Sum.elim (fun o19 => (some (o19.1, o19.2.1, (), o19.2.2.2.1, o19.2.2.2.2.1, o19.2.2.2.2.2.1, o19.2.2.2.2.2.2) : Option (Int × (List ((List UInt8) × Int × Int)) × Unit × Int × Int × Int × (List UInt8)))) (fun o20 => some ((-1), o20.1, (), o20.2.2.1, o20.2.2.2.1, o20.2.2.2.2.1, o20.2.2.2.2.2)) o = some (idxFrom name 0 table, table, (), b, k, m, name) := by
  have key := loopR_fold (rd := R61x110x26 N (out, i, table, u)) table (fun (_ : Nat) j => ((j : Int), table, (), b, k, m, name)) (idxSt name) (fun _ => .inr (table, (), b, k, m, name)) (fun j => .inl ((j : Int), table, (), b, k, m, name)) (fun i k => i = k)
    (fun j j' hj hi => by
      subst hi
      refine ⟨?_, fun s' h' => idxSt_P h'⟩
      unfold R61x110x26 idxSt
      simp only [Int.toNat_natCast, List.length_map, lt_range hj, in_range hj, nthD_map n132 table j hj, fn132, dn132, Bool.and_self, cond_true, w_succ (by omega : j < 9223372036854775807), fa132, md132, decide_true, Option.bind_some, Bool.and_true]
      generalize (table[j].1 == name) = b
      cases b <;> rfl)
    (fun j _ => by
      unfold R61x110x26
      simp only [List.length_map, ge_range, cond_false, fa132, md132, decide_true, Option.bind_some, Bool.and_true, Bool.and_self, cond_true]) N 0 0 (Nat.zero_le _) (by unfold Big at hN; omega) rfl
  refine ⟨_, key, ?_⟩
  rw [List.drop_zero, ← fold_idx]
  cases foldI (idxSt name) 0 table <;> rfl

theorem check_loop (table : List Tw) (l : List Ln) (ht : table.length ≤ 9223372036854775807) (hl : l.length ≤ 1000000) :
    loopR (V := (List Int) × Int × (List ((List UInt8) × Int × Int)) × Unit) (X := ((List Int) × (List ((List UInt8) × Int × Int)) × Unit)) (R61x99x58 N l) N ([], 0, table, ()) = some (l.map (lnErr table), table, ()) := by
  have key := loopR_foldl (rd := R61x99x58 N l) l (fun (s : List Int) k => (s, (k : Int), table, ())) (fun s y => s ++ [lnErr table y]) (fun s => (s, table, ())) (fun s k => s.length = k)
    (fun s k hk hs => by
      subst hs
      refine ⟨?_, by simp⟩
      obtain ⟨o, o1, o2⟩ := known_inner hN table ht s (s.length : Int) () l[s.length].1 l[s.length].2.1 l[s.length].2.2.1 l[s.length].2.2.2
      unfold R61x99x58
      have e1 : (List.map n26 s ++ [AV.int .i64 (lnErr table l[s.length])]) = List.map n26 (s ++ [lnErr table l[s.length]]) := by rw [List.map_append]; rfl
      have e2 : decide ((s.length + 1) * 8 ≤ 140737488355328) = true := by simp; omega
      have e3 : firstNZ [lineErr l[s.length].1 l[s.length].2.1 l[s.length].2.2.1, if (!decide (idxFrom l[s.length].2.2.2 0 table ≥ 0)) = true then 10 else 0] = lnErr table l[s.length] := by
        unfold lnErr
        congr 2
        by_cases h : idxFrom l[s.length].2.2.2 0 table ≥ 0 <;> simp [h]
      simp only [List.length_map, Int.toNat_natCast, lt_range hk, in_range hk, nthD_map n133 l s.length hk, fn133, dn133, Bool.and_self, cond_true, w_succ (by omega : s.length < 9223372036854775807), T93_val hN, Option.bind_some, beq_self_eq_true, fa132, md132, Bool.and_true, decide_true, o1]
      have o2' : ∀ (F : (Int × (List ((List UInt8) × Int × Int)) × Unit × Int × Int × Int × (List UInt8)) → Option (Int × (List ((List UInt8) × Int × Int)) × Unit × Int × Int × Int × (List UInt8))) (G : ((List ((List UInt8) × Int × Int)) × Unit × Int × Int × Int × (List UInt8)) → Option (Int × (List ((List UInt8) × Int × Int)) × Unit × Int × Int × Int × (List UInt8))),
          (∀ x, F x = some (x.1, x.2.1, (), x.2.2.2.1, x.2.2.2.2.1, x.2.2.2.2.2.1, x.2.2.2.2.2.2)) → (∀ x, G x = some ((-1), x.1, (), x.2.2.1, x.2.2.2.1, x.2.2.2.2.1, x.2.2.2.2.2)) → Sum.elim F G o = some (idxFrom l[s.length].2.2.2 0 table, table, (), l[s.length].1, l[s.length].2.1, l[s.length].2.2.1, l[s.length].2.2.2) := by
        intro F G hF hG
        rw [← o2]
        cases o with
        | inl x => exact hF x
        | inr x => exact hG x
      rw [o2' _ _ (fun x => rfl) (fun x => rfl)]
      simp only [Option.bind_some, T74_when, two]
      rw [T72_first hN _ (by simp), e3]
      simp only [Option.bind_some, e1, e2, fa26, md26, fa132, md132, Bool.and_true, cond_true, decide_true, List.length_append, List.length_cons, List.length_nil, Nat.zero_add])
    (fun s hs => by
      unfold R61x99x58
      simp only [List.length_map, ge_range, cond_false, fa26, md26, fa132, md132, Bool.and_true, cond_true, Option.bind_some, decide_true]) N [] 0 (Nat.zero_le _) (by unfold Big at hN; omega) rfl
  have e : ∀ (l : List Ln) (a : List Int), (l.foldl (fun s y => s ++ [lnErr table y]) a) = a ++ l.map (lnErr table) := by
    intro l
    induction l with
    | nil => intro a; simp
    | cons x l ih => intro a; simp [ih]
  rw [List.drop_zero, e] at key
  exact key

theorem map_loop (table : List Tw) (l : List Ln) (a : Int) (hl : l.length ≤ 1000000) (o : (List Int) × (List ((List UInt8) × Int × Int)) × Unit) :
    loopR (V := Int × (List ((List UInt8) × Int × Int)) × Unit × (List (List UInt8 × Int)) × Unit) (X := ((List ((List UInt8) × Int × Int)) × Unit × (List (List UInt8 × Int)) × Unit)) (R61x1018 N l a o) N (0, table, (), [], ()) = some (table, (), l.foldl (putL a) [], ()) := by
  have key := loopR_foldl (rd := R61x1018 N l a o) l (fun (m : SM) k => ((k : Int), table, (), m, ())) (putL a) (fun m => (table, (), m, ())) (fun _ _ => True)
    (fun m k hk _ => by
      refine ⟨?_, trivial⟩
      unfold R61x1018
      simp only [List.length_map, Int.toNat_natCast, lt_range hk, in_range hk, nthD_map n133 l k hk, fn133, dn133, Bool.and_self, cond_true, w_succ (by omega : k < 9223372036854775807), mkeys_ok, mget_ok, fn3, dn3, mput_ok, mcells_ok, allX_ok, faM156, mdM156, fa132, md132, Bool.and_true, decide_true, Option.bind_some]
      rfl)
    (fun m _ => by
      unfold R61x1018
      simp only [List.length_map, ge_range, cond_false, mcells_ok, allX_ok, faM156, mdM156, fa132, md132, Bool.and_true, Bool.and_self, decide_true, Option.bind_some, cond_true]) N [] 0 (Nat.zero_le _) (by unfold Big at hN; omega) trivial
  exact key

theorem out_loop (table : List Tw) (m : SM) (ht : table.length ≤ 1000000) (o : (List Int) × (List ((List UInt8) × Int × Int)) × Unit) :
    loopR (V := (List (Int × Int × Int)) × Int × (List ((List UInt8) × Int × Int)) × Unit × (List (List UInt8 × Int)) × Unit) (X := ((List (Int × Int × Int)) × (List ((List UInt8) × Int × Int)) × Unit × (List (List UInt8 × Int)) × Unit)) (R61x100x58 N o (table, (), m, ())) N ([], 0, table, (), m, ()) = some (table.map (fun t => sumsOf (getM t.1 m) t), table, (), m, ()) := by
  have key := loopR_foldl (rd := R61x100x58 N o (table, (), m, ())) table (fun (s : List (Int × Int × Int)) k => (s, (k : Int), table, (), m, ())) (fun s t => s ++ [sumsOf (getM t.1 m) t]) (fun s => (s, table, (), m, ())) (fun s k => s.length = k)
    (fun s k hk hs => by
      subst hs
      refine ⟨?_, by simp⟩
      unfold R61x100x58
      have e1 : (List.map n106 s ++ [(AV.agg [(AV.int .i64 (getM table[s.length].1 m)), (AV.int .i64 (IntKind.wrap .i64 (Int.tdiv (IntKind.wrap .i64 (getM table[s.length].1 m * table[s.length].2.1)) 1000))), (AV.int .i64 (IntKind.wrap .i64 (getM table[s.length].1 m * table[s.length].2.2)))])]) = List.map n106 (s ++ [sumsOf (getM table[s.length].1 m) table[s.length]]) := by rw [List.map_append]; rfl
      have e2 : decide ((s.length + 1) * 24 ≤ 140737488355328) = true := by simp; omega
      simp only [List.length_map, Int.toNat_natCast, lt_range hk, in_range hk, nthD_map n132 table s.length hk, fn132, dn132, Bool.and_self, cond_true, w_succ (by omega : s.length < 9223372036854775807), mkeys_ok, mget_ok, fn3, dn3, T95_eq, Option.bind_some, beq_self_eq_true, Bool.and_true, decide_true, e1, e2, fa106, md106, fa132, md132, mcells_ok, allX_ok, faM156, mdM156, List.length_append, List.length_cons, List.length_nil, Nat.zero_add])
    (fun s hs => by
      unfold R61x100x58
      simp only [List.length_map, ge_range, cond_false, fa106, md106, fa132, md132, mcells_ok, allX_ok, faM156, mdM156, Bool.and_true, Bool.and_self, cond_true, Option.bind_some, decide_true]) N [] 0 (Nat.zero_le _) (by unfold Big at hN; omega) rfl
  have e : ∀ (l : List Tw) (a : List (Int × Int × Int)), (l.foldl (fun s t => s ++ [sumsOf (getM t.1 m) t]) a) = a ++ l.map (fun t => sumsOf (getM t.1 m) t) := by
    intro l
    induction l with
    | nil => intro a; simp
    | cons x l ih => intro a; simp [ih]
  rw [List.drop_zero, e] at key
  exact key

theorem big_loop (table : List Tw) (m : SM) (out : List (Int × Int × Int)) (hl : out.length ≤ 1000000) (o : (List Int) × (List ((List UInt8) × Int × Int)) × Unit) :
    ∃ x, loopR (V := (List (Int × Int × Int)) × Int × (List ((List UInt8) × Int × Int)) × Unit × (List (List UInt8 × Int)) × Unit) (X := ((List (Int × Int × Int)) × Int × (List ((List UInt8) × Int × Int)) × Unit × (List (List UInt8 × Int)) × Unit) ⊕ ((List (Int × Int × Int)) × (List ((List UInt8) × Int × Int)) × Unit × (List (List UInt8 × Int)) × Unit)) (R61x111x26 N o (out, table, (), m, ())) N (out, 0, table, (), m, ()) = some x ∧
      x = (if out.any big3 then .inl (out, ((out.findIdx big3 : Nat) : Int), table, (), m, ()) else .inr (out, table, (), m, ())) := by
  have key := loopR_fold (rd := R61x111x26 N o (out, table, (), m, ())) out (fun (_ : Nat) j => (out, (j : Int), table, (), m, ())) (fun (i : Nat) (s : Int × Int × Int) => if big3 s then (.inr i : Nat ⊕ Nat) else .inl (i + 1)) (fun _ => .inr (out, table, (), m, ())) (fun j => .inl (out, (j : Int), table, (), m, ())) (fun i k => i = k)
    (fun j j' hj hi => by
      subst hi
      refine ⟨?_, fun s' h' => ?_⟩
      · unfold R61x111x26
        have e : decide ((if out[j].2.2 > (if out[j].2.1 > out[j].1 then out[j].2.1 else out[j].1) then out[j].2.2 else (if out[j].2.1 > out[j].1 then out[j].2.1 else out[j].1)) > 999999999) = big3 out[j] := by
          unfold big3
          by_cases h1 : out[j].1 > 999999999 <;> by_cases h2 : out[j].2.1 > 999999999 <;> by_cases h3 : out[j].2.2 > 999999999 <;> simp only [h1, h2, h3, decide_true, decide_false, Bool.or_true, Bool.or_false, Bool.true_or, decide_eq_true_eq, decide_eq_false_iff_not] <;> split <;> (try split) <;> omega
        simp only [Int.toNat_natCast, List.length_map, lt_range hj, in_range hj, nthD_map n106 out j hj, fn106, dn106, Bool.and_self, cond_true, w_succ (by omega : j < 9223372036854775807), e, fa106, md106, fa132, md132, mcells_ok, allX_ok, faM156, mdM156, decide_true, Option.bind_some, Bool.and_true]
        generalize big3 out[j] = b
        cases b <;> rfl
      · split at h'
        · cases h'
        · cases h'; rfl)
    (fun j _ => by
      unfold R61x111x26
      simp only [List.length_map, ge_range, cond_false, fa106, md106, fa132, md132, mcells_ok, allX_ok, faM156, mdM156, decide_true, Option.bind_some, Bool.and_true, Bool.and_self, cond_true]) N 0 0 (Nat.zero_le _) (by unfold Big at hN; omega) rfl
  refine ⟨_, key, ?_⟩
  rw [List.drop_zero]
  have gen : ∀ (l : List (Int × Int × Int)) (k : Nat), Sum.elim (fun (_ : Nat) => (Sum.inr (out, table, (), m, ()) : ((List (Int × Int × Int)) × Int × (List ((List UInt8) × Int × Int)) × Unit × (List (List UInt8 × Int)) × Unit) ⊕ ((List (Int × Int × Int)) × (List ((List UInt8) × Int × Int)) × Unit × (List (List UInt8 × Int)) × Unit))) (fun (j : Nat) => .inl (out, (j : Int), table, (), m, ())) (foldI (fun (i : Nat) (s : Int × Int × Int) => if big3 s then (.inr i : Nat ⊕ Nat) else .inl (i + 1)) k l) = if l.any big3 then .inl (out, ((k + l.findIdx big3 : Nat) : Int), table, (), m, ()) else .inr (out, table, (), m, ()) := by
    intro l
    induction l with
    | nil => intro k; rfl
    | cons s l ih =>
      intro k
      simp only [foldI, List.any_cons, List.findIdx_cons]
      by_cases h : big3 s = true
      · simp [h]
      · have h' : big3 s = false := by simpa using h
        simp only [h', Bool.false_eq_true, if_false, Sum.elim_inl, Bool.false_or, ih, cond_false]
        rw [show k + 1 + l.findIdx big3 = k + (l.findIdx big3 + 1) by omega]
  have := gen out 0
  rw [Nat.zero_add] at this
  exact this

/-- The error of a bill's input. -/
def billErr (table : List Tw) (l : List Ln) (a : Int) : Int := firstNZ [cTw table, cLn table l, rng a 0 100]

theorem T61_val (table : List Tw) (l : List Ln) (a : Int) (ht : table.length ≤ 1000000) (hl : l.length ≤ 1000000) : T61 N (table, l, a) = some (if billErr table l a = 0 then billOf a table l else ([], billErr table l a)) := by
  rw [T61_eq]
  simp only [fa132, md132, Bool.and_true, cond_true, Option.bind_some, T54_val hN table (by omega), T74_when, List.length_map, two]
  rw [T72_first hN _ (by simp)]
  simp only [Option.bind_some]
  by_cases h1 : ¬ cTw table = 0
  · have e : billErr table l a = cTw table := by unfold billErr; simp only [firstNZ, h1, if_false]
    have e2 : firstNZ [cTw table, if decide (((l.length : Nat) : Int) > 64) = true then 5 else 0] = cTw table := by simp only [firstNZ, h1, if_false]
    rw [e, e2, bne0 h1, if_neg h1]
    rfl
  have h1 := Decidable.not_not.1 h1
  by_cases h2 : l.length > 64
  · have e : billErr table l a = 5 := by unfold billErr cLn; simp only [firstNZ, h1, if_true, h2]; rfl
    have e2 : firstNZ [cTw table, if decide (((l.length : Nat) : Int) > 64) = true then 5 else 0] = 5 := by
      have : decide (((l.length : Nat) : Int) > 64) = true := by simp; omega
      rw [this]
      simp only [firstNZ, h1, if_true]
      rfl
    rw [e, e2]
    rfl
  have e2 : firstNZ [cTw table, if decide (((l.length : Nat) : Int) > 64) = true then 5 else 0] = 0 := by
    have : decide (((l.length : Nat) : Int) > 64) = false := by simp; omega
    rw [this]
    simp [firstNZ, h1]
  have e : billErr table l a = firstNZ [firstNZ (l.map (lnErr table)), rng a 0 100] := by unfold billErr cLn; simp only [firstNZ, h1, if_true, h2, if_false]
  rw [e, e2]
  simp only [bne_self_eq_false, cond_false, allFit_nil, List.map_nil, Bool.and_true, cond_true, Option.bind_some, List.length_nil, decide_true, check_loop hN table l (by omega) hl, fa26, md26]
  rw [T72_first hN _ (by rw [List.length_map]; omega)]
  simp only [Option.bind_some, T94_rng, two]
  rw [T72_first hN _ (by simp)]
  simp only [Option.bind_some]
  by_cases h3 : ¬ firstNZ [firstNZ (l.map (lnErr table)), rng a 0 100] = 0
  · rw [bne0 h3, if_neg h3]; rfl
  have h3 := Decidable.not_not.1 h3
  have m0 : mcells ([] : List (AV × AV)) = [] := rfl
  have x0 : allX ([] : List (AV × AV)) = true := rfl
  obtain ⟨x, x1, x2⟩ := big_loop hN table (l.foldl (putL a) []) (table.map (fun t => sumsOf (getM t.1 (l.foldl (putL a) [])) t)) (by rw [List.length_map]; exact ht) (l.map (lnErr table), table, ())
  have hm : ∀ t : Tw, sumsOf (getM t.1 (l.foldl (putL a) [])) t = smOf a l t := by
    intro t
    unfold smOf lenOf
    rw [map_fold]
    rfl
  simp only [h3, bne_self_eq_false, cond_false, m0, x0, allFit_nil, List.map_nil, fa132, md132, Bool.and_true, Bool.and_self, cond_true, Option.bind_some, List.length_nil, decide_true, map_loop hN table l a hl, mcells_ok, allX_ok, faM156, mdM156, out_loop hN table (l.foldl (putL a) []) ht, fa106, md106, x1, if_true]
  subst x2
  unfold billOf
  have ha : (table.map (fun t => sumsOf (getM t.1 (l.foldl (putL a) [])) t)).any big3 = table.any (fun t => big3 (smOf a l t)) := by
    rw [List.any_map]
    congr 1
    funext t
    simp only [Function.comp, hm]
  rw [ha]
  cases table.any (fun t => big3 (smOf a l t)) with
  | true =>
    simp only [if_true, Sum.elim_inl, fa106, md106, fa132, md132, mcells_ok, allX_ok, faM156, mdM156, Bool.and_true, Bool.and_self, cond_true, Option.bind_some, decide_true]
    have z : decide (((List.findIdx big3 (table.map (fun t => sumsOf (getM t.1 (l.foldl (putL a) [])) t)) : Nat) : Int) ≥ 0) = true := by simp
    rw [z]
    rfl
  | false =>
    simp only [Bool.false_eq_true, if_false, Sum.elim_inr, fa106, md106, fa132, md132, mcells_ok, allX_ok, faM156, mdM156, Bool.and_true, Bool.and_self, cond_true, Option.bind_some, decide_true]
    have z : decide ((-1 : Int) ≥ 0) = false := by decide
    rw [z]
    simp only [cond_false, hm]
end bill
end Go.Proofs.YtpngggdfbbdfaaaDoor
