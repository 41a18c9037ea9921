/- What the functions compute (printed by a program of ours, checked by the kernel). -/
import Derived.Test.YtpngggdfbbdfaaaDoorHangC
set_option linter.all false
namespace Go.Proofs.YtpngggdfbbdfaaaDoor
open Go Go.Am
set_option maxRecDepth 100000
abbrev p26 : Pat := (.int .i64)
abbrev d26 (v : AV) : Int := Pat.decD p26 v
abbrev n26 (x : Int) : AV := Pat.enc p26 x
def elpL : List (Nat × Pat) := [(45, (.int .i64)), (60, (.agg (.cons (.int .i64) (.cons (.int .i64) (.cons (.int .i64) .nil))))), (63, (.agg (.cons (.int .i64) (.cons (.int .i64) (.cons (.int .i64) .nil))))), (65, (.agg (.cons (.int .i64) (.cons (.int .i64) .nil)))), (78, (.agg (.cons .str (.cons (.int .i64) (.cons (.int .i64) .nil))))), (81, (.agg (.cons .str (.cons (.int .i64) (.cons (.int .i64) .nil))))), (94, (.agg (.cons (.int .i64) (.cons (.int .i64) (.cons (.int .i64) (.cons .str .nil)))))), (96, (.agg (.cons (.int .i64) (.cons (.int .i64) (.cons (.int .i64) .nil))))), (99, (.agg (.cons (.int .i64) (.cons (.int .i64) (.cons (.int .i64) (.cons .str .nil)))))), (102, (.agg (.cons (.int .i64) (.cons (.int .i64) (.cons (.int .i64) .nil))))), (142, (.agg (.cons (.int .i64) (.cons (.int .i64) (.cons (.int .i64) .nil))))), (154, (.int .i64))]
def elpF : List (Nat × Pat) → Nat → Option Pat
  | [], _ => none
  | (a, p) :: l, t => bif Nat.beq a t then some p else elpF l t
noncomputable def envS : Env := { env with elp := elpF elpL }
noncomputable def envDS : EnvD := { envD with toEnv := envS }
noncomputable def cx (N : Nat) (tab : List (Nat × Entry)) (cert : List (Nat × List (Nat × Cert))) : Ctx := { D := envDS, tab := tabF tab, cert := certF cert, fz := false, N := N }

noncomputable def T22 (_N : Nat) : Unit → Option Bool := fun _ => some true
noncomputable def e22 (N : Nat) : Entry := ⟨.nil, .bool, T22 N⟩
theorem T22_ok (N : Nat) : EntryOk envS 22 (e22 N) := fun x y h => by
  cases h
  exact PCalls.env (E := env) rfl rfl (PCalls.mono awake_calls fun r ⟨y, h1, h2⟩ => by rw [h1, h2]; rfl)

def c112 : List (Nat × Cert) := [(12, .loop [] ⟨(.cons (.int .i64) (.cons (.int .i64) .nil)), [0, 1], [], [], []⟩ [(.ex 0, ⟨(.cons (.int .i64) .nil), [0], [], [], []⟩)])]
-- "codend/hang.divisor"
noncomputable def T112 (N : Nat) : Int × Int → Option Int := (cx N [] [(112, c112)]).fn 1000 112 (.cons (.int .i64) (.cons (.int .i64) .nil)) (.int .i64)
noncomputable def e112 (N : Nat) : Entry := ⟨(.cons (.int .i64) (.cons (.int .i64) .nil)), (.int .i64), T112 N⟩
theorem T112_ok (N : Nat) : EntryOk envS 112 (e112 N) := Ctx.fn_ok (fun _ _ h => by cases h) (by kernel_rfl) (by kernel_rfl)
noncomputable def R112x12 (N : Nat) (v1 : Int × Int) : Option ((Int × Int) ⊕ Int) :=
  (bif (v1.2 != 0) then bif !(decide (v1.2 = 0)) then (some (Sum.inl (v1.2, (Int.tmod v1.1 v1.2)))) else none else (some (Sum.inr v1.1)))
theorem T112_eq (N : Nat) (a0 : Int) (a1 : Int) : T112 N (a0, a1) =
  ((loopR (V := Int × Int) (X := Int) (R112x12 N) N (a0, a1)).bind fun o3 => some o3) := by kernel_rfl

-- "codend/hang.lowest"
noncomputable def T104 (N : Nat) : Int × Int → Option ((Int × Int)) := (cx N [(112, e112 N)] []).fn 1000 104 (.cons (.int .i64) (.cons (.int .i64) .nil)) (.agg (.cons (.int .i64) (.cons (.int .i64) .nil)))
noncomputable def e104 (N : Nat) : Entry := ⟨(.cons (.int .i64) (.cons (.int .i64) .nil)), (.agg (.cons (.int .i64) (.cons (.int .i64) .nil))), T104 N⟩
theorem T104_ok (N : Nat) : EntryOk envS 104 (e104 N) := Ctx.fn_ok (tabF_ok (by intro a e h; simp only [List.mem_cons, Prod.mk.injEq, List.not_mem_nil, or_false] at h; rcases h with ⟨rfl, rfl⟩; exact T112_ok N)) (by kernel_rfl) (by kernel_rfl)
theorem T104_eq (N : Nat) (a0 : Int) (a1 : Int) : T104 N (a0, a1) =
  (T112 N (a0, a1)).bind fun y1 => bif !(decide (y1 = 0)) then bif !(decide (y1 = 0)) then some ((IntKind.wrap .i64 (Int.tdiv a0 y1)), (IntKind.wrap .i64 (Int.tdiv a1 y1))) else none else none := by kernel_rfl

-- "codend/hang.ratio"
noncomputable def T75 (N : Nat) : Int × Int → Option ((Int × Int)) := (cx N [(104, e104 N)] []).fn 1000 75 (.cons (.int .i64) (.cons (.int .i64) .nil)) (.agg (.cons (.int .i64) (.cons (.int .i64) .nil)))
noncomputable def e75 (N : Nat) : Entry := ⟨(.cons (.int .i64) (.cons (.int .i64) .nil)), (.agg (.cons (.int .i64) (.cons (.int .i64) .nil))), T75 N⟩
theorem T75_ok (N : Nat) : EntryOk envS 75 (e75 N) := Ctx.fn_ok (tabF_ok (by intro a e h; simp only [List.mem_cons, Prod.mk.injEq, List.not_mem_nil, or_false] at h; rcases h with ⟨rfl, rfl⟩; exact T104_ok N)) (by kernel_rfl) (by kernel_rfl)
theorem T75_eq (N : Nat) (a0 : Int) (a1 : Int) : T75 N (a0, a1) =
  (T104 N (a0, a1)).bind fun y1 => some (y1.1, y1.2) := by kernel_rfl

-- "codend/hang.square"
noncomputable def T69 (N : Nat) : Int × Int → Option ((Int × Int)) := (cx N [(104, e104 N)] []).fn 1000 69 (.cons (.int .i64) (.cons (.int .i64) .nil)) (.agg (.cons (.int .i64) (.cons (.int .i64) .nil)))
noncomputable def e69 (N : Nat) : Entry := ⟨(.cons (.int .i64) (.cons (.int .i64) .nil)), (.agg (.cons (.int .i64) (.cons (.int .i64) .nil))), T69 N⟩
theorem T69_ok (N : Nat) : EntryOk envS 69 (e69 N) := Ctx.fn_ok (tabF_ok (by intro a e h; simp only [List.mem_cons, Prod.mk.injEq, List.not_mem_nil, or_false] at h; rcases h with ⟨rfl, rfl⟩; exact T104_ok N)) (by kernel_rfl) (by kernel_rfl)
theorem T69_eq (N : Nat) (a0 : Int) (a1 : Int) : T69 N (a0, a1) =
  (T104 N (a0, a1)).bind fun y1 => some (y1.1, y1.2) := by kernel_rfl

-- "codend/hang.when"
noncomputable def T74 (N : Nat) : Bool × Int → Option Int := (cx N [] []).fn 1000 74 (.cons .bool (.cons (.int .i64) .nil)) (.int .i64)
noncomputable def e74 (N : Nat) : Entry := ⟨(.cons .bool (.cons (.int .i64) .nil)), (.int .i64), T74 N⟩
theorem T74_ok (N : Nat) : EntryOk envS 74 (e74 N) := Ctx.fn_ok (fun _ _ h => by cases h) (by kernel_rfl) (by kernel_rfl)
theorem T74_eq (N : Nat) (a0 : Bool) (a1 : Int) : T74 N (a0, a1) =
  (bif a0 then some a1 else some 0) := by kernel_rfl

def c73 : List (Nat × Cert) := [(6, .join [(.norm, ⟨(.cons (.int .i64) .nil), [6], [], [], []⟩)])]
-- "codend/hang.within"
noncomputable def T73 (N : Nat) : Int × Int × Int → Option Int := (cx N [(74, e74 N)] [(73, c73)]).fn 1000 73 (.cons (.int .i64) (.cons (.int .i64) (.cons (.int .i64) .nil))) (.int .i64)
noncomputable def e73 (N : Nat) : Entry := ⟨(.cons (.int .i64) (.cons (.int .i64) (.cons (.int .i64) .nil))), (.int .i64), T73 N⟩
theorem T73_ok (N : Nat) : EntryOk envS 73 (e73 N) := Ctx.fn_ok (tabF_ok (by intro a e h; simp only [List.mem_cons, Prod.mk.injEq, List.not_mem_nil, or_false] at h; rcases h with ⟨rfl, rfl⟩; exact T74_ok N)) (by kernel_rfl) (by kernel_rfl)
theorem T73_eq (N : Nat) (a0 : Int) (a1 : Int) (a2 : Int) : T73 N (a0, a1, a2) =
  (((bif (decide (a0 < a1)) then (T74 N (true, 3)).bind fun y1 => (some y1) else (T74 N ((decide (a0 > a2)), 3)).bind fun y2 => (some y2)) : Option Int).bind fun o3 => some o3) := by kernel_rfl

def c72 : List (Nat × Cert) := [(26, .loop [] ⟨(.cons (.int .i64) .nil), [7], [], [], []⟩ [(.ret, ⟨(.cons (.int .i64) .nil), [2], [], [], []⟩), (.ex 0, ⟨.nil, [], [], [], []⟩)])]
-- "codend/hang.first"
noncomputable def T72 (N : Nat) : (List Int) → Option Int := (cx N [] [(72, c72)]).fn 1000 72 (.cons (.list 1 (.int .i64)) .nil) (.int .i64)
noncomputable def e72 (N : Nat) : Entry := ⟨(.cons (.list 1 (.int .i64)) .nil), (.int .i64), T72 N⟩
theorem T72_ok (N : Nat) : EntryOk envS 72 (e72 N) := Ctx.fn_ok (fun _ _ h => by cases h) (by kernel_rfl) (by kernel_rfl)
noncomputable def R72x26 (N : Nat) (a0 : List Int) (v1 : Int) : Option (Int ⊕ (Int ⊕ Unit)) :=
  (bif (decide (v1 < ((((List.map n26 a0)).length : Nat) : Int))) then bif (decide (0 ≤ v1 ∧ v1 < (((List.map n26 a0)).length : Int)) && Pat.fits p26 (nthD (List.map n26 a0) (Int.toNat v1))) then (bif ((d26 (nthD (List.map n26 a0) (Int.toNat v1))) != 0) then (some (Sum.inr (Sum.inl (d26 (nthD (List.map n26 a0) (Int.toNat v1)))))) else (some (Sum.inl (IntKind.wrap .i64 (v1 + 1))))) else none else (some (Sum.inr (Sum.inr ()))))
theorem T72_eq (N : Nat) (a0 : List Int) : T72 N a0 =
  ((loopR (V := Int) (X := Int ⊕ Unit) (R72x26 N a0) N 0).bind fun o6 => (Sum.elim (fun o7 => some o7) (fun o8 => some 0) o6)) := by kernel_rfl

-- "codend/hang.CheckRatio"
noncomputable def T19 (N : Nat) : (Int × Int) → Option Int := (cx N [(72, e72 N), (73, e73 N), (74, e74 N), (75, e75 N)] []).fn 1000 19 (.cons (.agg (.cons (.int .i64) (.cons (.int .i64) .nil))) .nil) (.int .i64)
noncomputable def e19 (N : Nat) : Entry := ⟨(.cons (.agg (.cons (.int .i64) (.cons (.int .i64) .nil))) .nil), (.int .i64), T19 N⟩
theorem T19_ok (N : Nat) : EntryOk envS 19 (e19 N) := Ctx.fn_ok (tabF_ok (by intro a e h; simp only [List.mem_cons, Prod.mk.injEq, List.not_mem_nil, or_false] at h; rcases h with ⟨rfl, rfl⟩ | ⟨rfl, rfl⟩ | ⟨rfl, rfl⟩ | ⟨rfl, rfl⟩; exact T72_ok N; exact T73_ok N; exact T74_ok N; exact T75_ok N)) (by kernel_rfl) (by kernel_rfl)
theorem T19_eq (N : Nat) (a0 : Int × Int) : T19 N a0 =
  (T73 N (a0.1, 1, 30)).bind fun y1 => bif ((a0.2 == a0.2) && ((a0.1 == a0.1) && ((a0.2 == a0.2) && true))) then (T73 N (a0.2, 1, 30)).bind fun y2 => bif ((a0.2 == a0.2) && ((a0.1 == a0.1) && true)) then (T74 N ((decide (a0.1 > a0.2)), 11)).bind fun y3 => ((bif (allFit (Pat.fits p26) [(AV.int .i64 y1), (AV.int .i64 y2), (AV.int .i64 y3)] && true) then some (List.map d26 [(AV.int .i64 y1), (AV.int .i64 y2), (AV.int .i64 y3)]) else none : Option ((List Int))).bind fun x5 => (T72 N x5).bind fun y4 => (bif (y4 != 0) then some y4 else (T75 N (a0.1, a0.2)).bind fun y6 => bif (((a0.1 == a0.1) && ((a0.2 == a0.2) && true)) && true) then (T74 N ((!((y6.1 == a0.1) && ((y6.2 == a0.2) && true))), 1)).bind fun y7 => some y7 else none)) else none else none := by kernel_rfl

-- "codend/hang.CheckSquare"
noncomputable def T20 (N : Nat) : (Int × Int) → Option Int := (cx N [(69, e69 N), (72, e72 N), (73, e73 N), (74, e74 N)] []).fn 1000 20 (.cons (.agg (.cons (.int .i64) (.cons (.int .i64) .nil))) .nil) (.int .i64)
noncomputable def e20 (N : Nat) : Entry := ⟨(.cons (.agg (.cons (.int .i64) (.cons (.int .i64) .nil))) .nil), (.int .i64), T20 N⟩
theorem T20_ok (N : Nat) : EntryOk envS 20 (e20 N) := Ctx.fn_ok (tabF_ok (by intro a e h; simp only [List.mem_cons, Prod.mk.injEq, List.not_mem_nil, or_false] at h; rcases h with ⟨rfl, rfl⟩ | ⟨rfl, rfl⟩ | ⟨rfl, rfl⟩ | ⟨rfl, rfl⟩; exact T69_ok N; exact T72_ok N; exact T73_ok N; exact T74_ok N)) (by kernel_rfl) (by kernel_rfl)
theorem T20_eq (N : Nat) (a0 : Int × Int) : T20 N a0 =
  (T73 N (a0.1, 0, 4000000000000)).bind fun y1 => bif ((a0.2 == a0.2) && true) then (T73 N (a0.2, 1, 810000)).bind fun y2 => ((bif (allFit (Pat.fits p26) [(AV.int .i64 y1), (AV.int .i64 y2)] && true) then some (List.map d26 [(AV.int .i64 y1), (AV.int .i64 y2)]) else none : Option ((List Int))).bind fun x4 => (T72 N x4).bind fun y3 => (bif (y3 != 0) then some y3 else (T69 N (a0.1, a0.2)).bind fun y5 => bif (((a0.1 == a0.1) && ((a0.2 == a0.2) && true)) && true) then (T74 N ((!((y5.1 == a0.1) && ((y5.2 == a0.2) && true))), 1)).bind fun y6 => some y6 else none)) else none := by kernel_rfl

-- "codend/codendref06.Divisor"
noncomputable def T66r (N : Nat) : Nat → Int × Int → Option Int
  | 0 => fun _ => none
  | n + 1 => (cx N [(66, ⟨(.cons (.int .i64) (.cons (.int .i64) .nil)), (.int .i64), T66r N n⟩)] []).fn 1000 66 (.cons (.int .i64) (.cons (.int .i64) .nil)) (.int .i64)
noncomputable def T66 (N : Nat) : Int × Int → Option Int := T66r N N
noncomputable def e66 (N : Nat) : Entry := ⟨(.cons (.int .i64) (.cons (.int .i64) .nil)), (.int .i64), T66 N⟩
theorem T66r_ok (N : Nat) : ∀ n, EntryOk envS 66 ⟨(.cons (.int .i64) (.cons (.int .i64) .nil)), (.int .i64), T66r N n⟩
  | 0 => fun _ _ h => by cases h
  | n + 1 => Ctx.fn_ok (tabF_ok (by intro a e h; simp only [List.mem_cons, Prod.mk.injEq, List.not_mem_nil, or_false] at h; rcases h with ⟨rfl, rfl⟩; exact T66r_ok N n)) (by kernel_rfl) (by kernel_rfl)
theorem T66_ok (N : Nat) : EntryOk envS 66 (e66 N) := T66r_ok N N
theorem T66r_eq (N n : Nat) (a0 : Int) (a1 : Int) : T66r N (n + 1) (a0, a1) =
  (bif (a1 == 0) then some a0 else bif !(decide (a1 = 0)) then (T66r N n (a1, (Int.tmod a0 a1))).bind fun y1 => some y1 else none) := by kernel_rfl

def c16 : List (Nat × Cert) := [(12, .join [(.norm, ⟨(.cons .bool .nil), [20], [], [], []⟩)])]
-- "codend/codendref06.CheckRatio"
noncomputable def T16 (N : Nat) : (Int × Int) → Option Int := (cx N [(66, e66 N)] [(16, c16)]).fn 1000 16 (.cons (.agg (.cons (.int .i64) (.cons (.int .i64) .nil))) .nil) (.int .i64)
noncomputable def e16 (N : Nat) : Entry := ⟨(.cons (.agg (.cons (.int .i64) (.cons (.int .i64) .nil))) .nil), (.int .i64), T16 N⟩
theorem T16_ok (N : Nat) : EntryOk envS 16 (e16 N) := Ctx.fn_ok (tabF_ok (by intro a e h; simp only [List.mem_cons, Prod.mk.injEq, List.not_mem_nil, or_false] at h; rcases h with ⟨rfl, rfl⟩; exact T66_ok N)) (by kernel_rfl) (by kernel_rfl)
theorem T16_eq (N : Nat) (a0 : Int × Int) : T16 N a0 =
  (((bif (decide (a0.1 < 1)) then (some true) else (bif (decide (a0.1 > 30)) then (some true) else (bif (decide (a0.2 < 1)) then (some true) else (some (decide (a0.2 > 30)))))) : Option Bool).bind fun o1 => (bif o1 then some 3 else (bif (decide (a0.1 > a0.2)) then some 11 else (T66 N (a0.1, a0.2)).bind fun y2 => (bif (y2 != 1) then some 1 else some 0)))) := by kernel_rfl

def c21 : List (Nat × Cert) := [(12, .join [(.norm, ⟨(.cons .bool .nil), [20], [], [], []⟩)])]
-- "codend/codendref06.CheckSquare"
noncomputable def T21 (N : Nat) : (Int × Int) → Option Int := (cx N [(66, e66 N)] [(21, c21)]).fn 1000 21 (.cons (.agg (.cons (.int .i64) (.cons (.int .i64) .nil))) .nil) (.int .i64)
noncomputable def e21 (N : Nat) : Entry := ⟨(.cons (.agg (.cons (.int .i64) (.cons (.int .i64) .nil))) .nil), (.int .i64), T21 N⟩
theorem T21_ok (N : Nat) : EntryOk envS 21 (e21 N) := Ctx.fn_ok (tabF_ok (by intro a e h; simp only [List.mem_cons, Prod.mk.injEq, List.not_mem_nil, or_false] at h; rcases h with ⟨rfl, rfl⟩; exact T66_ok N)) (by kernel_rfl) (by kernel_rfl)
theorem T21_eq (N : Nat) (a0 : Int × Int) : T21 N a0 =
  (((bif (decide (a0.1 < 0)) then (some true) else (bif (decide (a0.1 > 4000000000000)) then (some true) else (bif (decide (a0.2 < 1)) then (some true) else (some (decide (a0.2 > 810000)))))) : Option Bool).bind fun o1 => (bif o1 then some 3 else (T66 N (a0.1, a0.2)).bind fun y2 => (bif (y2 != 1) then some 1 else some 0))) := by kernel_rfl

-- "codend/codendref06.square"
noncomputable def T71 (N : Nat) : Int × Int → Option ((Int × Int)) := (cx N [(66, e66 N)] []).fn 1000 71 (.cons (.int .i64) (.cons (.int .i64) .nil)) (.agg (.cons (.int .i64) (.cons (.int .i64) .nil)))
noncomputable def e71 (N : Nat) : Entry := ⟨(.cons (.int .i64) (.cons (.int .i64) .nil)), (.agg (.cons (.int .i64) (.cons (.int .i64) .nil))), T71 N⟩
theorem T71_ok (N : Nat) : EntryOk envS 71 (e71 N) := Ctx.fn_ok (tabF_ok (by intro a e h; simp only [List.mem_cons, Prod.mk.injEq, List.not_mem_nil, or_false] at h; rcases h with ⟨rfl, rfl⟩; exact T66_ok N)) (by kernel_rfl) (by kernel_rfl)
theorem T71_eq (N : Nat) (a0 : Int) (a1 : Int) : T71 N (a0, a1) =
  (T66 N (a0, a1)).bind fun y1 => bif !(decide (y1 = 0)) then bif !(decide (y1 = 0)) then some ((IntKind.wrap .i64 (Int.tdiv a0 y1)), (IntKind.wrap .i64 (Int.tdiv a1 y1))) else none else none := by kernel_rfl

-- "codend/codendref06.Secondary"
noncomputable def T17 (N : Nat) : (Int × Int) → Option ((Int × Int)) := (cx N [(71, e71 N)] []).fn 1000 17 (.cons (.agg (.cons (.int .i64) (.cons (.int .i64) .nil))) .nil) (.agg (.cons (.int .i64) (.cons (.int .i64) .nil)))
noncomputable def e17 (N : Nat) : Entry := ⟨(.cons (.agg (.cons (.int .i64) (.cons (.int .i64) .nil))) .nil), (.agg (.cons (.int .i64) (.cons (.int .i64) .nil))), T17 N⟩
theorem T17_ok (N : Nat) : EntryOk envS 17 (e17 N) := Ctx.fn_ok (tabF_ok (by intro a e h; simp only [List.mem_cons, Prod.mk.injEq, List.not_mem_nil, or_false] at h; rcases h with ⟨rfl, rfl⟩; exact T71_ok N)) (by kernel_rfl) (by kernel_rfl)
theorem T17_eq (N : Nat) (a0 : Int × Int) : T17 N a0 =
  (T71 N ((IntKind.wrap .i64 ((IntKind.wrap .i64 (a0.2 * a0.2)) - (IntKind.wrap .i64 (a0.1 * a0.1)))), (IntKind.wrap .i64 (a0.2 * a0.2)))).bind fun y1 => some (y1.1, y1.2) := by kernel_rfl

-- "codend/codendref06.Fullness"
noncomputable def T18 (N : Nat) : (Int × Int) → Option ((Int × Int)) := (cx N [(71, e71 N)] []).fn 1000 18 (.cons (.agg (.cons (.int .i64) (.cons (.int .i64) .nil))) .nil) (.agg (.cons (.int .i64) (.cons (.int .i64) .nil)))
noncomputable def e18 (N : Nat) : Entry := ⟨(.cons (.agg (.cons (.int .i64) (.cons (.int .i64) .nil))) .nil), (.agg (.cons (.int .i64) (.cons (.int .i64) .nil))), T18 N⟩
theorem T18_ok (N : Nat) : EntryOk envS 18 (e18 N) := Ctx.fn_ok (tabF_ok (by intro a e h; simp only [List.mem_cons, Prod.mk.injEq, List.not_mem_nil, or_false] at h; rcases h with ⟨rfl, rfl⟩; exact T71_ok N)) (by kernel_rfl) (by kernel_rfl)
theorem T18_eq (N : Nat) (a0 : Int × Int) : T18 N a0 =
  (T71 N ((IntKind.wrap .i64 ((IntKind.wrap .i64 (4 * (IntKind.wrap .i64 (a0.1 * a0.1)))) * (IntKind.wrap .i64 ((IntKind.wrap .i64 (a0.2 * a0.2)) - (IntKind.wrap .i64 (a0.1 * a0.1)))))), (IntKind.wrap .i64 ((IntKind.wrap .i64 (a0.2 * a0.2)) * (IntKind.wrap .i64 (a0.2 * a0.2)))))).bind fun y1 => some (y1.1, y1.2) := by kernel_rfl

-- "codend/hang.fullness"
noncomputable def T70 (N : Nat) : (Int × Int) → Option ((Int × Int)) := (cx N [(69, e69 N)] []).fn 1000 70 (.cons (.agg (.cons (.int .i64) (.cons (.int .i64) .nil))) .nil) (.agg (.cons (.int .i64) (.cons (.int .i64) .nil)))
noncomputable def e70 (N : Nat) : Entry := ⟨(.cons (.agg (.cons (.int .i64) (.cons (.int .i64) .nil))) .nil), (.agg (.cons (.int .i64) (.cons (.int .i64) .nil))), T70 N⟩
theorem T70_ok (N : Nat) : EntryOk envS 70 (e70 N) := Ctx.fn_ok (tabF_ok (by intro a e h; simp only [List.mem_cons, Prod.mk.injEq, List.not_mem_nil, or_false] at h; rcases h with ⟨rfl, rfl⟩; exact T69_ok N)) (by kernel_rfl) (by kernel_rfl)
theorem T70_eq (N : Nat) (a0 : Int × Int) : T70 N a0 =
  (T69 N ((IntKind.wrap .i64 ((IntKind.wrap .i64 (4 * (IntKind.wrap .i64 (a0.1 * a0.1)))) * (IntKind.wrap .i64 ((IntKind.wrap .i64 (a0.2 * a0.2)) - (IntKind.wrap .i64 (a0.1 * a0.1)))))), (IntKind.wrap .i64 ((IntKind.wrap .i64 (a0.2 * a0.2)) * (IntKind.wrap .i64 (a0.2 * a0.2)))))).bind fun y1 => some (y1.1, y1.2) := by kernel_rfl

-- "codend/hang.Secondary"
noncomputable def T14 (N : Nat) : (Int × Int) → Option ((Int × Int) × Int) := (cx N [(19, e19 N), (69, e69 N)] []).fn 1000 14 (.cons (.agg (.cons (.int .i64) (.cons (.int .i64) .nil))) .nil) (.tup (.cons (.agg (.cons (.int .i64) (.cons (.int .i64) .nil))) (.cons (.int .i64) .nil)))
noncomputable def e14 (N : Nat) : Entry := ⟨(.cons (.agg (.cons (.int .i64) (.cons (.int .i64) .nil))) .nil), (.tup (.cons (.agg (.cons (.int .i64) (.cons (.int .i64) .nil))) (.cons (.int .i64) .nil))), T14 N⟩
theorem T14_ok (N : Nat) : EntryOk envS 14 (e14 N) := Ctx.fn_ok (tabF_ok (by intro a e h; simp only [List.mem_cons, Prod.mk.injEq, List.not_mem_nil, or_false] at h; rcases h with ⟨rfl, rfl⟩ | ⟨rfl, rfl⟩; exact T19_ok N; exact T69_ok N)) (by kernel_rfl) (by kernel_rfl)
theorem T14_eq (N : Nat) (a0 : Int × Int) : T14 N a0 =
  (T19 N (a0.1, a0.2)).bind fun y1 => (bif (y1 != 0) then some ((0, 0), y1) else (T69 N ((IntKind.wrap .i64 ((IntKind.wrap .i64 (a0.2 * a0.2)) - (IntKind.wrap .i64 (a0.1 * a0.1)))), (IntKind.wrap .i64 (a0.2 * a0.2)))).bind fun y2 => some ((y2.1, y2.2), 0)) := by kernel_rfl

-- "codend/hang.Fullness"
noncomputable def T15 (N : Nat) : (Int × Int) → Option ((Int × Int) × Int) := (cx N [(19, e19 N), (70, e70 N)] []).fn 1000 15 (.cons (.agg (.cons (.int .i64) (.cons (.int .i64) .nil))) .nil) (.tup (.cons (.agg (.cons (.int .i64) (.cons (.int .i64) .nil))) (.cons (.int .i64) .nil)))
noncomputable def e15 (N : Nat) : Entry := ⟨(.cons (.agg (.cons (.int .i64) (.cons (.int .i64) .nil))) .nil), (.tup (.cons (.agg (.cons (.int .i64) (.cons (.int .i64) .nil))) (.cons (.int .i64) .nil))), T15 N⟩
theorem T15_ok (N : Nat) : EntryOk envS 15 (e15 N) := Ctx.fn_ok (tabF_ok (by intro a e h; simp only [List.mem_cons, Prod.mk.injEq, List.not_mem_nil, or_false] at h; rcases h with ⟨rfl, rfl⟩ | ⟨rfl, rfl⟩; exact T19_ok N; exact T70_ok N)) (by kernel_rfl) (by kernel_rfl)
theorem T15_eq (N : Nat) (a0 : Int × Int) : T15 N a0 =
  (T19 N (a0.1, a0.2)).bind fun y1 => (bif (y1 != 0) then some ((0, 0), y1) else (T70 N (a0.1, a0.2)).bind fun y2 => some ((y2.1, y2.2), 0)) := by kernel_rfl

def c3 : List (Nat × Cert) := [(253, .join [(.norm, ⟨(.cons (.int .i64) (.cons (.int .i64) (.cons (.int .i64) (.cons (.int .i64) .nil)))), [], [], [(10, 2), (11, 2)], []⟩)]),
  (254, .join [(.norm, ⟨(.cons .bool .nil), [4], [], [], []⟩)])]
-- "codend/codendlaw06.HangChecks"
noncomputable def T3 (N : Nat) : (Int × Int) × (Int × Int) → Option Bool := (cx N [(14, e14 N), (15, e15 N), (16, e16 N), (17, e17 N), (18, e18 N), (19, e19 N), (20, e20 N), (21, e21 N), (22, e22 N)] [(3, c3)]).fn 1000 3 (.cons (.agg (.cons (.int .i64) (.cons (.int .i64) .nil))) (.cons (.agg (.cons (.int .i64) (.cons (.int .i64) .nil))) .nil)) .bool
noncomputable def e3 (N : Nat) : Entry := ⟨(.cons (.agg (.cons (.int .i64) (.cons (.int .i64) .nil))) (.cons (.agg (.cons (.int .i64) (.cons (.int .i64) .nil))) .nil)), .bool, T3 N⟩
theorem T3_ok (N : Nat) : EntryOk envS 3 (e3 N) := Ctx.fn_ok (tabF_ok (by intro a e h; simp only [List.mem_cons, Prod.mk.injEq, List.not_mem_nil, or_false] at h; rcases h with ⟨rfl, rfl⟩ | ⟨rfl, rfl⟩ | ⟨rfl, rfl⟩ | ⟨rfl, rfl⟩ | ⟨rfl, rfl⟩ | ⟨rfl, rfl⟩ | ⟨rfl, rfl⟩ | ⟨rfl, rfl⟩ | ⟨rfl, rfl⟩; exact T14_ok N; exact T15_ok N; exact T16_ok N; exact T17_ok N; exact T18_ok N; exact T19_ok N; exact T20_ok N; exact T21_ok N; exact T22_ok N)) (by kernel_rfl) (by kernel_rfl)
theorem T3_eq (N : Nat) (a0 : Int × Int) (a1 : Int × Int) : T3 N (a0, a1) =
  (T14 N (a0.1, a0.2)).bind fun y1 => (T15 N (a0.1, a0.2)).bind fun y2 => (T16 N (a0.1, a0.2)).bind fun y3 => (((bif (y3 == 0) then (T17 N (a0.1, a0.2)).bind fun y4 => bif (((a0.1 == a0.1) && ((a0.2 == a0.2) && true)) && true) then (T18 N (a0.1, a0.2)).bind fun y5 => (some (y4.1, y4.2, y5.1, y5.2)) else none else (some (0, 0, 0, 0))) : Option ((Int × Int × Int × Int))).bind fun o6 => (((T19 N (a0.1, a0.2)).bind fun y7 => (bif (y7 == y3) then (T20 N (a1.1, a1.2)).bind fun y8 => bif (((a1.1 == a1.1) && ((a1.2 == a1.2) && true)) && true) then (T21 N (a1.1, a1.2)).bind fun y9 => (bif (y8 == y9) then (bif ((y1.1.1 == o6.1) && ((y1.1.2 == o6.2.1) && true)) then (bif (y1.2 == y3) then (bif ((y2.1.1 == o6.2.2.1) && ((y2.1.2 == o6.2.2.2) && true)) then (bif (y2.2 == y3) then (T22 N ()).bind fun y10 => (some y10) else (some false)) else (some false)) else (some false)) else (some false)) else (some false)) else none else (some false)) : Option Bool).bind fun o11 => some o11)) := by kernel_rfl
end Go.Proofs.YtpngggdfbbdfaaaDoor
