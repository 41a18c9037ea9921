/- What the functions compute (printed by a program of ours, checked by the kernel). -/
import Derived.Test.YtpngggdfbbdfaaaDoorHangC
set_option linter.all false
namespace Go.Proofs.YtpngggdfbbdfaaaDoor
open Go Go.Am
set_option maxRecDepth 100000
abbrev p3 : Pat := (.int .i64)
abbrev d3 (v : AV) : Int := Pat.decD p3 v
abbrev n3 (x : Int) : AV := Pat.enc p3 x
abbrev p26 : Pat := (.int .i64)
abbrev d26 (v : AV) : Int := Pat.decD p26 v
abbrev n26 (x : Int) : AV := Pat.enc p26 x
def elpL : List (Nat × Pat) := [(45, (.int .i64)), (60, (.agg (.cons (.int .i64) (.cons (.int .i64) (.cons (.int .i64) .nil))))), (63, (.agg (.cons (.int .i64) (.cons (.int .i64) (.cons (.int .i64) .nil))))), (65, (.agg (.cons (.int .i64) (.cons (.int .i64) .nil)))), (78, (.agg (.cons .str (.cons (.int .i64) (.cons (.int .i64) .nil))))), (81, (.agg (.cons .str (.cons (.int .i64) (.cons (.int .i64) .nil))))), (94, (.agg (.cons (.int .i64) (.cons (.int .i64) (.cons (.int .i64) (.cons .str .nil)))))), (96, (.agg (.cons (.int .i64) (.cons (.int .i64) (.cons (.int .i64) .nil))))), (99, (.agg (.cons (.int .i64) (.cons (.int .i64) (.cons (.int .i64) (.cons .str .nil)))))), (102, (.agg (.cons (.int .i64) (.cons (.int .i64) (.cons (.int .i64) .nil))))), (142, (.agg (.cons (.int .i64) (.cons (.int .i64) (.cons (.int .i64) .nil))))), (154, (.int .i64)), (136, (.int .i64))]
def elpF : List (Nat × Pat) → Nat → Option Pat
  | [], _ => none
  | (a, p) :: l, t => bif Nat.beq a t then some p else elpF l t
noncomputable def envS : Env := { env with elp := elpF elpL }
noncomputable def envDS : EnvD := { envD with toEnv := envS }
noncomputable def cx (N : Nat) (tab : List (Nat × Entry)) (cert : List (Nat × List (Nat × Cert))) : Ctx := { D := envDS, tab := tabF tab, cert := certF cert, fz := false, N := N }

noncomputable def T22 (_N : Nat) : Unit → Option Bool := fun _ => some true
noncomputable def e22 (N : Nat) : Entry := ⟨.nil, .bool, T22 N⟩
theorem T22_ok (N : Nat) : EntryOk envS 22 (e22 N) := fun x y h => by
  cases h
  exact PCalls.env (E := env) rfl rfl (PCalls.mono awake_calls fun r ⟨y, h1, h2⟩ => by rw [h1, h2]; rfl)

def c72 : List (Nat × Cert) := [(26, .loop [] ⟨(.cons (.int .i64) .nil), [7], [], [], []⟩ [(.ret, ⟨(.cons (.int .i64) .nil), [2], [], [], []⟩), (.ex 0, ⟨.nil, [], [], [], []⟩)])]
-- "codend/hang.first"
noncomputable def T72 (N : Nat) : (List Int) → Option Int := (cx N [] [(72, c72)]).fn 1000 72 (.cons (.list 1 (.int .i64)) .nil) (.int .i64)
noncomputable def e72 (N : Nat) : Entry := ⟨(.cons (.list 1 (.int .i64)) .nil), (.int .i64), T72 N⟩
theorem T72_ok (N : Nat) : EntryOk envS 72 (e72 N) := Ctx.fn_ok (fun _ _ h => by cases h) (by kernel_rfl) (by kernel_rfl)
noncomputable def R72x26 (N : Nat) (a0 : List Int) (v1 : Int) : Option (Int ⊕ (Int ⊕ Unit)) :=
  (bif (decide (v1 < ((((List.map n26 a0)).length : Nat) : Int))) then bif (decide (0 ≤ v1 ∧ v1 < (((List.map n26 a0)).length : Int)) && Pat.fits p26 (nthD (List.map n26 a0) (Int.toNat v1))) then (bif ((d26 (nthD (List.map n26 a0) (Int.toNat v1))) != 0) then (some (Sum.inr (Sum.inl (d26 (nthD (List.map n26 a0) (Int.toNat v1)))))) else (some (Sum.inl (IntKind.wrap .i64 (v1 + 1))))) else none else (some (Sum.inr (Sum.inr ()))))
theorem T72_eq (N : Nat) (a0 : List Int) : T72 N a0 =
  ((loopR (V := Int) (X := Int ⊕ Unit) (R72x26 N a0) N 0).bind fun o6 => (Sum.elim (fun o7 => some o7) (fun o8 => some 0) o6)) := by kernel_rfl

-- "codend/hang.when"
noncomputable def T74 (N : Nat) : Bool × Int → Option Int := (cx N [] []).fn 1000 74 (.cons .bool (.cons (.int .i64) .nil)) (.int .i64)
noncomputable def e74 (N : Nat) : Entry := ⟨(.cons .bool (.cons (.int .i64) .nil)), (.int .i64), T74 N⟩
theorem T74_ok (N : Nat) : EntryOk envS 74 (e74 N) := Ctx.fn_ok (fun _ _ h => by cases h) (by kernel_rfl) (by kernel_rfl)
theorem T74_eq (N : Nat) (a0 : Bool) (a1 : Int) : T74 N (a0, a1) =
  (bif a0 then some a1 else some 0) := by kernel_rfl

def c73 : List (Nat × Cert) := [(6, .join [(.norm, ⟨(.cons (.int .i64) .nil), [6], [], [], []⟩)])]
-- "codend/hang.within"
noncomputable def T73 (N : Nat) : Int × Int × Int → Option Int := (cx N [(74, e74 N)] [(73, c73)]).fn 1000 73 (.cons (.int .i64) (.cons (.int .i64) (.cons (.int .i64) .nil))) (.int .i64)
noncomputable def e73 (N : Nat) : Entry := ⟨(.cons (.int .i64) (.cons (.int .i64) (.cons (.int .i64) .nil))), (.int .i64), T73 N⟩
theorem T73_ok (N : Nat) : EntryOk envS 73 (e73 N) := Ctx.fn_ok (tabF_ok (by intro a e h; simp only [List.mem_cons, Prod.mk.injEq, List.not_mem_nil, or_false] at h; rcases h with ⟨rfl, rfl⟩; exact T74_ok N)) (by kernel_rfl) (by kernel_rfl)
theorem T73_eq (N : Nat) (a0 : Int) (a1 : Int) (a2 : Int) : T73 N (a0, a1, a2) =
  (((bif (decide (a0 < a1)) then (T74 N (true, 3)).bind fun y1 => (some y1) else (T74 N ((decide (a0 > a2)), 3)).bind fun y2 => (some y2)) : Option Int).bind fun o3 => some o3) := by kernel_rfl

def c112 : List (Nat × Cert) := [(12, .loop [] ⟨(.cons (.int .i64) (.cons (.int .i64) .nil)), [0, 1], [], [], []⟩ [(.ex 0, ⟨(.cons (.int .i64) .nil), [0], [], [], []⟩)])]
-- "codend/hang.divisor"
noncomputable def T112 (N : Nat) : Int × Int → Option Int := (cx N [] [(112, c112)]).fn 1000 112 (.cons (.int .i64) (.cons (.int .i64) .nil)) (.int .i64)
noncomputable def e112 (N : Nat) : Entry := ⟨(.cons (.int .i64) (.cons (.int .i64) .nil)), (.int .i64), T112 N⟩
theorem T112_ok (N : Nat) : EntryOk envS 112 (e112 N) := Ctx.fn_ok (fun _ _ h => by cases h) (by kernel_rfl) (by kernel_rfl)
noncomputable def R112x12 (N : Nat) (v1 : Int × Int) : Option ((Int × Int) ⊕ Int) :=
  (bif (v1.2 != 0) then bif !(decide (v1.2 = 0)) then (some (Sum.inl (v1.2, (Int.tmod v1.1 v1.2)))) else none else (some (Sum.inr v1.1)))
theorem T112_eq (N : Nat) (a0 : Int) (a1 : Int) : T112 N (a0, a1) =
  ((loopR (V := Int × Int) (X := Int) (R112x12 N) N (a0, a1)).bind fun o3 => some o3) := by kernel_rfl

-- "codend/hang.lowest"
noncomputable def T104 (N : Nat) : Int × Int → Option ((Int × Int)) := (cx N [(112, e112 N)] []).fn 1000 104 (.cons (.int .i64) (.cons (.int .i64) .nil)) (.agg (.cons (.int .i64) (.cons (.int .i64) .nil)))
noncomputable def e104 (N : Nat) : Entry := ⟨(.cons (.int .i64) (.cons (.int .i64) .nil)), (.agg (.cons (.int .i64) (.cons (.int .i64) .nil))), T104 N⟩
theorem T104_ok (N : Nat) : EntryOk envS 104 (e104 N) := Ctx.fn_ok (tabF_ok (by intro a e h; simp only [List.mem_cons, Prod.mk.injEq, List.not_mem_nil, or_false] at h; rcases h with ⟨rfl, rfl⟩; exact T112_ok N)) (by kernel_rfl) (by kernel_rfl)
theorem T104_eq (N : Nat) (a0 : Int) (a1 : Int) : T104 N (a0, a1) =
  (T112 N (a0, a1)).bind fun y1 => bif !(decide (y1 = 0)) then bif !(decide (y1 = 0)) then some ((IntKind.wrap .i64 (Int.tdiv a0 y1)), (IntKind.wrap .i64 (Int.tdiv a1 y1))) else none else none := by kernel_rfl

-- "codend/hang.ratio"
noncomputable def T75 (N : Nat) : Int × Int → Option ((Int × Int)) := (cx N [(104, e104 N)] []).fn 1000 75 (.cons (.int .i64) (.cons (.int .i64) .nil)) (.agg (.cons (.int .i64) (.cons (.int .i64) .nil)))
noncomputable def e75 (N : Nat) : Entry := ⟨(.cons (.int .i64) (.cons (.int .i64) .nil)), (.agg (.cons (.int .i64) (.cons (.int .i64) .nil))), T75 N⟩
theorem T75_ok (N : Nat) : EntryOk envS 75 (e75 N) := Ctx.fn_ok (tabF_ok (by intro a e h; simp only [List.mem_cons, Prod.mk.injEq, List.not_mem_nil, or_false] at h; rcases h with ⟨rfl, rfl⟩; exact T104_ok N)) (by kernel_rfl) (by kernel_rfl)
theorem T75_eq (N : Nat) (a0 : Int) (a1 : Int) : T75 N (a0, a1) =
  (T104 N (a0, a1)).bind fun y1 => some (y1.1, y1.2) := by kernel_rfl

-- "codend/hang.CheckRatio"
noncomputable def T19 (N : Nat) : (Int × Int) → Option Int := (cx N [(72, e72 N), (73, e73 N), (74, e74 N), (75, e75 N)] []).fn 1000 19 (.cons (.agg (.cons (.int .i64) (.cons (.int .i64) .nil))) .nil) (.int .i64)
noncomputable def e19 (N : Nat) : Entry := ⟨(.cons (.agg (.cons (.int .i64) (.cons (.int .i64) .nil))) .nil), (.int .i64), T19 N⟩
theorem T19_ok (N : Nat) : EntryOk envS 19 (e19 N) := Ctx.fn_ok (tabF_ok (by intro a e h; simp only [List.mem_cons, Prod.mk.injEq, List.not_mem_nil, or_false] at h; rcases h with ⟨rfl, rfl⟩ | ⟨rfl, rfl⟩ | ⟨rfl, rfl⟩ | ⟨rfl, rfl⟩; exact T72_ok N; exact T73_ok N; exact T74_ok N; exact T75_ok N)) (by kernel_rfl) (by kernel_rfl)
theorem T19_eq (N : Nat) (a0 : Int × Int) : T19 N a0 =
  (T73 N (a0.1, 1, 30)).bind fun y1 => bif ((a0.2 == a0.2) && ((a0.1 == a0.1) && ((a0.2 == a0.2) && true))) then (T73 N (a0.2, 1, 30)).bind fun y2 => bif ((a0.2 == a0.2) && ((a0.1 == a0.1) && true)) then (T74 N ((decide (a0.1 > a0.2)), 11)).bind fun y3 => ((bif (allFit (Pat.fits p26) [(AV.int .i64 y1), (AV.int .i64 y2), (AV.int .i64 y3)] && true) then some (List.map d26 [(AV.int .i64 y1), (AV.int .i64 y2), (AV.int .i64 y3)]) else none : Option ((List Int))).bind fun x5 => (T72 N x5).bind fun y4 => (bif (y4 != 0) then some y4 else (T75 N (a0.1, a0.2)).bind fun y6 => bif (((a0.1 == a0.1) && ((a0.2 == a0.2) && true)) && true) then (T74 N ((!((y6.1 == a0.1) && ((y6.2 == a0.2) && true))), 1)).bind fun y7 => some y7 else none)) else none else none := by kernel_rfl

-- "codend/hang.square"
noncomputable def T69 (N : Nat) : Int × Int → Option ((Int × Int)) := (cx N [(104, e104 N)] []).fn 1000 69 (.cons (.int .i64) (.cons (.int .i64) .nil)) (.agg (.cons (.int .i64) (.cons (.int .i64) .nil)))
noncomputable def e69 (N : Nat) : Entry := ⟨(.cons (.int .i64) (.cons (.int .i64) .nil)), (.agg (.cons (.int .i64) (.cons (.int .i64) .nil))), T69 N⟩
theorem T69_ok (N : Nat) : EntryOk envS 69 (e69 N) := Ctx.fn_ok (tabF_ok (by intro a e h; simp only [List.mem_cons, Prod.mk.injEq, List.not_mem_nil, or_false] at h; rcases h with ⟨rfl, rfl⟩; exact T104_ok N)) (by kernel_rfl) (by kernel_rfl)
theorem T69_eq (N : Nat) (a0 : Int) (a1 : Int) : T69 N (a0, a1) =
  (T104 N (a0, a1)).bind fun y1 => some (y1.1, y1.2) := by kernel_rfl

-- "codend/hang.Secondary"
noncomputable def T14 (N : Nat) : (Int × Int) → Option ((Int × Int) × Int) := (cx N [(19, e19 N), (69, e69 N)] []).fn 1000 14 (.cons (.agg (.cons (.int .i64) (.cons (.int .i64) .nil))) .nil) (.tup (.cons (.agg (.cons (.int .i64) (.cons (.int .i64) .nil))) (.cons (.int .i64) .nil)))
noncomputable def e14 (N : Nat) : Entry := ⟨(.cons (.agg (.cons (.int .i64) (.cons (.int .i64) .nil))) .nil), (.tup (.cons (.agg (.cons (.int .i64) (.cons (.int .i64) .nil))) (.cons (.int .i64) .nil))), T14 N⟩
theorem T14_ok (N : Nat) : EntryOk envS 14 (e14 N) := Ctx.fn_ok (tabF_ok (by intro a e h; simp only [List.mem_cons, Prod.mk.injEq, List.not_mem_nil, or_false] at h; rcases h with ⟨rfl, rfl⟩ | ⟨rfl, rfl⟩; exact T19_ok N; exact T69_ok N)) (by kernel_rfl) (by kernel_rfl)
theorem T14_eq (N : Nat) (a0 : Int × Int) : T14 N a0 =
  (T19 N (a0.1, a0.2)).bind fun y1 => (bif (y1 != 0) then some ((0, 0), y1) else (T69 N ((IntKind.wrap .i64 ((IntKind.wrap .i64 (a0.2 * a0.2)) - (IntKind.wrap .i64 (a0.1 * a0.1)))), (IntKind.wrap .i64 (a0.2 * a0.2)))).bind fun y2 => some ((y2.1, y2.2), 0)) := by kernel_rfl

-- "codend/hang.fullness"
noncomputable def T70 (N : Nat) : (Int × Int) → Option ((Int × Int)) := (cx N [(69, e69 N)] []).fn 1000 70 (.cons (.agg (.cons (.int .i64) (.cons (.int .i64) .nil))) .nil) (.agg (.cons (.int .i64) (.cons (.int .i64) .nil)))
noncomputable def e70 (N : Nat) : Entry := ⟨(.cons (.agg (.cons (.int .i64) (.cons (.int .i64) .nil))) .nil), (.agg (.cons (.int .i64) (.cons (.int .i64) .nil))), T70 N⟩
theorem T70_ok (N : Nat) : EntryOk envS 70 (e70 N) := Ctx.fn_ok (tabF_ok (by intro a e h; simp only [List.mem_cons, Prod.mk.injEq, List.not_mem_nil, or_false] at h; rcases h with ⟨rfl, rfl⟩; exact T69_ok N)) (by kernel_rfl) (by kernel_rfl)
theorem T70_eq (N : Nat) (a0 : Int × Int) : T70 N a0 =
  (T69 N ((IntKind.wrap .i64 ((IntKind.wrap .i64 (4 * (IntKind.wrap .i64 (a0.1 * a0.1)))) * (IntKind.wrap .i64 ((IntKind.wrap .i64 (a0.2 * a0.2)) - (IntKind.wrap .i64 (a0.1 * a0.1)))))), (IntKind.wrap .i64 ((IntKind.wrap .i64 (a0.2 * a0.2)) * (IntKind.wrap .i64 (a0.2 * a0.2)))))).bind fun y1 => some (y1.1, y1.2) := by kernel_rfl

-- "codend/hang.Fullness"
noncomputable def T15 (N : Nat) : (Int × Int) → Option ((Int × Int) × Int) := (cx N [(19, e19 N), (70, e70 N)] []).fn 1000 15 (.cons (.agg (.cons (.int .i64) (.cons (.int .i64) .nil))) .nil) (.tup (.cons (.agg (.cons (.int .i64) (.cons (.int .i64) .nil))) (.cons (.int .i64) .nil)))
noncomputable def e15 (N : Nat) : Entry := ⟨(.cons (.agg (.cons (.int .i64) (.cons (.int .i64) .nil))) .nil), (.tup (.cons (.agg (.cons (.int .i64) (.cons (.int .i64) .nil))) (.cons (.int .i64) .nil))), T15 N⟩
theorem T15_ok (N : Nat) : EntryOk envS 15 (e15 N) := Ctx.fn_ok (tabF_ok (by intro a e h; simp only [List.mem_cons, Prod.mk.injEq, List.not_mem_nil, or_false] at h; rcases h with ⟨rfl, rfl⟩ | ⟨rfl, rfl⟩; exact T19_ok N; exact T70_ok N)) (by kernel_rfl) (by kernel_rfl)
theorem T15_eq (N : Nat) (a0 : Int × Int) : T15 N a0 =
  (T19 N (a0.1, a0.2)).bind fun y1 => (bif (y1 != 0) then some ((0, 0), y1) else (T70 N (a0.1, a0.2)).bind fun y2 => some ((y2.1, y2.2), 0)) := by kernel_rfl

-- "codend/codendref06.Divisor"
noncomputable def T66r (N : Nat) : Nat → Int × Int → Option Int
  | 0 => fun _ => none
  | n + 1 => (cx N [(66, ⟨(.cons (.int .i64) (.cons (.int .i64) .nil)), (.int .i64), T66r N n⟩)] []).fn 1000 66 (.cons (.int .i64) (.cons (.int .i64) .nil)) (.int .i64)
noncomputable def T66 (N : Nat) : Int × Int → Option Int := T66r N N
noncomputable def e66 (N : Nat) : Entry := ⟨(.cons (.int .i64) (.cons (.int .i64) .nil)), (.int .i64), T66 N⟩
theorem T66r_ok (N : Nat) : ∀ n, EntryOk envS 66 ⟨(.cons (.int .i64) (.cons (.int .i64) .nil)), (.int .i64), T66r N n⟩
  | 0 => fun _ _ h => by cases h
  | n + 1 => Ctx.fn_ok (tabF_ok (by intro a e h; simp only [List.mem_cons, Prod.mk.injEq, List.not_mem_nil, or_false] at h; rcases h with ⟨rfl, rfl⟩; exact T66r_ok N n)) (by kernel_rfl) (by kernel_rfl)
theorem T66_ok (N : Nat) : EntryOk envS 66 (e66 N) := T66r_ok N N
theorem T66r_eq (N n : Nat) (a0 : Int) (a1 : Int) : T66r N (n + 1) (a0, a1) =
  (bif (a1 == 0) then some a0 else bif !(decide (a1 = 0)) then (T66r N n (a1, (Int.tmod a0 a1))).bind fun y1 => some y1 else none) := by kernel_rfl

def c16 : List (Nat × Cert) := [(12, .join [(.norm, ⟨(.cons .bool .nil), [20], [], [], []⟩)])]
-- "codend/codendref06.CheckRatio"
noncomputable def T16 (N : Nat) : (Int × Int) → Option Int := (cx N [(66, e66 N)] [(16, c16)]).fn 1000 16 (.cons (.agg (.cons (.int .i64) (.cons (.int .i64) .nil))) .nil) (.int .i64)
noncomputable def e16 (N : Nat) : Entry := ⟨(.cons (.agg (.cons (.int .i64) (.cons (.int .i64) .nil))) .nil), (.int .i64), T16 N⟩
theorem T16_ok (N : Nat) : EntryOk envS 16 (e16 N) := Ctx.fn_ok (tabF_ok (by intro a e h; simp only [List.mem_cons, Prod.mk.injEq, List.not_mem_nil, or_false] at h; rcases h with ⟨rfl, rfl⟩; exact T66_ok N)) (by kernel_rfl) (by kernel_rfl)
theorem T16_eq (N : Nat) (a0 : Int × Int) : T16 N a0 =
  (((bif (decide (a0.1 < 1)) then (some true) else (bif (decide (a0.1 > 30)) then (some true) else (bif (decide (a0.2 < 1)) then (some true) else (some (decide (a0.2 > 30)))))) : Option Bool).bind fun o1 => (bif o1 then some 3 else (bif (decide (a0.1 > a0.2)) then some 11 else (T66 N (a0.1, a0.2)).bind fun y2 => (bif (y2 != 1) then some 1 else some 0)))) := by kernel_rfl

-- "codend/codendref06.square"
noncomputable def T71 (N : Nat) : Int × Int → Option ((Int × Int)) := (cx N [(66, e66 N)] []).fn 1000 71 (.cons (.int .i64) (.cons (.int .i64) .nil)) (.agg (.cons (.int .i64) (.cons (.int .i64) .nil)))
noncomputable def e71 (N : Nat) : Entry := ⟨(.cons (.int .i64) (.cons (.int .i64) .nil)), (.agg (.cons (.int .i64) (.cons (.int .i64) .nil))), T71 N⟩
theorem T71_ok (N : Nat) : EntryOk envS 71 (e71 N) := Ctx.fn_ok (tabF_ok (by intro a e h; simp only [List.mem_cons, Prod.mk.injEq, List.not_mem_nil, or_false] at h; rcases h with ⟨rfl, rfl⟩; exact T66_ok N)) (by kernel_rfl) (by kernel_rfl)
theorem T71_eq (N : Nat) (a0 : Int) (a1 : Int) : T71 N (a0, a1) =
  (T66 N (a0, a1)).bind fun y1 => bif !(decide (y1 = 0)) then bif !(decide (y1 = 0)) then some ((IntKind.wrap .i64 (Int.tdiv a0 y1)), (IntKind.wrap .i64 (Int.tdiv a1 y1))) else none else none := by kernel_rfl

-- "codend/codendref06.Secondary"
noncomputable def T17 (N : Nat) : (Int × Int) → Option ((Int × Int)) := (cx N [(71, e71 N)] []).fn 1000 17 (.cons (.agg (.cons (.int .i64) (.cons (.int .i64) .nil))) .nil) (.agg (.cons (.int .i64) (.cons (.int .i64) .nil)))
noncomputable def e17 (N : Nat) : Entry := ⟨(.cons (.agg (.cons (.int .i64) (.cons (.int .i64) .nil))) .nil), (.agg (.cons (.int .i64) (.cons (.int .i64) .nil))), T17 N⟩
theorem T17_ok (N : Nat) : EntryOk envS 17 (e17 N) := Ctx.fn_ok (tabF_ok (by intro a e h; simp only [List.mem_cons, Prod.mk.injEq, List.not_mem_nil, or_false] at h; rcases h with ⟨rfl, rfl⟩; exact T71_ok N)) (by kernel_rfl) (by kernel_rfl)
theorem T17_eq (N : Nat) (a0 : Int × Int) : T17 N a0 =
  (T71 N ((IntKind.wrap .i64 ((IntKind.wrap .i64 (a0.2 * a0.2)) - (IntKind.wrap .i64 (a0.1 * a0.1)))), (IntKind.wrap .i64 (a0.2 * a0.2)))).bind fun y1 => some (y1.1, y1.2) := by kernel_rfl

-- "codend/codendref06.Fullness"
noncomputable def T18 (N : Nat) : (Int × Int) → Option ((Int × Int)) := (cx N [(71, e71 N)] []).fn 1000 18 (.cons (.agg (.cons (.int .i64) (.cons (.int .i64) .nil))) .nil) (.agg (.cons (.int .i64) (.cons (.int .i64) .nil)))
noncomputable def e18 (N : Nat) : Entry := ⟨(.cons (.agg (.cons (.int .i64) (.cons (.int .i64) .nil))) .nil), (.agg (.cons (.int .i64) (.cons (.int .i64) .nil))), T18 N⟩
theorem T18_ok (N : Nat) : EntryOk envS 18 (e18 N) := Ctx.fn_ok (tabF_ok (by intro a e h; simp only [List.mem_cons, Prod.mk.injEq, List.not_mem_nil, or_false] at h; rcases h with ⟨rfl, rfl⟩; exact T71_ok N)) (by kernel_rfl) (by kernel_rfl)
theorem T18_eq (N : Nat) (a0 : Int × Int) : T18 N a0 =
  (T71 N ((IntKind.wrap .i64 ((IntKind.wrap .i64 (4 * (IntKind.wrap .i64 (a0.1 * a0.1)))) * (IntKind.wrap .i64 ((IntKind.wrap .i64 (a0.2 * a0.2)) - (IntKind.wrap .i64 (a0.1 * a0.1)))))), (IntKind.wrap .i64 ((IntKind.wrap .i64 (a0.2 * a0.2)) * (IntKind.wrap .i64 (a0.2 * a0.2)))))).bind fun y1 => some (y1.1, y1.2) := by kernel_rfl

-- "codend/hang.CheckSquare"
noncomputable def T20 (N : Nat) : (Int × Int) → Option Int := (cx N [(69, e69 N), (72, e72 N), (73, e73 N), (74, e74 N)] []).fn 1000 20 (.cons (.agg (.cons (.int .i64) (.cons (.int .i64) .nil))) .nil) (.int .i64)
noncomputable def e20 (N : Nat) : Entry := ⟨(.cons (.agg (.cons (.int .i64) (.cons (.int .i64) .nil))) .nil), (.int .i64), T20 N⟩
theorem T20_ok (N : Nat) : EntryOk envS 20 (e20 N) := Ctx.fn_ok (tabF_ok (by intro a e h; simp only [List.mem_cons, Prod.mk.injEq, List.not_mem_nil, or_false] at h; rcases h with ⟨rfl, rfl⟩ | ⟨rfl, rfl⟩ | ⟨rfl, rfl⟩ | ⟨rfl, rfl⟩; exact T69_ok N; exact T72_ok N; exact T73_ok N; exact T74_ok N)) (by kernel_rfl) (by kernel_rfl)
theorem T20_eq (N : Nat) (a0 : Int × Int) : T20 N a0 =
  (T73 N (a0.1, 0, 4000000000000)).bind fun y1 => bif ((a0.2 == a0.2) && true) then (T73 N (a0.2, 1, 810000)).bind fun y2 => ((bif (allFit (Pat.fits p26) [(AV.int .i64 y1), (AV.int .i64 y2)] && true) then some (List.map d26 [(AV.int .i64 y1), (AV.int .i64 y2)]) else none : Option ((List Int))).bind fun x4 => (T72 N x4).bind fun y3 => (bif (y3 != 0) then some y3 else (T69 N (a0.1, a0.2)).bind fun y5 => bif (((a0.1 == a0.1) && ((a0.2 == a0.2) && true)) && true) then (T74 N ((!((y5.1 == a0.1) && ((y5.2 == a0.2) && true))), 1)).bind fun y6 => some y6 else none)) else none := by kernel_rfl

def c21 : List (Nat × Cert) := [(12, .join [(.norm, ⟨(.cons .bool .nil), [20], [], [], []⟩)])]
-- "codend/codendref06.CheckSquare"
noncomputable def T21 (N : Nat) : (Int × Int) → Option Int := (cx N [(66, e66 N)] [(21, c21)]).fn 1000 21 (.cons (.agg (.cons (.int .i64) (.cons (.int .i64) .nil))) .nil) (.int .i64)
noncomputable def e21 (N : Nat) : Entry := ⟨(.cons (.agg (.cons (.int .i64) (.cons (.int .i64) .nil))) .nil), (.int .i64), T21 N⟩
theorem T21_ok (N : Nat) : EntryOk envS 21 (e21 N) := Ctx.fn_ok (tabF_ok (by intro a e h; simp only [List.mem_cons, Prod.mk.injEq, List.not_mem_nil, or_false] at h; rcases h with ⟨rfl, rfl⟩; exact T66_ok N)) (by kernel_rfl) (by kernel_rfl)
theorem T21_eq (N : Nat) (a0 : Int × Int) : T21 N a0 =
  (((bif (decide (a0.1 < 0)) then (some true) else (bif (decide (a0.1 > 4000000000000)) then (some true) else (bif (decide (a0.2 < 1)) then (some true) else (some (decide (a0.2 > 810000)))))) : Option Bool).bind fun o1 => (bif o1 then some 3 else (T66 N (a0.1, a0.2)).bind fun y2 => (bif (y2 != 1) then some 1 else some 0))) := by kernel_rfl

def c3 : List (Nat × Cert) := [(253, .join [(.norm, ⟨(.cons (.int .i64) (.cons (.int .i64) (.cons (.int .i64) (.cons (.int .i64) .nil)))), [], [], [(10, 2), (11, 2)], []⟩)]),
  (254, .join [(.norm, ⟨(.cons .bool .nil), [4], [], [], []⟩)])]
-- "codend/codendlaw06.HangChecks"
noncomputable def T3 (N : Nat) : (Int × Int) × (Int × Int) → Option Bool := (cx N [(14, e14 N), (15, e15 N), (16, e16 N), (17, e17 N), (18, e18 N), (19, e19 N), (20, e20 N), (21, e21 N), (22, e22 N)] [(3, c3)]).fn 1000 3 (.cons (.agg (.cons (.int .i64) (.cons (.int .i64) .nil))) (.cons (.agg (.cons (.int .i64) (.cons (.int .i64) .nil))) .nil)) .bool
noncomputable def e3 (N : Nat) : Entry := ⟨(.cons (.agg (.cons (.int .i64) (.cons (.int .i64) .nil))) (.cons (.agg (.cons (.int .i64) (.cons (.int .i64) .nil))) .nil)), .bool, T3 N⟩
theorem T3_ok (N : Nat) : EntryOk envS 3 (e3 N) := Ctx.fn_ok (tabF_ok (by intro a e h; simp only [List.mem_cons, Prod.mk.injEq, List.not_mem_nil, or_false] at h; rcases h with ⟨rfl, rfl⟩ | ⟨rfl, rfl⟩ | ⟨rfl, rfl⟩ | ⟨rfl, rfl⟩ | ⟨rfl, rfl⟩ | ⟨rfl, rfl⟩ | ⟨rfl, rfl⟩ | ⟨rfl, rfl⟩ | ⟨rfl, rfl⟩; exact T14_ok N; exact T15_ok N; exact T16_ok N; exact T17_ok N; exact T18_ok N; exact T19_ok N; exact T20_ok N; exact T21_ok N; exact T22_ok N)) (by kernel_rfl) (by kernel_rfl)
theorem T3_eq (N : Nat) (a0 : Int × Int) (a1 : Int × Int) : T3 N (a0, a1) =
  (T14 N (a0.1, a0.2)).bind fun y1 => (T15 N (a0.1, a0.2)).bind fun y2 => (T16 N (a0.1, a0.2)).bind fun y3 => (((bif (y3 == 0) then (T17 N (a0.1, a0.2)).bind fun y4 => bif (((a0.1 == a0.1) && ((a0.2 == a0.2) && true)) && true) then (T18 N (a0.1, a0.2)).bind fun y5 => (some (y4.1, y4.2, y5.1, y5.2)) else none else (some (0, 0, 0, 0))) : Option ((Int × Int × Int × Int))).bind fun o6 => (((T19 N (a0.1, a0.2)).bind fun y7 => (bif (y7 == y3) then (T20 N (a1.1, a1.2)).bind fun y8 => bif (((a1.1 == a1.1) && ((a1.2 == a1.2) && true)) && true) then (T21 N (a1.1, a1.2)).bind fun y9 => (bif (y8 == y9) then (bif ((y1.1.1 == o6.1) && ((y1.1.2 == o6.2.1) && true)) then (bif (y1.2 == y3) then (bif ((y2.1.1 == o6.2.2.1) && ((y2.1.2 == o6.2.2.2) && true)) then (bif (y2.2 == y3) then (T22 N ()).bind fun y10 => (some y10) else (some false)) else (some false)) else (some false)) else (some false)) else (some false)) else none else (some false)) : Option Bool).bind fun o11 => some o11)) := by kernel_rfl

-- "codend/hang.checkBar"
noncomputable def T77 (N : Nat) : Int → Option Int := (cx N [(73, e73 N)] []).fn 1000 77 (.cons (.int .i64) .nil) (.int .i64)
noncomputable def e77 (N : Nat) : Entry := ⟨(.cons (.int .i64) .nil), (.int .i64), T77 N⟩
theorem T77_ok (N : Nat) : EntryOk envS 77 (e77 N) := Ctx.fn_ok (tabF_ok (by intro a e h; simp only [List.mem_cons, Prod.mk.injEq, List.not_mem_nil, or_false] at h; rcases h with ⟨rfl, rfl⟩; exact T73_ok N)) (by kernel_rfl) (by kernel_rfl)
theorem T77_eq (N : Nat) (a0 : Int) : T77 N a0 =
  (T73 N (a0, 1, 100)).bind fun y1 => some y1 := by kernel_rfl

-- "codend/hang.checkMeshes"
noncomputable def T78 (N : Nat) : Int → Option Int := (cx N [(73, e73 N)] []).fn 1000 78 (.cons (.int .i64) .nil) (.int .i64)
noncomputable def e78 (N : Nat) : Entry := ⟨(.cons (.int .i64) .nil), (.int .i64), T78 N⟩
theorem T78_ok (N : Nat) : EntryOk envS 78 (e78 N) := Ctx.fn_ok (tabF_ok (by intro a e h; simp only [List.mem_cons, Prod.mk.injEq, List.not_mem_nil, or_false] at h; rcases h with ⟨rfl, rfl⟩; exact T73_ok N)) (by kernel_rfl) (by kernel_rfl)
theorem T78_eq (N : Nat) (a0 : Int) : T78 N a0 =
  (T73 N (a0, 1, 300)).bind fun y1 => some y1 := by kernel_rfl

-- "codend/hang.Hanging"
noncomputable def T23 (N : Nat) : Int × Int × Int → Option ((Int × Int) × Int) := (cx N [(72, e72 N), (73, e73 N), (74, e74 N), (75, e75 N), (77, e77 N), (78, e78 N)] []).fn 1000 23 (.cons (.int .i64) (.cons (.int .i64) (.cons (.int .i64) .nil))) (.tup (.cons (.agg (.cons (.int .i64) (.cons (.int .i64) .nil))) (.cons (.int .i64) .nil)))
noncomputable def e23 (N : Nat) : Entry := ⟨(.cons (.int .i64) (.cons (.int .i64) (.cons (.int .i64) .nil))), (.tup (.cons (.agg (.cons (.int .i64) (.cons (.int .i64) .nil))) (.cons (.int .i64) .nil))), T23 N⟩
theorem T23_ok (N : Nat) : EntryOk envS 23 (e23 N) := Ctx.fn_ok (tabF_ok (by intro a e h; simp only [List.mem_cons, Prod.mk.injEq, List.not_mem_nil, or_false] at h; rcases h with ⟨rfl, rfl⟩ | ⟨rfl, rfl⟩ | ⟨rfl, rfl⟩ | ⟨rfl, rfl⟩ | ⟨rfl, rfl⟩ | ⟨rfl, rfl⟩; exact T72_ok N; exact T73_ok N; exact T74_ok N; exact T75_ok N; exact T77_ok N; exact T78_ok N)) (by kernel_rfl) (by kernel_rfl)
theorem T23_eq (N : Nat) (a0 : Int) (a1 : Int) (a2 : Int) : T23 N (a0, a1, a2) =
  (T73 N (a0, 1, 60000)).bind fun y1 => (T77 N a1).bind fun y2 => (T78 N a2).bind fun y3 => (T74 N ((decide (a0 > (IntKind.wrap .i64 ((IntKind.wrap .i64 (2 * a1)) * a2)))), 23)).bind fun y4 => ((bif (allFit (Pat.fits p26) [(AV.int .i64 y1), (AV.int .i64 y2), (AV.int .i64 y3), (AV.int .i64 y4)] && true) then some (List.map d26 [(AV.int .i64 y1), (AV.int .i64 y2), (AV.int .i64 y3), (AV.int .i64 y4)]) else none : Option ((List Int))).bind fun x6 => (T72 N x6).bind fun y5 => (bif (y5 != 0) then some ((0, 0), y5) else (T75 N (a0, (IntKind.wrap .i64 ((IntKind.wrap .i64 (2 * a1)) * a2)))).bind fun y7 => (bif (decide (y7.2 > 30)) then some ((0, 0), 4) else some ((y7.1, y7.2), 0)))) := by kernel_rfl

-- "codend/hang.Width"
noncomputable def T24 (N : Nat) : (Int × Int) × Int × Int → Option ((Int × Int) × Int) := (cx N [(19, e19 N), (72, e72 N), (75, e75 N), (77, e77 N), (78, e78 N)] []).fn 1000 24 (.cons (.agg (.cons (.int .i64) (.cons (.int .i64) .nil))) (.cons (.int .i64) (.cons (.int .i64) .nil))) (.tup (.cons (.agg (.cons (.int .i64) (.cons (.int .i64) .nil))) (.cons (.int .i64) .nil)))
noncomputable def e24 (N : Nat) : Entry := ⟨(.cons (.agg (.cons (.int .i64) (.cons (.int .i64) .nil))) (.cons (.int .i64) (.cons (.int .i64) .nil))), (.tup (.cons (.agg (.cons (.int .i64) (.cons (.int .i64) .nil))) (.cons (.int .i64) .nil))), T24 N⟩
theorem T24_ok (N : Nat) : EntryOk envS 24 (e24 N) := Ctx.fn_ok (tabF_ok (by intro a e h; simp only [List.mem_cons, Prod.mk.injEq, List.not_mem_nil, or_false] at h; rcases h with ⟨rfl, rfl⟩ | ⟨rfl, rfl⟩ | ⟨rfl, rfl⟩ | ⟨rfl, rfl⟩ | ⟨rfl, rfl⟩; exact T19_ok N; exact T72_ok N; exact T75_ok N; exact T77_ok N; exact T78_ok N)) (by kernel_rfl) (by kernel_rfl)
theorem T24_eq (N : Nat) (a0 : Int × Int) (a1 : Int) (a2 : Int) : T24 N (a0, a1, a2) =
  (T19 N (a0.1, a0.2)).bind fun y1 => (T77 N a1).bind fun y2 => (T78 N a2).bind fun y3 => ((bif (allFit (Pat.fits p26) [(AV.int .i64 y1), (AV.int .i64 y2), (AV.int .i64 y3)] && true) then some (List.map d26 [(AV.int .i64 y1), (AV.int .i64 y2), (AV.int .i64 y3)]) else none : Option ((List Int))).bind fun x5 => (T72 N x5).bind fun y4 => (bif (y4 != 0) then some ((0, 0), y4) else (T75 N ((IntKind.wrap .i64 ((IntKind.wrap .i64 ((IntKind.wrap .i64 (2 * a2)) * a1)) * a0.1)), a0.2)).bind fun y6 => some ((y6.1, y6.2), 0))) := by kernel_rfl

-- "codend/hang.Height"
noncomputable def T25 (N : Nat) : (Int × Int) × Int × Int → Option ((Int × Int) × Int) := (cx N [(19, e19 N), (69, e69 N), (72, e72 N), (77, e77 N), (78, e78 N)] []).fn 1000 25 (.cons (.agg (.cons (.int .i64) (.cons (.int .i64) .nil))) (.cons (.int .i64) (.cons (.int .i64) .nil))) (.tup (.cons (.agg (.cons (.int .i64) (.cons (.int .i64) .nil))) (.cons (.int .i64) .nil)))
noncomputable def e25 (N : Nat) : Entry := ⟨(.cons (.agg (.cons (.int .i64) (.cons (.int .i64) .nil))) (.cons (.int .i64) (.cons (.int .i64) .nil))), (.tup (.cons (.agg (.cons (.int .i64) (.cons (.int .i64) .nil))) (.cons (.int .i64) .nil))), T25 N⟩
theorem T25_ok (N : Nat) : EntryOk envS 25 (e25 N) := Ctx.fn_ok (tabF_ok (by intro a e h; simp only [List.mem_cons, Prod.mk.injEq, List.not_mem_nil, or_false] at h; rcases h with ⟨rfl, rfl⟩ | ⟨rfl, rfl⟩ | ⟨rfl, rfl⟩ | ⟨rfl, rfl⟩ | ⟨rfl, rfl⟩; exact T19_ok N; exact T69_ok N; exact T72_ok N; exact T77_ok N; exact T78_ok N)) (by kernel_rfl) (by kernel_rfl)
theorem T25_eq (N : Nat) (a0 : Int × Int) (a1 : Int) (a2 : Int) : T25 N (a0, a1, a2) =
  (T19 N (a0.1, a0.2)).bind fun y1 => (T77 N a1).bind fun y2 => (T78 N a2).bind fun y3 => ((bif (allFit (Pat.fits p26) [(AV.int .i64 y1), (AV.int .i64 y2), (AV.int .i64 y3)] && true) then some (List.map d26 [(AV.int .i64 y1), (AV.int .i64 y2), (AV.int .i64 y3)]) else none : Option ((List Int))).bind fun x5 => (T72 N x5).bind fun y4 => (bif (y4 != 0) then some ((0, 0), y4) else (T69 N ((IntKind.wrap .i64 ((IntKind.wrap .i64 ((IntKind.wrap .i64 ((IntKind.wrap .i64 (2 * a2)) * a1)) * (IntKind.wrap .i64 ((IntKind.wrap .i64 (2 * a2)) * a1)))) * (IntKind.wrap .i64 ((IntKind.wrap .i64 (a0.2 * a0.2)) - (IntKind.wrap .i64 (a0.1 * a0.1)))))), (IntKind.wrap .i64 (a0.2 * a0.2)))).bind fun y6 => some ((y6.1, y6.2), 0))) := by kernel_rfl

def c26 : List (Nat × Cert) := [(26, .loop [] ⟨(.cons (.int .i64) .nil), [3], [], [], []⟩ [(.ret, ⟨(.cons (.int .i64) .nil), [2], [], [], []⟩), (.ex 0, ⟨.nil, [], [], [], []⟩)])]
-- "codend/codendref01.First"
noncomputable def T26 (N : Nat) : (List Int) → Option Int := (cx N [] [(26, c26)]).fn 1000 26 (.cons (.list 1 (.int .i64)) .nil) (.int .i64)
noncomputable def e26 (N : Nat) : Entry := ⟨(.cons (.list 1 (.int .i64)) .nil), (.int .i64), T26 N⟩
theorem T26_ok (N : Nat) : EntryOk envS 26 (e26 N) := Ctx.fn_ok (fun _ _ h => by cases h) (by kernel_rfl) (by kernel_rfl)
noncomputable def R26x26 (N : Nat) (a0 : List Int) (v1 : Int) : Option (Int ⊕ (Int ⊕ Unit)) :=
  (bif (decide (v1 < ((((List.map n3 a0)).length : Nat) : Int))) then bif (decide (0 ≤ v1 ∧ v1 < (((List.map n3 a0)).length : Int)) && Pat.fits p3 (nthD (List.map n3 a0) (Int.toNat v1))) then (bif ((d3 (nthD (List.map n3 a0) (Int.toNat v1))) != 0) then bif (decide (0 ≤ v1 ∧ v1 < (((List.map n3 a0)).length : Int)) && Pat.fits p3 (nthD (List.map n3 a0) (Int.toNat v1))) then (some (Sum.inr (Sum.inl (d3 (nthD (List.map n3 a0) (Int.toNat v1)))))) else none else (some (Sum.inl (IntKind.wrap .i64 (v1 + 1))))) else none else (some (Sum.inr (Sum.inr ()))))
theorem T26_eq (N : Nat) (a0 : List Int) : T26 N a0 =
  ((loopR (V := Int) (X := Int ⊕ Unit) (R26x26 N a0) N 0).bind fun o6 => (Sum.elim (fun o7 => some o7) (fun o8 => some 0) o6)) := by kernel_rfl

def c27 : List (Nat × Cert) := [(12, .join [(.norm, ⟨(.cons .bool .nil), [14], [], [], []⟩)])]
-- "codend/codendref01.CheckRange"
noncomputable def T27 (N : Nat) : Int × Int × Int → Option Int := (cx N [] [(27, c27)]).fn 1000 27 (.cons (.int .i64) (.cons (.int .i64) (.cons (.int .i64) .nil))) (.int .i64)
noncomputable def e27 (N : Nat) : Entry := ⟨(.cons (.int .i64) (.cons (.int .i64) (.cons (.int .i64) .nil))), (.int .i64), T27 N⟩
theorem T27_ok (N : Nat) : EntryOk envS 27 (e27 N) := Ctx.fn_ok (fun _ _ h => by cases h) (by kernel_rfl) (by kernel_rfl)
theorem T27_eq (N : Nat) (a0 : Int) (a1 : Int) (a2 : Int) : T27 N (a0, a1, a2) =
  (((bif (decide (a0 < a1)) then (some true) else (some (decide (a0 > a2)))) : Option Bool).bind fun o1 => (bif o1 then some 3 else some 0)) := by kernel_rfl

-- "codend/codendref06.CheckNetting"
noncomputable def T28 (N : Nat) : Int × Int → Option Int := (cx N [(26, e26 N), (27, e27 N)] []).fn 1000 28 (.cons (.int .i64) (.cons (.int .i64) .nil)) (.int .i64)
noncomputable def e28 (N : Nat) : Entry := ⟨(.cons (.int .i64) (.cons (.int .i64) .nil)), (.int .i64), T28 N⟩
theorem T28_ok (N : Nat) : EntryOk envS 28 (e28 N) := Ctx.fn_ok (tabF_ok (by intro a e h; simp only [List.mem_cons, Prod.mk.injEq, List.not_mem_nil, or_false] at h; rcases h with ⟨rfl, rfl⟩ | ⟨rfl, rfl⟩; exact T26_ok N; exact T27_ok N)) (by kernel_rfl) (by kernel_rfl)
theorem T28_eq (N : Nat) (a0 : Int) (a1 : Int) : T28 N (a0, a1) =
  (T27 N (a0, 1, 100)).bind fun y1 => (T27 N (a1, 1, 300)).bind fun y2 => ((bif (allFit (Pat.fits p3) [(AV.int .i64 y1), (AV.int .i64 y2)] && true) then some (List.map d3 [(AV.int .i64 y1), (AV.int .i64 y2)]) else none : Option ((List Int))).bind fun x4 => (T26 N x4).bind fun y3 => some y3) := by kernel_rfl

-- "codend/codendref06.ratio"
noncomputable def T79 (N : Nat) : Int × Int → Option ((Int × Int)) := (cx N [(66, e66 N)] []).fn 1000 79 (.cons (.int .i64) (.cons (.int .i64) .nil)) (.agg (.cons (.int .i64) (.cons (.int .i64) .nil)))
noncomputable def e79 (N : Nat) : Entry := ⟨(.cons (.int .i64) (.cons (.int .i64) .nil)), (.agg (.cons (.int .i64) (.cons (.int .i64) .nil))), T79 N⟩
theorem T79_ok (N : Nat) : EntryOk envS 79 (e79 N) := Ctx.fn_ok (tabF_ok (by intro a e h; simp only [List.mem_cons, Prod.mk.injEq, List.not_mem_nil, or_false] at h; rcases h with ⟨rfl, rfl⟩; exact T66_ok N)) (by kernel_rfl) (by kernel_rfl)
theorem T79_eq (N : Nat) (a0 : Int) (a1 : Int) : T79 N (a0, a1) =
  (T66 N (a0, a1)).bind fun y1 => bif !(decide (y1 = 0)) then bif !(decide (y1 = 0)) then some ((IntKind.wrap .i64 (Int.tdiv a0 y1)), (IntKind.wrap .i64 (Int.tdiv a1 y1))) else none else none := by kernel_rfl

-- "codend/codendref06.Hanging"
noncomputable def T29 (N : Nat) : Int × Int × Int → Option ((Int × Int) × Int) := (cx N [(79, e79 N)] []).fn 1000 29 (.cons (.int .i64) (.cons (.int .i64) (.cons (.int .i64) .nil))) (.tup (.cons (.agg (.cons (.int .i64) (.cons (.int .i64) .nil))) (.cons (.int .i64) .nil)))
noncomputable def e29 (N : Nat) : Entry := ⟨(.cons (.int .i64) (.cons (.int .i64) (.cons (.int .i64) .nil))), (.tup (.cons (.agg (.cons (.int .i64) (.cons (.int .i64) .nil))) (.cons (.int .i64) .nil))), T29 N⟩
theorem T29_ok (N : Nat) : EntryOk envS 29 (e29 N) := Ctx.fn_ok (tabF_ok (by intro a e h; simp only [List.mem_cons, Prod.mk.injEq, List.not_mem_nil, or_false] at h; rcases h with ⟨rfl, rfl⟩; exact T79_ok N)) (by kernel_rfl) (by kernel_rfl)
theorem T29_eq (N : Nat) (a0 : Int) (a1 : Int) (a2 : Int) : T29 N (a0, a1, a2) =
  (bif (decide (a0 > (IntKind.wrap .i64 ((IntKind.wrap .i64 (2 * a1)) * a2)))) then some ((0, 0), 23) else (T79 N (a0, (IntKind.wrap .i64 ((IntKind.wrap .i64 (2 * a1)) * a2)))).bind fun y1 => (bif (decide (y1.2 > 30)) then some ((0, 0), 4) else some ((y1.1, y1.2), 0))) := by kernel_rfl

-- "codend/codendref06.Width"
noncomputable def T30 (N : Nat) : (Int × Int) × Int × Int → Option ((Int × Int)) := (cx N [(79, e79 N)] []).fn 1000 30 (.cons (.agg (.cons (.int .i64) (.cons (.int .i64) .nil))) (.cons (.int .i64) (.cons (.int .i64) .nil))) (.agg (.cons (.int .i64) (.cons (.int .i64) .nil)))
noncomputable def e30 (N : Nat) : Entry := ⟨(.cons (.agg (.cons (.int .i64) (.cons (.int .i64) .nil))) (.cons (.int .i64) (.cons (.int .i64) .nil))), (.agg (.cons (.int .i64) (.cons (.int .i64) .nil))), T30 N⟩
theorem T30_ok (N : Nat) : EntryOk envS 30 (e30 N) := Ctx.fn_ok (tabF_ok (by intro a e h; simp only [List.mem_cons, Prod.mk.injEq, List.not_mem_nil, or_false] at h; rcases h with ⟨rfl, rfl⟩; exact T79_ok N)) (by kernel_rfl) (by kernel_rfl)
theorem T30_eq (N : Nat) (a0 : Int × Int) (a1 : Int) (a2 : Int) : T30 N (a0, a1, a2) =
  (T79 N ((IntKind.wrap .i64 ((IntKind.wrap .i64 ((IntKind.wrap .i64 (2 * a1)) * a2)) * a0.1)), a0.2)).bind fun y1 => some (y1.1, y1.2) := by kernel_rfl

-- "codend/codendref06.Height"
noncomputable def T31 (N : Nat) : (Int × Int) × Int × Int → Option ((Int × Int)) := (cx N [(71, e71 N)] []).fn 1000 31 (.cons (.agg (.cons (.int .i64) (.cons (.int .i64) .nil))) (.cons (.int .i64) (.cons (.int .i64) .nil))) (.agg (.cons (.int .i64) (.cons (.int .i64) .nil)))
noncomputable def e31 (N : Nat) : Entry := ⟨(.cons (.agg (.cons (.int .i64) (.cons (.int .i64) .nil))) (.cons (.int .i64) (.cons (.int .i64) .nil))), (.agg (.cons (.int .i64) (.cons (.int .i64) .nil))), T31 N⟩
theorem T31_ok (N : Nat) : EntryOk envS 31 (e31 N) := Ctx.fn_ok (tabF_ok (by intro a e h; simp only [List.mem_cons, Prod.mk.injEq, List.not_mem_nil, or_false] at h; rcases h with ⟨rfl, rfl⟩; exact T71_ok N)) (by kernel_rfl) (by kernel_rfl)
theorem T31_eq (N : Nat) (a0 : Int × Int) (a1 : Int) (a2 : Int) : T31 N (a0, a1, a2) =
  (T71 N ((IntKind.wrap .i64 ((IntKind.wrap .i64 ((IntKind.wrap .i64 ((IntKind.wrap .i64 (2 * a1)) * a2)) * (IntKind.wrap .i64 ((IntKind.wrap .i64 (2 * a1)) * a2)))) * (IntKind.wrap .i64 ((IntKind.wrap .i64 (a0.2 * a0.2)) - (IntKind.wrap .i64 (a0.1 * a0.1)))))), (IntKind.wrap .i64 (a0.2 * a0.2)))).bind fun y1 => some (y1.1, y1.2) := by kernel_rfl

def c4 : List (Nat × Cert) := [(2045, .join [(.norm, ⟨(.cons (.int .i64) (.cons (.int .i64) (.cons (.int .i64) .nil))), [9], [], [(11, 2)], []⟩)]),
  (4093, .join [(.norm, ⟨(.cons (.int .i64) (.cons (.int .i64) (.cons (.int .i64) (.cons (.int .i64) .nil)))), [], [], [(12, 2), (13, 2)], []⟩)]),
  (4094, .join [(.norm, ⟨(.cons .bool .nil), [2], [], [], []⟩)])]
-- "codend/codendlaw06.HangSizes"
noncomputable def T4 (N : Nat) : (Int × Int × Int × Int × Int) → Option Bool := (cx N [(16, e16 N), (22, e22 N), (23, e23 N), (24, e24 N), (25, e25 N), (26, e26 N), (27, e27 N), (28, e28 N), (29, e29 N), (30, e30 N), (31, e31 N)] [(4, c4)]).fn 1000 4 (.cons (.agg (.cons (.int .i64) (.cons (.int .i64) (.cons (.int .i64) (.cons (.int .i64) (.cons (.int .i64) .nil)))))) .nil) .bool
noncomputable def e4 (N : Nat) : Entry := ⟨(.cons (.agg (.cons (.int .i64) (.cons (.int .i64) (.cons (.int .i64) (.cons (.int .i64) (.cons (.int .i64) .nil)))))) .nil), .bool, T4 N⟩
theorem T4_ok (N : Nat) : EntryOk envS 4 (e4 N) := Ctx.fn_ok (tabF_ok (by intro a e h; simp only [List.mem_cons, Prod.mk.injEq, List.not_mem_nil, or_false] at h; rcases h with ⟨rfl, rfl⟩ | ⟨rfl, rfl⟩ | ⟨rfl, rfl⟩ | ⟨rfl, rfl⟩ | ⟨rfl, rfl⟩ | ⟨rfl, rfl⟩ | ⟨rfl, rfl⟩ | ⟨rfl, rfl⟩ | ⟨rfl, rfl⟩ | ⟨rfl, rfl⟩ | ⟨rfl, rfl⟩; exact T16_ok N; exact T22_ok N; exact T23_ok N; exact T24_ok N; exact T25_ok N; exact T26_ok N; exact T27_ok N; exact T28_ok N; exact T29_ok N; exact T30_ok N; exact T31_ok N)) (by kernel_rfl) (by kernel_rfl)
theorem T4_eq (N : Nat) (a0 : Int × Int × Int × Int × Int) : T4 N a0 =
  (T23 N (a0.2.2.1, a0.2.2.2.1, a0.2.2.2.2)).bind fun y1 => (T24 N ((a0.1, a0.2.1), a0.2.2.2.1, a0.2.2.2.2)).bind fun y2 => (T25 N ((a0.1, a0.2.1), a0.2.2.2.1, a0.2.2.2.2)).bind fun y3 => (T27 N (a0.2.2.1, 1, 60000)).bind fun y4 => bif ((a0.2.2.2.2 == a0.2.2.2.2) && ((a0.2.2.2.1 == a0.2.2.2.1) && true)) then (T28 N (a0.2.2.2.1, a0.2.2.2.2)).bind fun y5 => ((bif (allFit (Pat.fits p3) [(AV.int .i64 y4), (AV.int .i64 y5)] && true) then some (List.map d3 [(AV.int .i64 y4), (AV.int .i64 y5)]) else none : Option ((List Int))).bind fun x7 => (T26 N x7).bind fun y6 => (T16 N (a0.1, a0.2.1)).bind fun y8 => bif ((a0.2.2.2.2 == a0.2.2.2.2) && ((a0.2.2.2.1 == a0.2.2.2.1) && true)) then (T28 N (a0.2.2.2.1, a0.2.2.2.2)).bind fun y9 => ((bif (allFit (Pat.fits p3) [(AV.int .i64 y8), (AV.int .i64 y9)] && true) then some (List.map d3 [(AV.int .i64 y8), (AV.int .i64 y9)]) else none : Option ((List Int))).bind fun x11 => (T26 N x11).bind fun y10 => (((bif (y6 == 0) then (T29 N (a0.2.2.1, a0.2.2.2.1, a0.2.2.2.2)).bind fun y12 => (some (y12.2, y12.1.1, y12.1.2)) else (some (y6, 0, 0))) : Option ((Int × Int × Int))).bind fun o13 => (((bif (y10 == 0) then (T30 N ((a0.1, a0.2.1), a0.2.2.2.1, a0.2.2.2.2)).bind fun y14 => bif ((a0.2.2.2.2 == a0.2.2.2.2) && ((a0.2.2.2.1 == a0.2.2.2.1) && (((a0.1 == a0.1) && ((a0.2.1 == a0.2.1) && true)) && true))) then (T31 N ((a0.1, a0.2.1), a0.2.2.2.1, a0.2.2.2.2)).bind fun y15 => (some (y14.1, y14.2, y15.1, y15.2)) else none else (some (0, 0, 0, 0))) : Option ((Int × Int × Int × Int))).bind fun o16 => (((bif ((y1.1.1 == o13.2.1) && ((y1.1.2 == o13.2.2) && true)) then (bif (y1.2 == o13.1) then (bif ((y2.1.1 == o16.1) && ((y2.1.2 == o16.2.1) && true)) then (bif (y2.2 == y10) then (bif ((y3.1.1 == o16.2.2.1) && ((y3.1.2 == o16.2.2.2) && true)) then (bif (y3.2 == y10) then (T22 N ()).bind fun y17 => (some y17) else (some false)) else (some false)) else (some false)) else (some false)) else (some false)) else (some false)) : Option Bool).bind fun o18 => some o18)))) else none) else none := by kernel_rfl

-- "cmp.isNaN[int]"
noncomputable def T113 (N : Nat) : Int → Option Bool := (cx N [] []).fn 1000 113 (.cons (.int .i64) .nil) .bool
noncomputable def e113 (N : Nat) : Entry := ⟨(.cons (.int .i64) .nil), .bool, T113 N⟩
theorem T113_ok (N : Nat) : EntryOk envS 113 (e113 N) := Ctx.fn_ok (fun _ _ h => by cases h) (by kernel_rfl) (by kernel_rfl)
theorem T113_eq (N : Nat) (a0 : Int) : T113 N a0 =
  some (a0 != a0) := by kernel_rfl

-- "cmp.Compare[int]"
noncomputable def T105 (N : Nat) : Int × Int → Option Int := (cx N [(113, e113 N)] []).fn 1000 105 (.cons (.int .i64) (.cons (.int .i64) .nil)) (.int .i64)
noncomputable def e105 (N : Nat) : Entry := ⟨(.cons (.int .i64) (.cons (.int .i64) .nil)), (.int .i64), T105 N⟩
theorem T105_ok (N : Nat) : EntryOk envS 105 (e105 N) := Ctx.fn_ok (tabF_ok (by intro a e h; simp only [List.mem_cons, Prod.mk.injEq, List.not_mem_nil, or_false] at h; rcases h with ⟨rfl, rfl⟩; exact T113_ok N)) (by kernel_rfl) (by kernel_rfl)
theorem T105_eq (N : Nat) (a0 : Int) (a1 : Int) : T105 N (a0, a1) =
  (T113 N a0).bind fun y1 => (T113 N a1).bind fun y2 => (bif y1 then (bif y2 then some 0 else some (-1)) else (bif y2 then some 1 else (bif (decide (a0 < a1)) then some (-1) else (bif (decide (a0 > a1)) then some 1 else some 0)))) := by kernel_rfl

-- "(codend/hang.Square).compare"
noncomputable def T80 (N : Nat) : (Int × Int) × (Int × Int) → Option Int := (cx N [(105, e105 N)] []).fn 1000 80 (.cons (.agg (.cons (.int .i64) (.cons (.int .i64) .nil))) (.cons (.agg (.cons (.int .i64) (.cons (.int .i64) .nil))) .nil)) (.int .i64)
noncomputable def e80 (N : Nat) : Entry := ⟨(.cons (.agg (.cons (.int .i64) (.cons (.int .i64) .nil))) (.cons (.agg (.cons (.int .i64) (.cons (.int .i64) .nil))) .nil)), (.int .i64), T80 N⟩
theorem T80_ok (N : Nat) : EntryOk envS 80 (e80 N) := Ctx.fn_ok (tabF_ok (by intro a e h; simp only [List.mem_cons, Prod.mk.injEq, List.not_mem_nil, or_false] at h; rcases h with ⟨rfl, rfl⟩; exact T105_ok N)) (by kernel_rfl) (by kernel_rfl)
theorem T80_eq (N : Nat) (a0 : Int × Int) (a1 : Int × Int) : T80 N (a0, a1) =
  (T105 N ((IntKind.wrap .i64 (a0.1 * a1.2)), (IntKind.wrap .i64 (a1.1 * a0.2)))).bind fun y1 => some y1 := by kernel_rfl

-- "codend/hang.Compare"
noncomputable def T32 (N : Nat) : (Int × Int) × (Int × Int) → Option (Int × Int) := (cx N [(20, e20 N), (72, e72 N), (80, e80 N)] []).fn 1000 32 (.cons (.agg (.cons (.int .i64) (.cons (.int .i64) .nil))) (.cons (.agg (.cons (.int .i64) (.cons (.int .i64) .nil))) .nil)) (.tup (.cons (.int .i64) (.cons (.int .i64) .nil)))
noncomputable def e32 (N : Nat) : Entry := ⟨(.cons (.agg (.cons (.int .i64) (.cons (.int .i64) .nil))) (.cons (.agg (.cons (.int .i64) (.cons (.int .i64) .nil))) .nil)), (.tup (.cons (.int .i64) (.cons (.int .i64) .nil))), T32 N⟩
theorem T32_ok (N : Nat) : EntryOk envS 32 (e32 N) := Ctx.fn_ok (tabF_ok (by intro a e h; simp only [List.mem_cons, Prod.mk.injEq, List.not_mem_nil, or_false] at h; rcases h with ⟨rfl, rfl⟩ | ⟨rfl, rfl⟩ | ⟨rfl, rfl⟩; exact T20_ok N; exact T72_ok N; exact T80_ok N)) (by kernel_rfl) (by kernel_rfl)
theorem T32_eq (N : Nat) (a0 : Int × Int) (a1 : Int × Int) : T32 N (a0, a1) =
  (T20 N (a0.1, a0.2)).bind fun y1 => bif (((a1.1 == a1.1) && ((a1.2 == a1.2) && true)) && true) then (T20 N (a1.1, a1.2)).bind fun y2 => ((bif (allFit (Pat.fits p26) [(AV.int .i64 y1), (AV.int .i64 y2)] && true) then some (List.map d26 [(AV.int .i64 y1), (AV.int .i64 y2)]) else none : Option ((List Int))).bind fun x4 => (T72 N x4).bind fun y3 => (bif (y3 != 0) then some (0, y3) else (T80 N ((a0.1, a0.2), (a1.1, a1.2))).bind fun y5 => some (y5, 0))) else none := by kernel_rfl

def c81 : List (Nat × Cert) := [(108, .loop [] ⟨(.cons (.int .i64) (.cons (.int .i64) .nil)), [3, 4], [], [], []⟩ [(.ex 0, ⟨(.cons (.int .i64) .nil), [3], [], [], []⟩)])]
-- "codend/hang.root"
noncomputable def T81 (N : Nat) : Int → Option Int := (cx N [] [(81, c81)]).fn 1000 81 (.cons (.int .i64) .nil) (.int .i64)
noncomputable def e81 (N : Nat) : Entry := ⟨(.cons (.int .i64) .nil), (.int .i64), T81 N⟩
theorem T81_ok (N : Nat) : EntryOk envS 81 (e81 N) := Ctx.fn_ok (fun _ _ h => by cases h) (by kernel_rfl) (by kernel_rfl)
noncomputable def R81x108 (N : Nat) (a0 : Int) (v1 : Int × Int) : Option ((Int × Int) ⊕ Int) :=
  (bif ((IntKind.wrap .i64 (v1.2 - v1.1)) == 1) then (some (Sum.inr v1.1)) else (bif (decide ((IntKind.wrap .i64 ((IntKind.wrap .i64 (Int.tdiv (IntKind.wrap .i64 (v1.1 + v1.2)) 2)) * (IntKind.wrap .i64 (Int.tdiv (IntKind.wrap .i64 (v1.1 + v1.2)) 2)))) ≤ a0)) then (some (Sum.inl ((IntKind.wrap .i64 (Int.tdiv (IntKind.wrap .i64 (v1.1 + v1.2)) 2)), v1.2))) else (some (Sum.inl (v1.1, (IntKind.wrap .i64 (Int.tdiv (IntKind.wrap .i64 (v1.1 + v1.2)) 2)))))))
theorem T81_eq (N : Nat) (a0 : Int) : T81 N a0 =
  ((loopR (V := Int × Int) (X := Int) (R81x108 N a0) N (0, 2147483648)).bind fun o3 => some o3) := by kernel_rfl

-- "codend/hang.Root"
noncomputable def T33 (N : Nat) : (Int × Int) × Int → Option ((Int × Int) × Int) := (cx N [(20, e20 N), (72, e72 N), (73, e73 N), (75, e75 N), (81, e81 N)] []).fn 1000 33 (.cons (.agg (.cons (.int .i64) (.cons (.int .i64) .nil))) (.cons (.int .i64) .nil)) (.tup (.cons (.agg (.cons (.int .i64) (.cons (.int .i64) .nil))) (.cons (.int .i64) .nil)))
noncomputable def e33 (N : Nat) : Entry := ⟨(.cons (.agg (.cons (.int .i64) (.cons (.int .i64) .nil))) (.cons (.int .i64) .nil)), (.tup (.cons (.agg (.cons (.int .i64) (.cons (.int .i64) .nil))) (.cons (.int .i64) .nil))), T33 N⟩
theorem T33_ok (N : Nat) : EntryOk envS 33 (e33 N) := Ctx.fn_ok (tabF_ok (by intro a e h; simp only [List.mem_cons, Prod.mk.injEq, List.not_mem_nil, or_false] at h; rcases h with ⟨rfl, rfl⟩ | ⟨rfl, rfl⟩ | ⟨rfl, rfl⟩ | ⟨rfl, rfl⟩ | ⟨rfl, rfl⟩; exact T20_ok N; exact T72_ok N; exact T73_ok N; exact T75_ok N; exact T81_ok N)) (by kernel_rfl) (by kernel_rfl)
theorem T33_eq (N : Nat) (a0 : Int × Int) (a1 : Int) : T33 N (a0, a1) =
  (T20 N (a0.1, a0.2)).bind fun y1 => (T73 N (a1, 0, 2)).bind fun y2 => ((bif (allFit (Pat.fits p26) [(AV.int .i64 y1), (AV.int .i64 y2)] && true) then some (List.map d26 [(AV.int .i64 y1), (AV.int .i64 y2)]) else none : Option ((List Int))).bind fun x4 => (T72 N x4).bind fun y3 => (bif (y3 != 0) then some ((0, 0), y3) else bif (decide (0 ≤ a1 ∧ a1 < (3 : Int)) && Pat.fits p3 (nthD [(AV.int .i64 1), (AV.int .i64 10), (AV.int .i64 100)] (Int.toNat a1))) then bif !(decide (a0.2 = 0)) then (T81 N (IntKind.wrap .i64 (Int.tdiv (IntKind.wrap .i64 ((IntKind.wrap .i64 (a0.1 * (d3 (nthD [(AV.int .i64 1), (AV.int .i64 10), (AV.int .i64 100)] (Int.toNat a1))))) * (d3 (nthD [(AV.int .i64 1), (AV.int .i64 10), (AV.int .i64 100)] (Int.toNat a1))))) a0.2))).bind fun y5 => (T75 N (y5, (d3 (nthD [(AV.int .i64 1), (AV.int .i64 10), (AV.int .i64 100)] (Int.toNat a1))))).bind fun y6 => some ((y6.1, y6.2), 0) else none else none)) := by kernel_rfl

def c34 : List (Nat × Cert) := [(122, .loop [] ⟨(.cons (.int .i64) (.cons (.int .i64) (.cons (.int .i64) .nil))), [6], [], [(5, 2)], []⟩ [(.ex 0, ⟨(.cons (.int .i64) (.cons (.int .i64) .nil)), [], [], [(5, 2)], []⟩)]),
  (7826, .loop [] ⟨(.cons (.int .i64) (.cons (.int .i64) (.cons (.int .i64) .nil))), [7], [], [(5, 2)], []⟩ [(.ex 2, ⟨(.cons (.int .i64) (.cons (.int .i64) .nil)), [], [], [(5, 2)], []⟩)]),
  (62610, .join [(.norm, ⟨(.cons (.int .i64) (.cons (.int .i64) .nil)), [], [], [(5, 2)], []⟩)]),
  (4007070, .join [(.norm, ⟨(.cons .bool .nil), [59], [], [], []⟩)])]
-- "codend/hang.Fullest"
noncomputable def T34 (N : Nat) : Int → Option ((Int × Int) × Int) := (cx N [(19, e19 N), (70, e70 N), (73, e73 N), (80, e80 N)] [(34, c34)]).fn 1000 34 (.cons (.int .i64) .nil) (.tup (.cons (.agg (.cons (.int .i64) (.cons (.int .i64) .nil))) (.cons (.int .i64) .nil)))
noncomputable def e34 (N : Nat) : Entry := ⟨(.cons (.int .i64) .nil), (.tup (.cons (.agg (.cons (.int .i64) (.cons (.int .i64) .nil))) (.cons (.int .i64) .nil))), T34 N⟩
theorem T34_ok (N : Nat) : EntryOk envS 34 (e34 N) := Ctx.fn_ok (tabF_ok (by intro a e h; simp only [List.mem_cons, Prod.mk.injEq, List.not_mem_nil, or_false] at h; rcases h with ⟨rfl, rfl⟩ | ⟨rfl, rfl⟩ | ⟨rfl, rfl⟩ | ⟨rfl, rfl⟩; exact T19_ok N; exact T70_ok N; exact T73_ok N; exact T80_ok N)) (by kernel_rfl) (by kernel_rfl)
noncomputable def R34x7826 (N : Nat) (v2 : Int × Int × Int) (v3 : Int × Int × Int) : Option ((Int × Int × Int) ⊕ ((Int × Int))) :=
  (bif (decide (v3.1 ≤ v2.1)) then (((T19 N (v3.1, v2.1)).bind fun y4 => (bif (y4 != 0) then (some (v3.2.1, v3.2.2)) else (T70 N (v3.2.1, v3.2.2)).bind fun y5 => (T70 N (v3.1, v2.1)).bind fun y6 => (T80 N ((y5.1, y5.2), (y6.1, y6.2))).bind fun y7 => (((bif (decide (y7 < 0)) then (some true) else (bif (y7 == 0) then (some (decide ((IntKind.wrap .i64 (v3.1 * v3.2.2)) < (IntKind.wrap .i64 (v3.2.1 * v2.1))))) else (some false))) : Option Bool).bind fun o8 => (bif o8 then (some (v3.1, v2.1)) else (some (v3.2.1, v3.2.2))))) : Option ((Int × Int))).bind fun o9 => (some (Sum.inl ((IntKind.wrap .i64 (v3.1 + 1)), o9.1, o9.2)))) else (some (Sum.inr (v3.2.1, v3.2.2))))
noncomputable def R34x122 (N : Nat) (a0 : Int) (v2 : Int × Int × Int) : Option ((Int × Int × Int) ⊕ ((Int × Int))) :=
  (bif (decide (v2.1 ≤ a0)) then ((loopR (V := Int × Int × Int) (X := (Int × Int)) (R34x7826 N v2) N (1, v2.2.1, v2.2.2)).bind fun o11 => (some (Sum.inl ((IntKind.wrap .i64 (v2.1 + 1)), o11.1, o11.2)))) else (some (Sum.inr (v2.2.1, v2.2.2))))
theorem T34_eq (N : Nat) (a0 : Int) : T34 N a0 =
  (T73 N (a0, 1, 30)).bind fun y1 => (bif (y1 != 0) then some ((0, 0), y1) else ((loopR (V := Int × Int × Int) (X := (Int × Int)) (R34x122 N a0) N (1, 1, 1)).bind fun o13 => some ((o13.1, o13.2), 0))) := by kernel_rfl

-- "codend/codendref06.Compare"
noncomputable def T35 (N : Nat) : (Int × Int) × (Int × Int) → Option Int := (cx N [] []).fn 1000 35 (.cons (.agg (.cons (.int .i64) (.cons (.int .i64) .nil))) (.cons (.agg (.cons (.int .i64) (.cons (.int .i64) .nil))) .nil)) (.int .i64)
noncomputable def e35 (N : Nat) : Entry := ⟨(.cons (.agg (.cons (.int .i64) (.cons (.int .i64) .nil))) (.cons (.agg (.cons (.int .i64) (.cons (.int .i64) .nil))) .nil)), (.int .i64), T35 N⟩
theorem T35_ok (N : Nat) : EntryOk envS 35 (e35 N) := Ctx.fn_ok (fun _ _ h => by cases h) (by kernel_rfl) (by kernel_rfl)
theorem T35_eq (N : Nat) (a0 : Int × Int) (a1 : Int × Int) : T35 N (a0, a1) =
  (bif (decide ((IntKind.wrap .i64 (a0.1 * a1.2)) < (IntKind.wrap .i64 (a1.1 * a0.2)))) then some (-1) else (bif (decide ((IntKind.wrap .i64 (a0.1 * a1.2)) > (IntKind.wrap .i64 (a1.1 * a0.2)))) then some 1 else some 0)) := by kernel_rfl

def c36 : List (Nat × Cert) := [(58, .loop [] ⟨(.cons (.int .i64) (.cons (.int .i64) .nil)), [5, 6], [], [], []⟩ [(.ex 0, ⟨(.cons (.int .i64) .nil), [5], [], [], []⟩)]),
  (124, .loop [] ⟨(.cons (.int .i64) (.cons (.int .i64) .nil)), [7, 8], [], [], []⟩ [(.ex 2, ⟨(.cons (.int .i64) .nil), [7], [], [], []⟩)])]
-- "codend/codendref06.Root"
noncomputable def T36 (N : Nat) : (Int × Int) × Int → Option ((Int × Int)) := (cx N [(79, e79 N)] [(36, c36)]).fn 1000 36 (.cons (.agg (.cons (.int .i64) (.cons (.int .i64) .nil))) (.cons (.int .i64) .nil)) (.agg (.cons (.int .i64) (.cons (.int .i64) .nil)))
noncomputable def e36 (N : Nat) : Entry := ⟨(.cons (.agg (.cons (.int .i64) (.cons (.int .i64) .nil))) (.cons (.int .i64) .nil)), (.agg (.cons (.int .i64) (.cons (.int .i64) .nil))), T36 N⟩
theorem T36_ok (N : Nat) : EntryOk envS 36 (e36 N) := Ctx.fn_ok (tabF_ok (by intro a e h; simp only [List.mem_cons, Prod.mk.injEq, List.not_mem_nil, or_false] at h; rcases h with ⟨rfl, rfl⟩; exact T79_ok N)) (by kernel_rfl) (by kernel_rfl)
noncomputable def R36x58 (N : Nat) (a1 : Int) (v1 : Int × Int) : Option ((Int × Int) ⊕ Int) :=
  (bif (decide (v1.2 < a1)) then (some (Sum.inl ((IntKind.wrap .i64 (v1.1 * 10)), (IntKind.wrap .i64 (v1.2 + 1))))) else (some (Sum.inr v1.1)))
noncomputable def R36x124 (N : Nat) (a0 : Int × Int) (o3 : Int) (v4 : Int × Int) : Option ((Int × Int) ⊕ Int) :=
  (bif (decide ((IntKind.wrap .i64 (v4.2 - v4.1)) > 1)) then bif !(decide (a0.2 = 0)) then (bif (decide ((IntKind.wrap .i64 ((IntKind.wrap .i64 (Int.tdiv (IntKind.wrap .i64 (v4.1 + v4.2)) 2)) * (IntKind.wrap .i64 (Int.tdiv (IntKind.wrap .i64 (v4.1 + v4.2)) 2)))) ≤ (IntKind.wrap .i64 (Int.tdiv (IntKind.wrap .i64 ((IntKind.wrap .i64 (a0.1 * o3)) * o3)) a0.2)))) then (some (Sum.inl ((IntKind.wrap .i64 (Int.tdiv (IntKind.wrap .i64 (v4.1 + v4.2)) 2)), v4.2))) else (some (Sum.inl (v4.1, (IntKind.wrap .i64 (Int.tdiv (IntKind.wrap .i64 (v4.1 + v4.2)) 2)))))) else none else (some (Sum.inr v4.1)))
theorem T36_eq (N : Nat) (a0 : Int × Int) (a1 : Int) : T36 N (a0, a1) =
  ((loopR (V := Int × Int) (X := Int) (R36x58 N a1) N (1, 0)).bind fun o3 => ((loopR (V := Int × Int) (X := Int) (R36x124 N a0 o3) N (0, 1000000000)).bind fun o6 => (T79 N (o6, o3)).bind fun y7 => some (y7.1, y7.2))) := by kernel_rfl

def c37 : List (Nat × Cert) := [(58, .loop [] ⟨(.cons (.int .i64) (.cons (.int .i64) (.cons (.int .i64) .nil))), [4], [], [(3, 2)], []⟩ [(.ex 0, ⟨(.cons (.int .i64) (.cons (.int .i64) .nil)), [], [], [(3, 2)], []⟩)]),
  (3730, .loop [] ⟨(.cons (.int .i64) (.cons (.int .i64) (.cons (.int .i64) .nil))), [5], [], [(3, 2)], []⟩ [(.ex 2, ⟨(.cons (.int .i64) (.cons (.int .i64) .nil)), [], [], [(3, 2)], []⟩)]),
  (29842, .join [(.norm, ⟨(.cons (.int .i64) (.cons (.int .i64) .nil)), [], [], [(3, 2)], []⟩)]),
  (954958, .join [(.norm, ⟨(.cons .bool .nil), [47], [], [], []⟩)])]
-- "codend/codendref06.Fullest"
noncomputable def T37 (N : Nat) : Int → Option ((Int × Int)) := (cx N [(18, e18 N), (35, e35 N), (66, e66 N)] [(37, c37)]).fn 1000 37 (.cons (.int .i64) .nil) (.agg (.cons (.int .i64) (.cons (.int .i64) .nil)))
noncomputable def e37 (N : Nat) : Entry := ⟨(.cons (.int .i64) .nil), (.agg (.cons (.int .i64) (.cons (.int .i64) .nil))), T37 N⟩
theorem T37_ok (N : Nat) : EntryOk envS 37 (e37 N) := Ctx.fn_ok (tabF_ok (by intro a e h; simp only [List.mem_cons, Prod.mk.injEq, List.not_mem_nil, or_false] at h; rcases h with ⟨rfl, rfl⟩ | ⟨rfl, rfl⟩ | ⟨rfl, rfl⟩; exact T18_ok N; exact T35_ok N; exact T66_ok N)) (by kernel_rfl) (by kernel_rfl)
noncomputable def R37x3730 (N : Nat) (v1 : Int × Int × Int) (v2 : Int × Int × Int) : Option ((Int × Int × Int) ⊕ ((Int × Int))) :=
  (bif (decide (v2.1 ≤ v1.1)) then (((T66 N (v2.1, v1.1)).bind fun y3 => (bif (y3 != 1) then (some (v2.2.1, v2.2.2)) else (T18 N (v2.1, v1.1)).bind fun y4 => bif (((v2.2.1 == v2.2.1) && ((v2.2.2 == v2.2.2) && true)) && true) then (T18 N (v2.2.1, v2.2.2)).bind fun y5 => (T35 N ((y4.1, y4.2), (y5.1, y5.2))).bind fun y6 => (((bif (decide (y6 > 0)) then (some true) else (bif (y6 == 0) then (some (decide ((IntKind.wrap .i64 (v2.1 * v2.2.2)) < (IntKind.wrap .i64 (v2.2.1 * v1.1))))) else (some false))) : Option Bool).bind fun o7 => (bif o7 then (some (v2.1, v1.1)) else (some (v2.2.1, v2.2.2)))) else none) : Option ((Int × Int))).bind fun o8 => (some (Sum.inl ((IntKind.wrap .i64 (v2.1 + 1)), o8.1, o8.2)))) else (some (Sum.inr (v2.2.1, v2.2.2))))
noncomputable def R37x58 (N : Nat) (a0 : Int) (v1 : Int × Int × Int) : Option ((Int × Int × Int) ⊕ ((Int × Int))) :=
  (bif (decide (v1.1 ≤ a0)) then ((loopR (V := Int × Int × Int) (X := (Int × Int)) (R37x3730 N v1) N (1, v1.2.1, v1.2.2)).bind fun o10 => (some (Sum.inl ((IntKind.wrap .i64 (v1.1 + 1)), o10.1, o10.2)))) else (some (Sum.inr (v1.2.1, v1.2.2))))
theorem T37_eq (N : Nat) (a0 : Int) : T37 N a0 =
  ((loopR (V := Int × Int × Int) (X := (Int × Int)) (R37x58 N a0) N (1, 1, 1)).bind fun o12 => some (o12.1, o12.2)) := by kernel_rfl

def c5 : List (Nat × Cert) := [(4093, .join [(.norm, ⟨(.cons (.int .i64) .nil), [16], [], [], []⟩)]),
  (8189, .join [(.norm, ⟨(.cons (.int .i64) (.cons (.int .i64) .nil)), [], [], [(17, 2)], []⟩)]),
  (16381, .join [(.norm, ⟨(.cons (.int .i64) (.cons (.int .i64) .nil)), [], [], [(18, 2)], []⟩)]),
  (16382, .join [(.norm, ⟨(.cons .bool .nil), [6], [], [], []⟩)])]
-- "codend/codendlaw06.HangRoots"
noncomputable def T5 (N : Nat) : (Int × Int) × (Int × Int) × (Int × Int) → Option Bool := (cx N [(21, e21 N), (22, e22 N), (26, e26 N), (27, e27 N), (32, e32 N), (33, e33 N), (34, e34 N), (35, e35 N), (36, e36 N), (37, e37 N)] [(5, c5)]).fn 1000 5 (.cons (.agg (.cons (.int .i64) (.cons (.int .i64) .nil))) (.cons (.agg (.cons (.int .i64) (.cons (.int .i64) .nil))) (.cons (.agg (.cons (.int .i64) (.cons (.int .i64) .nil))) .nil))) .bool
noncomputable def e5 (N : Nat) : Entry := ⟨(.cons (.agg (.cons (.int .i64) (.cons (.int .i64) .nil))) (.cons (.agg (.cons (.int .i64) (.cons (.int .i64) .nil))) (.cons (.agg (.cons (.int .i64) (.cons (.int .i64) .nil))) .nil))), .bool, T5 N⟩
theorem T5_ok (N : Nat) : EntryOk envS 5 (e5 N) := Ctx.fn_ok (tabF_ok (by intro a e h; simp only [List.mem_cons, Prod.mk.injEq, List.not_mem_nil, or_false] at h; rcases h with ⟨rfl, rfl⟩ | ⟨rfl, rfl⟩ | ⟨rfl, rfl⟩ | ⟨rfl, rfl⟩ | ⟨rfl, rfl⟩ | ⟨rfl, rfl⟩ | ⟨rfl, rfl⟩ | ⟨rfl, rfl⟩ | ⟨rfl, rfl⟩ | ⟨rfl, rfl⟩; exact T21_ok N; exact T22_ok N; exact T26_ok N; exact T27_ok N; exact T32_ok N; exact T33_ok N; exact T34_ok N; exact T35_ok N; exact T36_ok N; exact T37_ok N)) (by kernel_rfl) (by kernel_rfl)
theorem T5_eq (N : Nat) (a0 : Int × Int) (a1 : Int × Int) (a2 : Int × Int) : T5 N (a0, a1, a2) =
  (T32 N ((a0.1, a0.2), (a1.1, a1.2))).bind fun y1 => (T33 N ((a0.1, a0.2), a2.1)).bind fun y2 => (T34 N a2.2).bind fun y3 => (T21 N (a0.1, a0.2)).bind fun y4 => bif (((a1.1 == a1.1) && ((a1.2 == a1.2) && true)) && true) then (T21 N (a1.1, a1.2)).bind fun y5 => ((bif (allFit (Pat.fits p3) [(AV.int .i64 y4), (AV.int .i64 y5)] && true) then some (List.map d3 [(AV.int .i64 y4), (AV.int .i64 y5)]) else none : Option ((List Int))).bind fun x7 => (T26 N x7).bind fun y6 => (T21 N (a0.1, a0.2)).bind fun y8 => bif ((a2.1 == a2.1) && true) then (T27 N (a2.1, 0, 2)).bind fun y9 => ((bif (allFit (Pat.fits p3) [(AV.int .i64 y8), (AV.int .i64 y9)] && true) then some (List.map d3 [(AV.int .i64 y8), (AV.int .i64 y9)]) else none : Option ((List Int))).bind fun x11 => (T26 N x11).bind fun y10 => (T27 N (a2.2, 1, 30)).bind fun y12 => (((bif (y6 == 0) then (T35 N ((a0.1, a0.2), (a1.1, a1.2))).bind fun y13 => (some y13) else (some 0)) : Option Int).bind fun o14 => (((bif (y10 == 0) then (T36 N ((a0.1, a0.2), a2.1)).bind fun y15 => (some (y15.1, y15.2)) else (some (0, 0))) : Option ((Int × Int))).bind fun o16 => (((bif (y12 == 0) then (T37 N a2.2).bind fun y17 => (some (y17.1, y17.2)) else (some (0, 0))) : Option ((Int × Int))).bind fun o18 => (((bif (y1.1 == o14) then (bif (y1.2 == y6) then (bif ((y2.1.1 == o16.1) && ((y2.1.2 == o16.2) && true)) then (bif (y2.2 == y10) then (bif ((y3.1.1 == o18.1) && ((y3.1.2 == o18.2) && true)) then (bif (y3.2 == y12) then (T22 N ()).bind fun y19 => (some y19) else (some false)) else (some false)) else (some false)) else (some false)) else (some false)) else (some false)) : Option Bool).bind fun o20 => some o20))))) else none) else none := by kernel_rfl

-- "codend/hang.checkLine"
noncomputable def T93 (N : Nat) : Int × Int × Int → Option Int := (cx N [(72, e72 N), (73, e73 N), (77, e77 N)] []).fn 1000 93 (.cons (.int .i64) (.cons (.int .i64) (.cons (.int .i64) .nil))) (.int .i64)
noncomputable def e93 (N : Nat) : Entry := ⟨(.cons (.int .i64) (.cons (.int .i64) (.cons (.int .i64) .nil))), (.int .i64), T93 N⟩
theorem T93_ok (N : Nat) : EntryOk envS 93 (e93 N) := Ctx.fn_ok (tabF_ok (by intro a e h; simp only [List.mem_cons, Prod.mk.injEq, List.not_mem_nil, or_false] at h; rcases h with ⟨rfl, rfl⟩ | ⟨rfl, rfl⟩ | ⟨rfl, rfl⟩; exact T72_ok N; exact T73_ok N; exact T77_ok N)) (by kernel_rfl) (by kernel_rfl)
theorem T93_eq (N : Nat) (a0 : Int) (a1 : Int) (a2 : Int) : T93 N (a0, a1, a2) =
  (T73 N (a0, 0, 100000)).bind fun y1 => (T73 N (a1, 0, 100000)).bind fun y2 => (T77 N a2).bind fun y3 => ((bif (allFit (Pat.fits p26) [(AV.int .i64 y1), (AV.int .i64 y2), (AV.int .i64 y3)] && true) then some (List.map d26 [(AV.int .i64 y1), (AV.int .i64 y2), (AV.int .i64 y3)]) else none : Option ((List Int))).bind fun x5 => (T72 N x5).bind fun y4 => some y4) := by kernel_rfl

-- "codend/hang.checkAllowance"
noncomputable def T94 (N : Nat) : Int → Option Int := (cx N [(73, e73 N)] []).fn 1000 94 (.cons (.int .i64) .nil) (.int .i64)
noncomputable def e94 (N : Nat) : Entry := ⟨(.cons (.int .i64) .nil), (.int .i64), T94 N⟩
theorem T94_ok (N : Nat) : EntryOk envS 94 (e94 N) := Ctx.fn_ok (tabF_ok (by intro a e h; simp only [List.mem_cons, Prod.mk.injEq, List.not_mem_nil, or_false] at h; rcases h with ⟨rfl, rfl⟩; exact T73_ok N)) (by kernel_rfl) (by kernel_rfl)
theorem T94_eq (N : Nat) (a0 : Int) : T94 N a0 =
  (T73 N (a0, 0, 100)).bind fun y1 => some y1 := by kernel_rfl

-- "codend/hang.Length"
noncomputable def T55 (N : Nat) : Int × Int × Int × Int → Option (Int × Int) := (cx N [(72, e72 N), (93, e93 N), (94, e94 N)] []).fn 1000 55 (.cons (.int .i64) (.cons (.int .i64) (.cons (.int .i64) (.cons (.int .i64) .nil)))) (.tup (.cons (.int .i64) (.cons (.int .i64) .nil)))
noncomputable def e55 (N : Nat) : Entry := ⟨(.cons (.int .i64) (.cons (.int .i64) (.cons (.int .i64) (.cons (.int .i64) .nil)))), (.tup (.cons (.int .i64) (.cons (.int .i64) .nil))), T55 N⟩
theorem T55_ok (N : Nat) : EntryOk envS 55 (e55 N) := Ctx.fn_ok (tabF_ok (by intro a e h; simp only [List.mem_cons, Prod.mk.injEq, List.not_mem_nil, or_false] at h; rcases h with ⟨rfl, rfl⟩ | ⟨rfl, rfl⟩ | ⟨rfl, rfl⟩; exact T72_ok N; exact T93_ok N; exact T94_ok N)) (by kernel_rfl) (by kernel_rfl)
theorem T55_eq (N : Nat) (a0 : Int) (a1 : Int) (a2 : Int) (a3 : Int) : T55 N (a0, a1, a2, a3) =
  (T93 N (a0, a1, a2)).bind fun y1 => (T94 N a3).bind fun y2 => ((bif (allFit (Pat.fits p26) [(AV.int .i64 y1), (AV.int .i64 y2)] && true) then some (List.map d26 [(AV.int .i64 y1), (AV.int .i64 y2)]) else none : Option ((List Int))).bind fun x4 => (T72 N x4).bind fun y3 => (bif (y3 != 0) then some (0, y3) else some ((IntKind.wrap .i64 ((IntKind.wrap .i64 (a0 * a2)) + (IntKind.wrap .i64 (a1 * a3)))), 0))) := by kernel_rfl

-- "codend/hang.weight"
noncomputable def T95 (N : Nat) : Int × Int → Option Int := (cx N [] []).fn 1000 95 (.cons (.int .i64) (.cons (.int .i64) .nil)) (.int .i64)
noncomputable def e95 (N : Nat) : Entry := ⟨(.cons (.int .i64) (.cons (.int .i64) .nil)), (.int .i64), T95 N⟩
theorem T95_ok (N : Nat) : EntryOk envS 95 (e95 N) := Ctx.fn_ok (fun _ _ h => by cases h) (by kernel_rfl) (by kernel_rfl)
theorem T95_eq (N : Nat) (a0 : Int) (a1 : Int) : T95 N (a0, a1) =
  some (IntKind.wrap .i64 (Int.tdiv (IntKind.wrap .i64 (a0 * a1)) 1000)) := by kernel_rfl

-- "codend/hang.Weight"
noncomputable def T56 (N : Nat) : Int × Int → Option (Int × Int) := (cx N [(72, e72 N), (73, e73 N), (95, e95 N)] []).fn 1000 56 (.cons (.int .i64) (.cons (.int .i64) .nil)) (.tup (.cons (.int .i64) (.cons (.int .i64) .nil)))
noncomputable def e56 (N : Nat) : Entry := ⟨(.cons (.int .i64) (.cons (.int .i64) .nil)), (.tup (.cons (.int .i64) (.cons (.int .i64) .nil))), T56 N⟩
theorem T56_ok (N : Nat) : EntryOk envS 56 (e56 N) := Ctx.fn_ok (tabF_ok (by intro a e h; simp only [List.mem_cons, Prod.mk.injEq, List.not_mem_nil, or_false] at h; rcases h with ⟨rfl, rfl⟩ | ⟨rfl, rfl⟩ | ⟨rfl, rfl⟩; exact T72_ok N; exact T73_ok N; exact T95_ok N)) (by kernel_rfl) (by kernel_rfl)
theorem T56_eq (N : Nat) (a0 : Int) (a1 : Int) : T56 N (a0, a1) =
  (T73 N (a0, 0, 999999999)).bind fun y1 => (T73 N (a1, 1, 100000)).bind fun y2 => ((bif (allFit (Pat.fits p26) [(AV.int .i64 y1), (AV.int .i64 y2)] && true) then some (List.map d26 [(AV.int .i64 y1), (AV.int .i64 y2)]) else none : Option ((List Int))).bind fun x4 => (T72 N x4).bind fun y3 => (bif (y3 != 0) then some (0, y3) else (T95 N (a0, a1)).bind fun y5 => (bif (decide (y5 > 999999999)) then some (0, 4) else some (y5, 0)))) := by kernel_rfl

-- "codend/codendref06.CheckCounts"
noncomputable def T57 (N : Nat) : Int × Int × Int × Int → Option Int := (cx N [(26, e26 N), (27, e27 N)] []).fn 1000 57 (.cons (.int .i64) (.cons (.int .i64) (.cons (.int .i64) (.cons (.int .i64) .nil)))) (.int .i64)
noncomputable def e57 (N : Nat) : Entry := ⟨(.cons (.int .i64) (.cons (.int .i64) (.cons (.int .i64) (.cons (.int .i64) .nil)))), (.int .i64), T57 N⟩
theorem T57_ok (N : Nat) : EntryOk envS 57 (e57 N) := Ctx.fn_ok (tabF_ok (by intro a e h; simp only [List.mem_cons, Prod.mk.injEq, List.not_mem_nil, or_false] at h; rcases h with ⟨rfl, rfl⟩ | ⟨rfl, rfl⟩; exact T26_ok N; exact T27_ok N)) (by kernel_rfl) (by kernel_rfl)
theorem T57_eq (N : Nat) (a0 : Int) (a1 : Int) (a2 : Int) (a3 : Int) : T57 N (a0, a1, a2, a3) =
  (T27 N (a0, 0, 100000)).bind fun y1 => (T27 N (a1, 0, 100000)).bind fun y2 => (T27 N (a2, 1, 100)).bind fun y3 => (T27 N (a3, 0, 100)).bind fun y4 => ((bif (allFit (Pat.fits p3) [(AV.int .i64 y1), (AV.int .i64 y2), (AV.int .i64 y3), (AV.int .i64 y4)] && true) then some (List.map d3 [(AV.int .i64 y1), (AV.int .i64 y2), (AV.int .i64 y3), (AV.int .i64 y4)]) else none : Option ((List Int))).bind fun x6 => (T26 N x6).bind fun y5 => some y5) := by kernel_rfl

-- "codend/codendref06.Length"
noncomputable def T58 (N : Nat) : Int × Int × Int × Int → Option Int := (cx N [] []).fn 1000 58 (.cons (.int .i64) (.cons (.int .i64) (.cons (.int .i64) (.cons (.int .i64) .nil)))) (.int .i64)
noncomputable def e58 (N : Nat) : Entry := ⟨(.cons (.int .i64) (.cons (.int .i64) (.cons (.int .i64) (.cons (.int .i64) .nil)))), (.int .i64), T58 N⟩
theorem T58_ok (N : Nat) : EntryOk envS 58 (e58 N) := Ctx.fn_ok (fun _ _ h => by cases h) (by kernel_rfl) (by kernel_rfl)
theorem T58_eq (N : Nat) (a0 : Int) (a1 : Int) (a2 : Int) (a3 : Int) : T58 N (a0, a1, a2, a3) =
  some (IntKind.wrap .i64 ((IntKind.wrap .i64 (a0 * a2)) + (IntKind.wrap .i64 (a1 * a3)))) := by kernel_rfl

-- "codend/codendref06.Weight"
noncomputable def T59 (N : Nat) : Int × Int → Option (Int × Int) := (cx N [] []).fn 1000 59 (.cons (.int .i64) (.cons (.int .i64) .nil)) (.tup (.cons (.int .i64) (.cons (.int .i64) .nil)))
noncomputable def e59 (N : Nat) : Entry := ⟨(.cons (.int .i64) (.cons (.int .i64) .nil)), (.tup (.cons (.int .i64) (.cons (.int .i64) .nil))), T59 N⟩
theorem T59_ok (N : Nat) : EntryOk envS 59 (e59 N) := Ctx.fn_ok (fun _ _ h => by cases h) (by kernel_rfl) (by kernel_rfl)
theorem T59_eq (N : Nat) (a0 : Int) (a1 : Int) : T59 N (a0, a1) =
  (bif (decide ((IntKind.wrap .i64 (Int.tdiv (IntKind.wrap .i64 (a0 * a1)) 1000)) > 999999999)) then some (0, 4) else some ((IntKind.wrap .i64 (Int.tdiv (IntKind.wrap .i64 (a0 * a1)) 1000)), 0)) := by kernel_rfl

def c8 : List (Nat × Cert) := [(509, .join [(.norm, ⟨(.cons (.int .i64) .nil), [13], [], [], []⟩)]),
  (1021, .join [(.norm, ⟨(.cons (.int .i64) (.cons (.int .i64) .nil)), [12, 14], [], [], []⟩)]),
  (1022, .join [(.norm, ⟨(.cons .bool .nil), [6], [], [], []⟩)])]
-- "codend/codendlaw06.HangWeights"
noncomputable def T8 (N : Nat) : (Int × Int × Int × Int) × Int × Int → Option Bool := (cx N [(22, e22 N), (26, e26 N), (27, e27 N), (55, e55 N), (56, e56 N), (57, e57 N), (58, e58 N), (59, e59 N)] [(8, c8)]).fn 1000 8 (.cons (.agg (.cons (.int .i64) (.cons (.int .i64) (.cons (.int .i64) (.cons (.int .i64) .nil))))) (.cons (.int .i64) (.cons (.int .i64) .nil))) .bool
noncomputable def e8 (N : Nat) : Entry := ⟨(.cons (.agg (.cons (.int .i64) (.cons (.int .i64) (.cons (.int .i64) (.cons (.int .i64) .nil))))) (.cons (.int .i64) (.cons (.int .i64) .nil))), .bool, T8 N⟩
theorem T8_ok (N : Nat) : EntryOk envS 8 (e8 N) := Ctx.fn_ok (tabF_ok (by intro a e h; simp only [List.mem_cons, Prod.mk.injEq, List.not_mem_nil, or_false] at h; rcases h with ⟨rfl, rfl⟩ | ⟨rfl, rfl⟩ | ⟨rfl, rfl⟩ | ⟨rfl, rfl⟩ | ⟨rfl, rfl⟩ | ⟨rfl, rfl⟩ | ⟨rfl, rfl⟩ | ⟨rfl, rfl⟩; exact T22_ok N; exact T26_ok N; exact T27_ok N; exact T55_ok N; exact T56_ok N; exact T57_ok N; exact T58_ok N; exact T59_ok N)) (by kernel_rfl) (by kernel_rfl)
theorem T8_eq (N : Nat) (a0 : Int × Int × Int × Int) (a1 : Int) (a2 : Int) : T8 N (a0, a1, a2) =
  (T55 N (a0.1, a0.2.1, a0.2.2.1, a0.2.2.2)).bind fun y1 => (T56 N (a1, a2)).bind fun y2 => (T57 N (a0.1, a0.2.1, a0.2.2.1, a0.2.2.2)).bind fun y3 => (T27 N (a1, 0, 999999999)).bind fun y4 => (T27 N (a2, 1, 100000)).bind fun y5 => ((bif (allFit (Pat.fits p3) [(AV.int .i64 y4), (AV.int .i64 y5)] && true) then some (List.map d3 [(AV.int .i64 y4), (AV.int .i64 y5)]) else none : Option ((List Int))).bind fun x7 => (T26 N x7).bind fun y6 => (((bif (y3 == 0) then (T58 N (a0.1, a0.2.1, a0.2.2.1, a0.2.2.2)).bind fun y8 => (some y8) else (some 0)) : Option Int).bind fun o9 => (((bif (y6 == 0) then (T59 N (a1, a2)).bind fun y10 => (some (y10.2, y10.1)) else (some (y6, 0))) : Option ((Int × Int))).bind fun o11 => (((bif (y1.1 == o9) then (bif (y1.2 == y3) then (bif (y2.1 == o11.2) then (bif (y2.2 == o11.1) then (T22 N ()).bind fun y12 => (some y12) else (some false)) else (some false)) else (some false)) else (some false)) : Option Bool).bind fun o13 => some o13)))) := by kernel_rfl

def c10 : List (Nat × Cert) := [(12, .join [(.norm, ⟨(.cons .bool .nil), [23], [], [], []⟩)]),
  (122, .loop [] ⟨(.cons (.int .i64) (.cons (.int .i64) .nil)), [5, 25], [], [], []⟩ [(.ret, ⟨(.cons .bool .nil), [4], [], [], []⟩), (.ex 0, ⟨.nil, [], [], [], []⟩)]),
  (501372, .join [(.norm, ⟨(.cons .bool .nil), [111], [], [], []⟩)]),
  (2005500, .join [(.norm, ⟨(.cons .bool .nil), [159], [], [], []⟩)]),
  (4011004, .join [(.norm, ⟨(.cons .bool .nil), [205], [], [], []⟩)])]
-- "codend/codendlaw06.HangFloors"
noncomputable def T10 (N : Nat) : (Int × Int) × (Int × Int) → Option Bool := (cx N [(21, e21 N), (22, e22 N), (32, e32 N), (33, e33 N), (66, e66 N)] [(10, c10)]).fn 1000 10 (.cons (.agg (.cons (.int .i64) (.cons (.int .i64) .nil))) (.cons (.agg (.cons (.int .i64) (.cons (.int .i64) .nil))) .nil)) .bool
noncomputable def e10 (N : Nat) : Entry := ⟨(.cons (.agg (.cons (.int .i64) (.cons (.int .i64) .nil))) (.cons (.agg (.cons (.int .i64) (.cons (.int .i64) .nil))) .nil)), .bool, T10 N⟩
theorem T10_ok (N : Nat) : EntryOk envS 10 (e10 N) := Ctx.fn_ok (tabF_ok (by intro a e h; simp only [List.mem_cons, Prod.mk.injEq, List.not_mem_nil, or_false] at h; rcases h with ⟨rfl, rfl⟩ | ⟨rfl, rfl⟩ | ⟨rfl, rfl⟩ | ⟨rfl, rfl⟩ | ⟨rfl, rfl⟩; exact T21_ok N; exact T22_ok N; exact T32_ok N; exact T33_ok N; exact T66_ok N)) (by kernel_rfl) (by kernel_rfl)
noncomputable def R10x122 (N : Nat) (a0 : Int × Int) (a1 : Int × Int) (v5 : Int × Int) : Option ((Int × Int) ⊕ (Bool ⊕ Unit)) :=
  (bif (decide (v5.2 < 3)) then bif (decide (0 ≤ v5.2 ∧ v5.2 < (([(AV.int .i64 1), (AV.int .i64 10), (AV.int .i64 100)]).length : Int)) && Pat.fits p3 (nthD [(AV.int .i64 1), (AV.int .i64 10), (AV.int .i64 100)] (Int.toNat v5.2))) then (T33 N ((a0.1, a0.2), v5.2)).bind fun y6 => (T33 N ((a1.1, a1.2), v5.2)).bind fun y7 => (T32 N ((a0.1, a0.2), (a1.1, a1.2))).bind fun y8 => (((bif ((IntKind.wrap .i64 ((IntKind.wrap .i64 (y6.2 + y7.2)) + y8.2)) != 0) then (some true) else (bif (decide (y6.1.2 < 1)) then (some true) else bif !(decide (y6.1.2 = 0)) then (bif ((Int.tmod (d3 (nthD [(AV.int .i64 1), (AV.int .i64 10), (AV.int .i64 100)] (Int.toNat v5.2))) y6.1.2) != 0) then (some true) else (bif (decide (y7.1.2 < 1)) then (some true) else bif !(decide (y7.1.2 = 0)) then (bif ((Int.tmod (d3 (nthD [(AV.int .i64 1), (AV.int .i64 10), (AV.int .i64 100)] (Int.toNat v5.2))) y7.1.2) != 0) then (some true) else (bif (decide (y6.1.1 < 0)) then (some true) else (bif (decide (y6.1.1 > (IntKind.wrap .i64 (3000000 * (d3 (nthD [(AV.int .i64 1), (AV.int .i64 10), (AV.int .i64 100)] (Int.toNat v5.2))))))) then (some true) else (bif (decide (y7.1.1 < 0)) then (some true) else (bif (decide (y7.1.1 > (IntKind.wrap .i64 (3000000 * (d3 (nthD [(AV.int .i64 1), (AV.int .i64 10), (AV.int .i64 100)] (Int.toNat v5.2))))))) then (some true) else (T66 N (y6.1.1, y6.1.2)).bind fun y9 => (some (y9 != 1))))))) else none)) else none)) : Option Bool).bind fun o10 => (bif o10 then (some (Sum.inr (Sum.inl false))) else bif !(decide (y6.1.2 = 0)) then bif !(decide (y7.1.2 = 0)) then (((bif (decide ((IntKind.wrap .i64 (y6.1.1 * (IntKind.wrap .i64 (Int.tdiv (d3 (nthD [(AV.int .i64 1), (AV.int .i64 10), (AV.int .i64 100)] (Int.toNat v5.2))) y6.1.2)))) > 0)) then bif !(decide (a0.2 = 0)) then (bif (decide ((IntKind.wrap .i64 ((IntKind.wrap .i64 (y6.1.1 * (IntKind.wrap .i64 (Int.tdiv (d3 (nthD [(AV.int .i64 1), (AV.int .i64 10), (AV.int .i64 100)] (Int.toNat v5.2))) y6.1.2)))) * (IntKind.wrap .i64 (y6.1.1 * (IntKind.wrap .i64 (Int.tdiv (d3 (nthD [(AV.int .i64 1), (AV.int .i64 10), (AV.int .i64 100)] (Int.toNat v5.2))) y6.1.2)))))) > (IntKind.wrap .i64 (Int.tdiv (IntKind.wrap .i64 ((IntKind.wrap .i64 (a0.1 * (d3 (nthD [(AV.int .i64 1), (AV.int .i64 10), (AV.int .i64 100)] (Int.toNat v5.2))))) * (d3 (nthD [(AV.int .i64 1), (AV.int .i64 10), (AV.int .i64 100)] (Int.toNat v5.2))))) a0.2)))) then (some true) else bif !(decide (a0.2 = 0)) then (some (decide ((IntKind.wrap .i64 ((IntKind.wrap .i64 ((IntKind.wrap .i64 (y6.1.1 * (IntKind.wrap .i64 (Int.tdiv (d3 (nthD [(AV.int .i64 1), (AV.int .i64 10), (AV.int .i64 100)] (Int.toNat v5.2))) y6.1.2)))) + 1)) * (IntKind.wrap .i64 ((IntKind.wrap .i64 (y6.1.1 * (IntKind.wrap .i64 (Int.tdiv (d3 (nthD [(AV.int .i64 1), (AV.int .i64 10), (AV.int .i64 100)] (Int.toNat v5.2))) y6.1.2)))) + 1)))) ≤ (IntKind.wrap .i64 (Int.tdiv (IntKind.wrap .i64 ((IntKind.wrap .i64 (a0.1 * (d3 (nthD [(AV.int .i64 1), (AV.int .i64 10), (AV.int .i64 100)] (Int.toNat v5.2))))) * (d3 (nthD [(AV.int .i64 1), (AV.int .i64 10), (AV.int .i64 100)] (Int.toNat v5.2))))) a0.2))))) else none) else none else bif !(decide (a0.2 = 0)) then (some (decide ((IntKind.wrap .i64 ((IntKind.wrap .i64 ((IntKind.wrap .i64 (y6.1.1 * (IntKind.wrap .i64 (Int.tdiv (d3 (nthD [(AV.int .i64 1), (AV.int .i64 10), (AV.int .i64 100)] (Int.toNat v5.2))) y6.1.2)))) + 1)) * (IntKind.wrap .i64 ((IntKind.wrap .i64 (y6.1.1 * (IntKind.wrap .i64 (Int.tdiv (d3 (nthD [(AV.int .i64 1), (AV.int .i64 10), (AV.int .i64 100)] (Int.toNat v5.2))) y6.1.2)))) + 1)))) ≤ (IntKind.wrap .i64 (Int.tdiv (IntKind.wrap .i64 ((IntKind.wrap .i64 (a0.1 * (d3 (nthD [(AV.int .i64 1), (AV.int .i64 10), (AV.int .i64 100)] (Int.toNat v5.2))))) * (d3 (nthD [(AV.int .i64 1), (AV.int .i64 10), (AV.int .i64 100)] (Int.toNat v5.2))))) a0.2))))) else none) : Option Bool).bind fun o13 => (bif o13 then (some (Sum.inr (Sum.inl false))) else (((bif (decide (y8.1 < 0)) then (bif (decide ((IntKind.wrap .i64 (y6.1.1 * (IntKind.wrap .i64 (Int.tdiv (d3 (nthD [(AV.int .i64 1), (AV.int .i64 10), (AV.int .i64 100)] (Int.toNat v5.2))) y6.1.2)))) > (IntKind.wrap .i64 (y7.1.1 * (IntKind.wrap .i64 (Int.tdiv (d3 (nthD [(AV.int .i64 1), (AV.int .i64 10), (AV.int .i64 100)] (Int.toNat v5.2))) y7.1.2)))))) then (some true) else (bif (decide (y8.1 > 0)) then (bif (decide ((IntKind.wrap .i64 (y6.1.1 * (IntKind.wrap .i64 (Int.tdiv (d3 (nthD [(AV.int .i64 1), (AV.int .i64 10), (AV.int .i64 100)] (Int.toNat v5.2))) y6.1.2)))) < (IntKind.wrap .i64 (y7.1.1 * (IntKind.wrap .i64 (Int.tdiv (d3 (nthD [(AV.int .i64 1), (AV.int .i64 10), (AV.int .i64 100)] (Int.toNat v5.2))) y7.1.2)))))) then (some true) else (bif (y8.1 == 0) then (bif ((IntKind.wrap .i64 (y6.1.1 * (IntKind.wrap .i64 (Int.tdiv (d3 (nthD [(AV.int .i64 1), (AV.int .i64 10), (AV.int .i64 100)] (Int.toNat v5.2))) y6.1.2)))) != (IntKind.wrap .i64 (y7.1.1 * (IntKind.wrap .i64 (Int.tdiv (d3 (nthD [(AV.int .i64 1), (AV.int .i64 10), (AV.int .i64 100)] (Int.toNat v5.2))) y7.1.2))))) then (some true) else (bif (decide ((IntKind.wrap .i64 (y6.1.1 * (IntKind.wrap .i64 (Int.tdiv (d3 (nthD [(AV.int .i64 1), (AV.int .i64 10), (AV.int .i64 100)] (Int.toNat v5.2))) y6.1.2)))) < (IntKind.wrap .i64 (10 * v5.1)))) then (bif (decide (v5.2 > 0)) then (some true) else (bif (decide (v5.2 > 0)) then (some (decide ((IntKind.wrap .i64 (y6.1.1 * (IntKind.wrap .i64 (Int.tdiv (d3 (nthD [(AV.int .i64 1), (AV.int .i64 10), (AV.int .i64 100)] (Int.toNat v5.2))) y6.1.2)))) ≥ (IntKind.wrap .i64 (10 * (IntKind.wrap .i64 (v5.1 + 1))))))) else (some false))) else (bif (decide (v5.2 > 0)) then (some (decide ((IntKind.wrap .i64 (y6.1.1 * (IntKind.wrap .i64 (Int.tdiv (d3 (nthD [(AV.int .i64 1), (AV.int .i64 10), (AV.int .i64 100)] (Int.toNat v5.2))) y6.1.2)))) ≥ (IntKind.wrap .i64 (10 * (IntKind.wrap .i64 (v5.1 + 1))))))) else (some false)))) else (bif (decide ((IntKind.wrap .i64 (y6.1.1 * (IntKind.wrap .i64 (Int.tdiv (d3 (nthD [(AV.int .i64 1), (AV.int .i64 10), (AV.int .i64 100)] (Int.toNat v5.2))) y6.1.2)))) < (IntKind.wrap .i64 (10 * v5.1)))) then (bif (decide (v5.2 > 0)) then (some true) else (bif (decide (v5.2 > 0)) then (some (decide ((IntKind.wrap .i64 (y6.1.1 * (IntKind.wrap .i64 (Int.tdiv (d3 (nthD [(AV.int .i64 1), (AV.int .i64 10), (AV.int .i64 100)] (Int.toNat v5.2))) y6.1.2)))) ≥ (IntKind.wrap .i64 (10 * (IntKind.wrap .i64 (v5.1 + 1))))))) else (some false))) else (bif (decide (v5.2 > 0)) then (some (decide ((IntKind.wrap .i64 (y6.1.1 * (IntKind.wrap .i64 (Int.tdiv (d3 (nthD [(AV.int .i64 1), (AV.int .i64 10), (AV.int .i64 100)] (Int.toNat v5.2))) y6.1.2)))) ≥ (IntKind.wrap .i64 (10 * (IntKind.wrap .i64 (v5.1 + 1))))))) else (some false))))) else (bif (y8.1 == 0) then (bif ((IntKind.wrap .i64 (y6.1.1 * (IntKind.wrap .i64 (Int.tdiv (d3 (nthD [(AV.int .i64 1), (AV.int .i64 10), (AV.int .i64 100)] (Int.toNat v5.2))) y6.1.2)))) != (IntKind.wrap .i64 (y7.1.1 * (IntKind.wrap .i64 (Int.tdiv (d3 (nthD [(AV.int .i64 1), (AV.int .i64 10), (AV.int .i64 100)] (Int.toNat v5.2))) y7.1.2))))) then (some true) else (bif (decide ((IntKind.wrap .i64 (y6.1.1 * (IntKind.wrap .i64 (Int.tdiv (d3 (nthD [(AV.int .i64 1), (AV.int .i64 10), (AV.int .i64 100)] (Int.toNat v5.2))) y6.1.2)))) < (IntKind.wrap .i64 (10 * v5.1)))) then (bif (decide (v5.2 > 0)) then (some true) else (bif (decide (v5.2 > 0)) then (some (decide ((IntKind.wrap .i64 (y6.1.1 * (IntKind.wrap .i64 (Int.tdiv (d3 (nthD [(AV.int .i64 1), (AV.int .i64 10), (AV.int .i64 100)] (Int.toNat v5.2))) y6.1.2)))) ≥ (IntKind.wrap .i64 (10 * (IntKind.wrap .i64 (v5.1 + 1))))))) else (some false))) else (bif (decide (v5.2 > 0)) then (some (decide ((IntKind.wrap .i64 (y6.1.1 * (IntKind.wrap .i64 (Int.tdiv (d3 (nthD [(AV.int .i64 1), (AV.int .i64 10), (AV.int .i64 100)] (Int.toNat v5.2))) y6.1.2)))) ≥ (IntKind.wrap .i64 (10 * (IntKind.wrap .i64 (v5.1 + 1))))))) else (some false)))) else (bif (decide ((IntKind.wrap .i64 (y6.1.1 * (IntKind.wrap .i64 (Int.tdiv (d3 (nthD [(AV.int .i64 1), (AV.int .i64 10), (AV.int .i64 100)] (Int.toNat v5.2))) y6.1.2)))) < (IntKind.wrap .i64 (10 * v5.1)))) then (bif (decide (v5.2 > 0)) then (some true) else (bif (decide (v5.2 > 0)) then (some (decide ((IntKind.wrap .i64 (y6.1.1 * (IntKind.wrap .i64 (Int.tdiv (d3 (nthD [(AV.int .i64 1), (AV.int .i64 10), (AV.int .i64 100)] (Int.toNat v5.2))) y6.1.2)))) ≥ (IntKind.wrap .i64 (10 * (IntKind.wrap .i64 (v5.1 + 1))))))) else (some false))) else (bif (decide (v5.2 > 0)) then (some (decide ((IntKind.wrap .i64 (y6.1.1 * (IntKind.wrap .i64 (Int.tdiv (d3 (nthD [(AV.int .i64 1), (AV.int .i64 10), (AV.int .i64 100)] (Int.toNat v5.2))) y6.1.2)))) ≥ (IntKind.wrap .i64 (10 * (IntKind.wrap .i64 (v5.1 + 1))))))) else (some false)))))) else (bif (decide (y8.1 > 0)) then (bif (decide ((IntKind.wrap .i64 (y6.1.1 * (IntKind.wrap .i64 (Int.tdiv (d3 (nthD [(AV.int .i64 1), (AV.int .i64 10), (AV.int .i64 100)] (Int.toNat v5.2))) y6.1.2)))) < (IntKind.wrap .i64 (y7.1.1 * (IntKind.wrap .i64 (Int.tdiv (d3 (nthD [(AV.int .i64 1), (AV.int .i64 10), (AV.int .i64 100)] (Int.toNat v5.2))) y7.1.2)))))) then (some true) else (bif (y8.1 == 0) then (bif ((IntKind.wrap .i64 (y6.1.1 * (IntKind.wrap .i64 (Int.tdiv (d3 (nthD [(AV.int .i64 1), (AV.int .i64 10), (AV.int .i64 100)] (Int.toNat v5.2))) y6.1.2)))) != (IntKind.wrap .i64 (y7.1.1 * (IntKind.wrap .i64 (Int.tdiv (d3 (nthD [(AV.int .i64 1), (AV.int .i64 10), (AV.int .i64 100)] (Int.toNat v5.2))) y7.1.2))))) then (some true) else (bif (decide ((IntKind.wrap .i64 (y6.1.1 * (IntKind.wrap .i64 (Int.tdiv (d3 (nthD [(AV.int .i64 1), (AV.int .i64 10), (AV.int .i64 100)] (Int.toNat v5.2))) y6.1.2)))) < (IntKind.wrap .i64 (10 * v5.1)))) then (bif (decide (v5.2 > 0)) then (some true) else (bif (decide (v5.2 > 0)) then (some (decide ((IntKind.wrap .i64 (y6.1.1 * (IntKind.wrap .i64 (Int.tdiv (d3 (nthD [(AV.int .i64 1), (AV.int .i64 10), (AV.int .i64 100)] (Int.toNat v5.2))) y6.1.2)))) ≥ (IntKind.wrap .i64 (10 * (IntKind.wrap .i64 (v5.1 + 1))))))) else (some false))) else (bif (decide (v5.2 > 0)) then (some (decide ((IntKind.wrap .i64 (y6.1.1 * (IntKind.wrap .i64 (Int.tdiv (d3 (nthD [(AV.int .i64 1), (AV.int .i64 10), (AV.int .i64 100)] (Int.toNat v5.2))) y6.1.2)))) ≥ (IntKind.wrap .i64 (10 * (IntKind.wrap .i64 (v5.1 + 1))))))) else (some false)))) else (bif (decide ((IntKind.wrap .i64 (y6.1.1 * (IntKind.wrap .i64 (Int.tdiv (d3 (nthD [(AV.int .i64 1), (AV.int .i64 10), (AV.int .i64 100)] (Int.toNat v5.2))) y6.1.2)))) < (IntKind.wrap .i64 (10 * v5.1)))) then (bif (decide (v5.2 > 0)) then (some true) else (bif (decide (v5.2 > 0)) then (some (decide ((IntKind.wrap .i64 (y6.1.1 * (IntKind.wrap .i64 (Int.tdiv (d3 (nthD [(AV.int .i64 1), (AV.int .i64 10), (AV.int .i64 100)] (Int.toNat v5.2))) y6.1.2)))) ≥ (IntKind.wrap .i64 (10 * (IntKind.wrap .i64 (v5.1 + 1))))))) else (some false))) else (bif (decide (v5.2 > 0)) then (some (decide ((IntKind.wrap .i64 (y6.1.1 * (IntKind.wrap .i64 (Int.tdiv (d3 (nthD [(AV.int .i64 1), (AV.int .i64 10), (AV.int .i64 100)] (Int.toNat v5.2))) y6.1.2)))) ≥ (IntKind.wrap .i64 (10 * (IntKind.wrap .i64 (v5.1 + 1))))))) else (some false))))) else (bif (y8.1 == 0) then (bif ((IntKind.wrap .i64 (y6.1.1 * (IntKind.wrap .i64 (Int.tdiv (d3 (nthD [(AV.int .i64 1), (AV.int .i64 10), (AV.int .i64 100)] (Int.toNat v5.2))) y6.1.2)))) != (IntKind.wrap .i64 (y7.1.1 * (IntKind.wrap .i64 (Int.tdiv (d3 (nthD [(AV.int .i64 1), (AV.int .i64 10), (AV.int .i64 100)] (Int.toNat v5.2))) y7.1.2))))) then (some true) else (bif (decide ((IntKind.wrap .i64 (y6.1.1 * (IntKind.wrap .i64 (Int.tdiv (d3 (nthD [(AV.int .i64 1), (AV.int .i64 10), (AV.int .i64 100)] (Int.toNat v5.2))) y6.1.2)))) < (IntKind.wrap .i64 (10 * v5.1)))) then (bif (decide (v5.2 > 0)) then (some true) else (bif (decide (v5.2 > 0)) then (some (decide ((IntKind.wrap .i64 (y6.1.1 * (IntKind.wrap .i64 (Int.tdiv (d3 (nthD [(AV.int .i64 1), (AV.int .i64 10), (AV.int .i64 100)] (Int.toNat v5.2))) y6.1.2)))) ≥ (IntKind.wrap .i64 (10 * (IntKind.wrap .i64 (v5.1 + 1))))))) else (some false))) else (bif (decide (v5.2 > 0)) then (some (decide ((IntKind.wrap .i64 (y6.1.1 * (IntKind.wrap .i64 (Int.tdiv (d3 (nthD [(AV.int .i64 1), (AV.int .i64 10), (AV.int .i64 100)] (Int.toNat v5.2))) y6.1.2)))) ≥ (IntKind.wrap .i64 (10 * (IntKind.wrap .i64 (v5.1 + 1))))))) else (some false)))) else (bif (decide ((IntKind.wrap .i64 (y6.1.1 * (IntKind.wrap .i64 (Int.tdiv (d3 (nthD [(AV.int .i64 1), (AV.int .i64 10), (AV.int .i64 100)] (Int.toNat v5.2))) y6.1.2)))) < (IntKind.wrap .i64 (10 * v5.1)))) then (bif (decide (v5.2 > 0)) then (some true) else (bif (decide (v5.2 > 0)) then (some (decide ((IntKind.wrap .i64 (y6.1.1 * (IntKind.wrap .i64 (Int.tdiv (d3 (nthD [(AV.int .i64 1), (AV.int .i64 10), (AV.int .i64 100)] (Int.toNat v5.2))) y6.1.2)))) ≥ (IntKind.wrap .i64 (10 * (IntKind.wrap .i64 (v5.1 + 1))))))) else (some false))) else (bif (decide (v5.2 > 0)) then (some (decide ((IntKind.wrap .i64 (y6.1.1 * (IntKind.wrap .i64 (Int.tdiv (d3 (nthD [(AV.int .i64 1), (AV.int .i64 10), (AV.int .i64 100)] (Int.toNat v5.2))) y6.1.2)))) ≥ (IntKind.wrap .i64 (10 * (IntKind.wrap .i64 (v5.1 + 1))))))) else (some false)))))) : Option Bool).bind fun o16 => (bif o16 then (some (Sum.inr (Sum.inl false))) else (some (Sum.inl ((IntKind.wrap .i64 (y6.1.1 * (IntKind.wrap .i64 (Int.tdiv (d3 (nthD [(AV.int .i64 1), (AV.int .i64 10), (AV.int .i64 100)] (Int.toNat v5.2))) y6.1.2)))), (IntKind.wrap .i64 (v5.2 + 1))))))))) else none else none)) else none else (some (Sum.inr (Sum.inr ()))))
theorem T10_eq (N : Nat) (a0 : Int × Int) (a1 : Int × Int) : T10 N (a0, a1) =
  (((T21 N (a0.1, a0.2)).bind fun y1 => (bif (y1 != 0) then (some true) else (T21 N (a1.1, a1.2)).bind fun y2 => (some (y2 != 0))) : Option Bool).bind fun o3 => (bif o3 then (T22 N ()).bind fun y4 => some y4 else ((loopR (V := Int × Int) (X := Bool ⊕ Unit) (R10x122 N a0 a1) N (0, 0)).bind fun o21 => (Sum.elim (fun o22 => some o22) (fun o23 => (T22 N ()).bind fun y24 => some y24) o21)))) := by kernel_rfl
end Go.Proofs.YtpngggdfbbdfaaaDoor
