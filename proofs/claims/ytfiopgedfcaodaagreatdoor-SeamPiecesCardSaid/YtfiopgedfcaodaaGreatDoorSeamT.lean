/- What the functions compute (printed by a program of ours, checked by the kernel). -/
import Derived.Test.YtfiopgedfcaodaaGreatDoorSeamC
import Derived.Test.YtfiopgedfcaodaaGreatDoorAmKK
set_option linter.all false
namespace Go.Proofs.YtfiopgedfcaodaaGreatDoor
open Go Go.Am
set_option maxRecDepth 100000
abbrev p3 : Pat := (.int .i64)
abbrev d3 (v : AV) : Int := Pat.decD p3 v
abbrev n3 (x : Int) : AV := Pat.enc p3 x
theorem fn3 (x : Int) : Pat.fits p3 (n3 x) = true := (Pat.fits_enc p3 x rfl).1
abbrev p24 : Pat := (.int .i64)
abbrev d24 (v : AV) : Int := Pat.decD p24 v
abbrev n24 (x : Int) : AV := Pat.enc p24 x
theorem fa24 (l : List Int) : allFit (Pat.fits p24) (List.map n24 l) = true := allFit_encs (p := p24) rfl l
theorem md24 (l : List Int) : List.map d24 (List.map n24 l) = l := map_decs (p := p24) rfl l
def elpL : List (Nat × Pat) := [(22, (.agg (.cons (.int .i64) (.cons (.int .i64) .nil)))), (45, (.int .i64)), (50, (.list 3 (.agg (.cons (.int .i64) (.cons (.int .i64) (.cons (.int .i64) .nil)))))), (51, (.agg (.cons (.int .i64) (.cons (.int .i64) (.cons (.int .i64) (.cons (.int .i64) (.cons (.int .i64) (.cons (.int .i64) .nil)))))))), (53, (.agg (.cons (.int .i64) (.cons (.int .i64) (.cons (.int .i64) .nil))))), (57, (.agg (.cons (.int .i64) (.cons (.int .i64) (.cons (.int .i64) (.cons (.int .i64) (.cons (.int .i64) (.cons (.int .i64) .nil)))))))), (63, (.agg (.cons (.int .i64) (.cons (.int .i64) (.cons (.int .i64) .nil))))), (74, (.list 3 (.agg (.cons (.int .i64) (.cons (.int .i64) (.cons (.int .i64) .nil)))))), (79, (.list 3 (.agg (.cons (.int .i64) (.cons (.int .i64) (.cons (.int .i64) .nil)))))), (115, (.agg (.cons (.int .i64) (.cons (.int .i64) (.cons (.int .i64) .nil))))), (121, (.agg (.cons (.int .i64) (.cons (.int .i64) .nil)))), (188, (.int .i64)), (196, (.int .i64)), (220, .str), (248, (.int .u8)), (109, (.int .i64)), (177, .bool), (191, (.int .i64))]
def elpF : List (Nat × Pat) → Nat → Option Pat
  | [], _ => none
  | (a, p) :: l, t => bif Nat.beq a t then some p else elpF l t
noncomputable def envS : Env := { env with elp := elpF elpL }
noncomputable def envDS : EnvD := { envD with toEnv := envS }
noncomputable def cx (N : Nat) (tab : List (Nat × Entry)) (cert : List (Nat × List (Nat × Cert))) : Ctx := { D := envDS, tab := tabF tab, cert := certF cert, fz := false, N := N }
noncomputable def T16 (_N : Nat) : Unit → Option Bool := fun _ => some true
noncomputable def e16 (N : Nat) : Entry := ⟨.nil, .bool, T16 N⟩
theorem T16_ok (N : Nat) : EntryOk envS 16 (e16 N) := fun x y h => by
  cases h
  exact PCalls.env (E := env) rfl rfl (PCalls.mono awake_calls fun r ⟨y, h1, h2⟩ => by rw [h1, h2]; rfl)
def c90 : List (Nat × Cert) := [(26, .loop [] ⟨(.cons (.int .i64) .nil), [7], [], [], [], []⟩ [(.ret, ⟨(.cons (.int .i64) .nil), [2], [], [], [], []⟩), (.ex 0, ⟨.nil, [], [], [], [], []⟩)])]
-- "codend/seam.first"
noncomputable def T90 (N : Nat) : (List Int) → Option Int := (cx N [] [(90, c90)]).fn 1000 90 (.cons (.list 1 (.int .i64)) .nil) (.int .i64)
noncomputable def e90 (N : Nat) : Entry := ⟨(.cons (.list 1 (.int .i64)) .nil), (.int .i64), T90 N⟩
theorem T90_ok (N : Nat) : EntryOk envS 90 (e90 N) := Ctx.fn_ok (fun _ _ h => by cases h) (by kernel_rfl) (by kernel_rfl)
noncomputable def R90x26 (N : Nat) (a0 : List Int) (v1 : Int) : Option (Int ⊕ (Int ⊕ Unit)) :=
  (bif (decide (v1 < ((((List.map n24 a0)).length : Nat) : Int))) then bif (decide ((0 : Int) ≤ v1 ∧ v1 < (((List.map n24 a0)).length : Int)) && Pat.fits p24 (nthD (List.map n24 a0) (Int.toNat v1))) then (bif ((d24 (nthD (List.map n24 a0) (Int.toNat v1))) != 0) then (some (Sum.inr (Sum.inl (d24 (nthD (List.map n24 a0) (Int.toNat v1)))))) else (some (Sum.inl (IntKind.wrap .i64 (v1 + 1))))) else none else (some (Sum.inr (Sum.inr ()))))
theorem T90_eq (N : Nat) (a0 : List Int) : T90 N a0 =
  ((loopR (V := Int) (X := Int ⊕ Unit) (R90x26 N a0) N 0).bind fun o6 => (Sum.elim (fun o7 => some o7) (fun o8 => some 0) o6)) := by kernel_rfl
-- "codend/seam.when"
noncomputable def T91 (N : Nat) : Bool × Int → Option Int := (cx N [] []).fn 1000 91 (.cons .bool (.cons (.int .i64) .nil)) (.int .i64)
noncomputable def e91 (N : Nat) : Entry := ⟨(.cons .bool (.cons (.int .i64) .nil)), (.int .i64), T91 N⟩
theorem T91_ok (N : Nat) : EntryOk envS 91 (e91 N) := Ctx.fn_ok (fun _ _ h => by cases h) (by kernel_rfl) (by kernel_rfl)
theorem T91_eq (N : Nat) (a0 : Bool) (a1 : Int) : T91 N (a0, a1) =
  (bif a0 then some a1 else some 0) := by kernel_rfl
def c93 : List (Nat × Cert) := [(6, .join [(.norm, ⟨(.cons (.int .i64) .nil), [6], [], [], [], []⟩)])]
-- "codend/seam.within"
noncomputable def T93 (N : Nat) : Int × Int × Int → Option Int := (cx N [(91, e91 N)] [(93, c93)]).fn 1000 93 (.cons (.int .i64) (.cons (.int .i64) (.cons (.int .i64) .nil))) (.int .i64)
noncomputable def e93 (N : Nat) : Entry := ⟨(.cons (.int .i64) (.cons (.int .i64) (.cons (.int .i64) .nil))), (.int .i64), T93 N⟩
-- "codend/seam.checkMeshes"
noncomputable def T86 (N : Nat) : Int × Int → Option Int := (cx N [(90, e90 N), (93, e93 N)] []).fn 1000 86 (.cons (.int .i64) (.cons (.int .i64) .nil)) (.int .i64)
noncomputable def e86 (N : Nat) : Entry := ⟨(.cons (.int .i64) (.cons (.int .i64) .nil)), (.int .i64), T86 N⟩
def c17x158 : List (Nat × Cert) := [(14, .loop [(.row 2 0, 2, 46)] ⟨(.cons (.int .i64) (.cons (.int .i64) (.cons (.int .i64) (.cons (.own 5 2 (.agg (.cons (.int .i64) (.cons (.int .i64) .nil)))) .nil)))), [10], [], [], [.row 1, .row 1, .row 1, .keep, .lp .open_, .tok 3 2 46], []⟩ [(.ex 0, ⟨(.cons (.int .i64) (.cons (.int .i64) (.cons (.own 5 2 (.agg (.cons (.int .i64) (.cons (.int .i64) .nil)))) .nil))), [], [], [], [.row 1, .row 1, .row 1, .keep, .lp .open_, .tok 2 2 46], []⟩)])]
-- "codend/seam.Joins"
noncomputable def T17 (N : Nat) : Int × Int → Option ((List (Int × Int)) × Int) := (cx N [(86, e86 N)] [(158, c17x158)]).fn 1000 17 (.cons (.int .i64) (.cons (.int .i64) .nil)) (.tup (.cons (.list 2 (.agg (.cons (.int .i64) (.cons (.int .i64) .nil)))) (.cons (.int .i64) .nil)))
noncomputable def e17 (N : Nat) : Entry := ⟨(.cons (.int .i64) (.cons (.int .i64) .nil)), (.tup (.cons (.list 2 (.agg (.cons (.int .i64) (.cons (.int .i64) .nil)))) (.cons (.int .i64) .nil))), T17 N⟩
def c89 : List (Nat × Cert) := [(12, .loop [] ⟨(.cons (.int .i64) (.cons (.int .i64) .nil)), [0, 1], [], [], [], []⟩ [(.ex 0, ⟨(.cons (.int .i64) .nil), [0], [], [], [], []⟩)])]
-- "codend/seam.divisor"
noncomputable def T89 (N : Nat) : Int × Int → Option Int := (cx N [] [(89, c89)]).fn 1000 89 (.cons (.int .i64) (.cons (.int .i64) .nil)) (.int .i64)
noncomputable def e89 (N : Nat) : Entry := ⟨(.cons (.int .i64) (.cons (.int .i64) .nil)), (.int .i64), T89 N⟩
-- "codend/seam.Takeup"
noncomputable def T18 (N : Nat) : Int × Int → Option ((Int × Int) × Int) := (cx N [(86, e86 N), (89, e89 N)] []).fn 1000 18 (.cons (.int .i64) (.cons (.int .i64) .nil)) (.tup (.cons (.agg (.cons (.int .i64) (.cons (.int .i64) .nil))) (.cons (.int .i64) .nil)))
noncomputable def e18 (N : Nat) : Entry := ⟨(.cons (.int .i64) (.cons (.int .i64) .nil)), (.tup (.cons (.agg (.cons (.int .i64) (.cons (.int .i64) .nil))) (.cons (.int .i64) .nil))), T18 N⟩
def c92 : List (Nat × Cert) := [(14, .join [(.norm, ⟨(.cons .bool .nil), [8], [], [], [], []⟩)])]
-- "codend/seam.follows"
noncomputable def T92 (N : Nat) : Int × Int × (Int × Int) × (Int × Int) → Option Bool := (cx N [] [(92, c92)]).fn 1000 92 (.cons (.int .i64) (.cons (.int .i64) (.cons (.agg (.cons (.int .i64) (.cons (.int .i64) .nil))) (.cons (.agg (.cons (.int .i64) (.cons (.int .i64) .nil))) .nil)))) .bool
noncomputable def e92 (N : Nat) : Entry := ⟨(.cons (.int .i64) (.cons (.int .i64) (.cons (.agg (.cons (.int .i64) (.cons (.int .i64) .nil))) (.cons (.agg (.cons (.int .i64) (.cons (.int .i64) .nil))) .nil)))), .bool, T92 N⟩
def c19 : List (Nat × Cert) := [(58, .loop [] ⟨(.cons (.int .i64) .nil), [29], [], [], [], []⟩ [(.ret, ⟨(.cons (.int .i64) .nil), [6], [], [], [], []⟩), (.ex 0, ⟨.nil, [], [], [], [], []⟩)]),
  (29901, .join [(.norm, ⟨(.cons .bool .nil), [10], [], [], [], []⟩)])]
-- "codend/seam.CheckJoins"
noncomputable def T19 (N : Nat) : Int × Int × (List (Int × Int)) → Option Int := (cx N [(86, e86 N), (90, e90 N), (91, e91 N), (92, e92 N), (93, e93 N)] [(19, c19)]).fn 1000 19 (.cons (.int .i64) (.cons (.int .i64) (.cons (.list 2 (.agg (.cons (.int .i64) (.cons (.int .i64) .nil)))) .nil))) (.int .i64)
noncomputable def e19 (N : Nat) : Entry := ⟨(.cons (.int .i64) (.cons (.int .i64) (.cons (.list 2 (.agg (.cons (.int .i64) (.cons (.int .i64) .nil)))) .nil))), (.int .i64), T19 N⟩
def c20 : List (Nat × Cert) := [(6, .join [(.norm, ⟨(.cons (.list 2 (.agg (.cons (.int .i64) (.cons (.int .i64) .nil)))) .nil), [2], [], [], [], []⟩)])]
-- "codend/codendlaw04.pairs"
noncomputable def T20 (N : Nat) : (List (Int × Int)) → Option ((List (Int × Int))) := (cx N [] [(20, c20)]).fn 1000 20 (.cons (.list 2 (.agg (.cons (.int .i64) (.cons (.int .i64) .nil)))) .nil) (.list 2 (.agg (.cons (.int .i64) (.cons (.int .i64) .nil))))
noncomputable def e20 (N : Nat) : Entry := ⟨(.cons (.list 2 (.agg (.cons (.int .i64) (.cons (.int .i64) .nil)))) .nil), (.list 2 (.agg (.cons (.int .i64) (.cons (.int .i64) .nil)))), T20 N⟩
def c28 : List (Nat × Cert) := [(26, .loop [] ⟨(.cons (.int .i64) .nil), [3], [], [], [], []⟩ [(.ret, ⟨(.cons (.int .i64) .nil), [2], [], [], [], []⟩), (.ex 0, ⟨.nil, [], [], [], [], []⟩)])]
-- "codend/codendref01.First"
noncomputable def T28 (N : Nat) : (List Int) → Option Int := (cx N [] [(28, c28)]).fn 1000 28 (.cons (.list 1 (.int .i64)) .nil) (.int .i64)
noncomputable def e28 (N : Nat) : Entry := ⟨(.cons (.list 1 (.int .i64)) .nil), (.int .i64), T28 N⟩
theorem T28_ok (N : Nat) : EntryOk envS 28 (e28 N) := Ctx.fn_ok (fun _ _ h => by cases h) (by kernel_rfl) (by kernel_rfl)
noncomputable def R28x26 (N : Nat) (a0 : List Int) (v1 : Int) : Option (Int ⊕ (Int ⊕ Unit)) :=
  (bif (decide (v1 < ((((List.map n3 a0)).length : Nat) : Int))) then bif (decide ((0 : Int) ≤ v1 ∧ v1 < (((List.map n3 a0)).length : Int)) && Pat.fits p3 (nthD (List.map n3 a0) (Int.toNat v1))) then (bif ((d3 (nthD (List.map n3 a0) (Int.toNat v1))) != 0) then bif (decide ((0 : Int) ≤ v1 ∧ v1 < (((List.map n3 a0)).length : Int)) && Pat.fits p3 (nthD (List.map n3 a0) (Int.toNat v1))) then (some (Sum.inr (Sum.inl (d3 (nthD (List.map n3 a0) (Int.toNat v1)))))) else none else (some (Sum.inl (IntKind.wrap .i64 (v1 + 1))))) else none else (some (Sum.inr (Sum.inr ()))))
theorem T28_eq (N : Nat) (a0 : List Int) : T28 N a0 =
  ((loopR (V := Int) (X := Int ⊕ Unit) (R28x26 N a0) N 0).bind fun o6 => (Sum.elim (fun o7 => some o7) (fun o8 => some 0) o6)) := by kernel_rfl
def c94 : List (Nat × Cert) := [(12, .join [(.norm, ⟨(.cons .bool .nil), [14], [], [], [], []⟩)])]
-- "codend/codendref01.CheckRange"
noncomputable def T94 (N : Nat) : Int × Int × Int → Option Int := (cx N [] [(94, c94)]).fn 1000 94 (.cons (.int .i64) (.cons (.int .i64) (.cons (.int .i64) .nil))) (.int .i64)
noncomputable def e94 (N : Nat) : Entry := ⟨(.cons (.int .i64) (.cons (.int .i64) (.cons (.int .i64) .nil))), (.int .i64), T94 N⟩
-- "codend/codendref04.CheckMeshes"
noncomputable def T21 (N : Nat) : Int × Int → Option Int := (cx N [(28, e28 N), (94, e94 N)] []).fn 1000 21 (.cons (.int .i64) (.cons (.int .i64) .nil)) (.int .i64)
noncomputable def e21 (N : Nat) : Entry := ⟨(.cons (.int .i64) (.cons (.int .i64) .nil)), (.int .i64), T21 N⟩
def c22 : List (Nat × Cert) := [(122, .loop [(.slot 6, 2, 46)] ⟨(.cons (.own 0 2 (.agg (.cons (.int .i64) (.cons (.int .i64) .nil)))) (.cons (.int .i64) .nil)), [6, 7], [], [], [.tok 0 2 46], []⟩ [(.ex 0, ⟨(.cons (.own 0 2 (.agg (.cons (.int .i64) (.cons (.int .i64) .nil)))) .nil), [6], [], [], [.tok 0 2 46], []⟩)])]
-- "codend/codendref04.Joins"
noncomputable def T22 (N : Nat) : Int × Int → Option ((List (Int × Int))) := (cx N [] [(22, c22)]).fn 1000 22 (.cons (.int .i64) (.cons (.int .i64) .nil)) (.list 2 (.agg (.cons (.int .i64) (.cons (.int .i64) .nil))))
noncomputable def e22 (N : Nat) : Entry := ⟨(.cons (.int .i64) (.cons (.int .i64) .nil)), (.list 2 (.agg (.cons (.int .i64) (.cons (.int .i64) .nil)))), T22 N⟩
def c23 : List (Nat × Cert) := [(26, .loop [] ⟨(.cons (.int .i64) (.cons (.int .i64) (.cons (.int .i64) .nil))), [5], [], [(4, 2)], [], []⟩ [(.ret, ⟨(.cons (.int .i64) (.cons (.int .i64) .nil)), [], [], [(4, 2)], [], []⟩), (.ex 0, ⟨(.cons (.int .i64) (.cons (.int .i64) .nil)), [], [], [(4, 2)], [], []⟩)]),
  (840, .join [(.norm, ⟨(.cons .bool .nil), [22], [], [], [], []⟩)])]
-- "codend/codendref04.Takeup"
noncomputable def T23 (N : Nat) : Int × Int → Option ((Int × Int)) := (cx N [] [(23, c23)]).fn 1000 23 (.cons (.int .i64) (.cons (.int .i64) .nil)) (.agg (.cons (.int .i64) (.cons (.int .i64) .nil)))
noncomputable def e23 (N : Nat) : Entry := ⟨(.cons (.int .i64) (.cons (.int .i64) .nil)), (.agg (.cons (.int .i64) (.cons (.int .i64) .nil))), T23 N⟩
def c24 : List (Nat × Cert) := [(58, .loop [] ⟨(.cons (.int .i64) .nil), [5], [], [], [], []⟩ [(.ret, ⟨(.cons .bool .nil), [4], [], [], [], []⟩), (.ex 0, ⟨.nil, [], [], [], [], []⟩)])]
-- "codend/codendref04.SamePairs"
noncomputable def T24 (N : Nat) : (List (Int × Int)) × (List (Int × Int)) → Option Bool := (cx N [] [(24, c24)]).fn 1000 24 (.cons (.list 2 (.agg (.cons (.int .i64) (.cons (.int .i64) .nil)))) (.cons (.list 2 (.agg (.cons (.int .i64) (.cons (.int .i64) .nil)))) .nil)) .bool
noncomputable def e24 (N : Nat) : Entry := ⟨(.cons (.list 2 (.agg (.cons (.int .i64) (.cons (.int .i64) .nil)))) (.cons (.list 2 (.agg (.cons (.int .i64) (.cons (.int .i64) .nil)))) .nil)), .bool, T24 N⟩
def c95 : List (Nat × Cert) := [(62, .join [(.norm, ⟨(.cons .bool .nil), [8], [], [], [], []⟩)]),
  (116, .join [(.norm, ⟨(.cons .bool .nil), [8], [], [], [], []⟩)]),
  (244, .join [(.norm, ⟨(.cons .bool .nil), [8], [], [], [], []⟩)])]
-- "codend/codendref04.follows"
noncomputable def T95 (N : Nat) : Int × Int × (Int × Int) × (Int × Int) → Option Bool := (cx N [] [(95, c95)]).fn 1000 95 (.cons (.int .i64) (.cons (.int .i64) (.cons (.agg (.cons (.int .i64) (.cons (.int .i64) .nil))) (.cons (.agg (.cons (.int .i64) (.cons (.int .i64) .nil))) .nil)))) .bool
noncomputable def e95 (N : Nat) : Entry := ⟨(.cons (.int .i64) (.cons (.int .i64) (.cons (.agg (.cons (.int .i64) (.cons (.int .i64) .nil))) (.cons (.agg (.cons (.int .i64) (.cons (.int .i64) .nil))) .nil)))), .bool, T95 N⟩
def c25 : List (Nat × Cert) := [(250, .loop [] ⟨(.cons (.int .i64) .nil), [8], [], [], [], []⟩ [(.ret, ⟨(.cons (.int .i64) .nil), [6], [], [], [], []⟩), (.ex 0, ⟨.nil, [], [], [], [], []⟩)]),
  (16016, .join [(.norm, ⟨(.cons .bool .nil), [58], [], [], [], []⟩)]),
  (32036, .join [(.norm, ⟨(.cons .bool .nil), [67], [], [], [], []⟩)]),
  (32038, .join [(.norm, ⟨(.cons .bool .nil), [84], [], [], [], []⟩)])]
-- "codend/codendref04.CheckJoins"
noncomputable def T25 (N : Nat) : Int × Int × (List (Int × Int)) → Option Int := (cx N [(21, e21 N), (95, e95 N)] [(25, c25)]).fn 1000 25 (.cons (.int .i64) (.cons (.int .i64) (.cons (.list 2 (.agg (.cons (.int .i64) (.cons (.int .i64) .nil)))) .nil))) (.int .i64)
noncomputable def e25 (N : Nat) : Entry := ⟨(.cons (.int .i64) (.cons (.int .i64) (.cons (.list 2 (.agg (.cons (.int .i64) (.cons (.int .i64) .nil)))) .nil))), (.int .i64), T25 N⟩
def c3 : List (Nat × Cert) := [(2045, .join [(.norm, ⟨(.cons (.list 2 (.agg (.cons (.int .i64) (.cons (.int .i64) .nil)))) (.cons (.int .i64) (.cons (.int .i64) .nil))), [13], [], [(14, 2)], [], []⟩)]),
  (2046, .join [(.norm, ⟨(.cons .bool .nil), [6], [], [], [], []⟩)])]
-- "codend/codendlaw04.SeamJoins"
noncomputable def T3 (N : Nat) : Int × Int × (List (Int × Int)) → Option Bool := (cx N [(16, e16 N), (17, e17 N), (18, e18 N), (19, e19 N), (20, e20 N), (21, e21 N), (22, e22 N), (23, e23 N), (24, e24 N), (25, e25 N)] [(3, c3)]).fn 1000 3 (.cons (.int .i64) (.cons (.int .i64) (.cons (.list 2 (.agg (.cons (.int .i64) (.cons (.int .i64) .nil)))) .nil))) .bool
noncomputable def e3 (N : Nat) : Entry := ⟨(.cons (.int .i64) (.cons (.int .i64) (.cons (.list 2 (.agg (.cons (.int .i64) (.cons (.int .i64) .nil)))) .nil))), .bool, T3 N⟩
end Go.Proofs.YtfiopgedfcaodaaGreatDoor
